/-
 Chapter 7: intervals are as the document says.
-/
import Derived.Test.YthmncdhibcoiaaaGreatSqz
import Derived.Test.YthmncdhibcoiaaaGreatIvC
namespace Go.Rt
open Go Go.RowKit Go.Proofs

set_option maxRecDepth 100000 in
set_option maxHeartbeats 8000000 in
theorem Tryz.lawIvalTells {b1 : Bool} {a1 : Option Addr} {n1 c1 : Nat} {d1 : Option Addr} {m1 o1 : Nat} {bb1 : Bool} {aa1 : Option Addr} {nn1 cc1 : Nat} {dd1 : Option Addr} {mm1 oo1 : Nat} {xs1 ys1 us1 zs1 : List Nat} {b2 : Bool} {a2 : Option Addr} {n2 c2 : Nat} {d2 : Option Addr} {m2 o2 : Nat} {bb2 : Bool} {aa2 : Option Addr} {nn2 cc2 : Nat} {dd2 : Option Addr} {mm2 oo2 : Nat} {xs2 ys2 us2 zs2 : List Nat} {b3 : Bool} {a3 : Option Addr} {n3 c3 : Nat} {d3 : Option Addr} {m3 o3 : Nat} {xs3 ys3 : List Nat} {w : World} (x11 : Nt w (.slice a1 n1 c1) xs1) (x12 : Nt w (.slice d1 m1 o1) ys1) (x13 : Nt w (.slice aa1 nn1 cc1) us1) (x14 : Nt w (.slice dd1 mm1 oo1) zs1) (x21 : Nt w (.slice a2 n2 c2) xs2) (x22 : Nt w (.slice d2 m2 o2) ys2) (x23 : Nt w (.slice aa2 nn2 cc2) us2) (x24 : Nt w (.slice dd2 mm2 oo2) zs2) (x31 : Nt w (.slice a3 n3 c3) xs3) (x32 : Nt w (.slice d3 m3 o3) ys3) :
  Calls Tryz.prog 3 #[.agg #[.bool b1, .slice a1 n1 c1, .slice d1 m1 o1, .bool bb1, .slice aa1 nn1 cc1, .slice dd1 mm1 oo1], .agg #[.bool b2, .slice a2 n2 c2, .slice d2 m2 o2, .bool bb2, .slice aa2 nn2 cc2, .slice dd2 mm2 oo2], .agg #[.bool b3, .slice a3 n3 c3, .slice d3 m3 o3]] w fun e w' => e = .returned (.bool true) ∧ Ext w w' := by
 have HX := Lib.hid (And.intro x31 x32)
 obtain ⟨W0, hW0⟩ : ∃ W0, W0 = (((w.alloc (.cells #[.bool b1, .slice a1 n1 c1, .slice d1 m1 o1, .bool bb1, .slice aa1 nn1 cc1, .slice dd1 mm1 oo1] 29)).alloc (.cells #[.bool b2, .slice a2 n2 c2, .slice d2 m2 o2, .bool bb2, .slice aa2 nn2 cc2, .slice dd2 mm2 oo2] 29)).alloc (.cells #[.bool b3, .slice a3 n3 c3, .slice d3 m3 o3] 27)) := ⟨_, rfl⟩
 have E0 : Ext w W0 := by rw [hW0]; exact (((Ext.alloc1 w (.cells #[.bool b1, .slice a1 n1 c1, .slice d1 m1 o1, .bool bb1, .slice aa1 nn1 cc1, .slice dd1 mm1 oo1] 29)).alloc (.cells #[.bool b2, .slice a2 n2 c2, .slice d2 m2 o2, .bool bb2, .slice aa2 nn2 cc2, .slice dd2 mm2 oo2] 29)).alloc (.cells #[.bool b3, .slice a3 n3 c3, .slice d3 m3 o3] 27))
 replace x11 : Nt W0 (.slice a1 n1 c1) xs1 := x11.ext E0
 replace x12 : Nt W0 (.slice d1 m1 o1) ys1 := x12.ext E0
 replace x13 : Nt W0 (.slice aa1 nn1 cc1) us1 := x13.ext E0
 replace x14 : Nt W0 (.slice dd1 mm1 oo1) zs1 := x14.ext E0
 replace x21 : Nt W0 (.slice a2 n2 c2) xs2 := x21.ext E0
 replace x22 : Nt W0 (.slice d2 m2 o2) ys2 := x22.ext E0
 replace x23 : Nt W0 (.slice aa2 nn2 cc2) us2 := x23.ext E0
 replace x24 : Nt W0 (.slice dd2 mm2 oo2) zs2 := x24.ext E0
 replace x31 : Nt W0 (.slice a3 n3 c3) xs3 := x31.ext E0
 replace x32 : Nt W0 (.slice d3 m3 o3) ys3 := x32.ext E0
 have p3 : Bx6 W0 w.heap.size 29 (.bool b1) (.slice a1 n1 c1) (.slice d1 m1 o1) (.bool bb1) (.slice aa1 nn1 cc1) (.slice dd1 mm1 oo1) := by rw [hW0]; exact (Bx6.new w 29 (.bool b1) (.slice a1 n1 c1) (.slice d1 m1 o1) (.bool bb1) (.slice aa1 nn1 cc1) (.slice dd1 mm1 oo1)).ext ((Ext.alloc1 (w.alloc (.cells #[.bool b1, .slice a1 n1 c1, .slice d1 m1 o1, .bool bb1, .slice aa1 nn1 cc1, .slice dd1 mm1 oo1] 29)) (.cells #[.bool b2, .slice a2 n2 c2, .slice d2 m2 o2, .bool bb2, .slice aa2 nn2 cc2, .slice dd2 mm2 oo2] 29)).alloc (.cells #[.bool b3, .slice a3 n3 c3, .slice d3 m3 o3] 27))
 have p4 : Bx6 W0 (w.heap.size + 1) 29 (.bool b2) (.slice a2 n2 c2) (.slice d2 m2 o2) (.bool bb2) (.slice aa2 nn2 cc2) (.slice dd2 mm2 oo2) := by rw [hW0]; simpa using (Bx6.new (w.alloc (.cells #[.bool b1, .slice a1 n1 c1, .slice d1 m1 o1, .bool bb1, .slice aa1 nn1 cc1, .slice dd1 mm1 oo1] 29)) 29 (.bool b2) (.slice a2 n2 c2) (.slice d2 m2 o2) (.bool bb2) (.slice aa2 nn2 cc2) (.slice dd2 mm2 oo2)).ext (Ext.alloc1 ((w.alloc (.cells #[.bool b1, .slice a1 n1 c1, .slice d1 m1 o1, .bool bb1, .slice aa1 nn1 cc1, .slice dd1 mm1 oo1] 29)).alloc (.cells #[.bool b2, .slice a2 n2 c2, .slice d2 m2 o2, .bool bb2, .slice aa2 nn2 cc2, .slice dd2 mm2 oo2] 29)) (.cells #[.bool b3, .slice a3 n3 c3, .slice d3 m3 o3] 27))
 have p5 : Bx3 W0 (w.heap.size + 1 + 1) 27 (.bool b3) (.slice a3 n3 c3) (.slice d3 m3 o3) := by rw [hW0]; simpa using (Bx3.new ((w.alloc (.cells #[.bool b1, .slice a1 n1 c1, .slice d1 m1 o1, .bool bb1, .slice aa1 nn1 cc1, .slice dd1 mm1 oo1] 29)).alloc (.cells #[.bool b2, .slice a2 n2 c2, .slice d2 m2 o2, .bool bb2, .slice aa2 nn2 cc2, .slice dd2 mm2 oo2] 29)) 27 (.bool b3) (.slice a3 n3 c3) (.slice d3 m3 o3))
 go_enter Tryz.func3, Tryz.ntmps3
 by_cases h0 : n1 ≤ 3
 ·have hI0 : ¬ (n1 : Int) > 3 := by omega
  by_cases h1 : m1 ≤ 3
  ·have hI1 : ¬ (m1 : Int) > 3 := by omega
   by_cases h2 : nn1 ≤ 3
   ·have hI2 : ¬ (nn1 : Int) > 3 := by omega
    by_cases h3 : mm1 ≤ 3
    ·have hI3 : ¬ (mm1 : Int) > 3 := by omega
     have HLN := Lib.hid (And.intro h0 (And.intro h1 (And.intro h2 h3)))
     clear h0 h1 h2 h3
     obtain ⟨kp3_0, kp3_1, kp3_2, kp3_3, kp3_4, kp3_5⟩ := p3.c6
     obtain ⟨kp4_0, kp4_1, kp4_2, kp4_3, kp4_4, kp4_5⟩ := p4.c6
     obtain ⟨kp5_0, kp5_1, kp5_2⟩ := p5.c3
     go_wp2_with fail
     rw [← hW0]
     clear hW0; clear kp3_0 kp3_1 kp3_2 kp3_3 kp3_4 kp3_5 kp4_0 kp4_1 kp4_2 kp4_3 kp4_4 kp4_5 kp5_0 kp5_1 kp5_2
     refine (Tryz.refRFew x31 x32 3 (by omega)).mono ?_
     rintro e Wx ⟨rfl, hE⟩
     replace E0 := (Ext.trans E0 hE)
     replace x11 := (x11.ext hE)
     replace x12 := (x12.ext hE)
     replace x13 := (x13.ext hE)
     replace x14 := (x14.ext hE)
     replace x21 := (x21.ext hE)
     replace x22 := (x22.ext hE)
     replace x23 := (x23.ext hE)
     replace x24 := (x24.ext hE)
     replace x31 := (x31.ext hE)
     replace x32 := (x32.ext hE)
     replace p3 := (p3.ext hE); replace p4 := (p4.ext hE); replace p5 := (p5.ext hE); clear hE
     cases hf : fewR b3 xs3 ys3 ((3 : Nat) : Int)
     ·clear hf
      obtain ⟨kp3_0, kp3_1, kp3_2, kp3_3, kp3_4, kp3_5⟩ := p3.c6
      obtain ⟨kp4_0, kp4_1, kp4_2, kp4_3, kp4_4, kp4_5⟩ := p4.c6
      obtain ⟨kp5_0, kp5_1, kp5_2⟩ := p5.c3
      go_wp2_with fail
      clear kp3_0 kp3_1 kp3_2 kp3_3 kp3_4 kp3_5 kp4_0 kp4_1 kp4_2 kp4_3 kp4_4 kp4_5 kp5_0 kp5_1 kp5_2
      refine (Tryz.alive07 _).mono ?_
      rintro e Wv ⟨rfl, hE⟩
      replace E0 := (Ext.trans E0 hE)
      replace x11 := (x11.ext hE)
      replace x12 := (x12.ext hE)
      replace x13 := (x13.ext hE)
      replace x14 := (x14.ext hE)
      replace x21 := (x21.ext hE)
      replace x22 := (x22.ext hE)
      replace x23 := (x23.ext hE)
      replace x24 := (x24.ext hE)
      replace x31 := (x31.ext hE)
      replace x32 := (x32.ext hE)
      replace p3 := (p3.ext hE); replace p4 := (p4.ext hE); replace p5 := (p5.ext hE); clear hE
      obtain ⟨kp3_0, kp3_1, kp3_2, kp3_3, kp3_4, kp3_5⟩ := p3.c6
      obtain ⟨kp4_0, kp4_1, kp4_2, kp4_3, kp4_4, kp4_5⟩ := p4.c6
      obtain ⟨kp5_0, kp5_1, kp5_2⟩ := p5.c3
      clear x11 x12 x13 x14 x21 x22 x23 x24 x31 x32; go_wp2; go_ret
      exact ⟨rfl, E0⟩
     ·have HF := Lib.hid hf
      clear hf
      obtain ⟨x, hx, sx⟩ := fewR_rw x31 x32 HF.out
      have SX := Lib.hid sx
      clear sx
      obtain ⟨B0, hB0⟩ : ∃ B, rightSp b1 xs1 ys1 bb1 us1 zs1 = B := ⟨_, rfl⟩
      have HB0 := Lib.hid hB0
      clear hB0
      obtain ⟨kp3_0, kp3_1, kp3_2, kp3_3, kp3_4, kp3_5⟩ := p3.c6
      obtain ⟨kp4_0, kp4_1, kp4_2, kp4_3, kp4_4, kp4_5⟩ := p4.c6
      obtain ⟨kp5_0, kp5_1, kp5_2⟩ := p5.c3
      go_upto_region 3 with (fail)
      clear kp3_0 kp3_1 kp3_2 kp3_3 kp3_4 kp3_5 kp4_0 kp4_1 kp4_2 kp4_3 kp4_4 kp4_5 kp5_0 kp5_1 kp5_2; have ltp3 := p3.lt; have ltp4 := p4.lt; have ltp5 := p5.lt; have szw1 := Ext.size E0
      refine region_gs [.one fun v _ => v = .agg #[.bool b1, .slice a1 n1 c1, .slice d1 m1 o1, .bool bb1, .slice aa1 nn1 cc1, .slice dd1 mm1 oo1],
        .one fun v _ => v = .bool B0,
        .one fun v _ => v = .agg #[.bool b1, .slice a1 n1 c1, .slice d1 m1 o1, .bool bb1, .slice aa1 nn1 cc1, .slice dd1 mm1 oo1],
        .one fun v _ => v = .bool B0,
        .one fun v _ => v = .bool false,
        .one fun v _ => v = .bool false,
        .one fun v _ => v = .agg #[.bool b3, .slice a3 n3 c3, .slice d3 m3 o3],
        .one fun v W => Sw W v ((x, x)),
        .one fun v _ => v = .agg #[.bool b3, .slice a3 n3 c3, .slice d3 m3 o3],
        .one fun v W => Sw W v ((x, x)),
        .one fun v _ => v = .bool true,
        .one fun v _ => v = .bool false,
        .one fun v _ => v = .bool false]
       (fun W => Ext w W ∧ Nt W (.slice a1 n1 c1) xs1 ∧ Nt W (.slice d1 m1 o1) ys1 ∧ Nt W (.slice aa1 nn1 cc1) us1 ∧ Nt W (.slice dd1 mm1 oo1) zs1 ∧ Nt W (.slice a2 n2 c2) xs2 ∧ Nt W (.slice d2 m2 o2) ys2 ∧ Nt W (.slice aa2 nn2 cc2) us2 ∧ Nt W (.slice dd2 mm2 oo2) zs2 ∧ Nt W (.slice a3 n3 c3) xs3 ∧ Nt W (.slice d3 m3 o3) ys3 ∧ Bx6 W w.heap.size 29 (.bool b1) (.slice a1 n1 c1) (.slice d1 m1 o1) (.bool bb1) (.slice aa1 nn1 cc1) (.slice dd1 mm1 oo1) ∧ Bx6 W (w.heap.size + 1) 29 (.bool b2) (.slice a2 n2 c2) (.slice d2 m2 o2) (.bool bb2) (.slice aa2 nn2 cc2) (.slice dd2 mm2 oo2) ∧ Bx3 W (w.heap.size + 1 + 1) 27 (.bool b3) (.slice a3 n3 c3) (.slice d3 m3 o3) ∧ Rw W (.agg #[.bool b3, .slice a3 n3 c3, .slice d3 m3 o3]) x ∧ Wx.heap.size ≤ W.heap.size) ⟨Good.is _, Good.is _, Good.is _, Good.is _, Good.is _, Good.is _, Good.is _, Good.span _, Good.is _, Good.span _, Good.is _, Good.is _, Good.is _, trivial⟩
       ⟨E0, x11, x12, x13, x14, x21, x22, x23, x24, x31, x32, p3, p4, p5, hx, Nat.le_refl _⟩ (A := ?A1) ?hA1 ?howe1 ?hfin1
      case hA1 =>
       intro vs
       simp only [putAll, Act.put, sA, sZ, sS, Nat.zero_add, Nat.reduceAdd]
       exact rfl
      case howe1 =>
       clear E0 x11 x12 x13 x14 x21 x22 x23 x24 x31 x32 p3 p4 p5 hx
       intro hf
       refine ⟨oE 0 [] hf rfl ?_, oE 1 [0] hf rfl ?_, oE 2 [] hf rfl ?_, oE 3 [2] hf rfl ?_, oE 4 [1, 3] hf rfl ?_, oE 5 [4] hf rfl ?_, oE 6 [5] hf rfl ?_, oE 7 [5, 6] hf rfl ?_, oE 8 [5] hf rfl ?_, oE 9 [5, 8] hf rfl ?_, oE 10 [5, 7, 9] hf rfl ?_, oE 11 [5, 10] hf rfl ?_, oE 12 [5, 11] hf rfl ?_, trivial⟩
       all_goals intro vs W hS hp hx KO hKO
       all_goals simp only [Act.put, sA, sZ, sS] at hKO
       ·have fc0 := hS.2.2.2.2.2.2.2.2.2.2.2.1.cell0; have fc1 := hS.2.2.2.2.2.2.2.2.2.2.2.1.cell1; have fc2 := hS.2.2.2.2.2.2.2.2.2.2.2.1.cell2; have fc3 := hS.2.2.2.2.2.2.2.2.2.2.2.1.cell3; have fc4 := hS.2.2.2.2.2.2.2.2.2.2.2.1.cell4; have fc5 := hS.2.2.2.2.2.2.2.2.2.2.2.1.cell5; go_simp; exact hKO _ W (.refl W) rfl
       ·have e0 := isOf hp.1; simp only [e0] at hKO; go_simp
        refine (Tryz.ivRightAny hS.2.1 hS.2.2.1 hS.2.2.2.1 hS.2.2.2.2.1 HLN.out.1 HLN.out.2.1 HLN.out.2.2.1 HLN.out.2.2.2 (by omega)).mono ?_
        rintro e W1 ⟨rfl, hE⟩
        rw [HB0.out]
        exact hKO _ W1 hE rfl
       ·have fc0 := hS.2.2.2.2.2.2.2.2.2.2.2.1.cell0; have fc1 := hS.2.2.2.2.2.2.2.2.2.2.2.1.cell1; have fc2 := hS.2.2.2.2.2.2.2.2.2.2.2.1.cell2; have fc3 := hS.2.2.2.2.2.2.2.2.2.2.2.1.cell3; have fc4 := hS.2.2.2.2.2.2.2.2.2.2.2.1.cell4; have fc5 := hS.2.2.2.2.2.2.2.2.2.2.2.1.cell5; go_simp; exact hKO _ W (.refl W) rfl
       ·have e2 := isOf hp.1; simp only [e2] at hKO; go_simp
        refine (Tryz.rsRightAny hS.2.1 hS.2.2.1 hS.2.2.2.1 hS.2.2.2.2.1 HLN.out.1 HLN.out.2.1 HLN.out.2.2.1 HLN.out.2.2.2 (by omega)).mono ?_
        rintro e W1 ⟨rfl, hE⟩
        rw [HB0.out]
        exact hKO _ W1 hE rfl
       ·have e1 := isOf hp.1; have e3 := isOf hp.2.1; simp only [e1, e3] at hKO; go_simp; exact hKO _ W (.refl W) rfl
       ·have e4 := isOf hp.1; simp only [e4] at hKO; go_simp; exact hKO _ W (.refl W) rfl
       ·have e5 := isOf hp.1; simp only [e5] at hKO; have fc0 := hS.2.2.2.2.2.2.2.2.2.2.2.2.2.1.cell0; have fc1 := hS.2.2.2.2.2.2.2.2.2.2.2.2.2.1.cell1; have fc2 := hS.2.2.2.2.2.2.2.2.2.2.2.2.2.1.cell2; go_simp; exact hKO _ W (.refl W) rfl
       ·have e5 := isOf hp.1; have e6 := isOf hp.2.1; simp only [e5, e6] at hKO; go_simp
        refine (Tryz.ivOf (hS.2.2.2.2.2.2.2.2.2.2.2.2.2.2.1)).mono ?_
        rintro e W1 ⟨v, rfl, hv, hE⟩
        exact hKO _ W1 hE hv
       ·have e5 := isOf hp.1; simp only [e5] at hKO; have fc0 := hS.2.2.2.2.2.2.2.2.2.2.2.2.2.1.cell0; have fc1 := hS.2.2.2.2.2.2.2.2.2.2.2.2.2.1.cell1; have fc2 := hS.2.2.2.2.2.2.2.2.2.2.2.2.2.1.cell2; go_simp; exact hKO _ W (.refl W) rfl
       ·have e5 := isOf hp.1; have e8 := isOf hp.2.1; simp only [e5, e8] at hKO; go_simp
        refine (Tryz.rsOf (hS.2.2.2.2.2.2.2.2.2.2.2.2.2.2.1)).mono ?_
        rintro e W1 ⟨v, rfl, hv, hE⟩
        exact hKO _ W1 hE hv
       ·have e5 := isOf hp.1; have q7 := hp.2.1; have q9 := hp.2.2.1; simp only [e5] at hKO; go_simp
        refine (Tryz.rsSameT q7 q9 rfl).mono ?_
        rintro e W1 ⟨rfl, hE⟩
        exact hKO _ W1 hE rfl
       ·have e5 := isOf hp.1; have e10 := isOf hp.2.1; simp only [e5, e10] at hKO; go_simp; exact hKO _ W (.refl W) rfl
       ·have e5 := isOf hp.1; have e11 := isOf hp.2.1; simp only [e5, e11] at hKO; go_simp; exact hKO _ W (.refl W) rfl
      intro vs W1 hS hp
      clear szw1 E0 x11 x12 x13 x14 x21 x22 x23 x24 x31 x32 p3 p4 p5 hx
      obtain ⟨E0, x11, x12, x13, x14, x21, x22, x23, x24, x31, x32, p3, p4, p5, hx, sz1⟩ := hS
      obtain ⟨h1_0, h1_1, h1_2, h1_3, h1_4, h1_5, h1_6, h1_7, h1_8, h1_9, h1_10, h1_11, h1_12, -⟩ := hp
      replace h1_0 : vs 0 = .agg #[.bool b1, .slice a1 n1 c1, .slice d1 m1 o1, .bool bb1, .slice aa1 nn1 cc1, .slice dd1 mm1 oo1] := h1_0
      replace h1_1 : vs 1 = .bool B0 := h1_1
      replace h1_2 : vs 2 = .agg #[.bool b1, .slice a1 n1 c1, .slice d1 m1 o1, .bool bb1, .slice aa1 nn1 cc1, .slice dd1 mm1 oo1] := h1_2
      replace h1_3 : vs 3 = .bool B0 := h1_3
      replace h1_4 : vs 4 = .bool false := h1_4
      replace h1_5 : vs 5 = .bool false := h1_5
      replace h1_6 : vs 6 = .agg #[.bool b3, .slice a3 n3 c3, .slice d3 m3 o3] := h1_6
      replace h1_8 : vs 8 = .agg #[.bool b3, .slice a3 n3 c3, .slice d3 m3 o3] := h1_8
      replace h1_10 : vs 10 = .bool true := h1_10
      replace h1_11 : vs 11 = .bool false := h1_11
      replace h1_12 : vs 12 = .bool false := h1_12
      simp only [h1_0, h1_1, h1_2, h1_3, h1_4, h1_5, h1_6, h1_8, h1_10, h1_11, h1_12]
      replace h1_7 : Sw W1 (vs 7) ((x, x)) := h1_7
      generalize vs 7 = u1_7 at h1_7 ⊢
      replace h1_9 : Sw W1 (vs 9) ((x, x)) := h1_9
      generalize vs 9 = u1_9 at h1_9 ⊢
      clear h1_0 h1_1 h1_2 h1_3 h1_4 h1_5 h1_6 h1_8 h1_10 h1_11 h1_12
      obtain ⟨kp3_0, kp3_1, kp3_2, kp3_3, kp3_4, kp3_5⟩ := p3.c6
      obtain ⟨kp4_0, kp4_1, kp4_2, kp4_3, kp4_4, kp4_5⟩ := p4.c6
      obtain ⟨kp5_0, kp5_1, kp5_2⟩ := p5.c3
      go_wp2_with fail
      clear kp3_0 kp3_1 kp3_2 kp3_3 kp3_4 kp3_5 kp4_0 kp4_1 kp4_2 kp4_3 kp4_4 kp4_5 kp5_0 kp5_1 kp5_2
      refine (Tryz.rsFew x11 x12 x13 x14 3 (by omega)).mono ?_
      rintro e WfB1 ⟨B1, rfl, hB1, hE⟩
      replace hB1 : B1 = true → ∃ p, Sw WfB1 (.agg #[.bool b1, .slice a1 n1 c1, .slice d1 m1 o1, .bool bb1, .slice aa1 nn1 cc1, .slice dd1 mm1 oo1]) p ∧ SmS 3 p ∧ p.1 ≤ p.2 := fun e => let ⟨p, k1, k2⟩ := hB1 e; ⟨p, k1.ext hE, k2⟩
      replace E0 := (Ext.trans E0 hE)
      replace x11 := (x11.ext hE)
      replace x12 := (x12.ext hE)
      replace x13 := (x13.ext hE)
      replace x14 := (x14.ext hE)
      replace x21 := (x21.ext hE)
      replace x22 := (x22.ext hE)
      replace x23 := (x23.ext hE)
      replace x24 := (x24.ext hE)
      replace x31 := (x31.ext hE)
      replace x32 := (x32.ext hE)
      replace p3 := (p3.ext hE); replace p4 := (p4.ext hE); replace p5 := (p5.ext hE); replace hx := (hx.ext hE); clear hE
      cases B1
      ·clear hB1
       obtain ⟨kp3_0, kp3_1, kp3_2, kp3_3, kp3_4, kp3_5⟩ := p3.c6
       obtain ⟨kp4_0, kp4_1, kp4_2, kp4_3, kp4_4, kp4_5⟩ := p4.c6
       obtain ⟨kp5_0, kp5_1, kp5_2⟩ := p5.c3
       go_wp2_with fail
       clear kp3_0 kp3_1 kp3_2 kp3_3 kp3_4 kp3_5 kp4_0 kp4_1 kp4_2 kp4_3 kp4_4 kp4_5 kp5_0 kp5_1 kp5_2
       refine (Tryz.alive07 _).mono ?_
       rintro e Wv ⟨rfl, hE⟩
       replace E0 := (Ext.trans E0 hE)
       replace x11 := (x11.ext hE)
       replace x12 := (x12.ext hE)
       replace x13 := (x13.ext hE)
       replace x14 := (x14.ext hE)
       replace x21 := (x21.ext hE)
       replace x22 := (x22.ext hE)
       replace x23 := (x23.ext hE)
       replace x24 := (x24.ext hE)
       replace x31 := (x31.ext hE)
       replace x32 := (x32.ext hE)
       replace p3 := (p3.ext hE); replace p4 := (p4.ext hE); replace p5 := (p5.ext hE); replace hx := (hx.ext hE); clear hE
       obtain ⟨kp3_0, kp3_1, kp3_2, kp3_3, kp3_4, kp3_5⟩ := p3.c6
       obtain ⟨kp4_0, kp4_1, kp4_2, kp4_3, kp4_4, kp4_5⟩ := p4.c6
       obtain ⟨kp5_0, kp5_1, kp5_2⟩ := p5.c3
       clear x11 x12 x13 x14 x21 x22 x23 x24 x31 x32 hx; go_wp2; go_ret
       exact ⟨rfl, E0⟩
      ·obtain ⟨p, hsp, sp, -⟩ := hB1 rfl
       have SP := Lib.hid sp
       clear sp hB1
       obtain ⟨kp3_0, kp3_1, kp3_2, kp3_3, kp3_4, kp3_5⟩ := p3.c6
       obtain ⟨kp4_0, kp4_1, kp4_2, kp4_3, kp4_4, kp4_5⟩ := p4.c6
       obtain ⟨kp5_0, kp5_1, kp5_2⟩ := p5.c3
       go_wp2_with fail
       clear kp3_0 kp3_1 kp3_2 kp3_3 kp3_4 kp3_5 kp4_0 kp4_1 kp4_2 kp4_3 kp4_4 kp4_5 kp5_0 kp5_1 kp5_2
       refine (Tryz.rsFew x21 x22 x23 x24 3 (by omega)).mono ?_
       rintro e WfB2 ⟨B2, rfl, hB2, hE⟩
       replace hB2 : B2 = true → ∃ p, Sw WfB2 (.agg #[.bool b2, .slice a2 n2 c2, .slice d2 m2 o2, .bool bb2, .slice aa2 nn2 cc2, .slice dd2 mm2 oo2]) p ∧ SmS 3 p ∧ p.1 ≤ p.2 := fun e => let ⟨p, k1, k2⟩ := hB2 e; ⟨p, k1.ext hE, k2⟩
       replace E0 := (Ext.trans E0 hE)
       replace x11 := (x11.ext hE)
       replace x12 := (x12.ext hE)
       replace x13 := (x13.ext hE)
       replace x14 := (x14.ext hE)
       replace x21 := (x21.ext hE)
       replace x22 := (x22.ext hE)
       replace x23 := (x23.ext hE)
       replace x24 := (x24.ext hE)
       replace x31 := (x31.ext hE)
       replace x32 := (x32.ext hE)
       replace p3 := (p3.ext hE); replace p4 := (p4.ext hE); replace p5 := (p5.ext hE); replace hx := (hx.ext hE); replace hsp := (hsp.ext hE); clear hE
       cases B2
       ·clear hB2
        obtain ⟨kp3_0, kp3_1, kp3_2, kp3_3, kp3_4, kp3_5⟩ := p3.c6
        obtain ⟨kp4_0, kp4_1, kp4_2, kp4_3, kp4_4, kp4_5⟩ := p4.c6
        obtain ⟨kp5_0, kp5_1, kp5_2⟩ := p5.c3
        go_wp2_with fail
        clear kp3_0 kp3_1 kp3_2 kp3_3 kp3_4 kp3_5 kp4_0 kp4_1 kp4_2 kp4_3 kp4_4 kp4_5 kp5_0 kp5_1 kp5_2
        refine (Tryz.alive07 _).mono ?_
        rintro e Wv ⟨rfl, hE⟩
        replace E0 := (Ext.trans E0 hE)
        replace x11 := (x11.ext hE)
        replace x12 := (x12.ext hE)
        replace x13 := (x13.ext hE)
        replace x14 := (x14.ext hE)
        replace x21 := (x21.ext hE)
        replace x22 := (x22.ext hE)
        replace x23 := (x23.ext hE)
        replace x24 := (x24.ext hE)
        replace x31 := (x31.ext hE)
        replace x32 := (x32.ext hE)
        replace p3 := (p3.ext hE); replace p4 := (p4.ext hE); replace p5 := (p5.ext hE); replace hx := (hx.ext hE); replace hsp := (hsp.ext hE); clear hE
        obtain ⟨kp3_0, kp3_1, kp3_2, kp3_3, kp3_4, kp3_5⟩ := p3.c6
        obtain ⟨kp4_0, kp4_1, kp4_2, kp4_3, kp4_4, kp4_5⟩ := p4.c6
        obtain ⟨kp5_0, kp5_1, kp5_2⟩ := p5.c3
        clear x11 x12 x13 x14 x21 x22 x23 x24 x31 x32 hx hsp; go_wp2; go_ret
        exact ⟨rfl, E0⟩
       ·obtain ⟨q, hsq, sq, -⟩ := hB2 rfl
        have SQ := Lib.hid sq
        clear sq hB2
        obtain ⟨B3, hB3⟩ : ∃ B, hasS p x = B := ⟨_, rfl⟩
        have HB3 := Lib.hid hB3
        obtain ⟨B4, hB4⟩ : ∃ B, inS p q = B := ⟨_, rfl⟩
        have HB4 := Lib.hid hB4
        clear hB3 hB4; clear x11 x12 x13 x14 x21 x22 x23 x24 x31 x32
        obtain ⟨kp3_0, kp3_1, kp3_2, kp3_3, kp3_4, kp3_5⟩ := p3.c6
        obtain ⟨kp4_0, kp4_1, kp4_2, kp4_3, kp4_4, kp4_5⟩ := p4.c6
        obtain ⟨kp5_0, kp5_1, kp5_2⟩ := p5.c3
        go_upto_region 7 with (fail)
        clear kp3_0 kp3_1 kp3_2 kp3_3 kp3_4 kp3_5 kp4_0 kp4_1 kp4_2 kp4_3 kp4_4 kp4_5 kp5_0 kp5_1 kp5_2; have szw2 := Ext.size E0
        refine region_gs [.one fun v _ => v = .bool true,
          .one fun v _ => v = .bool true,
          .one fun v _ => v = .agg #[.bool b1, .slice a1 n1 c1, .slice d1 m1 o1, .bool bb1, .slice aa1 nn1 cc1, .slice dd1 mm1 oo1],
          .one fun v _ => v = .agg #[.bool b3, .slice a3 n3 c3, .slice d3 m3 o3],
          .one fun v _ => v = .bool B3,
          .one fun v _ => v = .agg #[.bool b1, .slice a1 n1 c1, .slice d1 m1 o1, .bool bb1, .slice aa1 nn1 cc1, .slice dd1 mm1 oo1],
          .one fun v _ => v = .agg #[.bool b3, .slice a3 n3 c3, .slice d3 m3 o3],
          .one fun v _ => v = .bool B3,
          .one fun v _ => v = .bool true,
          .one fun v _ => v = .bool true,
          .one fun v _ => v = .bool true,
          .one fun v _ => v = .agg #[.bool b1, .slice a1 n1 c1, .slice d1 m1 o1, .bool bb1, .slice aa1 nn1 cc1, .slice dd1 mm1 oo1],
          .one fun v _ => v = .agg #[.bool b2, .slice a2 n2 c2, .slice d2 m2 o2, .bool bb2, .slice aa2 nn2 cc2, .slice dd2 mm2 oo2],
          .one fun v _ => v = .bool B4,
          .one fun v _ => v = .agg #[.bool b1, .slice a1 n1 c1, .slice d1 m1 o1, .bool bb1, .slice aa1 nn1 cc1, .slice dd1 mm1 oo1],
          .one fun v _ => v = .agg #[.bool b2, .slice a2 n2 c2, .slice d2 m2 o2, .bool bb2, .slice aa2 nn2 cc2, .slice dd2 mm2 oo2],
          .one fun v _ => v = .bool B4,
          .one fun v _ => v = .bool true,
          .one fun v _ => v = .bool true,
          .one fun v _ => v = .bool true]
         (fun W => Ext w W ∧ Bx6 W w.heap.size 29 (.bool b1) (.slice a1 n1 c1) (.slice d1 m1 o1) (.bool bb1) (.slice aa1 nn1 cc1) (.slice dd1 mm1 oo1) ∧ Bx6 W (w.heap.size + 1) 29 (.bool b2) (.slice a2 n2 c2) (.slice d2 m2 o2) (.bool bb2) (.slice aa2 nn2 cc2) (.slice dd2 mm2 oo2) ∧ Bx3 W (w.heap.size + 1 + 1) 27 (.bool b3) (.slice a3 n3 c3) (.slice d3 m3 o3) ∧ Rw W (.agg #[.bool b3, .slice a3 n3 c3, .slice d3 m3 o3]) x ∧ Sw W (.agg #[.bool b1, .slice a1 n1 c1, .slice d1 m1 o1, .bool bb1, .slice aa1 nn1 cc1, .slice dd1 mm1 oo1]) p ∧ Sw W (.agg #[.bool b2, .slice a2 n2 c2, .slice d2 m2 o2, .bool bb2, .slice aa2 nn2 cc2, .slice dd2 mm2 oo2]) q ∧ WfB2.heap.size ≤ W.heap.size) ⟨Good.is _, Good.is _, Good.is _, Good.is _, Good.is _, Good.is _, Good.is _, Good.is _, Good.is _, Good.is _, Good.is _, Good.is _, Good.is _, Good.is _, Good.is _, Good.is _, Good.is _, Good.is _, Good.is _, Good.is _, trivial⟩
         ⟨E0, p3, p4, p5, hx, hsp, hsq, Nat.le_refl _⟩ (A := ?A2) ?hA2 ?howe2 ?hfin2
        case hA2 =>
         intro vs
         simp only [putAll, Act.put, sA, sZ, sS, Nat.zero_add, Nat.reduceAdd]
         exact rfl
        case howe2 =>
         clear E0 p3 p4 p5 hx hsp hsq
         intro hf
         refine ⟨oE 0 [] hf rfl ?_, oE 1 [0] hf rfl ?_, oE 2 [1] hf rfl ?_, oE 3 [1] hf rfl ?_, oE 4 [1, 2, 3] hf rfl ?_, oE 5 [1] hf rfl ?_, oE 6 [1] hf rfl ?_, oE 7 [1, 5, 6] hf rfl ?_, oE 8 [1, 4, 7] hf rfl ?_, oE 9 [1, 8] hf rfl ?_, oE 10 [9] hf rfl ?_, oE 11 [10] hf rfl ?_, oE 12 [10] hf rfl ?_, oE 13 [10, 11, 12] hf rfl ?_, oE 14 [10] hf rfl ?_, oE 15 [10] hf rfl ?_, oE 16 [10, 14, 15] hf rfl ?_, oE 17 [10, 13, 16] hf rfl ?_, oE 18 [10, 17] hf rfl ?_, oE 19 [18] hf rfl ?_, trivial⟩
         all_goals intro vs W hS hp hx KO hKO
         all_goals simp only [Act.put, sA, sZ, sS] at hKO
         ·go_simp
          refine (Tryz.alive07 _).mono ?_
          rintro e W1 ⟨rfl, hE⟩
          exact hKO _ W1 hE rfl
         ·have e0 := isOf hp.1; simp only [e0] at hKO; go_simp; exact hKO _ W (.refl W) rfl
         ·have e1 := isOf hp.1; simp only [e1] at hKO; have fc0 := hS.2.1.cell0; have fc1 := hS.2.1.cell1; have fc2 := hS.2.1.cell2; have fc3 := hS.2.1.cell3; have fc4 := hS.2.1.cell4; have fc5 := hS.2.1.cell5; go_simp; exact hKO _ W (.refl W) rfl
         ·have e1 := isOf hp.1; simp only [e1] at hKO; have fc0 := hS.2.2.2.1.cell0; have fc1 := hS.2.2.2.1.cell1; have fc2 := hS.2.2.2.1.cell2; go_simp; exact hKO _ W (.refl W) rfl
         ·have e1 := isOf hp.1; have e2 := isOf hp.2.1; have e3 := isOf hp.2.2.1; simp only [e1, e2, e3] at hKO; go_simp
          refine (Tryz.ivHas (hS.2.2.2.2.2.1) (hS.2.2.2.2.1) SP.out SX.out (by omega)).mono ?_
          rintro e W1 ⟨rfl, hE⟩
          rw [HB3.out]
          exact hKO _ W1 hE rfl
         ·have e1 := isOf hp.1; simp only [e1] at hKO; have fc0 := hS.2.1.cell0; have fc1 := hS.2.1.cell1; have fc2 := hS.2.1.cell2; have fc3 := hS.2.1.cell3; have fc4 := hS.2.1.cell4; have fc5 := hS.2.1.cell5; go_simp; exact hKO _ W (.refl W) rfl
         ·have e1 := isOf hp.1; simp only [e1] at hKO; have fc0 := hS.2.2.2.1.cell0; have fc1 := hS.2.2.2.1.cell1; have fc2 := hS.2.2.2.1.cell2; go_simp; exact hKO _ W (.refl W) rfl
         ·have e1 := isOf hp.1; have e5 := isOf hp.2.1; have e6 := isOf hp.2.2.1; simp only [e1, e5, e6] at hKO; go_simp
          refine (Tryz.rsHas (hS.2.2.2.2.2.1) (hS.2.2.2.2.1) SP.out SX.out (by omega)).mono ?_
          rintro e W1 ⟨rfl, hE⟩
          rw [HB3.out]
          exact hKO _ W1 hE rfl
         ·have e1 := isOf hp.1; have e4 := isOf hp.2.1; have e7 := isOf hp.2.2.1; simp only [e1, e4, e7] at hKO; go_simp; exact hKO _ W (.refl W) rfl
         ·have e1 := isOf hp.1; have e8 := isOf hp.2.1; simp only [e1, e8] at hKO; go_simp; exact hKO _ W (.refl W) rfl
         ·have e9 := isOf hp.1; simp only [e9] at hKO; go_simp; exact hKO _ W (.refl W) rfl
         ·have e10 := isOf hp.1; simp only [e10] at hKO; have fc0 := hS.2.1.cell0; have fc1 := hS.2.1.cell1; have fc2 := hS.2.1.cell2; have fc3 := hS.2.1.cell3; have fc4 := hS.2.1.cell4; have fc5 := hS.2.1.cell5; go_simp; exact hKO _ W (.refl W) rfl
         ·have e10 := isOf hp.1; simp only [e10] at hKO; have fc0 := hS.2.2.1.cell0; have fc1 := hS.2.2.1.cell1; have fc2 := hS.2.2.1.cell2; have fc3 := hS.2.2.1.cell3; have fc4 := hS.2.2.1.cell4; have fc5 := hS.2.2.1.cell5; go_simp; exact hKO _ W (.refl W) rfl
         ·have e10 := isOf hp.1; have e11 := isOf hp.2.1; have e12 := isOf hp.2.2.1; simp only [e10, e11, e12] at hKO; go_simp
          refine (Tryz.ivIn (hS.2.2.2.2.2.1) (hS.2.2.2.2.2.2.1) SP.out SQ.out (by omega)).mono ?_
          rintro e W1 ⟨rfl, hE⟩
          rw [HB4.out]
          exact hKO _ W1 hE rfl
         ·have e10 := isOf hp.1; simp only [e10] at hKO; have fc0 := hS.2.1.cell0; have fc1 := hS.2.1.cell1; have fc2 := hS.2.1.cell2; have fc3 := hS.2.1.cell3; have fc4 := hS.2.1.cell4; have fc5 := hS.2.1.cell5; go_simp; exact hKO _ W (.refl W) rfl
         ·have e10 := isOf hp.1; simp only [e10] at hKO; have fc0 := hS.2.2.1.cell0; have fc1 := hS.2.2.1.cell1; have fc2 := hS.2.2.1.cell2; have fc3 := hS.2.2.1.cell3; have fc4 := hS.2.2.1.cell4; have fc5 := hS.2.2.1.cell5; go_simp; exact hKO _ W (.refl W) rfl
         ·have e10 := isOf hp.1; have e14 := isOf hp.2.1; have e15 := isOf hp.2.2.1; simp only [e10, e14, e15] at hKO; go_simp
          refine (Tryz.rsIn (hS.2.2.2.2.2.1) (hS.2.2.2.2.2.2.1) SP.out SQ.out (by omega)).mono ?_
          rintro e W1 ⟨rfl, hE⟩
          rw [HB4.out]
          exact hKO _ W1 hE rfl
         ·have e10 := isOf hp.1; have e13 := isOf hp.2.1; have e16 := isOf hp.2.2.1; simp only [e10, e13, e16] at hKO; go_simp; exact hKO _ W (.refl W) rfl
         ·have e10 := isOf hp.1; have e17 := isOf hp.2.1; simp only [e10, e17] at hKO; go_simp; exact hKO _ W (.refl W) rfl
         ·have e18 := isOf hp.1; simp only [e18] at hKO; go_simp; exact hKO _ W (.refl W) rfl
        intro vs W2 hS hp
        clear szw2 E0 p3 p4 p5 hx hsp hsq
        obtain ⟨E0, p3, p4, p5, hx, hsp, hsq, sz2⟩ := hS
        obtain ⟨h2_0, h2_1, h2_2, h2_3, h2_4, h2_5, h2_6, h2_7, h2_8, h2_9, h2_10, h2_11, h2_12, h2_13, h2_14, h2_15, h2_16, h2_17, h2_18, h2_19, -⟩ := hp
        replace h2_0 : vs 0 = .bool true := h2_0
        replace h2_1 : vs 1 = .bool true := h2_1
        replace h2_2 : vs 2 = .agg #[.bool b1, .slice a1 n1 c1, .slice d1 m1 o1, .bool bb1, .slice aa1 nn1 cc1, .slice dd1 mm1 oo1] := h2_2
        replace h2_3 : vs 3 = .agg #[.bool b3, .slice a3 n3 c3, .slice d3 m3 o3] := h2_3
        replace h2_4 : vs 4 = .bool B3 := h2_4
        replace h2_5 : vs 5 = .agg #[.bool b1, .slice a1 n1 c1, .slice d1 m1 o1, .bool bb1, .slice aa1 nn1 cc1, .slice dd1 mm1 oo1] := h2_5
        replace h2_6 : vs 6 = .agg #[.bool b3, .slice a3 n3 c3, .slice d3 m3 o3] := h2_6
        replace h2_7 : vs 7 = .bool B3 := h2_7
        replace h2_8 : vs 8 = .bool true := h2_8
        replace h2_9 : vs 9 = .bool true := h2_9
        replace h2_10 : vs 10 = .bool true := h2_10
        replace h2_11 : vs 11 = .agg #[.bool b1, .slice a1 n1 c1, .slice d1 m1 o1, .bool bb1, .slice aa1 nn1 cc1, .slice dd1 mm1 oo1] := h2_11
        replace h2_12 : vs 12 = .agg #[.bool b2, .slice a2 n2 c2, .slice d2 m2 o2, .bool bb2, .slice aa2 nn2 cc2, .slice dd2 mm2 oo2] := h2_12
        replace h2_13 : vs 13 = .bool B4 := h2_13
        replace h2_14 : vs 14 = .agg #[.bool b1, .slice a1 n1 c1, .slice d1 m1 o1, .bool bb1, .slice aa1 nn1 cc1, .slice dd1 mm1 oo1] := h2_14
        replace h2_15 : vs 15 = .agg #[.bool b2, .slice a2 n2 c2, .slice d2 m2 o2, .bool bb2, .slice aa2 nn2 cc2, .slice dd2 mm2 oo2] := h2_15
        replace h2_16 : vs 16 = .bool B4 := h2_16
        replace h2_17 : vs 17 = .bool true := h2_17
        replace h2_18 : vs 18 = .bool true := h2_18
        replace h2_19 : vs 19 = .bool true := h2_19
        simp only [h2_0, h2_1, h2_2, h2_3, h2_4, h2_5, h2_6, h2_7, h2_8, h2_9, h2_10, h2_11, h2_12, h2_13, h2_14, h2_15, h2_16, h2_17, h2_18, h2_19]
        clear h2_0 h2_1 h2_2 h2_3 h2_4 h2_5 h2_6 h2_7 h2_8 h2_9 h2_10 h2_11 h2_12 h2_13 h2_14 h2_15 h2_16 h2_17 h2_18 h2_19
        obtain ⟨kp3_0, kp3_1, kp3_2, kp3_3, kp3_4, kp3_5⟩ := p3.c6
        obtain ⟨kp4_0, kp4_1, kp4_2, kp4_3, kp4_4, kp4_5⟩ := p4.c6
        obtain ⟨kp5_0, kp5_1, kp5_2⟩ := p5.c3
        clear hx hsp hsq; go_wp2; go_ret
        exact ⟨rfl, E0⟩
    ·have hI3 : (mm1 : Int) > 3 := by omega
     clear h0 h1 h2 h3
     obtain ⟨kp3_0, kp3_1, kp3_2, kp3_3, kp3_4, kp3_5⟩ := p3.c6
     obtain ⟨kp4_0, kp4_1, kp4_2, kp4_3, kp4_4, kp4_5⟩ := p4.c6
     obtain ⟨kp5_0, kp5_1, kp5_2⟩ := p5.c3
     go_wp2_with fail
     rw [← hW0]
     clear hW0; clear kp3_0 kp3_1 kp3_2 kp3_3 kp3_4 kp3_5 kp4_0 kp4_1 kp4_2 kp4_3 kp4_4 kp4_5 kp5_0 kp5_1 kp5_2
     refine (Tryz.alive07 _).mono ?_
     rintro e Wv ⟨rfl, hE⟩
     replace E0 := (Ext.trans E0 hE)
     replace x11 := (x11.ext hE)
     replace x12 := (x12.ext hE)
     replace x13 := (x13.ext hE)
     replace x14 := (x14.ext hE)
     replace x21 := (x21.ext hE)
     replace x22 := (x22.ext hE)
     replace x23 := (x23.ext hE)
     replace x24 := (x24.ext hE)
     replace x31 := (x31.ext hE)
     replace x32 := (x32.ext hE)
     replace p3 := (p3.ext hE); replace p4 := (p4.ext hE); replace p5 := (p5.ext hE); clear hE
     obtain ⟨kp3_0, kp3_1, kp3_2, kp3_3, kp3_4, kp3_5⟩ := p3.c6
     obtain ⟨kp4_0, kp4_1, kp4_2, kp4_3, kp4_4, kp4_5⟩ := p4.c6
     obtain ⟨kp5_0, kp5_1, kp5_2⟩ := p5.c3
     clear x11 x12 x13 x14 x21 x22 x23 x24 x31 x32; go_wp2; go_ret
     exact ⟨rfl, E0⟩
   ·have hI2 : (nn1 : Int) > 3 := by omega
    clear h0 h1 h2
    obtain ⟨kp3_0, kp3_1, kp3_2, kp3_3, kp3_4, kp3_5⟩ := p3.c6
    obtain ⟨kp4_0, kp4_1, kp4_2, kp4_3, kp4_4, kp4_5⟩ := p4.c6
    obtain ⟨kp5_0, kp5_1, kp5_2⟩ := p5.c3
    go_wp2_with fail
    rw [← hW0]
    clear hW0; clear kp3_0 kp3_1 kp3_2 kp3_3 kp3_4 kp3_5 kp4_0 kp4_1 kp4_2 kp4_3 kp4_4 kp4_5 kp5_0 kp5_1 kp5_2
    refine (Tryz.alive07 _).mono ?_
    rintro e Wv ⟨rfl, hE⟩
    replace E0 := (Ext.trans E0 hE)
    replace x11 := (x11.ext hE)
    replace x12 := (x12.ext hE)
    replace x13 := (x13.ext hE)
    replace x14 := (x14.ext hE)
    replace x21 := (x21.ext hE)
    replace x22 := (x22.ext hE)
    replace x23 := (x23.ext hE)
    replace x24 := (x24.ext hE)
    replace x31 := (x31.ext hE)
    replace x32 := (x32.ext hE)
    replace p3 := (p3.ext hE); replace p4 := (p4.ext hE); replace p5 := (p5.ext hE); clear hE
    obtain ⟨kp3_0, kp3_1, kp3_2, kp3_3, kp3_4, kp3_5⟩ := p3.c6
    obtain ⟨kp4_0, kp4_1, kp4_2, kp4_3, kp4_4, kp4_5⟩ := p4.c6
    obtain ⟨kp5_0, kp5_1, kp5_2⟩ := p5.c3
    clear x11 x12 x13 x14 x21 x22 x23 x24 x31 x32; go_wp2; go_ret
    exact ⟨rfl, E0⟩
  ·have hI1 : (m1 : Int) > 3 := by omega
   clear h0 h1
   obtain ⟨kp3_0, kp3_1, kp3_2, kp3_3, kp3_4, kp3_5⟩ := p3.c6
   obtain ⟨kp4_0, kp4_1, kp4_2, kp4_3, kp4_4, kp4_5⟩ := p4.c6
   obtain ⟨kp5_0, kp5_1, kp5_2⟩ := p5.c3
   go_wp2_with fail
   rw [← hW0]
   clear hW0; clear kp3_0 kp3_1 kp3_2 kp3_3 kp3_4 kp3_5 kp4_0 kp4_1 kp4_2 kp4_3 kp4_4 kp4_5 kp5_0 kp5_1 kp5_2
   refine (Tryz.alive07 _).mono ?_
   rintro e Wv ⟨rfl, hE⟩
   replace E0 := (Ext.trans E0 hE)
   replace x11 := (x11.ext hE)
   replace x12 := (x12.ext hE)
   replace x13 := (x13.ext hE)
   replace x14 := (x14.ext hE)
   replace x21 := (x21.ext hE)
   replace x22 := (x22.ext hE)
   replace x23 := (x23.ext hE)
   replace x24 := (x24.ext hE)
   replace x31 := (x31.ext hE)
   replace x32 := (x32.ext hE)
   replace p3 := (p3.ext hE); replace p4 := (p4.ext hE); replace p5 := (p5.ext hE); clear hE
   obtain ⟨kp3_0, kp3_1, kp3_2, kp3_3, kp3_4, kp3_5⟩ := p3.c6
   obtain ⟨kp4_0, kp4_1, kp4_2, kp4_3, kp4_4, kp4_5⟩ := p4.c6
   obtain ⟨kp5_0, kp5_1, kp5_2⟩ := p5.c3
   clear x11 x12 x13 x14 x21 x22 x23 x24 x31 x32; go_wp2; go_ret
   exact ⟨rfl, E0⟩
 ·have hI0 : (n1 : Int) > 3 := by omega
  clear h0
  obtain ⟨kp3_0, kp3_1, kp3_2, kp3_3, kp3_4, kp3_5⟩ := p3.c6
  obtain ⟨kp4_0, kp4_1, kp4_2, kp4_3, kp4_4, kp4_5⟩ := p4.c6
  obtain ⟨kp5_0, kp5_1, kp5_2⟩ := p5.c3
  go_wp2_with fail
  rw [← hW0]
  clear hW0; clear kp3_0 kp3_1 kp3_2 kp3_3 kp3_4 kp3_5 kp4_0 kp4_1 kp4_2 kp4_3 kp4_4 kp4_5 kp5_0 kp5_1 kp5_2
  refine (Tryz.alive07 _).mono ?_
  rintro e Wv ⟨rfl, hE⟩
  replace E0 := (Ext.trans E0 hE)
  replace x11 := (x11.ext hE)
  replace x12 := (x12.ext hE)
  replace x13 := (x13.ext hE)
  replace x14 := (x14.ext hE)
  replace x21 := (x21.ext hE)
  replace x22 := (x22.ext hE)
  replace x23 := (x23.ext hE)
  replace x24 := (x24.ext hE)
  replace x31 := (x31.ext hE)
  replace x32 := (x32.ext hE)
  replace p3 := (p3.ext hE); replace p4 := (p4.ext hE); replace p5 := (p5.ext hE); clear hE
  obtain ⟨kp3_0, kp3_1, kp3_2, kp3_3, kp3_4, kp3_5⟩ := p3.c6
  obtain ⟨kp4_0, kp4_1, kp4_2, kp4_3, kp4_4, kp4_5⟩ := p4.c6
  obtain ⟨kp5_0, kp5_1, kp5_2⟩ := p5.c3
  clear x11 x12 x13 x14 x21 x22 x23 x24 x31 x32; go_wp2; go_ret
  exact ⟨rfl, E0⟩

end Go.Rt
