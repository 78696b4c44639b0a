/-
 Chapter 7: of numbers of two intervals the sum, the product and the quotient are in what is reckoned of these.
-/
import Derived.Test.YthmncdhibcoiaaaGreatSqz
import Derived.Test.YthmncdhibcoiaaaGreatIvO
namespace Go.Rt
open Go Go.RowKit Go.Proofs

set_option maxRecDepth 100000 in
set_option maxHeartbeats 8000000 in
theorem Tryz.lawIvalHas {b1 : Bool} {a1 : Option Addr} {n1 c1 : Nat} {d1 : Option Addr} {m1 o1 : Nat} {bb1 : Bool} {aa1 : Option Addr} {nn1 cc1 : Nat} {dd1 : Option Addr} {mm1 oo1 : Nat} {xs1 ys1 us1 zs1 : List Nat} {b2 : Bool} {a2 : Option Addr} {n2 c2 : Nat} {d2 : Option Addr} {m2 o2 : Nat} {bb2 : Bool} {aa2 : Option Addr} {nn2 cc2 : Nat} {dd2 : Option Addr} {mm2 oo2 : Nat} {xs2 ys2 us2 zs2 : List Nat} {w : World} (x11 : Nt w (.slice a1 n1 c1) xs1) (x12 : Nt w (.slice d1 m1 o1) ys1) (x13 : Nt w (.slice aa1 nn1 cc1) us1) (x14 : Nt w (.slice dd1 mm1 oo1) zs1) (x21 : Nt w (.slice a2 n2 c2) xs2) (x22 : Nt w (.slice d2 m2 o2) ys2) (x23 : Nt w (.slice aa2 nn2 cc2) us2) (x24 : Nt w (.slice dd2 mm2 oo2) zs2) (f0 : Nat) (hf0 : f0 < 256) (f1 : Nat) (hf1 : f1 < 256) :
  Calls Tryz.prog 8 #[.agg #[.bool b1, .slice a1 n1 c1, .slice d1 m1 o1, .bool bb1, .slice aa1 nn1 cc1, .slice dd1 mm1 oo1], .agg #[.bool b2, .slice a2 n2 c2, .slice d2 m2 o2, .bool bb2, .slice aa2 nn2 cc2, .slice dd2 mm2 oo2], .agg #[.int .u8 (f0 : Int), .int .u8 (f1 : Int)]] w fun e w' => e = .returned (.bool true) ∧ Ext w w' := by
 have Hf0 := Lib.hid hf0
 have Hf1 := Lib.hid hf1
 have hwf0 : IntKind.i64.wrap (f0 : Int) = (f0 : Int) := by rw [IntKind.wrap_i64]; omega
 clear hf0 hf1
 obtain ⟨W0, hW0⟩ : ∃ W0, W0 = (((w.alloc (.cells #[.bool b1, .slice a1 n1 c1, .slice d1 m1 o1, .bool bb1, .slice aa1 nn1 cc1, .slice dd1 mm1 oo1] 29)).alloc (.cells #[.bool b2, .slice a2 n2 c2, .slice d2 m2 o2, .bool bb2, .slice aa2 nn2 cc2, .slice dd2 mm2 oo2] 29)).alloc (.cells #[.int .u8 (f0 : Int), .int .u8 (f1 : Int)] 48)) := ⟨_, rfl⟩
 have E0 : Ext w W0 := by rw [hW0]; exact (((Ext.alloc1 w (.cells #[.bool b1, .slice a1 n1 c1, .slice d1 m1 o1, .bool bb1, .slice aa1 nn1 cc1, .slice dd1 mm1 oo1] 29)).alloc (.cells #[.bool b2, .slice a2 n2 c2, .slice d2 m2 o2, .bool bb2, .slice aa2 nn2 cc2, .slice dd2 mm2 oo2] 29)).alloc (.cells #[.int .u8 (f0 : Int), .int .u8 (f1 : Int)] 48))
 replace x11 : Nt W0 (.slice a1 n1 c1) xs1 := x11.ext E0
 replace x12 : Nt W0 (.slice d1 m1 o1) ys1 := x12.ext E0
 replace x13 : Nt W0 (.slice aa1 nn1 cc1) us1 := x13.ext E0
 replace x14 : Nt W0 (.slice dd1 mm1 oo1) zs1 := x14.ext E0
 replace x21 : Nt W0 (.slice a2 n2 c2) xs2 := x21.ext E0
 replace x22 : Nt W0 (.slice d2 m2 o2) ys2 := x22.ext E0
 replace x23 : Nt W0 (.slice aa2 nn2 cc2) us2 := x23.ext E0
 replace x24 : Nt W0 (.slice dd2 mm2 oo2) zs2 := x24.ext E0
 have p3 : Bx6 W0 w.heap.size 29 (.bool b1) (.slice a1 n1 c1) (.slice d1 m1 o1) (.bool bb1) (.slice aa1 nn1 cc1) (.slice dd1 mm1 oo1) := by rw [hW0]; exact (Bx6.new w 29 (.bool b1) (.slice a1 n1 c1) (.slice d1 m1 o1) (.bool bb1) (.slice aa1 nn1 cc1) (.slice dd1 mm1 oo1)).ext ((Ext.alloc1 (w.alloc (.cells #[.bool b1, .slice a1 n1 c1, .slice d1 m1 o1, .bool bb1, .slice aa1 nn1 cc1, .slice dd1 mm1 oo1] 29)) (.cells #[.bool b2, .slice a2 n2 c2, .slice d2 m2 o2, .bool bb2, .slice aa2 nn2 cc2, .slice dd2 mm2 oo2] 29)).alloc (.cells #[.int .u8 (f0 : Int), .int .u8 (f1 : Int)] 48))
 have p4 : Bx6 W0 (w.heap.size + 1) 29 (.bool b2) (.slice a2 n2 c2) (.slice d2 m2 o2) (.bool bb2) (.slice aa2 nn2 cc2) (.slice dd2 mm2 oo2) := by rw [hW0]; simpa using (Bx6.new (w.alloc (.cells #[.bool b1, .slice a1 n1 c1, .slice d1 m1 o1, .bool bb1, .slice aa1 nn1 cc1, .slice dd1 mm1 oo1] 29)) 29 (.bool b2) (.slice a2 n2 c2) (.slice d2 m2 o2) (.bool bb2) (.slice aa2 nn2 cc2) (.slice dd2 mm2 oo2)).ext (Ext.alloc1 ((w.alloc (.cells #[.bool b1, .slice a1 n1 c1, .slice d1 m1 o1, .bool bb1, .slice aa1 nn1 cc1, .slice dd1 mm1 oo1] 29)).alloc (.cells #[.bool b2, .slice a2 n2 c2, .slice d2 m2 o2, .bool bb2, .slice aa2 nn2 cc2, .slice dd2 mm2 oo2] 29)) (.cells #[.int .u8 (f0 : Int), .int .u8 (f1 : Int)] 48))
 have p5 : Bx2 W0 (w.heap.size + 1 + 1) 48 (.int .u8 (f0 : Int)) (.int .u8 (f1 : Int)) := by rw [hW0]; simpa using (Bx2.new ((w.alloc (.cells #[.bool b1, .slice a1 n1 c1, .slice d1 m1 o1, .bool bb1, .slice aa1 nn1 cc1, .slice dd1 mm1 oo1] 29)).alloc (.cells #[.bool b2, .slice a2 n2 c2, .slice d2 m2 o2, .bool bb2, .slice aa2 nn2 cc2, .slice dd2 mm2 oo2] 29)) 48 (.int .u8 (f0 : Int)) (.int .u8 (f1 : Int)))
 go_enter Tryz.func8, Tryz.ntmps8
 obtain ⟨kp3_0, kp3_1, kp3_2, kp3_3, kp3_4, kp3_5⟩ := p3.c6
 obtain ⟨kp4_0, kp4_1, kp4_2, kp4_3, kp4_4, kp4_5⟩ := p4.c6
 obtain ⟨kp5_0, kp5_1⟩ := p5.c2
 go_wp2_with fail
 rw [← hW0]
 clear hW0; clear kp3_0 kp3_1 kp3_2 kp3_3 kp3_4 kp3_5 kp4_0 kp4_1 kp4_2 kp4_3 kp4_4 kp4_5 kp5_0 kp5_1
 refine (Tryz.rsFew x11 x12 x13 x14 2 (by omega)).mono ?_
 rintro e WfB1 ⟨B1, rfl, hB1, hE⟩
 replace hB1 : B1 = true → ∃ p, Sw WfB1 (.agg #[.bool b1, .slice a1 n1 c1, .slice d1 m1 o1, .bool bb1, .slice aa1 nn1 cc1, .slice dd1 mm1 oo1]) p ∧ SmS 2 p ∧ p.1 ≤ p.2 := fun e => let ⟨p, k1, k2⟩ := hB1 e; ⟨p, k1.ext hE, k2⟩
 replace E0 := (Ext.trans E0 hE)
 replace x11 := (x11.ext hE)
 replace x12 := (x12.ext hE)
 replace x13 := (x13.ext hE)
 replace x14 := (x14.ext hE)
 replace x21 := (x21.ext hE)
 replace x22 := (x22.ext hE)
 replace x23 := (x23.ext hE)
 replace x24 := (x24.ext hE)
 replace p3 := (p3.ext hE); replace p4 := (p4.ext hE); replace p5 := (p5.ext hE); clear hE
 cases B1
 ·clear hB1
  obtain ⟨kp3_0, kp3_1, kp3_2, kp3_3, kp3_4, kp3_5⟩ := p3.c6
  obtain ⟨kp4_0, kp4_1, kp4_2, kp4_3, kp4_4, kp4_5⟩ := p4.c6
  obtain ⟨kp5_0, kp5_1⟩ := p5.c2
  go_wp2_with fail
  clear kp3_0 kp3_1 kp3_2 kp3_3 kp3_4 kp3_5 kp4_0 kp4_1 kp4_2 kp4_3 kp4_4 kp4_5 kp5_0 kp5_1
  refine (Tryz.alive07 _).mono ?_
  rintro e Wv ⟨rfl, hE⟩
  replace E0 := (Ext.trans E0 hE)
  replace x11 := (x11.ext hE)
  replace x12 := (x12.ext hE)
  replace x13 := (x13.ext hE)
  replace x14 := (x14.ext hE)
  replace x21 := (x21.ext hE)
  replace x22 := (x22.ext hE)
  replace x23 := (x23.ext hE)
  replace x24 := (x24.ext hE)
  replace p3 := (p3.ext hE); replace p4 := (p4.ext hE); replace p5 := (p5.ext hE); clear hE
  obtain ⟨kp3_0, kp3_1, kp3_2, kp3_3, kp3_4, kp3_5⟩ := p3.c6
  obtain ⟨kp4_0, kp4_1, kp4_2, kp4_3, kp4_4, kp4_5⟩ := p4.c6
  obtain ⟨kp5_0, kp5_1⟩ := p5.c2
  clear x11 x12 x13 x14 x21 x22 x23 x24; go_wp2; go_ret
  exact ⟨rfl, E0⟩
 ·obtain ⟨p, hsp, sp, hlp⟩ := hB1 rfl
  have SP := Lib.hid sp
  have HLP := Lib.hid hlp
  clear sp hB1 hlp
  obtain ⟨kp3_0, kp3_1, kp3_2, kp3_3, kp3_4, kp3_5⟩ := p3.c6
  obtain ⟨kp4_0, kp4_1, kp4_2, kp4_3, kp4_4, kp4_5⟩ := p4.c6
  obtain ⟨kp5_0, kp5_1⟩ := p5.c2
  go_wp2_with fail
  clear kp3_0 kp3_1 kp3_2 kp3_3 kp3_4 kp3_5 kp4_0 kp4_1 kp4_2 kp4_3 kp4_4 kp4_5 kp5_0 kp5_1
  refine (Tryz.rsFew x21 x22 x23 x24 2 (by omega)).mono ?_
  rintro e WfB2 ⟨B2, rfl, hB2, hE⟩
  replace hB2 : B2 = true → ∃ p, Sw WfB2 (.agg #[.bool b2, .slice a2 n2 c2, .slice d2 m2 o2, .bool bb2, .slice aa2 nn2 cc2, .slice dd2 mm2 oo2]) p ∧ SmS 2 p ∧ p.1 ≤ p.2 := fun e => let ⟨p, k1, k2⟩ := hB2 e; ⟨p, k1.ext hE, k2⟩
  replace E0 := (Ext.trans E0 hE)
  replace x11 := (x11.ext hE)
  replace x12 := (x12.ext hE)
  replace x13 := (x13.ext hE)
  replace x14 := (x14.ext hE)
  replace x21 := (x21.ext hE)
  replace x22 := (x22.ext hE)
  replace x23 := (x23.ext hE)
  replace x24 := (x24.ext hE)
  replace p3 := (p3.ext hE); replace p4 := (p4.ext hE); replace p5 := (p5.ext hE); replace hsp := (hsp.ext hE); clear hE
  cases B2
  ·clear hB2
   obtain ⟨kp3_0, kp3_1, kp3_2, kp3_3, kp3_4, kp3_5⟩ := p3.c6
   obtain ⟨kp4_0, kp4_1, kp4_2, kp4_3, kp4_4, kp4_5⟩ := p4.c6
   obtain ⟨kp5_0, kp5_1⟩ := p5.c2
   go_wp2_with fail
   clear kp3_0 kp3_1 kp3_2 kp3_3 kp3_4 kp3_5 kp4_0 kp4_1 kp4_2 kp4_3 kp4_4 kp4_5 kp5_0 kp5_1
   refine (Tryz.alive07 _).mono ?_
   rintro e Wv ⟨rfl, hE⟩
   replace E0 := (Ext.trans E0 hE)
   replace x11 := (x11.ext hE)
   replace x12 := (x12.ext hE)
   replace x13 := (x13.ext hE)
   replace x14 := (x14.ext hE)
   replace x21 := (x21.ext hE)
   replace x22 := (x22.ext hE)
   replace x23 := (x23.ext hE)
   replace x24 := (x24.ext hE)
   replace p3 := (p3.ext hE); replace p4 := (p4.ext hE); replace p5 := (p5.ext hE); replace hsp := (hsp.ext hE); clear hE
   obtain ⟨kp3_0, kp3_1, kp3_2, kp3_3, kp3_4, kp3_5⟩ := p3.c6
   obtain ⟨kp4_0, kp4_1, kp4_2, kp4_3, kp4_4, kp4_5⟩ := p4.c6
   obtain ⟨kp5_0, kp5_1⟩ := p5.c2
   clear x11 x12 x13 x14 x21 x22 x23 x24 hsp; go_wp2; go_ret
   exact ⟨rfl, E0⟩
  ·obtain ⟨q, hsq, sq, hlq⟩ := hB2 rfl
   have SQ := Lib.hid sq
   have HLQ := Lib.hid hlq
   clear sq hB2 hlq; clear x11 x12 x13 x14 x21 x22 x23 x24
   have SX := Lib.hid (ofR_sm SP.out Hf0.out).2.2.2.2
   have SY := Lib.hid (ofR_sm SQ.out Hf1.out).2.2.2.2
   have HX : Hid (p.1 ≤ ofR p f0 ∧ ofR p f0 ≤ p.2) := Lib.hid (of_in HLP.out f0 (by have := Hf0.out; omega))
   have HY : Hid (q.1 ≤ ofR q f1 ∧ ofR q f1 ≤ q.2) := Lib.hid (of_in HLQ.out f1 (by have := Hf1.out; omega))
   obtain ⟨x, hx⟩ : ∃ x, x = ofR p f0 := ⟨_, rfl⟩
   obtain ⟨y, hy⟩ : ∃ y, y = ofR q f1 := ⟨_, rfl⟩
   rw [← hx] at SX HX
   rw [← hy] at SY HY
   have HX1 := Lib.hid hx.symm
   have HY1 := Lib.hid hy.symm
   clear hx hy
   obtain ⟨sm, hsm⟩ : ∃ s, s = (p.1 + q.1, p.2 + q.2) := ⟨_, rfl⟩
   have HSM := Lib.hid hsm.symm
   have SSM : Hid (SmS 43 sm) := Lib.hid (by rw [hsm]; exact ⟨(SP.out.lo.add SQ.out.lo).mono (by omega), (SP.out.hi.add SQ.out.hi).mono (by omega)⟩)
   have HS1 : Hid (hasS sm (x + y) = true) := Lib.hid (by rw [hsm]; exact addS_has HX.out HY.out)
   have HS2 : Hid (decide (sm.1 ≤ sm.2) = true) := Lib.hid (by rw [hsm]; exact decide_eq_true (by show p.1 + q.1 ≤ p.2 + q.2; have := HLP.out; have := HLQ.out; grind))
   obtain ⟨pr, hpr⟩ : ∃ s, s = mulS p q := ⟨_, rfl⟩
   have HPR := Lib.hid hpr.symm
   have SPR : Hid (SmS 4 pr) := Lib.hid (by rw [hpr]; exact mulS_sm SP.out SQ.out)
   have HP1 : Hid (hasS pr (x * y) = true) := Lib.hid (by rw [hpr]; exact hasS_iff.2 (mulS_has HX.out HY.out))
   have HP2 : Hid (decide (pr.1 ≤ pr.2) = true) := Lib.hid (by rw [hpr]; exact decide_eq_true mulS_right)
   have SXY : Hid (SmR 43 (x + y) ∧ SmR 42 (x * y)) := Lib.hid ⟨(SX.out.add SY.out).mono (by omega), (SX.out.mul SY.out).mono (by omega)⟩
   obtain ⟨wd, hwd⟩ : ∃ s, s = outS pr f0 := ⟨_, rfl⟩
   have HWD := Lib.hid hwd.symm
   have SWD : Hid (SmS 13 wd) := Lib.hid (by rw [hwd]; exact outS_sm SPR.out Hf0.out)
   have HW1 : Hid (inS pr wd = true) := Lib.hid (by rw [hwd]; exact inS_out (of_decide_eq_true HP2.out) f0)
   have HW2 : Hid (decide (wd.1 ≤ wd.2) = true) := Lib.hid (by rw [hwd]; exact decide_eq_true (outS_right (of_decide_eq_true HP2.out) f0))
   clear hsm hpr hwd
   obtain ⟨kp3_0, kp3_1, kp3_2, kp3_3, kp3_4, kp3_5⟩ := p3.c6
   obtain ⟨kp4_0, kp4_1, kp4_2, kp4_3, kp4_4, kp4_5⟩ := p4.c6
   obtain ⟨kp5_0, kp5_1⟩ := p5.c2
   go_upto_region 3 with (fail)
   clear kp3_0 kp3_1 kp3_2 kp3_3 kp3_4 kp3_5 kp4_0 kp4_1 kp4_2 kp4_3 kp4_4 kp4_5 kp5_0 kp5_1; have ltp3 := p3.lt; have ltp4 := p4.lt; have ltp5 := p5.lt; have szw3 := Ext.size E0
   refine region_go2 [.one fun v _ => v = .agg #[.bool b1, .slice a1 n1 c1, .slice d1 m1 o1, .bool bb1, .slice aa1 nn1 cc1, .slice dd1 mm1 oo1],
     .one fun v _ => v = .pointer (some ⟨w.heap.size + 1 + 1, 0, none⟩),
     .one fun v _ => v = .int .u8 (f0 : Int),
     .one fun v W => Rw W v x,
     .one fun v _ => v = .agg #[.bool b2, .slice a2 n2 c2, .slice d2 m2 o2, .bool bb2, .slice aa2 nn2 cc2, .slice dd2 mm2 oo2],
     .one fun v _ => v = .pointer (some ⟨w.heap.size + 1 + 1, 1, none⟩),
     .one fun v _ => v = .int .u8 (f1 : Int),
     .one fun v W => Rw W v y,
     .one fun v W => ∃ g, v = .pointer (some ⟨g, 0, none⟩) ∧ WfB2.heap.size ≤ g ∧ Form W g 27 3,
     .one fun v W => ∃ g, v = .pointer (some ⟨g, 0, none⟩) ∧ WfB2.heap.size ≤ g ∧ Form W g 27 3,
     .three 8 3 (fun p r _ W => Put3 WfB2.heap.size 27 p r W),
     .three 9 7 (fun p r _ W => Put3 WfB2.heap.size 27 p r W)]
    (fun W => Ext w W ∧ Bx6 W w.heap.size 29 (.bool b1) (.slice a1 n1 c1) (.slice d1 m1 o1) (.bool bb1) (.slice aa1 nn1 cc1) (.slice dd1 mm1 oo1) ∧ Bx6 W (w.heap.size + 1) 29 (.bool b2) (.slice a2 n2 c2) (.slice d2 m2 o2) (.bool bb2) (.slice aa2 nn2 cc2) (.slice dd2 mm2 oo2) ∧ Bx2 W (w.heap.size + 1 + 1) 48 (.int .u8 (f0 : Int)) (.int .u8 (f1 : Int)) ∧ Sw W (.agg #[.bool b1, .slice a1 n1 c1, .slice d1 m1 o1, .bool bb1, .slice aa1 nn1 cc1, .slice dd1 mm1 oo1]) p ∧ Sw W (.agg #[.bool b2, .slice a2 n2 c2, .slice d2 m2 o2, .bool bb2, .slice aa2 nn2 cc2, .slice dd2 mm2 oo2]) q ∧ WfB2.heap.size ≤ W.heap.size) WfB2.heap.size [8, 9] [Tag.any, Tag.any, Tag.any, Tag.any, Tag.any, Tag.any, Tag.any, Tag.any, Tag.any, Tag.any, Tag.new 8, Tag.new 9] ⟨Good.is _, Good.is _, Good.is _, Good.rat _, Good.is _, Good.is _, Good.is _, Good.rat _, Good.box _ _ _, Good.box _ _ _, tag_put3, tag_put3, trivial⟩ (fun g0 hg => by simp at hg)
    (fun W W1 hS hE => ⟨(Ext.trans hS.1 hE), (hS.2.1.ext hE), (hS.2.2.1.ext hE), (hS.2.2.2.1.ext hE), (hS.2.2.2.2.1.ext hE), (hS.2.2.2.2.2.1.ext hE), (Nat.le_trans hS.2.2.2.2.2.2 (Ext.size hE))⟩) ⟨E0, p3, p4, p5, hsp, hsq, Nat.le_refl _⟩ (fun m hm => by simp at hm; rcases hm with rfl | rfl <;> rfl) (by kernel_rfl) (by kernel_rfl) (by kernel_rfl) (by kernel_rfl) (A := ?A3) ?hA3 ?howe3 ?hfin3
   case hA3 =>
    intro vs
    simp only [putAll, Act.put, sA, sZ, sS, Nat.zero_add, Nat.reduceAdd]
    exact rfl
   case howe3 =>
    clear E0 p3 p4 p5 hsp hsq
    intro hf
    refine ⟨owesM 0 [] hf rfl rfl (by kernel_rfl) ?_, owesM 1 [] hf rfl rfl (by kernel_rfl) ?_, owesM 2 [1] hf rfl rfl (by kernel_rfl) ?_, owesM 3 [0, 2] hf rfl rfl (by kernel_rfl) ?_, owesM 4 [] hf rfl rfl (by kernel_rfl) ?_, owesM 5 [] hf rfl rfl (by kernel_rfl) ?_, owesM 6 [5] hf rfl rfl (by kernel_rfl) ?_, owesM 7 [4, 6] hf rfl rfl (by kernel_rfl) ?_, owesN 8 [] hf rfl (by kernel_rfl) ?_, owesN 9 [] hf rfl (by kernel_rfl) ?_, owesP 10 8 [8, 3] hf rfl rfl (by kernel_rfl) rfl (by kernel_rfl) ?_, owesP 11 9 [9, 7] hf rfl rfl (by kernel_rfl) rfl (by kernel_rfl) ?_, trivial⟩
    all_goals intro vs W hS hp hx KO hKO
    all_goals simp only [Act.put, sA, sZ, sS] at hKO
    ·have fc0 := hS.2.1.cell0; have fc1 := hS.2.1.cell1; have fc2 := hS.2.1.cell2; have fc3 := hS.2.1.cell3; have fc4 := hS.2.1.cell4; have fc5 := hS.2.1.cell5; go_simp; exact hKO _ W (.refl W) rfl
    ·go_simp; exact hKO _ W (.refl W) rfl
    ·have e1 := isOf hp.1; simp only [e1] at hKO; have fc0 := hS.2.2.2.1.cell0; go_simp; exact hKO _ W (.refl W) rfl
    ·have e0 := isOf hp.1; have e2 := isOf hp.2.1; simp only [e0, e2] at hKO; go_simp
     refine (Tryz.lawOf7 (hS.2.2.2.2.1) SP.out f0 Hf0.out).mono ?_
     rintro e W1 ⟨v, rfl, hv, hE⟩
     rw [HX1.out] at hv
     exact hKO _ W1 hE hv
    ·have fc0 := hS.2.2.1.cell0; have fc1 := hS.2.2.1.cell1; have fc2 := hS.2.2.1.cell2; have fc3 := hS.2.2.1.cell3; have fc4 := hS.2.2.1.cell4; have fc5 := hS.2.2.1.cell5; go_simp; exact hKO _ W (.refl W) rfl
    ·go_simp; exact hKO _ W (.refl W) rfl
    ·have e5 := isOf hp.1; simp only [e5] at hKO; have fc1 := hS.2.2.2.1.cell1; go_simp; exact hKO _ W (.refl W) rfl
    ·have e4 := isOf hp.1; have e6 := isOf hp.2.1; simp only [e4, e6] at hKO; go_simp
     refine (Tryz.lawOf7 (hS.2.2.2.2.2.1) SQ.out f1 Hf1.out).mono ?_
     rintro e W1 ⟨v, rfl, hv, hE⟩
     rw [HY1.out] at hv
     exact hKO _ W1 hE hv
    ·have hn := Bx3.new W 27 (.bool false) (.slice none 0 0) (.slice none 0 0)
     have hE := Ext.alloc1 W (.cells #[.bool false, .slice none 0 0, .slice none 0 0] 27)
     have hsz := hS.2.2.2.2.2.2
     go_simp
     exact hKO _ _ rfl ⟨_, rfl, hsz, hn.form⟩
    ·have hn := Bx3.new W 27 (.bool false) (.slice none 0 0) (.slice none 0 0)
     have hE := Ext.alloc1 W (.cells #[.bool false, .slice none 0 0, .slice none 0 0] 27)
     have hsz := hS.2.2.2.2.2.2
     go_simp
     exact hKO _ _ rfl ⟨_, rfl, hsz, hn.form⟩
    ·have q8 := hp.1; have q3 := hp.2.1
     obtain ⟨g, ev, hg, hf⟩ := q8
     replace ev : vs 8 = _ := ev
     obtain ⟨x0_0, x0_1, x0_2, hx, hno⟩ := hf.bx3
     have qr := q3
     obtain ⟨b3, a3, n3, c3, d3, m3, o3, er, -, -, -⟩ := qr
     replace er : vs 3 = _ := er
     have r0 := hx.froz0
     have t0 := hx.cell0
     have r1 := hx.froz1
     have t1 := hx.cell1
     have r2 := hx.froz2
     have t2 := hx.cell2
     have hw := Wr.set3 hx hno b3 a3 n3 c3 d3 m3 o3
     have hq := hx.set (.bool b3) (.slice a3 n3 c3) (.slice d3 m3 o3)
     simp only [ev, er] at hKO; go_simp
     exact hKO _ g rfl hg hw ⟨(Ext.wr hS.1 hw (by omega)), (hS.2.1.wr hw (by omega)), (hS.2.2.1.wr hw (by omega)), (hS.2.2.2.1.wr hw (by omega)), (hS.2.2.2.2.1.wr hw), (hS.2.2.2.2.2.1.wr hw), (Nat.le_trans hS.2.2.2.2.2.2 hw.apart.size)⟩ ⟨g, b3, a3, n3, c3, d3, m3, o3, ev, er, hg, hq⟩
    ·have q9 := hp.1; have q7 := hp.2.1
     obtain ⟨g, ev, hg, hf⟩ := q9
     replace ev : vs 9 = _ := ev
     obtain ⟨x0_0, x0_1, x0_2, hx, hno⟩ := hf.bx3
     have qr := q7
     obtain ⟨b3, a3, n3, c3, d3, m3, o3, er, -, -, -⟩ := qr
     replace er : vs 7 = _ := er
     have r0 := hx.froz0
     have t0 := hx.cell0
     have r1 := hx.froz1
     have t1 := hx.cell1
     have r2 := hx.froz2
     have t2 := hx.cell2
     have hw := Wr.set3 hx hno b3 a3 n3 c3 d3 m3 o3
     have hq := hx.set (.bool b3) (.slice a3 n3 c3) (.slice d3 m3 o3)
     simp only [ev, er] at hKO; go_simp
     exact hKO _ g rfl hg hw ⟨(Ext.wr hS.1 hw (by omega)), (hS.2.1.wr hw (by omega)), (hS.2.2.1.wr hw (by omega)), (hS.2.2.2.1.wr hw (by omega)), (hS.2.2.2.2.1.wr hw), (hS.2.2.2.2.2.1.wr hw), (Nat.le_trans hS.2.2.2.2.2.2 hw.apart.size)⟩ ⟨g, b3, a3, n3, c3, d3, m3, o3, ev, er, hg, hq⟩
   intro vs W3 hS hM hp
   clear szw3 E0 p3 p4 p5 hsp hsq
   obtain ⟨E0, p3, p4, p5, hsp, hsq, sz3⟩ := hS
   obtain ⟨h3_0, h3_1, h3_2, h3_3, h3_4, h3_5, h3_6, h3_7, h3_8, h3_9, h3_10, h3_11, -⟩ := hp
   obtain ⟨g3_10, b3_10, a3_10, n3_10, c3_10, d3_10, m3_10, o3_10, ev3_10, er3_10, hg3_10, p3_10⟩ := h3_10
   replace ev3_10 : vs 8 = _ := ev3_10; replace er3_10 : vs 3 = _ := er3_10; replace h3_3 := (show Rw W3 (vs 3) x from h3_3)
   rw [er3_10] at h3_3
   obtain ⟨g3_11, b3_11, a3_11, n3_11, c3_11, d3_11, m3_11, o3_11, ev3_11, er3_11, hg3_11, p3_11⟩ := h3_11
   replace ev3_11 : vs 9 = _ := ev3_11; replace er3_11 : vs 7 = _ := er3_11; replace h3_7 := (show Rw W3 (vs 7) y from h3_7)
   rw [er3_11] at h3_7
   replace h3_0 : vs 0 = .agg #[.bool b1, .slice a1 n1 c1, .slice d1 m1 o1, .bool bb1, .slice aa1 nn1 cc1, .slice dd1 mm1 oo1] := h3_0
   replace h3_1 : vs 1 = .pointer (some ⟨w.heap.size + 1 + 1, 0, none⟩) := h3_1
   replace h3_2 : vs 2 = .int .u8 (f0 : Int) := h3_2
   replace h3_4 : vs 4 = .agg #[.bool b2, .slice a2 n2 c2, .slice d2 m2 o2, .bool bb2, .slice aa2 nn2 cc2, .slice dd2 mm2 oo2] := h3_4
   replace h3_5 : vs 5 = .pointer (some ⟨w.heap.size + 1 + 1, 1, none⟩) := h3_5
   replace h3_6 : vs 6 = .int .u8 (f1 : Int) := h3_6
   clear hM
   simp only [ev3_10, er3_10, ev3_11, er3_11, h3_0, h3_1, h3_2, h3_4, h3_5, h3_6]
   clear ev3_10 er3_10 ev3_11 er3_11 h3_0 h3_1 h3_2 h3_4 h3_5 h3_6 h3_8 h3_9
   obtain ⟨kp3_0, kp3_1, kp3_2, kp3_3, kp3_4, kp3_5⟩ := p3.c6
   obtain ⟨kp4_0, kp4_1, kp4_2, kp4_3, kp4_4, kp4_5⟩ := p4.c6
   obtain ⟨kp5_0, kp5_1⟩ := p5.c2
   obtain ⟨kp3_10_0, kp3_10_1, kp3_10_2⟩ := p3_10.c3
   obtain ⟨kp3_11_0, kp3_11_1, kp3_11_2⟩ := p3_11.c3
   go_upto_region 4 with (fail)
   clear kp3_0 kp3_1 kp3_2 kp3_3 kp3_4 kp3_5 kp4_0 kp4_1 kp4_2 kp4_3 kp4_4 kp4_5 kp5_0 kp5_1 kp3_10_0 kp3_10_1 kp3_10_2 kp3_11_0 kp3_11_1 kp3_11_2; have ltp3_10 := p3_10.lt; have ltp3_11 := p3_11.lt; have szw4 := Ext.size E0
   refine region_go2 [.one fun v _ => v = .agg #[.bool b1, .slice a1 n1 c1, .slice d1 m1 o1, .bool bb1, .slice aa1 nn1 cc1, .slice dd1 mm1 oo1],
     .one fun v _ => v = .agg #[.bool b2, .slice a2 n2 c2, .slice d2 m2 o2, .bool bb2, .slice aa2 nn2 cc2, .slice dd2 mm2 oo2],
     .one fun v W => Sw W v sm,
     .one fun v _ => v = .agg #[.bool b1, .slice a1 n1 c1, .slice d1 m1 o1, .bool bb1, .slice aa1 nn1 cc1, .slice dd1 mm1 oo1],
     .one fun v _ => v = .agg #[.bool b2, .slice a2 n2 c2, .slice d2 m2 o2, .bool bb2, .slice aa2 nn2 cc2, .slice dd2 mm2 oo2],
     .one fun v W => Sw W v pr,
     .one fun v W => ∃ g, v = .pointer (some ⟨g, 0, none⟩) ∧ W3.heap.size ≤ g ∧ Form W g 29 6,
     .one fun v W => ∃ g, v = .pointer (some ⟨g, 0, none⟩) ∧ W3.heap.size ≤ g ∧ Form W g 29 6,
     .three 6 2 (fun p r _ W => Put6 W3.heap.size 29 p r W),
     .three 7 5 (fun p r _ W => Put6 W3.heap.size 29 p r W)]
    (fun W => Ext w W ∧ Bx6 W w.heap.size 29 (.bool b1) (.slice a1 n1 c1) (.slice d1 m1 o1) (.bool bb1) (.slice aa1 nn1 cc1) (.slice dd1 mm1 oo1) ∧ Bx6 W (w.heap.size + 1) 29 (.bool b2) (.slice a2 n2 c2) (.slice d2 m2 o2) (.bool bb2) (.slice aa2 nn2 cc2) (.slice dd2 mm2 oo2) ∧ Bx2 W (w.heap.size + 1 + 1) 48 (.int .u8 (f0 : Int)) (.int .u8 (f1 : Int)) ∧ Sw W (.agg #[.bool b1, .slice a1 n1 c1, .slice d1 m1 o1, .bool bb1, .slice aa1 nn1 cc1, .slice dd1 mm1 oo1]) p ∧ Sw W (.agg #[.bool b2, .slice a2 n2 c2, .slice d2 m2 o2, .bool bb2, .slice aa2 nn2 cc2, .slice dd2 mm2 oo2]) q ∧ Rw W (.agg #[.bool b3_10, .slice a3_10 n3_10 c3_10, .slice d3_10 m3_10 o3_10]) x ∧ Bx3 W g3_10 27 (.bool b3_10) (.slice a3_10 n3_10 c3_10) (.slice d3_10 m3_10 o3_10) ∧ Rw W (.agg #[.bool b3_11, .slice a3_11 n3_11 c3_11, .slice d3_11 m3_11 o3_11]) y ∧ Bx3 W g3_11 27 (.bool b3_11) (.slice a3_11 n3_11 c3_11) (.slice d3_11 m3_11 o3_11) ∧ W3.heap.size ≤ W.heap.size) W3.heap.size [6, 7] [Tag.any, Tag.any, Tag.any, Tag.any, Tag.any, Tag.any, Tag.any, Tag.any, Tag.new 6, Tag.new 7] ⟨Good.is _, Good.is _, Good.span _, Good.is _, Good.is _, Good.span _, Good.box _ _ _, Good.box _ _ _, tag_put6, tag_put6, trivial⟩ (fun g0 hg => by simp at hg)
    (fun W W1 hS hE => ⟨(Ext.trans hS.1 hE), (hS.2.1.ext hE), (hS.2.2.1.ext hE), (hS.2.2.2.1.ext hE), (hS.2.2.2.2.1.ext hE), (hS.2.2.2.2.2.1.ext hE), (hS.2.2.2.2.2.2.1.ext hE), (hS.2.2.2.2.2.2.2.1.ext hE), (hS.2.2.2.2.2.2.2.2.1.ext hE), (hS.2.2.2.2.2.2.2.2.2.1.ext hE), (Nat.le_trans hS.2.2.2.2.2.2.2.2.2.2 (Ext.size hE))⟩) ⟨E0, p3, p4, p5, hsp, hsq, h3_3, p3_10, h3_7, p3_11, Nat.le_refl _⟩ (fun m hm => by simp at hm; rcases hm with rfl | rfl <;> rfl) (by kernel_rfl) (by kernel_rfl) (by kernel_rfl) (by kernel_rfl) (A := ?A4) ?hA4 ?howe4 ?hfin4
   case hA4 =>
    intro vs
    simp only [putAll, Act.put, sA, sZ, sS, Nat.zero_add, Nat.reduceAdd]
    exact rfl
   case howe4 =>
    clear E0 p3 p4 p5 hsp hsq h3_3 p3_10 h3_7 p3_11
    intro hf
    refine ⟨owesM 0 [] hf rfl rfl (by kernel_rfl) ?_, owesM 1 [] hf rfl rfl (by kernel_rfl) ?_, owesM 2 [0, 1] hf rfl rfl (by kernel_rfl) ?_, owesM 3 [] hf rfl rfl (by kernel_rfl) ?_, owesM 4 [] hf rfl rfl (by kernel_rfl) ?_, owesM 5 [3, 4] hf rfl rfl (by kernel_rfl) ?_, owesN 6 [] hf rfl (by kernel_rfl) ?_, owesN 7 [] hf rfl (by kernel_rfl) ?_, owesP 8 6 [6, 2] hf rfl rfl (by kernel_rfl) rfl (by kernel_rfl) ?_, owesP 9 7 [7, 5] hf rfl rfl (by kernel_rfl) rfl (by kernel_rfl) ?_, trivial⟩
    all_goals intro vs W hS hp hx KO hKO
    all_goals simp only [Act.put, sA, sZ, sS] at hKO
    ·have fc0 := hS.2.1.cell0; have fc1 := hS.2.1.cell1; have fc2 := hS.2.1.cell2; have fc3 := hS.2.1.cell3; have fc4 := hS.2.1.cell4; have fc5 := hS.2.1.cell5; go_simp; exact hKO _ W (.refl W) rfl
    ·have fc0 := hS.2.2.1.cell0; have fc1 := hS.2.2.1.cell1; have fc2 := hS.2.2.1.cell2; have fc3 := hS.2.2.1.cell3; have fc4 := hS.2.2.1.cell4; have fc5 := hS.2.2.1.cell5; go_simp; exact hKO _ W (.refl W) rfl
    ·have e0 := isOf hp.1; have e1 := isOf hp.2.1; simp only [e0, e1] at hKO; go_simp
     refine (Tryz.ivAdd (hS.2.2.2.2.1) (hS.2.2.2.2.2.1) SP.out SQ.out (by omega)).mono ?_
     rintro e W1 ⟨v, rfl, hv, hE⟩
     rw [HSM.out] at hv
     exact hKO _ W1 hE hv
    ·have fc0 := hS.2.1.cell0; have fc1 := hS.2.1.cell1; have fc2 := hS.2.1.cell2; have fc3 := hS.2.1.cell3; have fc4 := hS.2.1.cell4; have fc5 := hS.2.1.cell5; go_simp; exact hKO _ W (.refl W) rfl
    ·have fc0 := hS.2.2.1.cell0; have fc1 := hS.2.2.1.cell1; have fc2 := hS.2.2.1.cell2; have fc3 := hS.2.2.1.cell3; have fc4 := hS.2.2.1.cell4; have fc5 := hS.2.2.1.cell5; go_simp; exact hKO _ W (.refl W) rfl
    ·have e3 := isOf hp.1; have e4 := isOf hp.2.1; simp only [e3, e4] at hKO; go_simp
     refine (Tryz.ivMul (hS.2.2.2.2.1) (hS.2.2.2.2.2.1) SP.out SQ.out (by omega)).mono ?_
     rintro e W1 ⟨v, rfl, hv, hE⟩
     rw [HPR.out] at hv
     exact hKO _ W1 hE hv
    ·have hn := Bx6.new W 29 (.bool false) (.slice none 0 0) (.slice none 0 0) (.bool false) (.slice none 0 0) (.slice none 0 0)
     have hE := Ext.alloc1 W (.cells #[.bool false, .slice none 0 0, .slice none 0 0, .bool false, .slice none 0 0, .slice none 0 0] 29)
     have hsz := hS.2.2.2.2.2.2.2.2.2.2
     go_simp
     exact hKO _ _ rfl ⟨_, rfl, hsz, hn.form⟩
    ·have hn := Bx6.new W 29 (.bool false) (.slice none 0 0) (.slice none 0 0) (.bool false) (.slice none 0 0) (.slice none 0 0)
     have hE := Ext.alloc1 W (.cells #[.bool false, .slice none 0 0, .slice none 0 0, .bool false, .slice none 0 0, .slice none 0 0] 29)
     have hsz := hS.2.2.2.2.2.2.2.2.2.2
     go_simp
     exact hKO _ _ rfl ⟨_, rfl, hsz, hn.form⟩
    ·have q6 := hp.1; have q2 := hp.2.1
     obtain ⟨g, ev, hg, hf⟩ := q6
     replace ev : vs 6 = _ := ev
     obtain ⟨x0_0, x0_1, x0_2, x0_3, x0_4, x0_5, hx, hno⟩ := hf.bx6
     have qr := q2
     obtain ⟨b3, a3, n3, c3, d3, m3, o3, bb3, aa3, nn3, cc3, dd3, mm3, oo3, er, -, -⟩ := qr
     replace er : vs 2 = _ := er
     have r0 := hx.froz0
     have t0 := hx.cell0
     have r1 := hx.froz1
     have t1 := hx.cell1
     have r2 := hx.froz2
     have t2 := hx.cell2
     have r3 := hx.froz3
     have t3 := hx.cell3
     have r4 := hx.froz4
     have t4 := hx.cell4
     have r5 := hx.froz5
     have t5 := hx.cell5
     have hw := Wr.set6 hx hno b3 a3 n3 c3 d3 m3 o3 bb3 aa3 nn3 cc3 dd3 mm3 oo3
     have hq := hx.set (.bool b3) (.slice a3 n3 c3) (.slice d3 m3 o3) (.bool bb3) (.slice aa3 nn3 cc3) (.slice dd3 mm3 oo3)
     simp only [ev, er] at hKO; go_simp
     exact hKO _ g rfl hg hw ⟨(Ext.wr hS.1 hw (by omega)), (hS.2.1.wr hw (by omega)), (hS.2.2.1.wr hw (by omega)), (hS.2.2.2.1.wr hw (by omega)), (hS.2.2.2.2.1.wr hw), (hS.2.2.2.2.2.1.wr hw), (hS.2.2.2.2.2.2.1.wr hw), (hS.2.2.2.2.2.2.2.1.wr hw (by omega)), (hS.2.2.2.2.2.2.2.2.1.wr hw), (hS.2.2.2.2.2.2.2.2.2.1.wr hw (by omega)), (Nat.le_trans hS.2.2.2.2.2.2.2.2.2.2 hw.apart.size)⟩ ⟨g, b3, a3, n3, c3, d3, m3, o3, bb3, aa3, nn3, cc3, dd3, mm3, oo3, ev, er, hg, hq⟩
    ·have q7 := hp.1; have q5 := hp.2.1
     obtain ⟨g, ev, hg, hf⟩ := q7
     replace ev : vs 7 = _ := ev
     obtain ⟨x0_0, x0_1, x0_2, x0_3, x0_4, x0_5, hx, hno⟩ := hf.bx6
     have qr := q5
     obtain ⟨b3, a3, n3, c3, d3, m3, o3, bb3, aa3, nn3, cc3, dd3, mm3, oo3, er, -, -⟩ := qr
     replace er : vs 5 = _ := er
     have r0 := hx.froz0
     have t0 := hx.cell0
     have r1 := hx.froz1
     have t1 := hx.cell1
     have r2 := hx.froz2
     have t2 := hx.cell2
     have r3 := hx.froz3
     have t3 := hx.cell3
     have r4 := hx.froz4
     have t4 := hx.cell4
     have r5 := hx.froz5
     have t5 := hx.cell5
     have hw := Wr.set6 hx hno b3 a3 n3 c3 d3 m3 o3 bb3 aa3 nn3 cc3 dd3 mm3 oo3
     have hq := hx.set (.bool b3) (.slice a3 n3 c3) (.slice d3 m3 o3) (.bool bb3) (.slice aa3 nn3 cc3) (.slice dd3 mm3 oo3)
     simp only [ev, er] at hKO; go_simp
     exact hKO _ g rfl hg hw ⟨(Ext.wr hS.1 hw (by omega)), (hS.2.1.wr hw (by omega)), (hS.2.2.1.wr hw (by omega)), (hS.2.2.2.1.wr hw (by omega)), (hS.2.2.2.2.1.wr hw), (hS.2.2.2.2.2.1.wr hw), (hS.2.2.2.2.2.2.1.wr hw), (hS.2.2.2.2.2.2.2.1.wr hw (by omega)), (hS.2.2.2.2.2.2.2.2.1.wr hw), (hS.2.2.2.2.2.2.2.2.2.1.wr hw (by omega)), (Nat.le_trans hS.2.2.2.2.2.2.2.2.2.2 hw.apart.size)⟩ ⟨g, b3, a3, n3, c3, d3, m3, o3, bb3, aa3, nn3, cc3, dd3, mm3, oo3, ev, er, hg, hq⟩
   intro vs W4 hS hM hp
   clear szw4 E0 p3 p4 p5 hsp hsq h3_3 p3_10 h3_7 p3_11
   obtain ⟨E0, p3, p4, p5, hsp, hsq, h3_3, p3_10, h3_7, p3_11, sz4⟩ := hS
   obtain ⟨h4_0, h4_1, h4_2, h4_3, h4_4, h4_5, h4_6, h4_7, h4_8, h4_9, -⟩ := hp
   obtain ⟨g4_8, b4_8, a4_8, n4_8, c4_8, d4_8, m4_8, o4_8, bb4_8, aa4_8, nn4_8, cc4_8, dd4_8, mm4_8, oo4_8, ev4_8, er4_8, hg4_8, p4_8⟩ := h4_8
   replace ev4_8 : vs 6 = _ := ev4_8; replace er4_8 : vs 2 = _ := er4_8; replace h4_2 := (show Sw W4 (vs 2) sm from h4_2)
   rw [er4_8] at h4_2
   obtain ⟨g4_9, b4_9, a4_9, n4_9, c4_9, d4_9, m4_9, o4_9, bb4_9, aa4_9, nn4_9, cc4_9, dd4_9, mm4_9, oo4_9, ev4_9, er4_9, hg4_9, p4_9⟩ := h4_9
   replace ev4_9 : vs 7 = _ := ev4_9; replace er4_9 : vs 5 = _ := er4_9; replace h4_5 := (show Sw W4 (vs 5) pr from h4_5)
   rw [er4_9] at h4_5
   replace h4_0 : vs 0 = .agg #[.bool b1, .slice a1 n1 c1, .slice d1 m1 o1, .bool bb1, .slice aa1 nn1 cc1, .slice dd1 mm1 oo1] := h4_0
   replace h4_1 : vs 1 = .agg #[.bool b2, .slice a2 n2 c2, .slice d2 m2 o2, .bool bb2, .slice aa2 nn2 cc2, .slice dd2 mm2 oo2] := h4_1
   replace h4_3 : vs 3 = .agg #[.bool b1, .slice a1 n1 c1, .slice d1 m1 o1, .bool bb1, .slice aa1 nn1 cc1, .slice dd1 mm1 oo1] := h4_3
   replace h4_4 : vs 4 = .agg #[.bool b2, .slice a2 n2 c2, .slice d2 m2 o2, .bool bb2, .slice aa2 nn2 cc2, .slice dd2 mm2 oo2] := h4_4
   clear hM
   simp only [ev4_8, er4_8, ev4_9, er4_9, h4_0, h4_1, h4_3, h4_4]
   clear ev4_8 er4_8 ev4_9 er4_9 h4_0 h4_1 h4_3 h4_4 h4_6 h4_7
   obtain ⟨kp3_0, kp3_1, kp3_2, kp3_3, kp3_4, kp3_5⟩ := p3.c6
   obtain ⟨kp4_0, kp4_1, kp4_2, kp4_3, kp4_4, kp4_5⟩ := p4.c6
   obtain ⟨kp5_0, kp5_1⟩ := p5.c2
   obtain ⟨kp3_10_0, kp3_10_1, kp3_10_2⟩ := p3_10.c3
   obtain ⟨kp3_11_0, kp3_11_1, kp3_11_2⟩ := p3_11.c3
   obtain ⟨kp4_8_0, kp4_8_1, kp4_8_2, kp4_8_3, kp4_8_4, kp4_8_5⟩ := p4_8.c6
   obtain ⟨kp4_9_0, kp4_9_1, kp4_9_2, kp4_9_3, kp4_9_4, kp4_9_5⟩ := p4_9.c6
   go_upto_region 5 with (fail)
   clear kp3_0 kp3_1 kp3_2 kp3_3 kp3_4 kp3_5 kp4_0 kp4_1 kp4_2 kp4_3 kp4_4 kp4_5 kp5_0 kp5_1 kp3_10_0 kp3_10_1 kp3_10_2 kp3_11_0 kp3_11_1 kp3_11_2 kp4_8_0 kp4_8_1 kp4_8_2 kp4_8_3 kp4_8_4 kp4_8_5 kp4_9_0 kp4_9_1 kp4_9_2 kp4_9_3 kp4_9_4 kp4_9_5; have ltp4_8 := p4_8.lt; have ltp4_9 := p4_9.lt; have szw5 := Ext.size E0
   refine region_gs [.one fun v _ => v = .agg #[.bool b4_8, .slice a4_8 n4_8 c4_8, .slice d4_8 m4_8 o4_8, .bool bb4_8, .slice aa4_8 nn4_8 cc4_8, .slice dd4_8 mm4_8 oo4_8],
     .one fun v _ => v = .agg #[.bool b3_10, .slice a3_10 n3_10 c3_10, .slice d3_10 m3_10 o3_10],
     .one fun v _ => v = .agg #[.bool b3_11, .slice a3_11 n3_11 c3_11, .slice d3_11 m3_11 o3_11],
     .one fun v W => Rw W v (x + y),
     .one fun v _ => v = .bool true,
     .one fun v _ => v = .bool false,
     .one fun v _ => v = .bool false,
     .one fun v _ => v = .agg #[.bool b4_9, .slice a4_9 n4_9 c4_9, .slice d4_9 m4_9 o4_9, .bool bb4_9, .slice aa4_9 nn4_9 cc4_9, .slice dd4_9 mm4_9 oo4_9],
     .one fun v _ => v = .agg #[.bool b3_10, .slice a3_10 n3_10 c3_10, .slice d3_10 m3_10 o3_10],
     .one fun v _ => v = .agg #[.bool b3_11, .slice a3_11 n3_11 c3_11, .slice d3_11 m3_11 o3_11],
     .one fun v W => Rw W v (x * y),
     .one fun v _ => v = .bool true,
     .one fun v _ => v = .bool false,
     .one fun v _ => v = .bool false,
     .one fun v _ => v = .bool false,
     .one fun v _ => v = .agg #[.bool b4_8, .slice a4_8 n4_8 c4_8, .slice d4_8 m4_8 o4_8, .bool bb4_8, .slice aa4_8 nn4_8 cc4_8, .slice dd4_8 mm4_8 oo4_8],
     .one fun v _ => v = .bool true,
     .one fun v _ => v = .bool false,
     .one fun v _ => v = .bool false,
     .one fun v _ => v = .bool false,
     .one fun v _ => v = .agg #[.bool b4_9, .slice a4_9 n4_9 c4_9, .slice d4_9 m4_9 o4_9, .bool bb4_9, .slice aa4_9 nn4_9 cc4_9, .slice dd4_9 mm4_9 oo4_9],
     .one fun v _ => v = .bool true,
     .one fun v _ => v = .bool false,
     .one fun v _ => v = .bool false]
    (fun W => Ext w W ∧ Bx6 W w.heap.size 29 (.bool b1) (.slice a1 n1 c1) (.slice d1 m1 o1) (.bool bb1) (.slice aa1 nn1 cc1) (.slice dd1 mm1 oo1) ∧ Bx6 W (w.heap.size + 1) 29 (.bool b2) (.slice a2 n2 c2) (.slice d2 m2 o2) (.bool bb2) (.slice aa2 nn2 cc2) (.slice dd2 mm2 oo2) ∧ Bx2 W (w.heap.size + 1 + 1) 48 (.int .u8 (f0 : Int)) (.int .u8 (f1 : Int)) ∧ Sw W (.agg #[.bool b1, .slice a1 n1 c1, .slice d1 m1 o1, .bool bb1, .slice aa1 nn1 cc1, .slice dd1 mm1 oo1]) p ∧ Sw W (.agg #[.bool b2, .slice a2 n2 c2, .slice d2 m2 o2, .bool bb2, .slice aa2 nn2 cc2, .slice dd2 mm2 oo2]) q ∧ Rw W (.agg #[.bool b3_10, .slice a3_10 n3_10 c3_10, .slice d3_10 m3_10 o3_10]) x ∧ Bx3 W g3_10 27 (.bool b3_10) (.slice a3_10 n3_10 c3_10) (.slice d3_10 m3_10 o3_10) ∧ Rw W (.agg #[.bool b3_11, .slice a3_11 n3_11 c3_11, .slice d3_11 m3_11 o3_11]) y ∧ Bx3 W g3_11 27 (.bool b3_11) (.slice a3_11 n3_11 c3_11) (.slice d3_11 m3_11 o3_11) ∧ Sw W (.agg #[.bool b4_8, .slice a4_8 n4_8 c4_8, .slice d4_8 m4_8 o4_8, .bool bb4_8, .slice aa4_8 nn4_8 cc4_8, .slice dd4_8 mm4_8 oo4_8]) sm ∧ Bx6 W g4_8 29 (.bool b4_8) (.slice a4_8 n4_8 c4_8) (.slice d4_8 m4_8 o4_8) (.bool bb4_8) (.slice aa4_8 nn4_8 cc4_8) (.slice dd4_8 mm4_8 oo4_8) ∧ Sw W (.agg #[.bool b4_9, .slice a4_9 n4_9 c4_9, .slice d4_9 m4_9 o4_9, .bool bb4_9, .slice aa4_9 nn4_9 cc4_9, .slice dd4_9 mm4_9 oo4_9]) pr ∧ Bx6 W g4_9 29 (.bool b4_9) (.slice a4_9 n4_9 c4_9) (.slice d4_9 m4_9 o4_9) (.bool bb4_9) (.slice aa4_9 nn4_9 cc4_9) (.slice dd4_9 mm4_9 oo4_9) ∧ W4.heap.size ≤ W.heap.size) ⟨Good.is _, Good.is _, Good.is _, Good.rat _, Good.is _, Good.is _, Good.is _, Good.is _, Good.is _, Good.is _, Good.rat _, Good.is _, Good.is _, Good.is _, Good.is _, Good.is _, Good.is _, Good.is _, Good.is _, Good.is _, Good.is _, Good.is _, Good.is _, Good.is _, trivial⟩
    ⟨E0, p3, p4, p5, hsp, hsq, h3_3, p3_10, h3_7, p3_11, h4_2, p4_8, h4_5, p4_9, Nat.le_refl _⟩ (A := ?A5) ?hA5 ?howe5 ?hfin5
   case hA5 =>
    intro vs
    simp only [putAll, Act.put, sA, sZ, sS, Nat.zero_add, Nat.reduceAdd]
    exact rfl
   case howe5 =>
    clear E0 p3 p4 p5 hsp hsq h3_3 p3_10 h3_7 p3_11 h4_2 p4_8 h4_5 p4_9
    intro hf
    refine ⟨oE 0 [] hf rfl ?_, oE 1 [] hf rfl ?_, oE 2 [] hf rfl ?_, oE 3 [1, 2] hf rfl ?_, oE 4 [0, 3] hf rfl ?_, oE 5 [4] hf rfl ?_, oE 6 [5] hf rfl ?_, oE 7 [6] hf rfl ?_, oE 8 [6] hf rfl ?_, oE 9 [6] hf rfl ?_, oE 10 [6, 8, 9] hf rfl ?_, oE 11 [6, 7, 10] hf rfl ?_, oE 12 [6, 11] hf rfl ?_, oE 13 [6, 12] hf rfl ?_, oE 14 [13] hf rfl ?_, oE 15 [14] hf rfl ?_, oE 16 [14, 15] hf rfl ?_, oE 17 [14, 16] hf rfl ?_, oE 18 [14, 17] hf rfl ?_, oE 19 [18] hf rfl ?_, oE 20 [19] hf rfl ?_, oE 21 [19, 20] hf rfl ?_, oE 22 [19, 21] hf rfl ?_, oE 23 [19, 22] hf rfl ?_, trivial⟩
    all_goals intro vs W hS hp hx KO hKO
    all_goals simp only [Act.put, sA, sZ, sS] at hKO
    ·have fc0 := hS.2.2.2.2.2.2.2.2.2.2.2.1.cell0; have fc1 := hS.2.2.2.2.2.2.2.2.2.2.2.1.cell1; have fc2 := hS.2.2.2.2.2.2.2.2.2.2.2.1.cell2; have fc3 := hS.2.2.2.2.2.2.2.2.2.2.2.1.cell3; have fc4 := hS.2.2.2.2.2.2.2.2.2.2.2.1.cell4; have fc5 := hS.2.2.2.2.2.2.2.2.2.2.2.1.cell5; go_simp; exact hKO _ W (.refl W) rfl
    ·have fc0 := hS.2.2.2.2.2.2.2.1.cell0; have fc1 := hS.2.2.2.2.2.2.2.1.cell1; have fc2 := hS.2.2.2.2.2.2.2.1.cell2; go_simp; exact hKO _ W (.refl W) rfl
    ·have fc0 := hS.2.2.2.2.2.2.2.2.2.1.cell0; have fc1 := hS.2.2.2.2.2.2.2.2.2.1.cell1; have fc2 := hS.2.2.2.2.2.2.2.2.2.1.cell2; go_simp; exact hKO _ W (.refl W) rfl
    ·have e1 := isOf hp.1; have e2 := isOf hp.2.1; simp only [e1, e2] at hKO; go_simp
     refine (Tryz.refRAdd (hS.2.2.2.2.2.2.1) (hS.2.2.2.2.2.2.2.2.1) SX.out SY.out (by omega)).mono ?_
     rintro e W1 ⟨v, rfl, hv, hE⟩
     exact hKO _ W1 hE hv
    ·have e0 := isOf hp.1; have q3 := hp.2.1; simp only [e0] at hKO; go_simp
     refine (Tryz.rsHas (hS.2.2.2.2.2.2.2.2.2.2.1) q3 SSM.out SXY.out.1 (by omega)).mono ?_
     rintro e W1 ⟨rfl, hE⟩
     rw [HS1.out]
     exact hKO _ W1 hE rfl
    ·have e4 := isOf hp.1; simp only [e4] at hKO; go_simp; exact hKO _ W (.refl W) rfl
    ·have e5 := isOf hp.1; simp only [e5] at hKO; go_simp; exact hKO _ W (.refl W) rfl
    ·have e6 := isOf hp.1; simp only [e6] at hKO; have fc0 := hS.2.2.2.2.2.2.2.2.2.2.2.2.2.1.cell0; have fc1 := hS.2.2.2.2.2.2.2.2.2.2.2.2.2.1.cell1; have fc2 := hS.2.2.2.2.2.2.2.2.2.2.2.2.2.1.cell2; have fc3 := hS.2.2.2.2.2.2.2.2.2.2.2.2.2.1.cell3; have fc4 := hS.2.2.2.2.2.2.2.2.2.2.2.2.2.1.cell4; have fc5 := hS.2.2.2.2.2.2.2.2.2.2.2.2.2.1.cell5; go_simp; exact hKO _ W (.refl W) rfl
    ·have e6 := isOf hp.1; simp only [e6] at hKO; have fc0 := hS.2.2.2.2.2.2.2.1.cell0; have fc1 := hS.2.2.2.2.2.2.2.1.cell1; have fc2 := hS.2.2.2.2.2.2.2.1.cell2; go_simp; exact hKO _ W (.refl W) rfl
    ·have e6 := isOf hp.1; simp only [e6] at hKO; have fc0 := hS.2.2.2.2.2.2.2.2.2.1.cell0; have fc1 := hS.2.2.2.2.2.2.2.2.2.1.cell1; have fc2 := hS.2.2.2.2.2.2.2.2.2.1.cell2; go_simp; exact hKO _ W (.refl W) rfl
    ·have e6 := isOf hp.1; have e8 := isOf hp.2.1; have e9 := isOf hp.2.2.1; simp only [e6, e8, e9] at hKO; go_simp
     refine (Tryz.refRMul (hS.2.2.2.2.2.2.1) (hS.2.2.2.2.2.2.2.2.1) SX.out SY.out (by omega)).mono ?_
     rintro e W1 ⟨v, rfl, hv, hE⟩
     exact hKO _ W1 hE hv
    ·have e6 := isOf hp.1; have e7 := isOf hp.2.1; have q10 := hp.2.2.1; simp only [e6, e7] at hKO; go_simp
     refine (Tryz.rsHas (hS.2.2.2.2.2.2.2.2.2.2.2.2.1) q10 (SPR.out.mono (by omega)) SXY.out.2 (by omega)).mono ?_
     rintro e W1 ⟨rfl, hE⟩
     rw [HP1.out]
     exact hKO _ W1 hE rfl
    ·have e6 := isOf hp.1; have e11 := isOf hp.2.1; simp only [e6, e11] at hKO; go_simp; exact hKO _ W (.refl W) rfl
    ·have e6 := isOf hp.1; have e12 := isOf hp.2.1; simp only [e6, e12] at hKO; go_simp; exact hKO _ W (.refl W) rfl
    ·have e13 := isOf hp.1; simp only [e13] at hKO; go_simp; exact hKO _ W (.refl W) rfl
    ·have e14 := isOf hp.1; simp only [e14] at hKO; have fc0 := hS.2.2.2.2.2.2.2.2.2.2.2.1.cell0; have fc1 := hS.2.2.2.2.2.2.2.2.2.2.2.1.cell1; have fc2 := hS.2.2.2.2.2.2.2.2.2.2.2.1.cell2; have fc3 := hS.2.2.2.2.2.2.2.2.2.2.2.1.cell3; have fc4 := hS.2.2.2.2.2.2.2.2.2.2.2.1.cell4; have fc5 := hS.2.2.2.2.2.2.2.2.2.2.2.1.cell5; go_simp; exact hKO _ W (.refl W) rfl
    ·have e14 := isOf hp.1; have e15 := isOf hp.2.1; simp only [e14, e15] at hKO; go_simp
     refine (Tryz.rsRight (hS.2.2.2.2.2.2.2.2.2.2.1) SSM.out (by omega)).mono ?_
     rintro e W1 ⟨rfl, hE⟩
     rw [HS2.out]
     exact hKO _ W1 hE rfl
    ·have e14 := isOf hp.1; have e16 := isOf hp.2.1; simp only [e14, e16] at hKO; go_simp; exact hKO _ W (.refl W) rfl
    ·have e14 := isOf hp.1; have e17 := isOf hp.2.1; simp only [e14, e17] at hKO; go_simp; exact hKO _ W (.refl W) rfl
    ·have e18 := isOf hp.1; simp only [e18] at hKO; go_simp; exact hKO _ W (.refl W) rfl
    ·have e19 := isOf hp.1; simp only [e19] at hKO; have fc0 := hS.2.2.2.2.2.2.2.2.2.2.2.2.2.1.cell0; have fc1 := hS.2.2.2.2.2.2.2.2.2.2.2.2.2.1.cell1; have fc2 := hS.2.2.2.2.2.2.2.2.2.2.2.2.2.1.cell2; have fc3 := hS.2.2.2.2.2.2.2.2.2.2.2.2.2.1.cell3; have fc4 := hS.2.2.2.2.2.2.2.2.2.2.2.2.2.1.cell4; have fc5 := hS.2.2.2.2.2.2.2.2.2.2.2.2.2.1.cell5; go_simp; exact hKO _ W (.refl W) rfl
    ·have e19 := isOf hp.1; have e20 := isOf hp.2.1; simp only [e19, e20] at hKO; go_simp
     refine (Tryz.rsRight (hS.2.2.2.2.2.2.2.2.2.2.2.2.1) SPR.out (by omega)).mono ?_
     rintro e W1 ⟨rfl, hE⟩
     rw [HP2.out]
     exact hKO _ W1 hE rfl
    ·have e19 := isOf hp.1; have e21 := isOf hp.2.1; simp only [e19, e21] at hKO; go_simp; exact hKO _ W (.refl W) rfl
    ·have e19 := isOf hp.1; have e22 := isOf hp.2.1; simp only [e19, e22] at hKO; go_simp; exact hKO _ W (.refl W) rfl
   intro vs W5 hS hp
   clear szw5 E0 p3 p4 p5 hsp hsq h3_3 p3_10 h3_7 p3_11 h4_2 p4_8 h4_5 p4_9
   obtain ⟨E0, p3, p4, p5, hsp, hsq, h3_3, p3_10, h3_7, p3_11, h4_2, p4_8, h4_5, p4_9, sz5⟩ := hS
   obtain ⟨h5_0, h5_1, h5_2, h5_3, h5_4, h5_5, h5_6, h5_7, h5_8, h5_9, h5_10, h5_11, h5_12, h5_13, h5_14, h5_15, h5_16, h5_17, h5_18, h5_19, h5_20, h5_21, h5_22, h5_23, -⟩ := hp
   replace h5_0 : vs 0 = .agg #[.bool b4_8, .slice a4_8 n4_8 c4_8, .slice d4_8 m4_8 o4_8, .bool bb4_8, .slice aa4_8 nn4_8 cc4_8, .slice dd4_8 mm4_8 oo4_8] := h5_0
   replace h5_1 : vs 1 = .agg #[.bool b3_10, .slice a3_10 n3_10 c3_10, .slice d3_10 m3_10 o3_10] := h5_1
   replace h5_2 : vs 2 = .agg #[.bool b3_11, .slice a3_11 n3_11 c3_11, .slice d3_11 m3_11 o3_11] := h5_2
   replace h5_4 : vs 4 = .bool true := h5_4
   replace h5_5 : vs 5 = .bool false := h5_5
   replace h5_6 : vs 6 = .bool false := h5_6
   replace h5_7 : vs 7 = .agg #[.bool b4_9, .slice a4_9 n4_9 c4_9, .slice d4_9 m4_9 o4_9, .bool bb4_9, .slice aa4_9 nn4_9 cc4_9, .slice dd4_9 mm4_9 oo4_9] := h5_7
   replace h5_8 : vs 8 = .agg #[.bool b3_10, .slice a3_10 n3_10 c3_10, .slice d3_10 m3_10 o3_10] := h5_8
   replace h5_9 : vs 9 = .agg #[.bool b3_11, .slice a3_11 n3_11 c3_11, .slice d3_11 m3_11 o3_11] := h5_9
   replace h5_11 : vs 11 = .bool true := h5_11
   replace h5_12 : vs 12 = .bool false := h5_12
   replace h5_13 : vs 13 = .bool false := h5_13
   replace h5_14 : vs 14 = .bool false := h5_14
   replace h5_15 : vs 15 = .agg #[.bool b4_8, .slice a4_8 n4_8 c4_8, .slice d4_8 m4_8 o4_8, .bool bb4_8, .slice aa4_8 nn4_8 cc4_8, .slice dd4_8 mm4_8 oo4_8] := h5_15
   replace h5_16 : vs 16 = .bool true := h5_16
   replace h5_17 : vs 17 = .bool false := h5_17
   replace h5_18 : vs 18 = .bool false := h5_18
   replace h5_19 : vs 19 = .bool false := h5_19
   replace h5_20 : vs 20 = .agg #[.bool b4_9, .slice a4_9 n4_9 c4_9, .slice d4_9 m4_9 o4_9, .bool bb4_9, .slice aa4_9 nn4_9 cc4_9, .slice dd4_9 mm4_9 oo4_9] := h5_20
   replace h5_21 : vs 21 = .bool true := h5_21
   replace h5_22 : vs 22 = .bool false := h5_22
   replace h5_23 : vs 23 = .bool false := h5_23
   simp only [h5_0, h5_1, h5_2, h5_4, h5_5, h5_6, h5_7, h5_8, h5_9, h5_11, h5_12, h5_13, h5_14, h5_15, h5_16, h5_17, h5_18, h5_19, h5_20, h5_21, h5_22, h5_23]
   replace h5_3 : Rw W5 (vs 3) (x + y) := h5_3
   generalize vs 3 = u5_3 at h5_3 ⊢
   replace h5_10 : Rw W5 (vs 10) (x * y) := h5_10
   generalize vs 10 = u5_10 at h5_10 ⊢
   clear h5_0 h5_1 h5_2 h5_4 h5_5 h5_6 h5_7 h5_8 h5_9 h5_11 h5_12 h5_13 h5_14 h5_15 h5_16 h5_17 h5_18 h5_19 h5_20 h5_21 h5_22 h5_23
   obtain ⟨kp3_0, kp3_1, kp3_2, kp3_3, kp3_4, kp3_5⟩ := p3.c6
   obtain ⟨kp4_0, kp4_1, kp4_2, kp4_3, kp4_4, kp4_5⟩ := p4.c6
   obtain ⟨kp5_0, kp5_1⟩ := p5.c2
   obtain ⟨kp3_10_0, kp3_10_1, kp3_10_2⟩ := p3_10.c3
   obtain ⟨kp3_11_0, kp3_11_1, kp3_11_2⟩ := p3_11.c3
   obtain ⟨kp4_8_0, kp4_8_1, kp4_8_2, kp4_8_3, kp4_8_4, kp4_8_5⟩ := p4_8.c6
   obtain ⟨kp4_9_0, kp4_9_1, kp4_9_2, kp4_9_3, kp4_9_4, kp4_9_5⟩ := p4_9.c6
   go_upto_region 7 with (fail)
   clear kp3_0 kp3_1 kp3_2 kp3_3 kp3_4 kp3_5 kp4_0 kp4_1 kp4_2 kp4_3 kp4_4 kp4_5 kp5_0 kp5_1 kp3_10_0 kp3_10_1 kp3_10_2 kp3_11_0 kp3_11_1 kp3_11_2 kp4_8_0 kp4_8_1 kp4_8_2 kp4_8_3 kp4_8_4 kp4_8_5 kp4_9_0 kp4_9_1 kp4_9_2 kp4_9_3 kp4_9_4 kp4_9_5; have szw6 := Ext.size E0
   refine region_gs [.one fun v _ => v = .agg #[.bool b4_9, .slice a4_9 n4_9 c4_9, .slice d4_9 m4_9 o4_9, .bool bb4_9, .slice aa4_9 nn4_9 cc4_9, .slice dd4_9 mm4_9 oo4_9],
     .one fun v _ => v = .pointer (some ⟨w.heap.size + 1 + 1, 0, none⟩),
     .one fun v _ => v = .int .u8 (f0 : Int),
     .one fun v _ => v = .int .i64 (f0 : Int),
     .one fun v W => ∃ v', v = .tuple #[v', .int .i64 0] ∧ (fun v W => Sw W v wd) v' W,
     .one fun v W => ∃ v', v = .tuple #[v', .int .i64 0] ∧ (fun v W => Sw W v wd) v' W,
     .one fun v W => Sw W v wd,
     .one fun v _ => v = .int .i64 0,
     .one fun v W => ∃ g, v = .pointer (some ⟨g, 0, none⟩) ∧ W5.heap.size ≤ g ∧ Form W g 29 6,
     .three 8 6 (fun p r _ W => Put6 W5.heap.size 29 p r W),
     .one fun v _ => v = .int .i64 0]
    (fun W => Ext w W ∧ Bx6 W w.heap.size 29 (.bool b1) (.slice a1 n1 c1) (.slice d1 m1 o1) (.bool bb1) (.slice aa1 nn1 cc1) (.slice dd1 mm1 oo1) ∧ Bx6 W (w.heap.size + 1) 29 (.bool b2) (.slice a2 n2 c2) (.slice d2 m2 o2) (.bool bb2) (.slice aa2 nn2 cc2) (.slice dd2 mm2 oo2) ∧ Bx2 W (w.heap.size + 1 + 1) 48 (.int .u8 (f0 : Int)) (.int .u8 (f1 : Int)) ∧ Sw W (.agg #[.bool b1, .slice a1 n1 c1, .slice d1 m1 o1, .bool bb1, .slice aa1 nn1 cc1, .slice dd1 mm1 oo1]) p ∧ Sw W (.agg #[.bool b2, .slice a2 n2 c2, .slice d2 m2 o2, .bool bb2, .slice aa2 nn2 cc2, .slice dd2 mm2 oo2]) q ∧ Rw W (.agg #[.bool b3_10, .slice a3_10 n3_10 c3_10, .slice d3_10 m3_10 o3_10]) x ∧ Bx3 W g3_10 27 (.bool b3_10) (.slice a3_10 n3_10 c3_10) (.slice d3_10 m3_10 o3_10) ∧ Rw W (.agg #[.bool b3_11, .slice a3_11 n3_11 c3_11, .slice d3_11 m3_11 o3_11]) y ∧ Bx3 W g3_11 27 (.bool b3_11) (.slice a3_11 n3_11 c3_11) (.slice d3_11 m3_11 o3_11) ∧ Sw W (.agg #[.bool b4_8, .slice a4_8 n4_8 c4_8, .slice d4_8 m4_8 o4_8, .bool bb4_8, .slice aa4_8 nn4_8 cc4_8, .slice dd4_8 mm4_8 oo4_8]) sm ∧ Bx6 W g4_8 29 (.bool b4_8) (.slice a4_8 n4_8 c4_8) (.slice d4_8 m4_8 o4_8) (.bool bb4_8) (.slice aa4_8 nn4_8 cc4_8) (.slice dd4_8 mm4_8 oo4_8) ∧ Sw W (.agg #[.bool b4_9, .slice a4_9 n4_9 c4_9, .slice d4_9 m4_9 o4_9, .bool bb4_9, .slice aa4_9 nn4_9 cc4_9, .slice dd4_9 mm4_9 oo4_9]) pr ∧ Bx6 W g4_9 29 (.bool b4_9) (.slice a4_9 n4_9 c4_9) (.slice d4_9 m4_9 o4_9) (.bool bb4_9) (.slice aa4_9 nn4_9 cc4_9) (.slice dd4_9 mm4_9 oo4_9) ∧ Rw W u5_3 (x + y) ∧ Rw W u5_10 (x * y) ∧ W5.heap.size ≤ W.heap.size) ⟨Good.is _, Good.is _, Good.is _, Good.is _, (Good.span _).tup _, (Good.span _).tup _, Good.span _, Good.is _, Good.box _ _ _, cert_put6, Good.is _, trivial⟩
    ⟨E0, p3, p4, p5, hsp, hsq, h3_3, p3_10, h3_7, p3_11, h4_2, p4_8, h4_5, p4_9, h5_3, h5_10, Nat.le_refl _⟩ (A := ?A6) ?hA6 ?howe6 ?hfin6
   case hA6 =>
    intro vs
    simp only [putAll, Act.put, sA, sZ, sS, Nat.zero_add, Nat.reduceAdd]
    exact rfl
   case howe6 =>
    clear E0 p3 p4 p5 hsp hsq h3_3 p3_10 h3_7 p3_11 h4_2 p4_8 h4_5 p4_9 h5_3 h5_10
    intro hf
    refine ⟨oE 0 [] hf rfl ?_, oE 1 [] hf rfl ?_, oE 2 [1] hf rfl ?_, oE 3 [2] hf rfl ?_, oE 4 [0, 3] hf rfl ?_, oE 5 [4] hf rfl ?_, oE 6 [5] hf rfl ?_, oE 7 [5] hf rfl ?_, oE 8 [] hf rfl ?_, oW 9 [8, 6] hf rfl ?_, oE 10 [7] hf rfl ?_, trivial⟩
    all_goals intro vs W hS hp hx KO hKO
    all_goals simp only [Act.put, sA, sZ, sS] at hKO
    ·have fc0 := hS.2.2.2.2.2.2.2.2.2.2.2.2.2.1.cell0; have fc1 := hS.2.2.2.2.2.2.2.2.2.2.2.2.2.1.cell1; have fc2 := hS.2.2.2.2.2.2.2.2.2.2.2.2.2.1.cell2; have fc3 := hS.2.2.2.2.2.2.2.2.2.2.2.2.2.1.cell3; have fc4 := hS.2.2.2.2.2.2.2.2.2.2.2.2.2.1.cell4; have fc5 := hS.2.2.2.2.2.2.2.2.2.2.2.2.2.1.cell5; go_simp; exact hKO _ W (.refl W) rfl
    ·go_simp; exact hKO _ W (.refl W) rfl
    ·have e1 := isOf hp.1; simp only [e1] at hKO; have fc0 := hS.2.2.2.1.cell0; go_simp; exact hKO _ W (.refl W) rfl
    ·have e2 := isOf hp.1; simp only [e2] at hKO; go_simp; exact hKO _ W (.refl W) rfl
    ·have e0 := isOf hp.1; have e3 := isOf hp.2.1; simp only [e0, e3] at hKO; go_simp
     refine (Tryz.ivOut (hS.2.2.2.2.2.2.2.2.2.2.2.2.1) SPR.out (by omega) f0 (by have := Hf0.out; omega)).mono ?_
     rintro e W1 ⟨v, rfl, hv, hE⟩
     rw [HWD.out] at hv
     exact hKO _ W1 hE ⟨_, rfl, hv⟩
    ·have q4 := hp.1
     obtain ⟨u, ev, hu⟩ := q4
     replace ev : vs 4 = _ := ev; simp only [ev] at hKO; go_simp; exact hKO _ W (Ext.refl W) ⟨u, rfl, hu⟩
    ·have q5 := hp.1
     obtain ⟨u, ev, hu⟩ := q5
     replace ev : vs 5 = _ := ev; simp only [ev] at hKO; go_simp; exact hKO _ W (Ext.refl W) hu
    ·have q5 := hp.1
     obtain ⟨u, ev, hu⟩ := q5
     replace ev : vs 5 = _ := ev; simp only [ev] at hKO; go_simp; exact hKO _ W (.refl W) rfl
    ·have hn := Bx6.new W 29 (.bool false) (.slice none 0 0) (.slice none 0 0) (.bool false) (.slice none 0 0) (.slice none 0 0)
     have hE := Ext.alloc1 W (.cells #[.bool false, .slice none 0 0, .slice none 0 0, .bool false, .slice none 0 0, .slice none 0 0] 29)
     have hsz := hS.2.2.2.2.2.2.2.2.2.2.2.2.2.2.2.2
     go_simp
     exact hKO _ _ hE ⟨_, rfl, hsz, hn.form⟩
    ·have q8 := hp.1; have q6 := hp.2.1
     obtain ⟨g, ev, hg, hf⟩ := q8
     replace ev : vs 8 = _ := ev
     obtain ⟨x0_0, x0_1, x0_2, x0_3, x0_4, x0_5, hx, hno⟩ := hf.bx6
     have qr := q6
     obtain ⟨b3, a3, n3, c3, d3, m3, o3, bb3, aa3, nn3, cc3, dd3, mm3, oo3, er, -, -⟩ := qr
     replace er : vs 6 = _ := er
     have r0 := hx.froz0
     have t0 := hx.cell0
     have r1 := hx.froz1
     have t1 := hx.cell1
     have r2 := hx.froz2
     have t2 := hx.cell2
     have r3 := hx.froz3
     have t3 := hx.cell3
     have r4 := hx.froz4
     have t4 := hx.cell4
     have r5 := hx.froz5
     have t5 := hx.cell5
     have hw := Wr.set6 hx hno b3 a3 n3 c3 d3 m3 o3 bb3 aa3 nn3 cc3 dd3 mm3 oo3
     have hq := hx.set (.bool b3) (.slice a3 n3 c3) (.slice d3 m3 o3) (.bool bb3) (.slice aa3 nn3 cc3) (.slice dd3 mm3 oo3)
     simp only [ev, er] at hKO; go_simp
     exact hKO _ _ hw ⟨(Ext.wr hS.1 hw (by omega)), (hS.2.1.wr hw (by omega)), (hS.2.2.1.wr hw (by omega)), (hS.2.2.2.1.wr hw (by omega)), (hS.2.2.2.2.1.wr hw), (hS.2.2.2.2.2.1.wr hw), (hS.2.2.2.2.2.2.1.wr hw), (hS.2.2.2.2.2.2.2.1.wr hw (by omega)), (hS.2.2.2.2.2.2.2.2.1.wr hw), (hS.2.2.2.2.2.2.2.2.2.1.wr hw (by omega)), (hS.2.2.2.2.2.2.2.2.2.2.1.wr hw), (hS.2.2.2.2.2.2.2.2.2.2.2.1.wr hw (by omega)), (hS.2.2.2.2.2.2.2.2.2.2.2.2.1.wr hw), (hS.2.2.2.2.2.2.2.2.2.2.2.2.2.1.wr hw (by omega)), (hS.2.2.2.2.2.2.2.2.2.2.2.2.2.2.1.wr hw), (hS.2.2.2.2.2.2.2.2.2.2.2.2.2.2.2.1.wr hw), (Nat.le_trans hS.2.2.2.2.2.2.2.2.2.2.2.2.2.2.2.2 hw.apart.size)⟩ ⟨g, b3, a3, n3, c3, d3, m3, o3, bb3, aa3, nn3, cc3, dd3, mm3, oo3, ev, er, hg, hq⟩
    ·have e7 := isOf hp.1; simp only [e7] at hKO; go_simp; exact hKO _ W (.refl W) rfl
   intro vs W6 hS hp
   clear szw6 E0 p3 p4 p5 hsp hsq h3_3 p3_10 h3_7 p3_11 h4_2 p4_8 h4_5 p4_9 h5_3 h5_10
   obtain ⟨E0, p3, p4, p5, hsp, hsq, h3_3, p3_10, h3_7, p3_11, h4_2, p4_8, h4_5, p4_9, h5_3, h5_10, sz6⟩ := hS
   obtain ⟨h6_0, h6_1, h6_2, h6_3, h6_4, h6_5, h6_6, h6_7, h6_8, h6_9, h6_10, -⟩ := hp
   obtain ⟨g6_9, b6_9, a6_9, n6_9, c6_9, d6_9, m6_9, o6_9, bb6_9, aa6_9, nn6_9, cc6_9, dd6_9, mm6_9, oo6_9, ev6_9, er6_9, hg6_9, p6_9⟩ := h6_9
   replace ev6_9 : vs 8 = _ := ev6_9; replace er6_9 : vs 6 = _ := er6_9; replace h6_6 := (show Sw W6 (vs 6) wd from h6_6)
   rw [er6_9] at h6_6
   replace h6_0 : vs 0 = .agg #[.bool b4_9, .slice a4_9 n4_9 c4_9, .slice d4_9 m4_9 o4_9, .bool bb4_9, .slice aa4_9 nn4_9 cc4_9, .slice dd4_9 mm4_9 oo4_9] := h6_0
   replace h6_1 : vs 1 = .pointer (some ⟨w.heap.size + 1 + 1, 0, none⟩) := h6_1
   replace h6_2 : vs 2 = .int .u8 (f0 : Int) := h6_2
   replace h6_3 : vs 3 = .int .i64 (f0 : Int) := h6_3
   replace h6_7 : vs 7 = .int .i64 0 := h6_7
   replace h6_10 : vs 10 = .int .i64 0 := h6_10
   simp only [ev6_9, er6_9, h6_0, h6_1, h6_2, h6_3, h6_7, h6_10]
   clear ev6_9 er6_9 h6_0 h6_1 h6_2 h6_3 h6_7 h6_10 h6_4 h6_5 h6_8
   obtain ⟨kp3_0, kp3_1, kp3_2, kp3_3, kp3_4, kp3_5⟩ := p3.c6
   obtain ⟨kp4_0, kp4_1, kp4_2, kp4_3, kp4_4, kp4_5⟩ := p4.c6
   obtain ⟨kp5_0, kp5_1⟩ := p5.c2
   obtain ⟨kp3_10_0, kp3_10_1, kp3_10_2⟩ := p3_10.c3
   obtain ⟨kp3_11_0, kp3_11_1, kp3_11_2⟩ := p3_11.c3
   obtain ⟨kp4_8_0, kp4_8_1, kp4_8_2, kp4_8_3, kp4_8_4, kp4_8_5⟩ := p4_8.c6
   obtain ⟨kp4_9_0, kp4_9_1, kp4_9_2, kp4_9_3, kp4_9_4, kp4_9_5⟩ := p4_9.c6
   obtain ⟨kp6_9_0, kp6_9_1, kp6_9_2, kp6_9_3, kp6_9_4, kp6_9_5⟩ := p6_9.c6
   go_upto_region 8 with (fail)
   clear kp3_0 kp3_1 kp3_2 kp3_3 kp3_4 kp3_5 kp4_0 kp4_1 kp4_2 kp4_3 kp4_4 kp4_5 kp5_0 kp5_1 kp3_10_0 kp3_10_1 kp3_10_2 kp3_11_0 kp3_11_1 kp3_11_2 kp4_8_0 kp4_8_1 kp4_8_2 kp4_8_3 kp4_8_4 kp4_8_5 kp4_9_0 kp4_9_1 kp4_9_2 kp4_9_3 kp4_9_4 kp4_9_5 kp6_9_0 kp6_9_1 kp6_9_2 kp6_9_3 kp6_9_4 kp6_9_5; have ltp6_9 := p6_9.lt; have szw7 := Ext.size E0
   refine region_gs [.one fun v _ => v = .int .i64 0,
     .one fun v _ => v = .bool false,
     .one fun v _ => v = .bool false,
     .one fun v _ => v = .agg #[.bool b4_9, .slice a4_9 n4_9 c4_9, .slice d4_9 m4_9 o4_9, .bool bb4_9, .slice aa4_9 nn4_9 cc4_9, .slice dd4_9 mm4_9 oo4_9],
     .one fun v _ => v = .agg #[.bool b6_9, .slice a6_9 n6_9 c6_9, .slice d6_9 m6_9 o6_9, .bool bb6_9, .slice aa6_9 nn6_9 cc6_9, .slice dd6_9 mm6_9 oo6_9],
     .one fun v _ => v = .bool true,
     .one fun v _ => v = .bool false,
     .one fun v _ => v = .bool false,
     .one fun v _ => v = .bool false,
     .one fun v _ => v = .agg #[.bool b6_9, .slice a6_9 n6_9 c6_9, .slice d6_9 m6_9 o6_9, .bool bb6_9, .slice aa6_9 nn6_9 cc6_9, .slice dd6_9 mm6_9 oo6_9],
     .one fun v _ => v = .bool true,
     .one fun v _ => v = .bool false,
     .one fun v _ => v = .bool false]
    (fun W => Ext w W ∧ Bx6 W w.heap.size 29 (.bool b1) (.slice a1 n1 c1) (.slice d1 m1 o1) (.bool bb1) (.slice aa1 nn1 cc1) (.slice dd1 mm1 oo1) ∧ Bx6 W (w.heap.size + 1) 29 (.bool b2) (.slice a2 n2 c2) (.slice d2 m2 o2) (.bool bb2) (.slice aa2 nn2 cc2) (.slice dd2 mm2 oo2) ∧ Bx2 W (w.heap.size + 1 + 1) 48 (.int .u8 (f0 : Int)) (.int .u8 (f1 : Int)) ∧ Sw W (.agg #[.bool b1, .slice a1 n1 c1, .slice d1 m1 o1, .bool bb1, .slice aa1 nn1 cc1, .slice dd1 mm1 oo1]) p ∧ Sw W (.agg #[.bool b2, .slice a2 n2 c2, .slice d2 m2 o2, .bool bb2, .slice aa2 nn2 cc2, .slice dd2 mm2 oo2]) q ∧ Rw W (.agg #[.bool b3_10, .slice a3_10 n3_10 c3_10, .slice d3_10 m3_10 o3_10]) x ∧ Bx3 W g3_10 27 (.bool b3_10) (.slice a3_10 n3_10 c3_10) (.slice d3_10 m3_10 o3_10) ∧ Rw W (.agg #[.bool b3_11, .slice a3_11 n3_11 c3_11, .slice d3_11 m3_11 o3_11]) y ∧ Bx3 W g3_11 27 (.bool b3_11) (.slice a3_11 n3_11 c3_11) (.slice d3_11 m3_11 o3_11) ∧ Sw W (.agg #[.bool b4_8, .slice a4_8 n4_8 c4_8, .slice d4_8 m4_8 o4_8, .bool bb4_8, .slice aa4_8 nn4_8 cc4_8, .slice dd4_8 mm4_8 oo4_8]) sm ∧ Bx6 W g4_8 29 (.bool b4_8) (.slice a4_8 n4_8 c4_8) (.slice d4_8 m4_8 o4_8) (.bool bb4_8) (.slice aa4_8 nn4_8 cc4_8) (.slice dd4_8 mm4_8 oo4_8) ∧ Sw W (.agg #[.bool b4_9, .slice a4_9 n4_9 c4_9, .slice d4_9 m4_9 o4_9, .bool bb4_9, .slice aa4_9 nn4_9 cc4_9, .slice dd4_9 mm4_9 oo4_9]) pr ∧ Bx6 W g4_9 29 (.bool b4_9) (.slice a4_9 n4_9 c4_9) (.slice d4_9 m4_9 o4_9) (.bool bb4_9) (.slice aa4_9 nn4_9 cc4_9) (.slice dd4_9 mm4_9 oo4_9) ∧ Rw W u5_3 (x + y) ∧ Rw W u5_10 (x * y) ∧ Sw W (.agg #[.bool b6_9, .slice a6_9 n6_9 c6_9, .slice d6_9 m6_9 o6_9, .bool bb6_9, .slice aa6_9 nn6_9 cc6_9, .slice dd6_9 mm6_9 oo6_9]) wd ∧ Bx6 W g6_9 29 (.bool b6_9) (.slice a6_9 n6_9 c6_9) (.slice d6_9 m6_9 o6_9) (.bool bb6_9) (.slice aa6_9 nn6_9 cc6_9) (.slice dd6_9 mm6_9 oo6_9) ∧ W6.heap.size ≤ W.heap.size) ⟨Good.is _, Good.is _, Good.is _, Good.is _, Good.is _, Good.is _, Good.is _, Good.is _, Good.is _, Good.is _, Good.is _, Good.is _, Good.is _, trivial⟩
    ⟨E0, p3, p4, p5, hsp, hsq, h3_3, p3_10, h3_7, p3_11, h4_2, p4_8, h4_5, p4_9, h5_3, h5_10, h6_6, p6_9, Nat.le_refl _⟩ (A := ?A7) ?hA7 ?howe7 ?hfin7
   case hA7 =>
    intro vs
    simp only [putAll, Act.put, sA, sZ, sS, Nat.zero_add, Nat.reduceAdd]
    exact rfl
   case howe7 =>
    clear E0 p3 p4 p5 hsp hsq h3_3 p3_10 h3_7 p3_11 h4_2 p4_8 h4_5 p4_9 h5_3 h5_10 h6_6 p6_9
    intro hf
    refine ⟨oE 0 [] hf rfl ?_, oE 1 [0] hf rfl ?_, oE 2 [1] hf rfl ?_, oE 3 [2] hf rfl ?_, oE 4 [2] hf rfl ?_, oE 5 [2, 3, 4] hf rfl ?_, oE 6 [2, 5] hf rfl ?_, oE 7 [2, 6] hf rfl ?_, oE 8 [7] hf rfl ?_, oE 9 [8] hf rfl ?_, oE 10 [8, 9] hf rfl ?_, oE 11 [8, 10] hf rfl ?_, oE 12 [8, 11] hf rfl ?_, trivial⟩
    all_goals intro vs W hS hp hx KO hKO
    all_goals simp only [Act.put, sA, sZ, sS] at hKO
    ·go_simp; exact hKO _ W (.refl W) rfl
    ·have e0 := isOf hp.1; simp only [e0] at hKO; go_simp; exact hKO _ W (.refl W) rfl
    ·have e1 := isOf hp.1; simp only [e1] at hKO; go_simp; exact hKO _ W (.refl W) rfl
    ·have e2 := isOf hp.1; simp only [e2] at hKO; have fc0 := hS.2.2.2.2.2.2.2.2.2.2.2.2.2.1.cell0; have fc1 := hS.2.2.2.2.2.2.2.2.2.2.2.2.2.1.cell1; have fc2 := hS.2.2.2.2.2.2.2.2.2.2.2.2.2.1.cell2; have fc3 := hS.2.2.2.2.2.2.2.2.2.2.2.2.2.1.cell3; have fc4 := hS.2.2.2.2.2.2.2.2.2.2.2.2.2.1.cell4; have fc5 := hS.2.2.2.2.2.2.2.2.2.2.2.2.2.1.cell5; go_simp; exact hKO _ W (.refl W) rfl
    ·have e2 := isOf hp.1; simp only [e2] at hKO; have fc0 := hS.2.2.2.2.2.2.2.2.2.2.2.2.2.2.2.2.2.1.cell0; have fc1 := hS.2.2.2.2.2.2.2.2.2.2.2.2.2.2.2.2.2.1.cell1; have fc2 := hS.2.2.2.2.2.2.2.2.2.2.2.2.2.2.2.2.2.1.cell2; have fc3 := hS.2.2.2.2.2.2.2.2.2.2.2.2.2.2.2.2.2.1.cell3; have fc4 := hS.2.2.2.2.2.2.2.2.2.2.2.2.2.2.2.2.2.1.cell4; have fc5 := hS.2.2.2.2.2.2.2.2.2.2.2.2.2.2.2.2.2.1.cell5; go_simp; exact hKO _ W (.refl W) rfl
    ·have e2 := isOf hp.1; have e3 := isOf hp.2.1; have e4 := isOf hp.2.2.1; simp only [e2, e3, e4] at hKO; go_simp
     refine (Tryz.rsIn (hS.2.2.2.2.2.2.2.2.2.2.2.2.1) (hS.2.2.2.2.2.2.2.2.2.2.2.2.2.2.2.2.1) (SPR.out.mono (by omega)) SWD.out (by omega)).mono ?_
     rintro e W1 ⟨rfl, hE⟩
     rw [HW1.out]
     exact hKO _ W1 hE rfl
    ·have e2 := isOf hp.1; have e5 := isOf hp.2.1; simp only [e2, e5] at hKO; go_simp; exact hKO _ W (.refl W) rfl
    ·have e2 := isOf hp.1; have e6 := isOf hp.2.1; simp only [e2, e6] at hKO; go_simp; exact hKO _ W (.refl W) rfl
    ·have e7 := isOf hp.1; simp only [e7] at hKO; go_simp; exact hKO _ W (.refl W) rfl
    ·have e8 := isOf hp.1; simp only [e8] at hKO; have fc0 := hS.2.2.2.2.2.2.2.2.2.2.2.2.2.2.2.2.2.1.cell0; have fc1 := hS.2.2.2.2.2.2.2.2.2.2.2.2.2.2.2.2.2.1.cell1; have fc2 := hS.2.2.2.2.2.2.2.2.2.2.2.2.2.2.2.2.2.1.cell2; have fc3 := hS.2.2.2.2.2.2.2.2.2.2.2.2.2.2.2.2.2.1.cell3; have fc4 := hS.2.2.2.2.2.2.2.2.2.2.2.2.2.2.2.2.2.1.cell4; have fc5 := hS.2.2.2.2.2.2.2.2.2.2.2.2.2.2.2.2.2.1.cell5; go_simp; exact hKO _ W (.refl W) rfl
    ·have e8 := isOf hp.1; have e9 := isOf hp.2.1; simp only [e8, e9] at hKO; go_simp
     refine (Tryz.rsRight (hS.2.2.2.2.2.2.2.2.2.2.2.2.2.2.2.2.1) SWD.out (by omega)).mono ?_
     rintro e W1 ⟨rfl, hE⟩
     rw [HW2.out]
     exact hKO _ W1 hE rfl
    ·have e8 := isOf hp.1; have e10 := isOf hp.2.1; simp only [e8, e10] at hKO; go_simp; exact hKO _ W (.refl W) rfl
    ·have e8 := isOf hp.1; have e11 := isOf hp.2.1; simp only [e8, e11] at hKO; go_simp; exact hKO _ W (.refl W) rfl
   intro vs W7 hS hp
   clear szw7 E0 p3 p4 p5 hsp hsq h3_3 p3_10 h3_7 p3_11 h4_2 p4_8 h4_5 p4_9 h5_3 h5_10 h6_6 p6_9
   obtain ⟨E0, p3, p4, p5, hsp, hsq, h3_3, p3_10, h3_7, p3_11, h4_2, p4_8, h4_5, p4_9, h5_3, h5_10, h6_6, p6_9, sz7⟩ := hS
   obtain ⟨h7_0, h7_1, h7_2, h7_3, h7_4, h7_5, h7_6, h7_7, h7_8, h7_9, h7_10, h7_11, h7_12, -⟩ := hp
   replace h7_0 : vs 0 = .int .i64 0 := h7_0
   replace h7_1 : vs 1 = .bool false := h7_1
   replace h7_2 : vs 2 = .bool false := h7_2
   replace h7_3 : vs 3 = .agg #[.bool b4_9, .slice a4_9 n4_9 c4_9, .slice d4_9 m4_9 o4_9, .bool bb4_9, .slice aa4_9 nn4_9 cc4_9, .slice dd4_9 mm4_9 oo4_9] := h7_3
   replace h7_4 : vs 4 = .agg #[.bool b6_9, .slice a6_9 n6_9 c6_9, .slice d6_9 m6_9 o6_9, .bool bb6_9, .slice aa6_9 nn6_9 cc6_9, .slice dd6_9 mm6_9 oo6_9] := h7_4
   replace h7_5 : vs 5 = .bool true := h7_5
   replace h7_6 : vs 6 = .bool false := h7_6
   replace h7_7 : vs 7 = .bool false := h7_7
   replace h7_8 : vs 8 = .bool false := h7_8
   replace h7_9 : vs 9 = .agg #[.bool b6_9, .slice a6_9 n6_9 c6_9, .slice d6_9 m6_9 o6_9, .bool bb6_9, .slice aa6_9 nn6_9 cc6_9, .slice dd6_9 mm6_9 oo6_9] := h7_9
   replace h7_10 : vs 10 = .bool true := h7_10
   replace h7_11 : vs 11 = .bool false := h7_11
   replace h7_12 : vs 12 = .bool false := h7_12
   simp only [h7_0, h7_1, h7_2, h7_3, h7_4, h7_5, h7_6, h7_7, h7_8, h7_9, h7_10, h7_11, h7_12]
   clear h7_0 h7_1 h7_2 h7_3 h7_4 h7_5 h7_6 h7_7 h7_8 h7_9 h7_10 h7_11 h7_12
   obtain ⟨kp3_0, kp3_1, kp3_2, kp3_3, kp3_4, kp3_5⟩ := p3.c6
   obtain ⟨kp4_0, kp4_1, kp4_2, kp4_3, kp4_4, kp4_5⟩ := p4.c6
   obtain ⟨kp5_0, kp5_1⟩ := p5.c2
   obtain ⟨kp3_10_0, kp3_10_1, kp3_10_2⟩ := p3_10.c3
   obtain ⟨kp3_11_0, kp3_11_1, kp3_11_2⟩ := p3_11.c3
   obtain ⟨kp4_8_0, kp4_8_1, kp4_8_2, kp4_8_3, kp4_8_4, kp4_8_5⟩ := p4_8.c6
   obtain ⟨kp4_9_0, kp4_9_1, kp4_9_2, kp4_9_3, kp4_9_4, kp4_9_5⟩ := p4_9.c6
   obtain ⟨kp6_9_0, kp6_9_1, kp6_9_2, kp6_9_3, kp6_9_4, kp6_9_5⟩ := p6_9.c6
   go_upto_region 10 with (fail)
   clear kp3_0 kp3_1 kp3_2 kp3_3 kp3_4 kp3_5 kp4_0 kp4_1 kp4_2 kp4_3 kp4_4 kp4_5 kp5_0 kp5_1 kp3_10_0 kp3_10_1 kp3_10_2 kp3_11_0 kp3_11_1 kp3_11_2 kp4_8_0 kp4_8_1 kp4_8_2 kp4_8_3 kp4_8_4 kp4_8_5 kp4_9_0 kp4_9_1 kp4_9_2 kp4_9_3 kp4_9_4 kp4_9_5 kp6_9_0 kp6_9_1 kp6_9_2 kp6_9_3 kp6_9_4 kp6_9_5
   have S0 : Hid (SmR 2 ((0 : Int) : Rat)) := Lib.hid ((SmR.int (n := 0) (by decide)).mono (by omega))
   cases hh : hasS q 0
   ·have HH := Lib.hid hh
    have HHZ : Hid (hasS q ((0 : Int) : Rat) = false) := Lib.hid hh
    have HDQ : Hid (q.1 ≠ 0 ∧ q.2 ≠ 0) := Lib.hid ⟨no_ends hh ⟨Rat.le_refl, HLQ.out⟩, no_ends hh ⟨HLQ.out, Rat.le_refl⟩⟩
    have HYN : Hid (y ≠ 0) := Lib.hid (no_ends hh HY.out)
    obtain ⟨dv, hdv⟩ : ∃ s, s = divS p q := ⟨_, rfl⟩
    have HDV := Lib.hid hdv.symm
    have SDV : Hid (SmS 4 dv) := Lib.hid (by rw [hdv]; exact divS_sm SP.out SQ.out HDQ.out.1 HDQ.out.2)
    have HD1 : Hid (hasS dv (x / y) = true) := Lib.hid (by rw [hdv]; exact hasS_iff.2 (divS_has HX.out HY.out hh))
    have HD2 : Hid (decide (dv.1 ≤ dv.2) = true) := Lib.hid (by rw [hdv]; exact decide_eq_true divS_right)
    have SQD : Hid (SmR 42 (x / y)) := Lib.hid ((SX.out.div SY.out HYN.out).mono (by omega))
    clear hh hdv; have szw8 := Ext.size E0
    refine region_gs [.one fun v _ => v = .agg #[.bool b1, .slice a1 n1 c1, .slice d1 m1 o1, .bool bb1, .slice aa1 nn1 cc1, .slice dd1 mm1 oo1],
      .one fun v _ => v = .agg #[.bool b2, .slice a2 n2 c2, .slice d2 m2 o2, .bool bb2, .slice aa2 nn2 cc2, .slice dd2 mm2 oo2],
      .one fun v W => ∃ v', v = .tuple #[v', .int .i64 0] ∧ (fun v W => Sw W v dv) v' W,
      .one fun v W => ∃ v', v = .tuple #[v', .int .i64 0] ∧ (fun v W => Sw W v dv) v' W,
      .one fun v W => Sw W v dv,
      .one fun v _ => v = .int .i64 0,
      .one fun v W => ∃ g, v = .pointer (some ⟨g, 0, none⟩) ∧ W7.heap.size ≤ g ∧ Form W g 29 6,
      .three 6 4 (fun p r _ W => Put6 W7.heap.size 29 p r W),
      .one fun v _ => v = .int .i64 0]
     (fun W => Ext w W ∧ Bx6 W w.heap.size 29 (.bool b1) (.slice a1 n1 c1) (.slice d1 m1 o1) (.bool bb1) (.slice aa1 nn1 cc1) (.slice dd1 mm1 oo1) ∧ Bx6 W (w.heap.size + 1) 29 (.bool b2) (.slice a2 n2 c2) (.slice d2 m2 o2) (.bool bb2) (.slice aa2 nn2 cc2) (.slice dd2 mm2 oo2) ∧ Bx2 W (w.heap.size + 1 + 1) 48 (.int .u8 (f0 : Int)) (.int .u8 (f1 : Int)) ∧ Sw W (.agg #[.bool b1, .slice a1 n1 c1, .slice d1 m1 o1, .bool bb1, .slice aa1 nn1 cc1, .slice dd1 mm1 oo1]) p ∧ Sw W (.agg #[.bool b2, .slice a2 n2 c2, .slice d2 m2 o2, .bool bb2, .slice aa2 nn2 cc2, .slice dd2 mm2 oo2]) q ∧ Rw W (.agg #[.bool b3_10, .slice a3_10 n3_10 c3_10, .slice d3_10 m3_10 o3_10]) x ∧ Bx3 W g3_10 27 (.bool b3_10) (.slice a3_10 n3_10 c3_10) (.slice d3_10 m3_10 o3_10) ∧ Rw W (.agg #[.bool b3_11, .slice a3_11 n3_11 c3_11, .slice d3_11 m3_11 o3_11]) y ∧ Bx3 W g3_11 27 (.bool b3_11) (.slice a3_11 n3_11 c3_11) (.slice d3_11 m3_11 o3_11) ∧ Sw W (.agg #[.bool b4_8, .slice a4_8 n4_8 c4_8, .slice d4_8 m4_8 o4_8, .bool bb4_8, .slice aa4_8 nn4_8 cc4_8, .slice dd4_8 mm4_8 oo4_8]) sm ∧ Bx6 W g4_8 29 (.bool b4_8) (.slice a4_8 n4_8 c4_8) (.slice d4_8 m4_8 o4_8) (.bool bb4_8) (.slice aa4_8 nn4_8 cc4_8) (.slice dd4_8 mm4_8 oo4_8) ∧ Sw W (.agg #[.bool b4_9, .slice a4_9 n4_9 c4_9, .slice d4_9 m4_9 o4_9, .bool bb4_9, .slice aa4_9 nn4_9 cc4_9, .slice dd4_9 mm4_9 oo4_9]) pr ∧ Bx6 W g4_9 29 (.bool b4_9) (.slice a4_9 n4_9 c4_9) (.slice d4_9 m4_9 o4_9) (.bool bb4_9) (.slice aa4_9 nn4_9 cc4_9) (.slice dd4_9 mm4_9 oo4_9) ∧ Rw W u5_3 (x + y) ∧ Rw W u5_10 (x * y) ∧ Sw W (.agg #[.bool b6_9, .slice a6_9 n6_9 c6_9, .slice d6_9 m6_9 o6_9, .bool bb6_9, .slice aa6_9 nn6_9 cc6_9, .slice dd6_9 mm6_9 oo6_9]) wd ∧ Bx6 W g6_9 29 (.bool b6_9) (.slice a6_9 n6_9 c6_9) (.slice d6_9 m6_9 o6_9) (.bool bb6_9) (.slice aa6_9 nn6_9 cc6_9) (.slice dd6_9 mm6_9 oo6_9) ∧ W7.heap.size ≤ W.heap.size) ⟨Good.is _, Good.is _, (Good.span _).tup _, (Good.span _).tup _, Good.span _, Good.is _, Good.box _ _ _, cert_put6, Good.is _, trivial⟩
     ⟨E0, p3, p4, p5, hsp, hsq, h3_3, p3_10, h3_7, p3_11, h4_2, p4_8, h4_5, p4_9, h5_3, h5_10, h6_6, p6_9, Nat.le_refl _⟩ (A := ?A8) ?hA8 ?howe8 ?hfin8
    case hA8 =>
     intro vs
     simp only [putAll, Act.put, sA, sZ, sS, Nat.zero_add, Nat.reduceAdd]
     exact rfl
    case howe8 =>
     clear E0 p3 p4 p5 hsp hsq h3_3 p3_10 h3_7 p3_11 h4_2 p4_8 h4_5 p4_9 h5_3 h5_10 h6_6 p6_9
     intro hf
     refine ⟨oE 0 [] hf rfl ?_, oE 1 [] hf rfl ?_, oE 2 [0, 1] hf rfl ?_, oE 3 [2] hf rfl ?_, oE 4 [3] hf rfl ?_, oE 5 [3] hf rfl ?_, oE 6 [] hf rfl ?_, oW 7 [6, 4] hf rfl ?_, oE 8 [5] hf rfl ?_, trivial⟩
     all_goals intro vs W hS hp hx KO hKO
     all_goals simp only [Act.put, sA, sZ, sS] at hKO
     ·have fc0 := hS.2.1.cell0; have fc1 := hS.2.1.cell1; have fc2 := hS.2.1.cell2; have fc3 := hS.2.1.cell3; have fc4 := hS.2.1.cell4; have fc5 := hS.2.1.cell5; go_simp; exact hKO _ W (.refl W) rfl
     ·have fc0 := hS.2.2.1.cell0; have fc1 := hS.2.2.1.cell1; have fc2 := hS.2.2.1.cell2; have fc3 := hS.2.2.1.cell3; have fc4 := hS.2.2.1.cell4; have fc5 := hS.2.2.1.cell5; go_simp; exact hKO _ W (.refl W) rfl
     ·have e0 := isOf hp.1; have e1 := isOf hp.2.1; simp only [e0, e1] at hKO; go_simp
      refine (Tryz.ivDiv (hS.2.2.2.2.1) (hS.2.2.2.2.2.1) SP.out SQ.out (by omega) (by omega) HH.out HDQ.out).mono ?_
      rintro e W1 ⟨v, rfl, hv, hE⟩
      rw [HDV.out] at hv
      exact hKO _ W1 hE ⟨_, rfl, hv⟩
     ·have q2 := hp.1
      obtain ⟨u, ev, hu⟩ := q2
      replace ev : vs 2 = _ := ev; simp only [ev] at hKO; go_simp; exact hKO _ W (Ext.refl W) ⟨u, rfl, hu⟩
     ·have q3 := hp.1
      obtain ⟨u, ev, hu⟩ := q3
      replace ev : vs 3 = _ := ev; simp only [ev] at hKO; go_simp; exact hKO _ W (Ext.refl W) hu
     ·have q3 := hp.1
      obtain ⟨u, ev, hu⟩ := q3
      replace ev : vs 3 = _ := ev; simp only [ev] at hKO; go_simp; exact hKO _ W (.refl W) rfl
     ·have hn := Bx6.new W 29 (.bool false) (.slice none 0 0) (.slice none 0 0) (.bool false) (.slice none 0 0) (.slice none 0 0)
      have hE := Ext.alloc1 W (.cells #[.bool false, .slice none 0 0, .slice none 0 0, .bool false, .slice none 0 0, .slice none 0 0] 29)
      have hsz := hS.2.2.2.2.2.2.2.2.2.2.2.2.2.2.2.2.2.2
      go_simp
      exact hKO _ _ hE ⟨_, rfl, hsz, hn.form⟩
     ·have q6 := hp.1; have q4 := hp.2.1
      obtain ⟨g, ev, hg, hf⟩ := q6
      replace ev : vs 6 = _ := ev
      obtain ⟨x0_0, x0_1, x0_2, x0_3, x0_4, x0_5, hx, hno⟩ := hf.bx6
      have qr := q4
      obtain ⟨b3, a3, n3, c3, d3, m3, o3, bb3, aa3, nn3, cc3, dd3, mm3, oo3, er, -, -⟩ := qr
      replace er : vs 4 = _ := er
      have r0 := hx.froz0
      have t0 := hx.cell0
      have r1 := hx.froz1
      have t1 := hx.cell1
      have r2 := hx.froz2
      have t2 := hx.cell2
      have r3 := hx.froz3
      have t3 := hx.cell3
      have r4 := hx.froz4
      have t4 := hx.cell4
      have r5 := hx.froz5
      have t5 := hx.cell5
      have hw := Wr.set6 hx hno b3 a3 n3 c3 d3 m3 o3 bb3 aa3 nn3 cc3 dd3 mm3 oo3
      have hq := hx.set (.bool b3) (.slice a3 n3 c3) (.slice d3 m3 o3) (.bool bb3) (.slice aa3 nn3 cc3) (.slice dd3 mm3 oo3)
      simp only [ev, er] at hKO; go_simp
      exact hKO _ _ hw ⟨(Ext.wr hS.1 hw (by omega)), (hS.2.1.wr hw (by omega)), (hS.2.2.1.wr hw (by omega)), (hS.2.2.2.1.wr hw (by omega)), (hS.2.2.2.2.1.wr hw), (hS.2.2.2.2.2.1.wr hw), (hS.2.2.2.2.2.2.1.wr hw), (hS.2.2.2.2.2.2.2.1.wr hw (by omega)), (hS.2.2.2.2.2.2.2.2.1.wr hw), (hS.2.2.2.2.2.2.2.2.2.1.wr hw (by omega)), (hS.2.2.2.2.2.2.2.2.2.2.1.wr hw), (hS.2.2.2.2.2.2.2.2.2.2.2.1.wr hw (by omega)), (hS.2.2.2.2.2.2.2.2.2.2.2.2.1.wr hw), (hS.2.2.2.2.2.2.2.2.2.2.2.2.2.1.wr hw (by omega)), (hS.2.2.2.2.2.2.2.2.2.2.2.2.2.2.1.wr hw), (hS.2.2.2.2.2.2.2.2.2.2.2.2.2.2.2.1.wr hw), (hS.2.2.2.2.2.2.2.2.2.2.2.2.2.2.2.2.1.wr hw), (hS.2.2.2.2.2.2.2.2.2.2.2.2.2.2.2.2.2.1.wr hw (by omega)), (Nat.le_trans hS.2.2.2.2.2.2.2.2.2.2.2.2.2.2.2.2.2.2 hw.apart.size)⟩ ⟨g, b3, a3, n3, c3, d3, m3, o3, bb3, aa3, nn3, cc3, dd3, mm3, oo3, ev, er, hg, hq⟩
     ·have e5 := isOf hp.1; simp only [e5] at hKO; go_simp; exact hKO _ W (.refl W) rfl
    intro vs W8 hS hp
    clear szw8 E0 p3 p4 p5 hsp hsq h3_3 p3_10 h3_7 p3_11 h4_2 p4_8 h4_5 p4_9 h5_3 h5_10 h6_6 p6_9
    obtain ⟨E0, p3, p4, p5, hsp, hsq, h3_3, p3_10, h3_7, p3_11, h4_2, p4_8, h4_5, p4_9, h5_3, h5_10, h6_6, p6_9, sz8⟩ := hS
    obtain ⟨h8_0, h8_1, h8_2, h8_3, h8_4, h8_5, h8_6, h8_7, h8_8, -⟩ := hp
    obtain ⟨g8_7, b8_7, a8_7, n8_7, c8_7, d8_7, m8_7, o8_7, bb8_7, aa8_7, nn8_7, cc8_7, dd8_7, mm8_7, oo8_7, ev8_7, er8_7, hg8_7, p8_7⟩ := h8_7
    replace ev8_7 : vs 6 = _ := ev8_7; replace er8_7 : vs 4 = _ := er8_7; replace h8_4 := (show Sw W8 (vs 4) dv from h8_4)
    rw [er8_7] at h8_4
    replace h8_0 : vs 0 = .agg #[.bool b1, .slice a1 n1 c1, .slice d1 m1 o1, .bool bb1, .slice aa1 nn1 cc1, .slice dd1 mm1 oo1] := h8_0
    replace h8_1 : vs 1 = .agg #[.bool b2, .slice a2 n2 c2, .slice d2 m2 o2, .bool bb2, .slice aa2 nn2 cc2, .slice dd2 mm2 oo2] := h8_1
    replace h8_5 : vs 5 = .int .i64 0 := h8_5
    replace h8_8 : vs 8 = .int .i64 0 := h8_8
    simp only [ev8_7, er8_7, h8_0, h8_1, h8_5, h8_8]
    clear ev8_7 er8_7 h8_0 h8_1 h8_5 h8_8 h8_2 h8_3 h8_6
    obtain ⟨kp3_0, kp3_1, kp3_2, kp3_3, kp3_4, kp3_5⟩ := p3.c6
    obtain ⟨kp4_0, kp4_1, kp4_2, kp4_3, kp4_4, kp4_5⟩ := p4.c6
    obtain ⟨kp5_0, kp5_1⟩ := p5.c2
    obtain ⟨kp3_10_0, kp3_10_1, kp3_10_2⟩ := p3_10.c3
    obtain ⟨kp3_11_0, kp3_11_1, kp3_11_2⟩ := p3_11.c3
    obtain ⟨kp4_8_0, kp4_8_1, kp4_8_2, kp4_8_3, kp4_8_4, kp4_8_5⟩ := p4_8.c6
    obtain ⟨kp4_9_0, kp4_9_1, kp4_9_2, kp4_9_3, kp4_9_4, kp4_9_5⟩ := p4_9.c6
    obtain ⟨kp6_9_0, kp6_9_1, kp6_9_2, kp6_9_3, kp6_9_4, kp6_9_5⟩ := p6_9.c6
    obtain ⟨kp8_7_0, kp8_7_1, kp8_7_2, kp8_7_3, kp8_7_4, kp8_7_5⟩ := p8_7.c6
    go_upto_region 11 with (fail)
    clear kp3_0 kp3_1 kp3_2 kp3_3 kp3_4 kp3_5 kp4_0 kp4_1 kp4_2 kp4_3 kp4_4 kp4_5 kp5_0 kp5_1 kp3_10_0 kp3_10_1 kp3_10_2 kp3_11_0 kp3_11_1 kp3_11_2 kp4_8_0 kp4_8_1 kp4_8_2 kp4_8_3 kp4_8_4 kp4_8_5 kp4_9_0 kp4_9_1 kp4_9_2 kp4_9_3 kp4_9_4 kp4_9_5 kp6_9_0 kp6_9_1 kp6_9_2 kp6_9_3 kp6_9_4 kp6_9_5 kp8_7_0 kp8_7_1 kp8_7_2 kp8_7_3 kp8_7_4 kp8_7_5; have ltp8_7 := p8_7.lt; have szw9 := Ext.size E0
    refine region_gs [.one fun v _ => v = .agg #[.bool b3_10, .slice a3_10 n3_10 c3_10, .slice d3_10 m3_10 o3_10],
      .one fun v _ => v = .agg #[.bool b3_11, .slice a3_11 n3_11 c3_11, .slice d3_11 m3_11 o3_11],
      .one fun v W => ∃ v', v = .tuple #[v', .int .i64 0] ∧ (fun v W => Rw W v (x / y)) v' W,
      .one fun v W => ∃ v', v = .tuple #[v', .int .i64 0] ∧ (fun v W => Rw W v (x / y)) v' W,
      .one fun v W => Rw W v (x / y),
      .one fun v _ => v = .int .i64 0,
      .one fun v W => ∃ g, v = .pointer (some ⟨g, 0, none⟩) ∧ W8.heap.size ≤ g ∧ Form W g 27 3,
      .three 6 4 (fun p r _ W => Put3 W8.heap.size 27 p r W),
      .one fun v _ => v = .int .i64 0]
     (fun W => Ext w W ∧ Bx6 W w.heap.size 29 (.bool b1) (.slice a1 n1 c1) (.slice d1 m1 o1) (.bool bb1) (.slice aa1 nn1 cc1) (.slice dd1 mm1 oo1) ∧ Bx6 W (w.heap.size + 1) 29 (.bool b2) (.slice a2 n2 c2) (.slice d2 m2 o2) (.bool bb2) (.slice aa2 nn2 cc2) (.slice dd2 mm2 oo2) ∧ Bx2 W (w.heap.size + 1 + 1) 48 (.int .u8 (f0 : Int)) (.int .u8 (f1 : Int)) ∧ Sw W (.agg #[.bool b1, .slice a1 n1 c1, .slice d1 m1 o1, .bool bb1, .slice aa1 nn1 cc1, .slice dd1 mm1 oo1]) p ∧ Sw W (.agg #[.bool b2, .slice a2 n2 c2, .slice d2 m2 o2, .bool bb2, .slice aa2 nn2 cc2, .slice dd2 mm2 oo2]) q ∧ Rw W (.agg #[.bool b3_10, .slice a3_10 n3_10 c3_10, .slice d3_10 m3_10 o3_10]) x ∧ Bx3 W g3_10 27 (.bool b3_10) (.slice a3_10 n3_10 c3_10) (.slice d3_10 m3_10 o3_10) ∧ Rw W (.agg #[.bool b3_11, .slice a3_11 n3_11 c3_11, .slice d3_11 m3_11 o3_11]) y ∧ Bx3 W g3_11 27 (.bool b3_11) (.slice a3_11 n3_11 c3_11) (.slice d3_11 m3_11 o3_11) ∧ Sw W (.agg #[.bool b4_8, .slice a4_8 n4_8 c4_8, .slice d4_8 m4_8 o4_8, .bool bb4_8, .slice aa4_8 nn4_8 cc4_8, .slice dd4_8 mm4_8 oo4_8]) sm ∧ Bx6 W g4_8 29 (.bool b4_8) (.slice a4_8 n4_8 c4_8) (.slice d4_8 m4_8 o4_8) (.bool bb4_8) (.slice aa4_8 nn4_8 cc4_8) (.slice dd4_8 mm4_8 oo4_8) ∧ Sw W (.agg #[.bool b4_9, .slice a4_9 n4_9 c4_9, .slice d4_9 m4_9 o4_9, .bool bb4_9, .slice aa4_9 nn4_9 cc4_9, .slice dd4_9 mm4_9 oo4_9]) pr ∧ Bx6 W g4_9 29 (.bool b4_9) (.slice a4_9 n4_9 c4_9) (.slice d4_9 m4_9 o4_9) (.bool bb4_9) (.slice aa4_9 nn4_9 cc4_9) (.slice dd4_9 mm4_9 oo4_9) ∧ Rw W u5_3 (x + y) ∧ Rw W u5_10 (x * y) ∧ Sw W (.agg #[.bool b6_9, .slice a6_9 n6_9 c6_9, .slice d6_9 m6_9 o6_9, .bool bb6_9, .slice aa6_9 nn6_9 cc6_9, .slice dd6_9 mm6_9 oo6_9]) wd ∧ Bx6 W g6_9 29 (.bool b6_9) (.slice a6_9 n6_9 c6_9) (.slice d6_9 m6_9 o6_9) (.bool bb6_9) (.slice aa6_9 nn6_9 cc6_9) (.slice dd6_9 mm6_9 oo6_9) ∧ Sw W (.agg #[.bool b8_7, .slice a8_7 n8_7 c8_7, .slice d8_7 m8_7 o8_7, .bool bb8_7, .slice aa8_7 nn8_7 cc8_7, .slice dd8_7 mm8_7 oo8_7]) dv ∧ Bx6 W g8_7 29 (.bool b8_7) (.slice a8_7 n8_7 c8_7) (.slice d8_7 m8_7 o8_7) (.bool bb8_7) (.slice aa8_7 nn8_7 cc8_7) (.slice dd8_7 mm8_7 oo8_7) ∧ W8.heap.size ≤ W.heap.size) ⟨Good.is _, Good.is _, (Good.rat _).tup _, (Good.rat _).tup _, Good.rat _, Good.is _, Good.box _ _ _, cert_put3, Good.is _, trivial⟩
     ⟨E0, p3, p4, p5, hsp, hsq, h3_3, p3_10, h3_7, p3_11, h4_2, p4_8, h4_5, p4_9, h5_3, h5_10, h6_6, p6_9, h8_4, p8_7, Nat.le_refl _⟩ (A := ?A9) ?hA9 ?howe9 ?hfin9
    case hA9 =>
     intro vs
     simp only [putAll, Act.put, sA, sZ, sS, Nat.zero_add, Nat.reduceAdd]
     exact rfl
    case howe9 =>
     clear E0 p3 p4 p5 hsp hsq h3_3 p3_10 h3_7 p3_11 h4_2 p4_8 h4_5 p4_9 h5_3 h5_10 h6_6 p6_9 h8_4 p8_7
     intro hf
     refine ⟨oE 0 [] hf rfl ?_, oE 1 [] hf rfl ?_, oE 2 [0, 1] hf rfl ?_, oE 3 [2] hf rfl ?_, oE 4 [3] hf rfl ?_, oE 5 [3] hf rfl ?_, oE 6 [] hf rfl ?_, oW 7 [6, 4] hf rfl ?_, oE 8 [5] hf rfl ?_, trivial⟩
     all_goals intro vs W hS hp hx KO hKO
     all_goals simp only [Act.put, sA, sZ, sS] at hKO
     ·have fc0 := hS.2.2.2.2.2.2.2.1.cell0; have fc1 := hS.2.2.2.2.2.2.2.1.cell1; have fc2 := hS.2.2.2.2.2.2.2.1.cell2; go_simp; exact hKO _ W (.refl W) rfl
     ·have fc0 := hS.2.2.2.2.2.2.2.2.2.1.cell0; have fc1 := hS.2.2.2.2.2.2.2.2.2.1.cell1; have fc2 := hS.2.2.2.2.2.2.2.2.2.1.cell2; go_simp; exact hKO _ W (.refl W) rfl
     ·have e0 := isOf hp.1; have e1 := isOf hp.2.1; simp only [e0, e1] at hKO; go_simp
      refine (Tryz.refRDiv (hS.2.2.2.2.2.2.1) (hS.2.2.2.2.2.2.2.2.1) SX.out SY.out (by omega) HYN.out).mono ?_
      rintro e W1 ⟨v, rfl, hv, hE⟩
      exact hKO _ W1 hE ⟨_, rfl, hv⟩
     ·have q2 := hp.1
      obtain ⟨u, ev, hu⟩ := q2
      replace ev : vs 2 = _ := ev; simp only [ev] at hKO; go_simp; exact hKO _ W (Ext.refl W) ⟨u, rfl, hu⟩
     ·have q3 := hp.1
      obtain ⟨u, ev, hu⟩ := q3
      replace ev : vs 3 = _ := ev; simp only [ev] at hKO; go_simp; exact hKO _ W (Ext.refl W) hu
     ·have q3 := hp.1
      obtain ⟨u, ev, hu⟩ := q3
      replace ev : vs 3 = _ := ev; simp only [ev] at hKO; go_simp; exact hKO _ W (.refl W) rfl
     ·have hn := Bx3.new W 27 (.bool false) (.slice none 0 0) (.slice none 0 0)
      have hE := Ext.alloc1 W (.cells #[.bool false, .slice none 0 0, .slice none 0 0] 27)
      have hsz := hS.2.2.2.2.2.2.2.2.2.2.2.2.2.2.2.2.2.2.2.2
      go_simp
      exact hKO _ _ hE ⟨_, rfl, hsz, hn.form⟩
     ·have q6 := hp.1; have q4 := hp.2.1
      obtain ⟨g, ev, hg, hf⟩ := q6
      replace ev : vs 6 = _ := ev
      obtain ⟨x0_0, x0_1, x0_2, hx, hno⟩ := hf.bx3
      have qr := q4
      obtain ⟨b3, a3, n3, c3, d3, m3, o3, er, -, -, -⟩ := qr
      replace er : vs 4 = _ := er
      have r0 := hx.froz0
      have t0 := hx.cell0
      have r1 := hx.froz1
      have t1 := hx.cell1
      have r2 := hx.froz2
      have t2 := hx.cell2
      have hw := Wr.set3 hx hno b3 a3 n3 c3 d3 m3 o3
      have hq := hx.set (.bool b3) (.slice a3 n3 c3) (.slice d3 m3 o3)
      simp only [ev, er] at hKO; go_simp
      exact hKO _ _ hw ⟨(Ext.wr hS.1 hw (by omega)), (hS.2.1.wr hw (by omega)), (hS.2.2.1.wr hw (by omega)), (hS.2.2.2.1.wr hw (by omega)), (hS.2.2.2.2.1.wr hw), (hS.2.2.2.2.2.1.wr hw), (hS.2.2.2.2.2.2.1.wr hw), (hS.2.2.2.2.2.2.2.1.wr hw (by omega)), (hS.2.2.2.2.2.2.2.2.1.wr hw), (hS.2.2.2.2.2.2.2.2.2.1.wr hw (by omega)), (hS.2.2.2.2.2.2.2.2.2.2.1.wr hw), (hS.2.2.2.2.2.2.2.2.2.2.2.1.wr hw (by omega)), (hS.2.2.2.2.2.2.2.2.2.2.2.2.1.wr hw), (hS.2.2.2.2.2.2.2.2.2.2.2.2.2.1.wr hw (by omega)), (hS.2.2.2.2.2.2.2.2.2.2.2.2.2.2.1.wr hw), (hS.2.2.2.2.2.2.2.2.2.2.2.2.2.2.2.1.wr hw), (hS.2.2.2.2.2.2.2.2.2.2.2.2.2.2.2.2.1.wr hw), (hS.2.2.2.2.2.2.2.2.2.2.2.2.2.2.2.2.2.1.wr hw (by omega)), (hS.2.2.2.2.2.2.2.2.2.2.2.2.2.2.2.2.2.2.1.wr hw), (hS.2.2.2.2.2.2.2.2.2.2.2.2.2.2.2.2.2.2.2.1.wr hw (by omega)), (Nat.le_trans hS.2.2.2.2.2.2.2.2.2.2.2.2.2.2.2.2.2.2.2.2 hw.apart.size)⟩ ⟨g, b3, a3, n3, c3, d3, m3, o3, ev, er, hg, hq⟩
     ·have e5 := isOf hp.1; simp only [e5] at hKO; go_simp; exact hKO _ W (.refl W) rfl
    intro vs W9 hS hp
    clear szw9 E0 p3 p4 p5 hsp hsq h3_3 p3_10 h3_7 p3_11 h4_2 p4_8 h4_5 p4_9 h5_3 h5_10 h6_6 p6_9 h8_4 p8_7
    obtain ⟨E0, p3, p4, p5, hsp, hsq, h3_3, p3_10, h3_7, p3_11, h4_2, p4_8, h4_5, p4_9, h5_3, h5_10, h6_6, p6_9, h8_4, p8_7, sz9⟩ := hS
    obtain ⟨h9_0, h9_1, h9_2, h9_3, h9_4, h9_5, h9_6, h9_7, h9_8, -⟩ := hp
    obtain ⟨g9_7, b9_7, a9_7, n9_7, c9_7, d9_7, m9_7, o9_7, ev9_7, er9_7, hg9_7, p9_7⟩ := h9_7
    replace ev9_7 : vs 6 = _ := ev9_7; replace er9_7 : vs 4 = _ := er9_7; replace h9_4 := (show Rw W9 (vs 4) (x / y) from h9_4)
    rw [er9_7] at h9_4
    replace h9_0 : vs 0 = .agg #[.bool b3_10, .slice a3_10 n3_10 c3_10, .slice d3_10 m3_10 o3_10] := h9_0
    replace h9_1 : vs 1 = .agg #[.bool b3_11, .slice a3_11 n3_11 c3_11, .slice d3_11 m3_11 o3_11] := h9_1
    replace h9_5 : vs 5 = .int .i64 0 := h9_5
    replace h9_8 : vs 8 = .int .i64 0 := h9_8
    simp only [ev9_7, er9_7, h9_0, h9_1, h9_5, h9_8]
    clear ev9_7 er9_7 h9_0 h9_1 h9_5 h9_8 h9_2 h9_3 h9_6
    obtain ⟨kp3_0, kp3_1, kp3_2, kp3_3, kp3_4, kp3_5⟩ := p3.c6
    obtain ⟨kp4_0, kp4_1, kp4_2, kp4_3, kp4_4, kp4_5⟩ := p4.c6
    obtain ⟨kp5_0, kp5_1⟩ := p5.c2
    obtain ⟨kp3_10_0, kp3_10_1, kp3_10_2⟩ := p3_10.c3
    obtain ⟨kp3_11_0, kp3_11_1, kp3_11_2⟩ := p3_11.c3
    obtain ⟨kp4_8_0, kp4_8_1, kp4_8_2, kp4_8_3, kp4_8_4, kp4_8_5⟩ := p4_8.c6
    obtain ⟨kp4_9_0, kp4_9_1, kp4_9_2, kp4_9_3, kp4_9_4, kp4_9_5⟩ := p4_9.c6
    obtain ⟨kp6_9_0, kp6_9_1, kp6_9_2, kp6_9_3, kp6_9_4, kp6_9_5⟩ := p6_9.c6
    obtain ⟨kp8_7_0, kp8_7_1, kp8_7_2, kp8_7_3, kp8_7_4, kp8_7_5⟩ := p8_7.c6
    obtain ⟨kp9_7_0, kp9_7_1, kp9_7_2⟩ := p9_7.c3
    go_upto_region 12 with (fail)
    clear kp3_0 kp3_1 kp3_2 kp3_3 kp3_4 kp3_5 kp4_0 kp4_1 kp4_2 kp4_3 kp4_4 kp4_5 kp5_0 kp5_1 kp3_10_0 kp3_10_1 kp3_10_2 kp3_11_0 kp3_11_1 kp3_11_2 kp4_8_0 kp4_8_1 kp4_8_2 kp4_8_3 kp4_8_4 kp4_8_5 kp4_9_0 kp4_9_1 kp4_9_2 kp4_9_3 kp4_9_4 kp4_9_5 kp6_9_0 kp6_9_1 kp6_9_2 kp6_9_3 kp6_9_4 kp6_9_5 kp8_7_0 kp8_7_1 kp8_7_2 kp8_7_3 kp8_7_4 kp8_7_5 kp9_7_0 kp9_7_1 kp9_7_2; have ltp9_7 := p9_7.lt; have szw10 := Ext.size E0
    refine region_gs [.one fun v _ => v = .agg #[.bool b2, .slice a2 n2 c2, .slice d2 m2 o2, .bool bb2, .slice aa2 nn2 cc2, .slice dd2 mm2 oo2],
      .one fun v W => Rw W v (((0 : Int) : Rat)),
      .one fun v _ => v = .bool false,
      .one fun v _ => v = .bool false]
     (fun W => Ext w W ∧ Bx6 W w.heap.size 29 (.bool b1) (.slice a1 n1 c1) (.slice d1 m1 o1) (.bool bb1) (.slice aa1 nn1 cc1) (.slice dd1 mm1 oo1) ∧ Bx6 W (w.heap.size + 1) 29 (.bool b2) (.slice a2 n2 c2) (.slice d2 m2 o2) (.bool bb2) (.slice aa2 nn2 cc2) (.slice dd2 mm2 oo2) ∧ Bx2 W (w.heap.size + 1 + 1) 48 (.int .u8 (f0 : Int)) (.int .u8 (f1 : Int)) ∧ Sw W (.agg #[.bool b1, .slice a1 n1 c1, .slice d1 m1 o1, .bool bb1, .slice aa1 nn1 cc1, .slice dd1 mm1 oo1]) p ∧ Sw W (.agg #[.bool b2, .slice a2 n2 c2, .slice d2 m2 o2, .bool bb2, .slice aa2 nn2 cc2, .slice dd2 mm2 oo2]) q ∧ Rw W (.agg #[.bool b3_10, .slice a3_10 n3_10 c3_10, .slice d3_10 m3_10 o3_10]) x ∧ Bx3 W g3_10 27 (.bool b3_10) (.slice a3_10 n3_10 c3_10) (.slice d3_10 m3_10 o3_10) ∧ Rw W (.agg #[.bool b3_11, .slice a3_11 n3_11 c3_11, .slice d3_11 m3_11 o3_11]) y ∧ Bx3 W g3_11 27 (.bool b3_11) (.slice a3_11 n3_11 c3_11) (.slice d3_11 m3_11 o3_11) ∧ Sw W (.agg #[.bool b4_8, .slice a4_8 n4_8 c4_8, .slice d4_8 m4_8 o4_8, .bool bb4_8, .slice aa4_8 nn4_8 cc4_8, .slice dd4_8 mm4_8 oo4_8]) sm ∧ Bx6 W g4_8 29 (.bool b4_8) (.slice a4_8 n4_8 c4_8) (.slice d4_8 m4_8 o4_8) (.bool bb4_8) (.slice aa4_8 nn4_8 cc4_8) (.slice dd4_8 mm4_8 oo4_8) ∧ Sw W (.agg #[.bool b4_9, .slice a4_9 n4_9 c4_9, .slice d4_9 m4_9 o4_9, .bool bb4_9, .slice aa4_9 nn4_9 cc4_9, .slice dd4_9 mm4_9 oo4_9]) pr ∧ Bx6 W g4_9 29 (.bool b4_9) (.slice a4_9 n4_9 c4_9) (.slice d4_9 m4_9 o4_9) (.bool bb4_9) (.slice aa4_9 nn4_9 cc4_9) (.slice dd4_9 mm4_9 oo4_9) ∧ Rw W u5_3 (x + y) ∧ Rw W u5_10 (x * y) ∧ Sw W (.agg #[.bool b6_9, .slice a6_9 n6_9 c6_9, .slice d6_9 m6_9 o6_9, .bool bb6_9, .slice aa6_9 nn6_9 cc6_9, .slice dd6_9 mm6_9 oo6_9]) wd ∧ Bx6 W g6_9 29 (.bool b6_9) (.slice a6_9 n6_9 c6_9) (.slice d6_9 m6_9 o6_9) (.bool bb6_9) (.slice aa6_9 nn6_9 cc6_9) (.slice dd6_9 mm6_9 oo6_9) ∧ Sw W (.agg #[.bool b8_7, .slice a8_7 n8_7 c8_7, .slice d8_7 m8_7 o8_7, .bool bb8_7, .slice aa8_7 nn8_7 cc8_7, .slice dd8_7 mm8_7 oo8_7]) dv ∧ Bx6 W g8_7 29 (.bool b8_7) (.slice a8_7 n8_7 c8_7) (.slice d8_7 m8_7 o8_7) (.bool bb8_7) (.slice aa8_7 nn8_7 cc8_7) (.slice dd8_7 mm8_7 oo8_7) ∧ Rw W (.agg #[.bool b9_7, .slice a9_7 n9_7 c9_7, .slice d9_7 m9_7 o9_7]) (x / y) ∧ Bx3 W g9_7 27 (.bool b9_7) (.slice a9_7 n9_7 c9_7) (.slice d9_7 m9_7 o9_7) ∧ W9.heap.size ≤ W.heap.size) ⟨Good.is _, Good.rat _, Good.is _, Good.is _, trivial⟩
     ⟨E0, p3, p4, p5, hsp, hsq, h3_3, p3_10, h3_7, p3_11, h4_2, p4_8, h4_5, p4_9, h5_3, h5_10, h6_6, p6_9, h8_4, p8_7, h9_4, p9_7, Nat.le_refl _⟩ (A := ?A10) ?hA10 ?howe10 ?hfin10
    case hA10 =>
     intro vs
     simp only [putAll, Act.put, sA, sZ, sS, Nat.zero_add, Nat.reduceAdd]
     exact rfl
    case howe10 =>
     clear E0 p3 p4 p5 hsp hsq h3_3 p3_10 h3_7 p3_11 h4_2 p4_8 h4_5 p4_9 h5_3 h5_10 h6_6 p6_9 h8_4 p8_7 h9_4 p9_7
     intro hf
     refine ⟨oE 0 [] hf rfl ?_, oE 1 [] hf rfl ?_, oE 2 [0, 1] hf rfl ?_, oE 3 [2] hf rfl ?_, trivial⟩
     all_goals intro vs W hS hp hx KO hKO
     all_goals simp only [Act.put, sA, sZ, sS] at hKO
     ·have fc0 := hS.2.2.1.cell0; have fc1 := hS.2.2.1.cell1; have fc2 := hS.2.2.1.cell2; have fc3 := hS.2.2.1.cell3; have fc4 := hS.2.2.1.cell4; have fc5 := hS.2.2.1.cell5; go_simp; exact hKO _ W (.refl W) rfl
     ·go_simp
      refine (Tryz.refROf 0 _ (by omega) (by omega)).mono ?_
      rintro e W1 ⟨v, rfl, hv, hE⟩
      exact hKO _ W1 hE hv
     ·have e0 := isOf hp.1; have q1 := hp.2.1; simp only [e0] at hKO; go_simp
      refine (Tryz.rsHas (hS.2.2.2.2.2.1) q1 SQ.out S0.out (by omega)).mono ?_
      rintro e W1 ⟨rfl, hE⟩
      rw [HHZ.out]
      exact hKO _ W1 hE rfl
     ·have e2 := isOf hp.1; simp only [e2] at hKO; go_simp; exact hKO _ W (.refl W) rfl
    intro vs W10 hS hp
    clear szw10 E0 p3 p4 p5 hsp hsq h3_3 p3_10 h3_7 p3_11 h4_2 p4_8 h4_5 p4_9 h5_3 h5_10 h6_6 p6_9 h8_4 p8_7 h9_4 p9_7
    obtain ⟨E0, p3, p4, p5, hsp, hsq, h3_3, p3_10, h3_7, p3_11, h4_2, p4_8, h4_5, p4_9, h5_3, h5_10, h6_6, p6_9, h8_4, p8_7, h9_4, p9_7, sz10⟩ := hS
    obtain ⟨h10_0, h10_1, h10_2, h10_3, -⟩ := hp
    replace h10_0 : vs 0 = .agg #[.bool b2, .slice a2 n2 c2, .slice d2 m2 o2, .bool bb2, .slice aa2 nn2 cc2, .slice dd2 mm2 oo2] := h10_0
    replace h10_2 : vs 2 = .bool false := h10_2
    replace h10_3 : vs 3 = .bool false := h10_3
    simp only [h10_0, h10_2, h10_3]
    replace h10_1 : Rw W10 (vs 1) (((0 : Int) : Rat)) := h10_1
    generalize vs 1 = u10_1 at h10_1 ⊢
    clear h10_0 h10_2 h10_3
    obtain ⟨kp3_0, kp3_1, kp3_2, kp3_3, kp3_4, kp3_5⟩ := p3.c6
    obtain ⟨kp4_0, kp4_1, kp4_2, kp4_3, kp4_4, kp4_5⟩ := p4.c6
    obtain ⟨kp5_0, kp5_1⟩ := p5.c2
    obtain ⟨kp3_10_0, kp3_10_1, kp3_10_2⟩ := p3_10.c3
    obtain ⟨kp3_11_0, kp3_11_1, kp3_11_2⟩ := p3_11.c3
    obtain ⟨kp4_8_0, kp4_8_1, kp4_8_2, kp4_8_3, kp4_8_4, kp4_8_5⟩ := p4_8.c6
    obtain ⟨kp4_9_0, kp4_9_1, kp4_9_2, kp4_9_3, kp4_9_4, kp4_9_5⟩ := p4_9.c6
    obtain ⟨kp6_9_0, kp6_9_1, kp6_9_2, kp6_9_3, kp6_9_4, kp6_9_5⟩ := p6_9.c6
    obtain ⟨kp8_7_0, kp8_7_1, kp8_7_2, kp8_7_3, kp8_7_4, kp8_7_5⟩ := p8_7.c6
    obtain ⟨kp9_7_0, kp9_7_1, kp9_7_2⟩ := p9_7.c3
    go_upto_region 15 with (fail)
    clear kp3_0 kp3_1 kp3_2 kp3_3 kp3_4 kp3_5 kp4_0 kp4_1 kp4_2 kp4_3 kp4_4 kp4_5 kp5_0 kp5_1 kp3_10_0 kp3_10_1 kp3_10_2 kp3_11_0 kp3_11_1 kp3_11_2 kp4_8_0 kp4_8_1 kp4_8_2 kp4_8_3 kp4_8_4 kp4_8_5 kp4_9_0 kp4_9_1 kp4_9_2 kp4_9_3 kp4_9_4 kp4_9_5 kp6_9_0 kp6_9_1 kp6_9_2 kp6_9_3 kp6_9_4 kp6_9_5 kp8_7_0 kp8_7_1 kp8_7_2 kp8_7_3 kp8_7_4 kp8_7_5 kp9_7_0 kp9_7_1 kp9_7_2; have szw11 := Ext.size E0
    refine region_gs [.one fun v _ => v = .bool true,
      .one fun v _ => v = .bool true,
      .one fun v _ => v = .int .i64 0,
      .one fun v _ => v = .bool true,
      .one fun v _ => v = .bool true,
      .one fun v _ => v = .bool true,
      .one fun v _ => v = .int .i64 0,
      .one fun v _ => v = .bool true,
      .one fun v _ => v = .bool true,
      .one fun v _ => v = .bool true,
      .one fun v _ => v = .agg #[.bool b8_7, .slice a8_7 n8_7 c8_7, .slice d8_7 m8_7 o8_7, .bool bb8_7, .slice aa8_7 nn8_7 cc8_7, .slice dd8_7 mm8_7 oo8_7],
      .one fun v _ => v = .agg #[.bool b9_7, .slice a9_7 n9_7 c9_7, .slice d9_7 m9_7 o9_7],
      .one fun v _ => v = .bool true,
      .one fun v _ => v = .bool true,
      .one fun v _ => v = .bool true,
      .one fun v _ => v = .agg #[.bool b8_7, .slice a8_7 n8_7 c8_7, .slice d8_7 m8_7 o8_7, .bool bb8_7, .slice aa8_7 nn8_7 cc8_7, .slice dd8_7 mm8_7 oo8_7],
      .one fun v _ => v = .bool true,
      .one fun v _ => v = .bool true,
      .one fun v _ => v = .bool true]
     (fun W => Ext w W ∧ Bx6 W w.heap.size 29 (.bool b1) (.slice a1 n1 c1) (.slice d1 m1 o1) (.bool bb1) (.slice aa1 nn1 cc1) (.slice dd1 mm1 oo1) ∧ Bx6 W (w.heap.size + 1) 29 (.bool b2) (.slice a2 n2 c2) (.slice d2 m2 o2) (.bool bb2) (.slice aa2 nn2 cc2) (.slice dd2 mm2 oo2) ∧ Bx2 W (w.heap.size + 1 + 1) 48 (.int .u8 (f0 : Int)) (.int .u8 (f1 : Int)) ∧ Sw W (.agg #[.bool b1, .slice a1 n1 c1, .slice d1 m1 o1, .bool bb1, .slice aa1 nn1 cc1, .slice dd1 mm1 oo1]) p ∧ Sw W (.agg #[.bool b2, .slice a2 n2 c2, .slice d2 m2 o2, .bool bb2, .slice aa2 nn2 cc2, .slice dd2 mm2 oo2]) q ∧ Rw W (.agg #[.bool b3_10, .slice a3_10 n3_10 c3_10, .slice d3_10 m3_10 o3_10]) x ∧ Bx3 W g3_10 27 (.bool b3_10) (.slice a3_10 n3_10 c3_10) (.slice d3_10 m3_10 o3_10) ∧ Rw W (.agg #[.bool b3_11, .slice a3_11 n3_11 c3_11, .slice d3_11 m3_11 o3_11]) y ∧ Bx3 W g3_11 27 (.bool b3_11) (.slice a3_11 n3_11 c3_11) (.slice d3_11 m3_11 o3_11) ∧ Sw W (.agg #[.bool b4_8, .slice a4_8 n4_8 c4_8, .slice d4_8 m4_8 o4_8, .bool bb4_8, .slice aa4_8 nn4_8 cc4_8, .slice dd4_8 mm4_8 oo4_8]) sm ∧ Bx6 W g4_8 29 (.bool b4_8) (.slice a4_8 n4_8 c4_8) (.slice d4_8 m4_8 o4_8) (.bool bb4_8) (.slice aa4_8 nn4_8 cc4_8) (.slice dd4_8 mm4_8 oo4_8) ∧ Sw W (.agg #[.bool b4_9, .slice a4_9 n4_9 c4_9, .slice d4_9 m4_9 o4_9, .bool bb4_9, .slice aa4_9 nn4_9 cc4_9, .slice dd4_9 mm4_9 oo4_9]) pr ∧ Bx6 W g4_9 29 (.bool b4_9) (.slice a4_9 n4_9 c4_9) (.slice d4_9 m4_9 o4_9) (.bool bb4_9) (.slice aa4_9 nn4_9 cc4_9) (.slice dd4_9 mm4_9 oo4_9) ∧ Rw W u5_3 (x + y) ∧ Rw W u5_10 (x * y) ∧ Sw W (.agg #[.bool b6_9, .slice a6_9 n6_9 c6_9, .slice d6_9 m6_9 o6_9, .bool bb6_9, .slice aa6_9 nn6_9 cc6_9, .slice dd6_9 mm6_9 oo6_9]) wd ∧ Bx6 W g6_9 29 (.bool b6_9) (.slice a6_9 n6_9 c6_9) (.slice d6_9 m6_9 o6_9) (.bool bb6_9) (.slice aa6_9 nn6_9 cc6_9) (.slice dd6_9 mm6_9 oo6_9) ∧ Sw W (.agg #[.bool b8_7, .slice a8_7 n8_7 c8_7, .slice d8_7 m8_7 o8_7, .bool bb8_7, .slice aa8_7 nn8_7 cc8_7, .slice dd8_7 mm8_7 oo8_7]) dv ∧ Bx6 W g8_7 29 (.bool b8_7) (.slice a8_7 n8_7 c8_7) (.slice d8_7 m8_7 o8_7) (.bool bb8_7) (.slice aa8_7 nn8_7 cc8_7) (.slice dd8_7 mm8_7 oo8_7) ∧ Rw W (.agg #[.bool b9_7, .slice a9_7 n9_7 c9_7, .slice d9_7 m9_7 o9_7]) (x / y) ∧ Bx3 W g9_7 27 (.bool b9_7) (.slice a9_7 n9_7 c9_7) (.slice d9_7 m9_7 o9_7) ∧ Rw W u10_1 (((0 : Int) : Rat)) ∧ W10.heap.size ≤ W.heap.size) ⟨Good.is _, Good.is _, Good.is _, Good.is _, Good.is _, Good.is _, Good.is _, Good.is _, Good.is _, Good.is _, Good.is _, Good.is _, Good.is _, Good.is _, Good.is _, Good.is _, Good.is _, Good.is _, Good.is _, trivial⟩
     ⟨E0, p3, p4, p5, hsp, hsq, h3_3, p3_10, h3_7, p3_11, h4_2, p4_8, h4_5, p4_9, h5_3, h5_10, h6_6, p6_9, h8_4, p8_7, h9_4, p9_7, h10_1, Nat.le_refl _⟩ (A := ?A11) ?hA11 ?howe11 ?hfin11
    case hA11 =>
     intro vs
     simp only [putAll, Act.put, sA, sZ, sS, Nat.zero_add, Nat.reduceAdd]
     exact rfl
    case howe11 =>
     clear E0 p3 p4 p5 hsp hsq h3_3 p3_10 h3_7 p3_11 h4_2 p4_8 h4_5 p4_9 h5_3 h5_10 h6_6 p6_9 h8_4 p8_7 h9_4 p9_7 h10_1
     intro hf
     refine ⟨oE 0 [] hf rfl ?_, oE 1 [0] hf rfl ?_, oE 2 [1] hf rfl ?_, oE 3 [1, 2] hf rfl ?_, oE 4 [1, 3] hf rfl ?_, oE 5 [4] hf rfl ?_, oE 6 [5] hf rfl ?_, oE 7 [5, 6] hf rfl ?_, oE 8 [5, 7] hf rfl ?_, oE 9 [8] hf rfl ?_, oE 10 [9] hf rfl ?_, oE 11 [9] hf rfl ?_, oE 12 [9, 10, 11] hf rfl ?_, oE 13 [9, 12] hf rfl ?_, oE 14 [13] hf rfl ?_, oE 15 [14] hf rfl ?_, oE 16 [14, 15] hf rfl ?_, oE 17 [14, 16] hf rfl ?_, oE 18 [17] hf rfl ?_, trivial⟩
     all_goals intro vs W hS hp hx KO hKO
     all_goals simp only [Act.put, sA, sZ, sS] at hKO
     ·go_simp
      refine (Tryz.alive07 _).mono ?_
      rintro e W1 ⟨rfl, hE⟩
      exact hKO _ W1 hE rfl
     ·have e0 := isOf hp.1; simp only [e0] at hKO; go_simp; exact hKO _ W (.refl W) rfl
     ·have e1 := isOf hp.1; simp only [e1] at hKO; go_simp; exact hKO _ W (.refl W) rfl
     ·have e1 := isOf hp.1; have e2 := isOf hp.2.1; simp only [e1, e2] at hKO; go_simp; exact hKO _ W (.refl W) rfl
     ·have e1 := isOf hp.1; have e3 := isOf hp.2.1; simp only [e1, e3] at hKO; go_simp; exact hKO _ W (.refl W) rfl
     ·have e4 := isOf hp.1; simp only [e4] at hKO; go_simp; exact hKO _ W (.refl W) rfl
     ·have e5 := isOf hp.1; simp only [e5] at hKO; go_simp; exact hKO _ W (.refl W) rfl
     ·have e5 := isOf hp.1; have e6 := isOf hp.2.1; simp only [e5, e6] at hKO; go_simp; exact hKO _ W (.refl W) rfl
     ·have e5 := isOf hp.1; have e7 := isOf hp.2.1; simp only [e5, e7] at hKO; go_simp; exact hKO _ W (.refl W) rfl
     ·have e8 := isOf hp.1; simp only [e8] at hKO; go_simp; exact hKO _ W (.refl W) rfl
     ·have e9 := isOf hp.1; simp only [e9] at hKO; have fc0 := hS.2.2.2.2.2.2.2.2.2.2.2.2.2.2.2.2.2.2.2.1.cell0; have fc1 := hS.2.2.2.2.2.2.2.2.2.2.2.2.2.2.2.2.2.2.2.1.cell1; have fc2 := hS.2.2.2.2.2.2.2.2.2.2.2.2.2.2.2.2.2.2.2.1.cell2; have fc3 := hS.2.2.2.2.2.2.2.2.2.2.2.2.2.2.2.2.2.2.2.1.cell3; have fc4 := hS.2.2.2.2.2.2.2.2.2.2.2.2.2.2.2.2.2.2.2.1.cell4; have fc5 := hS.2.2.2.2.2.2.2.2.2.2.2.2.2.2.2.2.2.2.2.1.cell5; go_simp; exact hKO _ W (.refl W) rfl
     ·have e9 := isOf hp.1; simp only [e9] at hKO; have fc0 := hS.2.2.2.2.2.2.2.2.2.2.2.2.2.2.2.2.2.2.2.2.2.1.cell0; have fc1 := hS.2.2.2.2.2.2.2.2.2.2.2.2.2.2.2.2.2.2.2.2.2.1.cell1; have fc2 := hS.2.2.2.2.2.2.2.2.2.2.2.2.2.2.2.2.2.2.2.2.2.1.cell2; go_simp; exact hKO _ W (.refl W) rfl
     ·have e9 := isOf hp.1; have e10 := isOf hp.2.1; have e11 := isOf hp.2.2.1; simp only [e9, e10, e11] at hKO; go_simp
      refine (Tryz.rsHas (hS.2.2.2.2.2.2.2.2.2.2.2.2.2.2.2.2.2.2.1) (hS.2.2.2.2.2.2.2.2.2.2.2.2.2.2.2.2.2.2.2.2.1) (SDV.out.mono (by omega)) SQD.out (by omega)).mono ?_
      rintro e W1 ⟨rfl, hE⟩
      rw [HD1.out]
      exact hKO _ W1 hE rfl
     ·have e9 := isOf hp.1; have e12 := isOf hp.2.1; simp only [e9, e12] at hKO; go_simp; exact hKO _ W (.refl W) rfl
     ·have e13 := isOf hp.1; simp only [e13] at hKO; go_simp; exact hKO _ W (.refl W) rfl
     ·have e14 := isOf hp.1; simp only [e14] at hKO; have fc0 := hS.2.2.2.2.2.2.2.2.2.2.2.2.2.2.2.2.2.2.2.1.cell0; have fc1 := hS.2.2.2.2.2.2.2.2.2.2.2.2.2.2.2.2.2.2.2.1.cell1; have fc2 := hS.2.2.2.2.2.2.2.2.2.2.2.2.2.2.2.2.2.2.2.1.cell2; have fc3 := hS.2.2.2.2.2.2.2.2.2.2.2.2.2.2.2.2.2.2.2.1.cell3; have fc4 := hS.2.2.2.2.2.2.2.2.2.2.2.2.2.2.2.2.2.2.2.1.cell4; have fc5 := hS.2.2.2.2.2.2.2.2.2.2.2.2.2.2.2.2.2.2.2.1.cell5; go_simp; exact hKO _ W (.refl W) rfl
     ·have e14 := isOf hp.1; have e15 := isOf hp.2.1; simp only [e14, e15] at hKO; go_simp
      refine (Tryz.rsRight (hS.2.2.2.2.2.2.2.2.2.2.2.2.2.2.2.2.2.2.1) SDV.out (by omega)).mono ?_
      rintro e W1 ⟨rfl, hE⟩
      rw [HD2.out]
      exact hKO _ W1 hE rfl
     ·have e14 := isOf hp.1; have e16 := isOf hp.2.1; simp only [e14, e16] at hKO; go_simp; exact hKO _ W (.refl W) rfl
     ·have e17 := isOf hp.1; simp only [e17] at hKO; go_simp; exact hKO _ W (.refl W) rfl
    intro vs W11 hS hp
    clear szw11 E0 p3 p4 p5 hsp hsq h3_3 p3_10 h3_7 p3_11 h4_2 p4_8 h4_5 p4_9 h5_3 h5_10 h6_6 p6_9 h8_4 p8_7 h9_4 p9_7 h10_1
    obtain ⟨E0, p3, p4, p5, hsp, hsq, h3_3, p3_10, h3_7, p3_11, h4_2, p4_8, h4_5, p4_9, h5_3, h5_10, h6_6, p6_9, h8_4, p8_7, h9_4, p9_7, h10_1, sz11⟩ := hS
    obtain ⟨h11_0, h11_1, h11_2, h11_3, h11_4, h11_5, h11_6, h11_7, h11_8, h11_9, h11_10, h11_11, h11_12, h11_13, h11_14, h11_15, h11_16, h11_17, h11_18, -⟩ := hp
    replace h11_0 : vs 0 = .bool true := h11_0
    replace h11_1 : vs 1 = .bool true := h11_1
    replace h11_2 : vs 2 = .int .i64 0 := h11_2
    replace h11_3 : vs 3 = .bool true := h11_3
    replace h11_4 : vs 4 = .bool true := h11_4
    replace h11_5 : vs 5 = .bool true := h11_5
    replace h11_6 : vs 6 = .int .i64 0 := h11_6
    replace h11_7 : vs 7 = .bool true := h11_7
    replace h11_8 : vs 8 = .bool true := h11_8
    replace h11_9 : vs 9 = .bool true := h11_9
    replace h11_10 : vs 10 = .agg #[.bool b8_7, .slice a8_7 n8_7 c8_7, .slice d8_7 m8_7 o8_7, .bool bb8_7, .slice aa8_7 nn8_7 cc8_7, .slice dd8_7 mm8_7 oo8_7] := h11_10
    replace h11_11 : vs 11 = .agg #[.bool b9_7, .slice a9_7 n9_7 c9_7, .slice d9_7 m9_7 o9_7] := h11_11
    replace h11_12 : vs 12 = .bool true := h11_12
    replace h11_13 : vs 13 = .bool true := h11_13
    replace h11_14 : vs 14 = .bool true := h11_14
    replace h11_15 : vs 15 = .agg #[.bool b8_7, .slice a8_7 n8_7 c8_7, .slice d8_7 m8_7 o8_7, .bool bb8_7, .slice aa8_7 nn8_7 cc8_7, .slice dd8_7 mm8_7 oo8_7] := h11_15
    replace h11_16 : vs 16 = .bool true := h11_16
    replace h11_17 : vs 17 = .bool true := h11_17
    replace h11_18 : vs 18 = .bool true := h11_18
    simp only [h11_0, h11_1, h11_2, h11_3, h11_4, h11_5, h11_6, h11_7, h11_8, h11_9, h11_10, h11_11, h11_12, h11_13, h11_14, h11_15, h11_16, h11_17, h11_18]
    clear h11_0 h11_1 h11_2 h11_3 h11_4 h11_5 h11_6 h11_7 h11_8 h11_9 h11_10 h11_11 h11_12 h11_13 h11_14 h11_15 h11_16 h11_17 h11_18
    obtain ⟨kp3_0, kp3_1, kp3_2, kp3_3, kp3_4, kp3_5⟩ := p3.c6
    obtain ⟨kp4_0, kp4_1, kp4_2, kp4_3, kp4_4, kp4_5⟩ := p4.c6
    obtain ⟨kp5_0, kp5_1⟩ := p5.c2
    obtain ⟨kp3_10_0, kp3_10_1, kp3_10_2⟩ := p3_10.c3
    obtain ⟨kp3_11_0, kp3_11_1, kp3_11_2⟩ := p3_11.c3
    obtain ⟨kp4_8_0, kp4_8_1, kp4_8_2, kp4_8_3, kp4_8_4, kp4_8_5⟩ := p4_8.c6
    obtain ⟨kp4_9_0, kp4_9_1, kp4_9_2, kp4_9_3, kp4_9_4, kp4_9_5⟩ := p4_9.c6
    obtain ⟨kp6_9_0, kp6_9_1, kp6_9_2, kp6_9_3, kp6_9_4, kp6_9_5⟩ := p6_9.c6
    obtain ⟨kp8_7_0, kp8_7_1, kp8_7_2, kp8_7_3, kp8_7_4, kp8_7_5⟩ := p8_7.c6
    obtain ⟨kp9_7_0, kp9_7_1, kp9_7_2⟩ := p9_7.c3
    clear hsp hsq h3_3 h3_7 h4_2 h4_5 h5_3 h5_10 h6_6 h8_4 h9_4 h10_1; go_wp2; go_ret
    exact ⟨rfl, E0⟩
   ·have HH := Lib.hid hh
    have HHZ : Hid (hasS q ((0 : Int) : Rat) = true) := Lib.hid hh
    clear hh; have szw12 := Ext.size E0
    refine region_gs [.one fun v _ => v = .agg #[.bool b1, .slice a1 n1 c1, .slice d1 m1 o1, .bool bb1, .slice aa1 nn1 cc1, .slice dd1 mm1 oo1],
      .one fun v _ => v = .agg #[.bool b2, .slice a2 n2 c2, .slice d2 m2 o2, .bool bb2, .slice aa2 nn2 cc2, .slice dd2 mm2 oo2],
      .one fun v _ => v = .tuple #[.agg #[.bool false, .slice none 0 0, .slice none 0 0, .bool false, .slice none 0 0, .slice none 0 0], .int .i64 4],
      .one fun v _ => v = .tuple #[.agg #[.bool false, .slice none 0 0, .slice none 0 0, .bool false, .slice none 0 0, .slice none 0 0], .int .i64 4],
      .one fun v _ => v = .agg #[.bool false, .slice none 0 0, .slice none 0 0, .bool false, .slice none 0 0, .slice none 0 0],
      .one fun v _ => v = .int .i64 4,
      .one fun v W => ∃ g, v = .pointer (some ⟨g, 0, none⟩) ∧ W7.heap.size ≤ g ∧ Form W g 29 6,
      .two 6 (fun p _ W => New6 W7.heap.size 29 (.bool false) (.slice none 0 0) (.slice none 0 0) (.bool false) (.slice none 0 0) (.slice none 0 0) p W),
      .one fun v _ => v = .int .i64 4]
     (fun W => Ext w W ∧ Bx6 W w.heap.size 29 (.bool b1) (.slice a1 n1 c1) (.slice d1 m1 o1) (.bool bb1) (.slice aa1 nn1 cc1) (.slice dd1 mm1 oo1) ∧ Bx6 W (w.heap.size + 1) 29 (.bool b2) (.slice a2 n2 c2) (.slice d2 m2 o2) (.bool bb2) (.slice aa2 nn2 cc2) (.slice dd2 mm2 oo2) ∧ Bx2 W (w.heap.size + 1 + 1) 48 (.int .u8 (f0 : Int)) (.int .u8 (f1 : Int)) ∧ Sw W (.agg #[.bool b1, .slice a1 n1 c1, .slice d1 m1 o1, .bool bb1, .slice aa1 nn1 cc1, .slice dd1 mm1 oo1]) p ∧ Sw W (.agg #[.bool b2, .slice a2 n2 c2, .slice d2 m2 o2, .bool bb2, .slice aa2 nn2 cc2, .slice dd2 mm2 oo2]) q ∧ Rw W (.agg #[.bool b3_10, .slice a3_10 n3_10 c3_10, .slice d3_10 m3_10 o3_10]) x ∧ Bx3 W g3_10 27 (.bool b3_10) (.slice a3_10 n3_10 c3_10) (.slice d3_10 m3_10 o3_10) ∧ Rw W (.agg #[.bool b3_11, .slice a3_11 n3_11 c3_11, .slice d3_11 m3_11 o3_11]) y ∧ Bx3 W g3_11 27 (.bool b3_11) (.slice a3_11 n3_11 c3_11) (.slice d3_11 m3_11 o3_11) ∧ Sw W (.agg #[.bool b4_8, .slice a4_8 n4_8 c4_8, .slice d4_8 m4_8 o4_8, .bool bb4_8, .slice aa4_8 nn4_8 cc4_8, .slice dd4_8 mm4_8 oo4_8]) sm ∧ Bx6 W g4_8 29 (.bool b4_8) (.slice a4_8 n4_8 c4_8) (.slice d4_8 m4_8 o4_8) (.bool bb4_8) (.slice aa4_8 nn4_8 cc4_8) (.slice dd4_8 mm4_8 oo4_8) ∧ Sw W (.agg #[.bool b4_9, .slice a4_9 n4_9 c4_9, .slice d4_9 m4_9 o4_9, .bool bb4_9, .slice aa4_9 nn4_9 cc4_9, .slice dd4_9 mm4_9 oo4_9]) pr ∧ Bx6 W g4_9 29 (.bool b4_9) (.slice a4_9 n4_9 c4_9) (.slice d4_9 m4_9 o4_9) (.bool bb4_9) (.slice aa4_9 nn4_9 cc4_9) (.slice dd4_9 mm4_9 oo4_9) ∧ Rw W u5_3 (x + y) ∧ Rw W u5_10 (x * y) ∧ Sw W (.agg #[.bool b6_9, .slice a6_9 n6_9 c6_9, .slice d6_9 m6_9 o6_9, .bool bb6_9, .slice aa6_9 nn6_9 cc6_9, .slice dd6_9 mm6_9 oo6_9]) wd ∧ Bx6 W g6_9 29 (.bool b6_9) (.slice a6_9 n6_9 c6_9) (.slice d6_9 m6_9 o6_9) (.bool bb6_9) (.slice aa6_9 nn6_9 cc6_9) (.slice dd6_9 mm6_9 oo6_9) ∧ W7.heap.size ≤ W.heap.size) ⟨Good.is _, Good.is _, Good.is _, Good.is _, Good.is _, Good.is _, Good.box _ _ _, cert_new6, Good.is _, trivial⟩
     ⟨E0, p3, p4, p5, hsp, hsq, h3_3, p3_10, h3_7, p3_11, h4_2, p4_8, h4_5, p4_9, h5_3, h5_10, h6_6, p6_9, Nat.le_refl _⟩ (A := ?A12) ?hA12 ?howe12 ?hfin12
    case hA12 =>
     intro vs
     simp only [putAll, Act.put, sA, sZ, sS, Nat.zero_add, Nat.reduceAdd]
     exact rfl
    case howe12 =>
     clear E0 p3 p4 p5 hsp hsq h3_3 p3_10 h3_7 p3_11 h4_2 p4_8 h4_5 p4_9 h5_3 h5_10 h6_6 p6_9
     intro hf
     refine ⟨oE 0 [] hf rfl ?_, oE 1 [] hf rfl ?_, oE 2 [0, 1] hf rfl ?_, oE 3 [2] hf rfl ?_, oE 4 [3] hf rfl ?_, oE 5 [3] hf rfl ?_, oE 6 [] hf rfl ?_, oW 7 [6, 4] hf rfl ?_, oE 8 [5] hf rfl ?_, trivial⟩
     all_goals intro vs W hS hp hx KO hKO
     all_goals simp only [Act.put, sA, sZ, sS] at hKO
     ·have fc0 := hS.2.1.cell0; have fc1 := hS.2.1.cell1; have fc2 := hS.2.1.cell2; have fc3 := hS.2.1.cell3; have fc4 := hS.2.1.cell4; have fc5 := hS.2.1.cell5; go_simp; exact hKO _ W (.refl W) rfl
     ·have fc0 := hS.2.2.1.cell0; have fc1 := hS.2.2.1.cell1; have fc2 := hS.2.2.1.cell2; have fc3 := hS.2.2.1.cell3; have fc4 := hS.2.2.1.cell4; have fc5 := hS.2.2.1.cell5; go_simp; exact hKO _ W (.refl W) rfl
     ·have e0 := isOf hp.1; have e1 := isOf hp.2.1; simp only [e0, e1] at hKO; go_simp
      refine (Tryz.ivDiv0 (hS.2.2.2.2.1) (hS.2.2.2.2.2.1) SQ.out (by omega) (by omega) HH.out).mono ?_
      rintro e W1 ⟨rfl, hE⟩
      exact hKO _ W1 hE rfl
     ·have e2 := isOf hp.1; simp only [e2] at hKO; go_simp; exact hKO _ W (.refl W) rfl
     ·have e3 := isOf hp.1; simp only [e3] at hKO; go_simp; exact hKO _ W (.refl W) rfl
     ·have e3 := isOf hp.1; simp only [e3] at hKO; go_simp; exact hKO _ W (.refl W) rfl
     ·have hn := Bx6.new W 29 (.bool false) (.slice none 0 0) (.slice none 0 0) (.bool false) (.slice none 0 0) (.slice none 0 0)
      have hE := Ext.alloc1 W (.cells #[.bool false, .slice none 0 0, .slice none 0 0, .bool false, .slice none 0 0, .slice none 0 0] 29)
      have hsz := hS.2.2.2.2.2.2.2.2.2.2.2.2.2.2.2.2.2.2
      go_simp
      exact hKO _ _ hE ⟨_, rfl, hsz, hn.form⟩
     ·have q6 := hp.1; have e4 := isOf hp.2.1; simp only [e4] at hKO
      obtain ⟨g, ev, hg, hf⟩ := q6
      replace ev : vs 6 = _ := ev
      obtain ⟨x0_0, x0_1, x0_2, x0_3, x0_4, x0_5, hx, hno⟩ := hf.bx6
      have r0 := hx.froz0
      have t0 := hx.cell0
      have r1 := hx.froz1
      have t1 := hx.cell1
      have r2 := hx.froz2
      have t2 := hx.cell2
      have r3 := hx.froz3
      have t3 := hx.cell3
      have r4 := hx.froz4
      have t4 := hx.cell4
      have r5 := hx.froz5
      have t5 := hx.cell5
      have hw := Wr.set6 hx hno false none 0 0 none 0 0 false none 0 0 none 0 0
      have hq := hx.set (.bool false) (.slice none 0 0) (.slice none 0 0) (.bool false) (.slice none 0 0) (.slice none 0 0)
      simp only [ev] at hKO; go_simp
      exact hKO _ _ hw ⟨(Ext.wr hS.1 hw (by omega)), (hS.2.1.wr hw (by omega)), (hS.2.2.1.wr hw (by omega)), (hS.2.2.2.1.wr hw (by omega)), (hS.2.2.2.2.1.wr hw), (hS.2.2.2.2.2.1.wr hw), (hS.2.2.2.2.2.2.1.wr hw), (hS.2.2.2.2.2.2.2.1.wr hw (by omega)), (hS.2.2.2.2.2.2.2.2.1.wr hw), (hS.2.2.2.2.2.2.2.2.2.1.wr hw (by omega)), (hS.2.2.2.2.2.2.2.2.2.2.1.wr hw), (hS.2.2.2.2.2.2.2.2.2.2.2.1.wr hw (by omega)), (hS.2.2.2.2.2.2.2.2.2.2.2.2.1.wr hw), (hS.2.2.2.2.2.2.2.2.2.2.2.2.2.1.wr hw (by omega)), (hS.2.2.2.2.2.2.2.2.2.2.2.2.2.2.1.wr hw), (hS.2.2.2.2.2.2.2.2.2.2.2.2.2.2.2.1.wr hw), (hS.2.2.2.2.2.2.2.2.2.2.2.2.2.2.2.2.1.wr hw), (hS.2.2.2.2.2.2.2.2.2.2.2.2.2.2.2.2.2.1.wr hw (by omega)), (Nat.le_trans hS.2.2.2.2.2.2.2.2.2.2.2.2.2.2.2.2.2.2 hw.apart.size)⟩ ⟨g, ev, hg, hq⟩
     ·have e5 := isOf hp.1; simp only [e5] at hKO; go_simp; exact hKO _ W (.refl W) rfl
    intro vs W12 hS hp
    clear szw12 E0 p3 p4 p5 hsp hsq h3_3 p3_10 h3_7 p3_11 h4_2 p4_8 h4_5 p4_9 h5_3 h5_10 h6_6 p6_9
    obtain ⟨E0, p3, p4, p5, hsp, hsq, h3_3, p3_10, h3_7, p3_11, h4_2, p4_8, h4_5, p4_9, h5_3, h5_10, h6_6, p6_9, sz12⟩ := hS
    obtain ⟨h12_0, h12_1, h12_2, h12_3, h12_4, h12_5, h12_6, h12_7, h12_8, -⟩ := hp
    obtain ⟨g12_7, ev12_7, hg12_7, p12_7⟩ := h12_7
    replace ev12_7 : vs 6 = _ := ev12_7
    replace h12_0 : vs 0 = .agg #[.bool b1, .slice a1 n1 c1, .slice d1 m1 o1, .bool bb1, .slice aa1 nn1 cc1, .slice dd1 mm1 oo1] := h12_0
    replace h12_1 : vs 1 = .agg #[.bool b2, .slice a2 n2 c2, .slice d2 m2 o2, .bool bb2, .slice aa2 nn2 cc2, .slice dd2 mm2 oo2] := h12_1
    replace h12_2 : vs 2 = .tuple #[.agg #[.bool false, .slice none 0 0, .slice none 0 0, .bool false, .slice none 0 0, .slice none 0 0], .int .i64 4] := h12_2
    replace h12_3 : vs 3 = .tuple #[.agg #[.bool false, .slice none 0 0, .slice none 0 0, .bool false, .slice none 0 0, .slice none 0 0], .int .i64 4] := h12_3
    replace h12_4 : vs 4 = .agg #[.bool false, .slice none 0 0, .slice none 0 0, .bool false, .slice none 0 0, .slice none 0 0] := h12_4
    replace h12_5 : vs 5 = .int .i64 4 := h12_5
    replace h12_8 : vs 8 = .int .i64 4 := h12_8
    simp only [ev12_7, h12_0, h12_1, h12_2, h12_3, h12_4, h12_5, h12_8]
    clear ev12_7 h12_0 h12_1 h12_2 h12_3 h12_4 h12_5 h12_8 h12_6
    by_cases hy0 : y = 0
    ·have HY0 := Lib.hid hy0
     clear hy0
     have hzh3_7 := h3_7
     obtain ⟨kp3_0, kp3_1, kp3_2, kp3_3, kp3_4, kp3_5⟩ := p3.c6
     obtain ⟨kp4_0, kp4_1, kp4_2, kp4_3, kp4_4, kp4_5⟩ := p4.c6
     obtain ⟨kp5_0, kp5_1⟩ := p5.c2
     obtain ⟨kp3_10_0, kp3_10_1, kp3_10_2⟩ := p3_10.c3
     obtain ⟨kp3_11_0, kp3_11_1, kp3_11_2⟩ := p3_11.c3
     obtain ⟨kp4_8_0, kp4_8_1, kp4_8_2, kp4_8_3, kp4_8_4, kp4_8_5⟩ := p4_8.c6
     obtain ⟨kp4_9_0, kp4_9_1, kp4_9_2, kp4_9_3, kp4_9_4, kp4_9_5⟩ := p4_9.c6
     obtain ⟨kp6_9_0, kp6_9_1, kp6_9_2, kp6_9_3, kp6_9_4, kp6_9_5⟩ := p6_9.c6
     obtain ⟨kp12_7_0, kp12_7_1, kp12_7_2, kp12_7_3, kp12_7_4, kp12_7_5⟩ := p12_7.c6
     go_upto_region 11 with (fail)
     clear kp3_0 kp3_1 kp3_2 kp3_3 kp3_4 kp3_5 kp4_0 kp4_1 kp4_2 kp4_3 kp4_4 kp4_5 kp5_0 kp5_1 kp3_10_0 kp3_10_1 kp3_10_2 kp3_11_0 kp3_11_1 kp3_11_2 kp4_8_0 kp4_8_1 kp4_8_2 kp4_8_3 kp4_8_4 kp4_8_5 kp4_9_0 kp4_9_1 kp4_9_2 kp4_9_3 kp4_9_4 kp4_9_5 kp6_9_0 kp6_9_1 kp6_9_2 kp6_9_3 kp6_9_4 kp6_9_5 kp12_7_0 kp12_7_1 kp12_7_2 kp12_7_3 kp12_7_4 kp12_7_5; have ltp12_7 := p12_7.lt; have szw13 := Ext.size E0
     refine region_gs [.one fun v _ => v = .agg #[.bool b3_10, .slice a3_10 n3_10 c3_10, .slice d3_10 m3_10 o3_10],
       .one fun v _ => v = .agg #[.bool b3_11, .slice a3_11 n3_11 c3_11, .slice d3_11 m3_11 o3_11],
       .one fun v _ => v = .tuple #[.agg #[.bool false, .slice none 0 0, .slice none 0 0], .int .i64 4],
       .one fun v _ => v = .tuple #[.agg #[.bool false, .slice none 0 0, .slice none 0 0], .int .i64 4],
       .one fun v _ => v = .agg #[.bool false, .slice none 0 0, .slice none 0 0],
       .one fun v _ => v = .int .i64 4,
       .one fun v W => ∃ g, v = .pointer (some ⟨g, 0, none⟩) ∧ W12.heap.size ≤ g ∧ Form W g 27 3,
       .two 6 (fun p _ W => New3 W12.heap.size 27 (.bool false) (.slice none 0 0) (.slice none 0 0) p W),
       .one fun v _ => v = .int .i64 4]
      (fun W => Ext w W ∧ Bx6 W w.heap.size 29 (.bool b1) (.slice a1 n1 c1) (.slice d1 m1 o1) (.bool bb1) (.slice aa1 nn1 cc1) (.slice dd1 mm1 oo1) ∧ Bx6 W (w.heap.size + 1) 29 (.bool b2) (.slice a2 n2 c2) (.slice d2 m2 o2) (.bool bb2) (.slice aa2 nn2 cc2) (.slice dd2 mm2 oo2) ∧ Bx2 W (w.heap.size + 1 + 1) 48 (.int .u8 (f0 : Int)) (.int .u8 (f1 : Int)) ∧ Sw W (.agg #[.bool b1, .slice a1 n1 c1, .slice d1 m1 o1, .bool bb1, .slice aa1 nn1 cc1, .slice dd1 mm1 oo1]) p ∧ Sw W (.agg #[.bool b2, .slice a2 n2 c2, .slice d2 m2 o2, .bool bb2, .slice aa2 nn2 cc2, .slice dd2 mm2 oo2]) q ∧ Rw W (.agg #[.bool b3_10, .slice a3_10 n3_10 c3_10, .slice d3_10 m3_10 o3_10]) x ∧ Bx3 W g3_10 27 (.bool b3_10) (.slice a3_10 n3_10 c3_10) (.slice d3_10 m3_10 o3_10) ∧ Rw W (.agg #[.bool b3_11, .slice a3_11 n3_11 c3_11, .slice d3_11 m3_11 o3_11]) y ∧ Bx3 W g3_11 27 (.bool b3_11) (.slice a3_11 n3_11 c3_11) (.slice d3_11 m3_11 o3_11) ∧ Sw W (.agg #[.bool b4_8, .slice a4_8 n4_8 c4_8, .slice d4_8 m4_8 o4_8, .bool bb4_8, .slice aa4_8 nn4_8 cc4_8, .slice dd4_8 mm4_8 oo4_8]) sm ∧ Bx6 W g4_8 29 (.bool b4_8) (.slice a4_8 n4_8 c4_8) (.slice d4_8 m4_8 o4_8) (.bool bb4_8) (.slice aa4_8 nn4_8 cc4_8) (.slice dd4_8 mm4_8 oo4_8) ∧ Sw W (.agg #[.bool b4_9, .slice a4_9 n4_9 c4_9, .slice d4_9 m4_9 o4_9, .bool bb4_9, .slice aa4_9 nn4_9 cc4_9, .slice dd4_9 mm4_9 oo4_9]) pr ∧ Bx6 W g4_9 29 (.bool b4_9) (.slice a4_9 n4_9 c4_9) (.slice d4_9 m4_9 o4_9) (.bool bb4_9) (.slice aa4_9 nn4_9 cc4_9) (.slice dd4_9 mm4_9 oo4_9) ∧ Rw W u5_3 (x + y) ∧ Rw W u5_10 (x * y) ∧ Sw W (.agg #[.bool b6_9, .slice a6_9 n6_9 c6_9, .slice d6_9 m6_9 o6_9, .bool bb6_9, .slice aa6_9 nn6_9 cc6_9, .slice dd6_9 mm6_9 oo6_9]) wd ∧ Bx6 W g6_9 29 (.bool b6_9) (.slice a6_9 n6_9 c6_9) (.slice d6_9 m6_9 o6_9) (.bool bb6_9) (.slice aa6_9 nn6_9 cc6_9) (.slice dd6_9 mm6_9 oo6_9) ∧ Bx6 W g12_7 29 (.bool false) (.slice none 0 0) (.slice none 0 0) (.bool false) (.slice none 0 0) (.slice none 0 0) ∧ W12.heap.size ≤ W.heap.size) ⟨Good.is _, Good.is _, Good.is _, Good.is _, Good.is _, Good.is _, Good.box _ _ _, cert_new3, Good.is _, trivial⟩
      ⟨E0, p3, p4, p5, hsp, hsq, h3_3, p3_10, h3_7, p3_11, h4_2, p4_8, h4_5, p4_9, h5_3, h5_10, h6_6, p6_9, p12_7, Nat.le_refl _⟩ (A := ?A13) ?hA13 ?howe13 ?hfin13
     case hA13 =>
      intro vs
      simp only [putAll, Act.put, sA, sZ, sS, Nat.zero_add, Nat.reduceAdd]
      exact rfl
     case howe13 =>
      clear E0 p3 p4 p5 hsp hsq h3_3 p3_10 h3_7 p3_11 h4_2 p4_8 h4_5 p4_9 h5_3 h5_10 h6_6 p6_9 p12_7
      intro hf
      refine ⟨oE 0 [] hf rfl ?_, oE 1 [] hf rfl ?_, oE 2 [0, 1] hf rfl ?_, oE 3 [2] hf rfl ?_, oE 4 [3] hf rfl ?_, oE 5 [3] hf rfl ?_, oE 6 [] hf rfl ?_, oW 7 [6, 4] hf rfl ?_, oE 8 [5] hf rfl ?_, trivial⟩
      all_goals intro vs W hS hp hx KO hKO
      all_goals simp only [Act.put, sA, sZ, sS] at hKO
      ·have fc0 := hS.2.2.2.2.2.2.2.1.cell0; have fc1 := hS.2.2.2.2.2.2.2.1.cell1; have fc2 := hS.2.2.2.2.2.2.2.1.cell2; go_simp; exact hKO _ W (.refl W) rfl
      ·have fc0 := hS.2.2.2.2.2.2.2.2.2.1.cell0; have fc1 := hS.2.2.2.2.2.2.2.2.2.1.cell1; have fc2 := hS.2.2.2.2.2.2.2.2.2.1.cell2; go_simp; exact hKO _ W (.refl W) rfl
      ·have e0 := isOf hp.1; have e1 := isOf hp.2.1; simp only [e0, e1] at hKO; go_simp
       refine (Tryz.refRDiv0 (hS.2.2.2.2.2.2.1) (HY0.out ▸ (hS.2.2.2.2.2.2.2.2.1)) SX.out (by omega)).mono ?_
       rintro e W1 ⟨rfl, hE⟩
       exact hKO _ W1 hE rfl
      ·have e2 := isOf hp.1; simp only [e2] at hKO; go_simp; exact hKO _ W (.refl W) rfl
      ·have e3 := isOf hp.1; simp only [e3] at hKO; go_simp; exact hKO _ W (.refl W) rfl
      ·have e3 := isOf hp.1; simp only [e3] at hKO; go_simp; exact hKO _ W (.refl W) rfl
      ·have hn := Bx3.new W 27 (.bool false) (.slice none 0 0) (.slice none 0 0)
       have hE := Ext.alloc1 W (.cells #[.bool false, .slice none 0 0, .slice none 0 0] 27)
       have hsz := hS.2.2.2.2.2.2.2.2.2.2.2.2.2.2.2.2.2.2.2
       go_simp
       exact hKO _ _ hE ⟨_, rfl, hsz, hn.form⟩
      ·have q6 := hp.1; have e4 := isOf hp.2.1; simp only [e4] at hKO
       obtain ⟨g, ev, hg, hf⟩ := q6
       replace ev : vs 6 = _ := ev
       obtain ⟨x0_0, x0_1, x0_2, hx, hno⟩ := hf.bx3
       have r0 := hx.froz0
       have t0 := hx.cell0
       have r1 := hx.froz1
       have t1 := hx.cell1
       have r2 := hx.froz2
       have t2 := hx.cell2
       have hw := Wr.set3 hx hno false none 0 0 none 0 0
       have hq := hx.set (.bool false) (.slice none 0 0) (.slice none 0 0)
       simp only [ev] at hKO; go_simp
       exact hKO _ _ hw ⟨(Ext.wr hS.1 hw (by omega)), (hS.2.1.wr hw (by omega)), (hS.2.2.1.wr hw (by omega)), (hS.2.2.2.1.wr hw (by omega)), (hS.2.2.2.2.1.wr hw), (hS.2.2.2.2.2.1.wr hw), (hS.2.2.2.2.2.2.1.wr hw), (hS.2.2.2.2.2.2.2.1.wr hw (by omega)), (hS.2.2.2.2.2.2.2.2.1.wr hw), (hS.2.2.2.2.2.2.2.2.2.1.wr hw (by omega)), (hS.2.2.2.2.2.2.2.2.2.2.1.wr hw), (hS.2.2.2.2.2.2.2.2.2.2.2.1.wr hw (by omega)), (hS.2.2.2.2.2.2.2.2.2.2.2.2.1.wr hw), (hS.2.2.2.2.2.2.2.2.2.2.2.2.2.1.wr hw (by omega)), (hS.2.2.2.2.2.2.2.2.2.2.2.2.2.2.1.wr hw), (hS.2.2.2.2.2.2.2.2.2.2.2.2.2.2.2.1.wr hw), (hS.2.2.2.2.2.2.2.2.2.2.2.2.2.2.2.2.1.wr hw), (hS.2.2.2.2.2.2.2.2.2.2.2.2.2.2.2.2.2.1.wr hw (by omega)), (hS.2.2.2.2.2.2.2.2.2.2.2.2.2.2.2.2.2.2.1.wr hw (by omega)), (Nat.le_trans hS.2.2.2.2.2.2.2.2.2.2.2.2.2.2.2.2.2.2.2 hw.apart.size)⟩ ⟨g, ev, hg, hq⟩
      ·have e5 := isOf hp.1; simp only [e5] at hKO; go_simp; exact hKO _ W (.refl W) rfl
     intro vs W13 hS hp
     clear szw13 E0 p3 p4 p5 hsp hsq h3_3 p3_10 h3_7 p3_11 h4_2 p4_8 h4_5 p4_9 h5_3 h5_10 h6_6 p6_9 p12_7
     obtain ⟨E0, p3, p4, p5, hsp, hsq, h3_3, p3_10, h3_7, p3_11, h4_2, p4_8, h4_5, p4_9, h5_3, h5_10, h6_6, p6_9, p12_7, sz13⟩ := hS
     obtain ⟨h13_0, h13_1, h13_2, h13_3, h13_4, h13_5, h13_6, h13_7, h13_8, -⟩ := hp
     obtain ⟨g13_7, ev13_7, hg13_7, p13_7⟩ := h13_7
     replace ev13_7 : vs 6 = _ := ev13_7
     replace h13_0 : vs 0 = .agg #[.bool b3_10, .slice a3_10 n3_10 c3_10, .slice d3_10 m3_10 o3_10] := h13_0
     replace h13_1 : vs 1 = .agg #[.bool b3_11, .slice a3_11 n3_11 c3_11, .slice d3_11 m3_11 o3_11] := h13_1
     replace h13_2 : vs 2 = .tuple #[.agg #[.bool false, .slice none 0 0, .slice none 0 0], .int .i64 4] := h13_2
     replace h13_3 : vs 3 = .tuple #[.agg #[.bool false, .slice none 0 0, .slice none 0 0], .int .i64 4] := h13_3
     replace h13_4 : vs 4 = .agg #[.bool false, .slice none 0 0, .slice none 0 0] := h13_4
     replace h13_5 : vs 5 = .int .i64 4 := h13_5
     replace h13_8 : vs 8 = .int .i64 4 := h13_8
     simp only [ev13_7, h13_0, h13_1, h13_2, h13_3, h13_4, h13_5, h13_8]
     clear ev13_7 h13_0 h13_1 h13_2 h13_3 h13_4 h13_5 h13_8 h13_6
     obtain ⟨kp3_0, kp3_1, kp3_2, kp3_3, kp3_4, kp3_5⟩ := p3.c6
     obtain ⟨kp4_0, kp4_1, kp4_2, kp4_3, kp4_4, kp4_5⟩ := p4.c6
     obtain ⟨kp5_0, kp5_1⟩ := p5.c2
     obtain ⟨kp3_10_0, kp3_10_1, kp3_10_2⟩ := p3_10.c3
     obtain ⟨kp3_11_0, kp3_11_1, kp3_11_2⟩ := p3_11.c3
     obtain ⟨kp4_8_0, kp4_8_1, kp4_8_2, kp4_8_3, kp4_8_4, kp4_8_5⟩ := p4_8.c6
     obtain ⟨kp4_9_0, kp4_9_1, kp4_9_2, kp4_9_3, kp4_9_4, kp4_9_5⟩ := p4_9.c6
     obtain ⟨kp6_9_0, kp6_9_1, kp6_9_2, kp6_9_3, kp6_9_4, kp6_9_5⟩ := p6_9.c6
     obtain ⟨kp12_7_0, kp12_7_1, kp12_7_2, kp12_7_3, kp12_7_4, kp12_7_5⟩ := p12_7.c6
     obtain ⟨kp13_7_0, kp13_7_1, kp13_7_2⟩ := p13_7.c3
     go_upto_region 12 with (fail)
     clear kp3_0 kp3_1 kp3_2 kp3_3 kp3_4 kp3_5 kp4_0 kp4_1 kp4_2 kp4_3 kp4_4 kp4_5 kp5_0 kp5_1 kp3_10_0 kp3_10_1 kp3_10_2 kp3_11_0 kp3_11_1 kp3_11_2 kp4_8_0 kp4_8_1 kp4_8_2 kp4_8_3 kp4_8_4 kp4_8_5 kp4_9_0 kp4_9_1 kp4_9_2 kp4_9_3 kp4_9_4 kp4_9_5 kp6_9_0 kp6_9_1 kp6_9_2 kp6_9_3 kp6_9_4 kp6_9_5 kp12_7_0 kp12_7_1 kp12_7_2 kp12_7_3 kp12_7_4 kp12_7_5 kp13_7_0 kp13_7_1 kp13_7_2; have ltp13_7 := p13_7.lt; have szw14 := Ext.size E0
     refine region_gs [.one fun v _ => v = .agg #[.bool b2, .slice a2 n2 c2, .slice d2 m2 o2, .bool bb2, .slice aa2 nn2 cc2, .slice dd2 mm2 oo2],
       .one fun v W => Rw W v (((0 : Int) : Rat)),
       .one fun v _ => v = .bool true,
       .one fun v _ => v = .bool true]
      (fun W => Ext w W ∧ Bx6 W w.heap.size 29 (.bool b1) (.slice a1 n1 c1) (.slice d1 m1 o1) (.bool bb1) (.slice aa1 nn1 cc1) (.slice dd1 mm1 oo1) ∧ Bx6 W (w.heap.size + 1) 29 (.bool b2) (.slice a2 n2 c2) (.slice d2 m2 o2) (.bool bb2) (.slice aa2 nn2 cc2) (.slice dd2 mm2 oo2) ∧ Bx2 W (w.heap.size + 1 + 1) 48 (.int .u8 (f0 : Int)) (.int .u8 (f1 : Int)) ∧ Sw W (.agg #[.bool b1, .slice a1 n1 c1, .slice d1 m1 o1, .bool bb1, .slice aa1 nn1 cc1, .slice dd1 mm1 oo1]) p ∧ Sw W (.agg #[.bool b2, .slice a2 n2 c2, .slice d2 m2 o2, .bool bb2, .slice aa2 nn2 cc2, .slice dd2 mm2 oo2]) q ∧ Rw W (.agg #[.bool b3_10, .slice a3_10 n3_10 c3_10, .slice d3_10 m3_10 o3_10]) x ∧ Bx3 W g3_10 27 (.bool b3_10) (.slice a3_10 n3_10 c3_10) (.slice d3_10 m3_10 o3_10) ∧ Rw W (.agg #[.bool b3_11, .slice a3_11 n3_11 c3_11, .slice d3_11 m3_11 o3_11]) y ∧ Bx3 W g3_11 27 (.bool b3_11) (.slice a3_11 n3_11 c3_11) (.slice d3_11 m3_11 o3_11) ∧ Sw W (.agg #[.bool b4_8, .slice a4_8 n4_8 c4_8, .slice d4_8 m4_8 o4_8, .bool bb4_8, .slice aa4_8 nn4_8 cc4_8, .slice dd4_8 mm4_8 oo4_8]) sm ∧ Bx6 W g4_8 29 (.bool b4_8) (.slice a4_8 n4_8 c4_8) (.slice d4_8 m4_8 o4_8) (.bool bb4_8) (.slice aa4_8 nn4_8 cc4_8) (.slice dd4_8 mm4_8 oo4_8) ∧ Sw W (.agg #[.bool b4_9, .slice a4_9 n4_9 c4_9, .slice d4_9 m4_9 o4_9, .bool bb4_9, .slice aa4_9 nn4_9 cc4_9, .slice dd4_9 mm4_9 oo4_9]) pr ∧ Bx6 W g4_9 29 (.bool b4_9) (.slice a4_9 n4_9 c4_9) (.slice d4_9 m4_9 o4_9) (.bool bb4_9) (.slice aa4_9 nn4_9 cc4_9) (.slice dd4_9 mm4_9 oo4_9) ∧ Rw W u5_3 (x + y) ∧ Rw W u5_10 (x * y) ∧ Sw W (.agg #[.bool b6_9, .slice a6_9 n6_9 c6_9, .slice d6_9 m6_9 o6_9, .bool bb6_9, .slice aa6_9 nn6_9 cc6_9, .slice dd6_9 mm6_9 oo6_9]) wd ∧ Bx6 W g6_9 29 (.bool b6_9) (.slice a6_9 n6_9 c6_9) (.slice d6_9 m6_9 o6_9) (.bool bb6_9) (.slice aa6_9 nn6_9 cc6_9) (.slice dd6_9 mm6_9 oo6_9) ∧ Bx6 W g12_7 29 (.bool false) (.slice none 0 0) (.slice none 0 0) (.bool false) (.slice none 0 0) (.slice none 0 0) ∧ Bx3 W g13_7 27 (.bool false) (.slice none 0 0) (.slice none 0 0) ∧ W13.heap.size ≤ W.heap.size) ⟨Good.is _, Good.rat _, Good.is _, Good.is _, trivial⟩
      ⟨E0, p3, p4, p5, hsp, hsq, h3_3, p3_10, h3_7, p3_11, h4_2, p4_8, h4_5, p4_9, h5_3, h5_10, h6_6, p6_9, p12_7, p13_7, Nat.le_refl _⟩ (A := ?A14) ?hA14 ?howe14 ?hfin14
     case hA14 =>
      intro vs
      simp only [putAll, Act.put, sA, sZ, sS, Nat.zero_add, Nat.reduceAdd]
      exact rfl
     case howe14 =>
      clear E0 p3 p4 p5 hsp hsq h3_3 p3_10 h3_7 p3_11 h4_2 p4_8 h4_5 p4_9 h5_3 h5_10 h6_6 p6_9 p12_7 p13_7
      intro hf
      refine ⟨oE 0 [] hf rfl ?_, oE 1 [] hf rfl ?_, oE 2 [0, 1] hf rfl ?_, oE 3 [2] hf rfl ?_, trivial⟩
      all_goals intro vs W hS hp hx KO hKO
      all_goals simp only [Act.put, sA, sZ, sS] at hKO
      ·have fc0 := hS.2.2.1.cell0; have fc1 := hS.2.2.1.cell1; have fc2 := hS.2.2.1.cell2; have fc3 := hS.2.2.1.cell3; have fc4 := hS.2.2.1.cell4; have fc5 := hS.2.2.1.cell5; go_simp; exact hKO _ W (.refl W) rfl
      ·go_simp
       refine (Tryz.refROf 0 _ (by omega) (by omega)).mono ?_
       rintro e W1 ⟨v, rfl, hv, hE⟩
       exact hKO _ W1 hE hv
      ·have e0 := isOf hp.1; have q1 := hp.2.1; simp only [e0] at hKO; go_simp
       refine (Tryz.rsHas (hS.2.2.2.2.2.1) q1 SQ.out S0.out (by omega)).mono ?_
       rintro e W1 ⟨rfl, hE⟩
       rw [HHZ.out]
       exact hKO _ W1 hE rfl
      ·have e2 := isOf hp.1; simp only [e2] at hKO; go_simp; exact hKO _ W (.refl W) rfl
     intro vs W14 hS hp
     clear szw14 E0 p3 p4 p5 hsp hsq h3_3 p3_10 h3_7 p3_11 h4_2 p4_8 h4_5 p4_9 h5_3 h5_10 h6_6 p6_9 p12_7 p13_7
     obtain ⟨E0, p3, p4, p5, hsp, hsq, h3_3, p3_10, h3_7, p3_11, h4_2, p4_8, h4_5, p4_9, h5_3, h5_10, h6_6, p6_9, p12_7, p13_7, sz14⟩ := hS
     obtain ⟨h14_0, h14_1, h14_2, h14_3, -⟩ := hp
     replace h14_0 : vs 0 = .agg #[.bool b2, .slice a2 n2 c2, .slice d2 m2 o2, .bool bb2, .slice aa2 nn2 cc2, .slice dd2 mm2 oo2] := h14_0
     replace h14_2 : vs 2 = .bool true := h14_2
     replace h14_3 : vs 3 = .bool true := h14_3
     simp only [h14_0, h14_2, h14_3]
     replace h14_1 : Rw W14 (vs 1) (((0 : Int) : Rat)) := h14_1
     generalize vs 1 = u14_1 at h14_1 ⊢
     clear h14_0 h14_2 h14_3
     obtain ⟨kp3_0, kp3_1, kp3_2, kp3_3, kp3_4, kp3_5⟩ := p3.c6
     obtain ⟨kp4_0, kp4_1, kp4_2, kp4_3, kp4_4, kp4_5⟩ := p4.c6
     obtain ⟨kp5_0, kp5_1⟩ := p5.c2
     obtain ⟨kp3_10_0, kp3_10_1, kp3_10_2⟩ := p3_10.c3
     obtain ⟨kp3_11_0, kp3_11_1, kp3_11_2⟩ := p3_11.c3
     obtain ⟨kp4_8_0, kp4_8_1, kp4_8_2, kp4_8_3, kp4_8_4, kp4_8_5⟩ := p4_8.c6
     obtain ⟨kp4_9_0, kp4_9_1, kp4_9_2, kp4_9_3, kp4_9_4, kp4_9_5⟩ := p4_9.c6
     obtain ⟨kp6_9_0, kp6_9_1, kp6_9_2, kp6_9_3, kp6_9_4, kp6_9_5⟩ := p6_9.c6
     obtain ⟨kp12_7_0, kp12_7_1, kp12_7_2, kp12_7_3, kp12_7_4, kp12_7_5⟩ := p12_7.c6
     obtain ⟨kp13_7_0, kp13_7_1, kp13_7_2⟩ := p13_7.c3
     go_upto_region 14 with (fail)
     clear kp3_0 kp3_1 kp3_2 kp3_3 kp3_4 kp3_5 kp4_0 kp4_1 kp4_2 kp4_3 kp4_4 kp4_5 kp5_0 kp5_1 kp3_10_0 kp3_10_1 kp3_10_2 kp3_11_0 kp3_11_1 kp3_11_2 kp4_8_0 kp4_8_1 kp4_8_2 kp4_8_3 kp4_8_4 kp4_8_5 kp4_9_0 kp4_9_1 kp4_9_2 kp4_9_3 kp4_9_4 kp4_9_5 kp6_9_0 kp6_9_1 kp6_9_2 kp6_9_3 kp6_9_4 kp6_9_5 kp12_7_0 kp12_7_1 kp12_7_2 kp12_7_3 kp12_7_4 kp12_7_5 kp13_7_0 kp13_7_1 kp13_7_2; have szw15 := Ext.size E0
     refine region_gs [.one fun v _ => v = .bool true,
       .one fun v _ => v = .bool true,
       .one fun v _ => v = .int .i64 4,
       .one fun v _ => v = .bool true,
       .one fun v _ => v = .bool true,
       .one fun v _ => v = .bool true]
      (fun W => Ext w W ∧ Bx6 W w.heap.size 29 (.bool b1) (.slice a1 n1 c1) (.slice d1 m1 o1) (.bool bb1) (.slice aa1 nn1 cc1) (.slice dd1 mm1 oo1) ∧ Bx6 W (w.heap.size + 1) 29 (.bool b2) (.slice a2 n2 c2) (.slice d2 m2 o2) (.bool bb2) (.slice aa2 nn2 cc2) (.slice dd2 mm2 oo2) ∧ Bx2 W (w.heap.size + 1 + 1) 48 (.int .u8 (f0 : Int)) (.int .u8 (f1 : Int)) ∧ Sw W (.agg #[.bool b1, .slice a1 n1 c1, .slice d1 m1 o1, .bool bb1, .slice aa1 nn1 cc1, .slice dd1 mm1 oo1]) p ∧ Sw W (.agg #[.bool b2, .slice a2 n2 c2, .slice d2 m2 o2, .bool bb2, .slice aa2 nn2 cc2, .slice dd2 mm2 oo2]) q ∧ Rw W (.agg #[.bool b3_10, .slice a3_10 n3_10 c3_10, .slice d3_10 m3_10 o3_10]) x ∧ Bx3 W g3_10 27 (.bool b3_10) (.slice a3_10 n3_10 c3_10) (.slice d3_10 m3_10 o3_10) ∧ Rw W (.agg #[.bool b3_11, .slice a3_11 n3_11 c3_11, .slice d3_11 m3_11 o3_11]) y ∧ Bx3 W g3_11 27 (.bool b3_11) (.slice a3_11 n3_11 c3_11) (.slice d3_11 m3_11 o3_11) ∧ Sw W (.agg #[.bool b4_8, .slice a4_8 n4_8 c4_8, .slice d4_8 m4_8 o4_8, .bool bb4_8, .slice aa4_8 nn4_8 cc4_8, .slice dd4_8 mm4_8 oo4_8]) sm ∧ Bx6 W g4_8 29 (.bool b4_8) (.slice a4_8 n4_8 c4_8) (.slice d4_8 m4_8 o4_8) (.bool bb4_8) (.slice aa4_8 nn4_8 cc4_8) (.slice dd4_8 mm4_8 oo4_8) ∧ Sw W (.agg #[.bool b4_9, .slice a4_9 n4_9 c4_9, .slice d4_9 m4_9 o4_9, .bool bb4_9, .slice aa4_9 nn4_9 cc4_9, .slice dd4_9 mm4_9 oo4_9]) pr ∧ Bx6 W g4_9 29 (.bool b4_9) (.slice a4_9 n4_9 c4_9) (.slice d4_9 m4_9 o4_9) (.bool bb4_9) (.slice aa4_9 nn4_9 cc4_9) (.slice dd4_9 mm4_9 oo4_9) ∧ Rw W u5_3 (x + y) ∧ Rw W u5_10 (x * y) ∧ Sw W (.agg #[.bool b6_9, .slice a6_9 n6_9 c6_9, .slice d6_9 m6_9 o6_9, .bool bb6_9, .slice aa6_9 nn6_9 cc6_9, .slice dd6_9 mm6_9 oo6_9]) wd ∧ Bx6 W g6_9 29 (.bool b6_9) (.slice a6_9 n6_9 c6_9) (.slice d6_9 m6_9 o6_9) (.bool bb6_9) (.slice aa6_9 nn6_9 cc6_9) (.slice dd6_9 mm6_9 oo6_9) ∧ Bx6 W g12_7 29 (.bool false) (.slice none 0 0) (.slice none 0 0) (.bool false) (.slice none 0 0) (.slice none 0 0) ∧ Bx3 W g13_7 27 (.bool false) (.slice none 0 0) (.slice none 0 0) ∧ Rw W u14_1 (((0 : Int) : Rat)) ∧ W14.heap.size ≤ W.heap.size) ⟨Good.is _, Good.is _, Good.is _, Good.is _, Good.is _, Good.is _, trivial⟩
      ⟨E0, p3, p4, p5, hsp, hsq, h3_3, p3_10, h3_7, p3_11, h4_2, p4_8, h4_5, p4_9, h5_3, h5_10, h6_6, p6_9, p12_7, p13_7, h14_1, Nat.le_refl _⟩ (A := ?A15) ?hA15 ?howe15 ?hfin15
     case hA15 =>
      intro vs
      simp only [putAll, Act.put, sA, sZ, sS, Nat.zero_add, Nat.reduceAdd]
      exact rfl
     case howe15 =>
      clear E0 p3 p4 p5 hsp hsq h3_3 p3_10 h3_7 p3_11 h4_2 p4_8 h4_5 p4_9 h5_3 h5_10 h6_6 p6_9 p12_7 p13_7 h14_1
      intro hf
      refine ⟨oE 0 [] hf rfl ?_, oE 1 [0] hf rfl ?_, oE 2 [1] hf rfl ?_, oE 3 [1, 2] hf rfl ?_, oE 4 [1, 3] hf rfl ?_, oE 5 [4] hf rfl ?_, trivial⟩
      all_goals intro vs W hS hp hx KO hKO
      all_goals simp only [Act.put, sA, sZ, sS] at hKO
      ·go_simp
       refine (Tryz.alive07 _).mono ?_
       rintro e W1 ⟨rfl, hE⟩
       exact hKO _ W1 hE rfl
      ·have e0 := isOf hp.1; simp only [e0] at hKO; go_simp; exact hKO _ W (.refl W) rfl
      ·have e1 := isOf hp.1; simp only [e1] at hKO; go_simp; exact hKO _ W (.refl W) rfl
      ·have e1 := isOf hp.1; have e2 := isOf hp.2.1; simp only [e1, e2] at hKO; go_simp; exact hKO _ W (.refl W) rfl
      ·have e1 := isOf hp.1; have e3 := isOf hp.2.1; simp only [e1, e3] at hKO; go_simp; exact hKO _ W (.refl W) rfl
      ·have e4 := isOf hp.1; simp only [e4] at hKO; go_simp; exact hKO _ W (.refl W) rfl
     intro vs W15 hS hp
     clear szw15 E0 p3 p4 p5 hsp hsq h3_3 p3_10 h3_7 p3_11 h4_2 p4_8 h4_5 p4_9 h5_3 h5_10 h6_6 p6_9 p12_7 p13_7 h14_1
     obtain ⟨E0, p3, p4, p5, hsp, hsq, h3_3, p3_10, h3_7, p3_11, h4_2, p4_8, h4_5, p4_9, h5_3, h5_10, h6_6, p6_9, p12_7, p13_7, h14_1, sz15⟩ := hS
     obtain ⟨h15_0, h15_1, h15_2, h15_3, h15_4, h15_5, -⟩ := hp
     replace h15_0 : vs 0 = .bool true := h15_0
     replace h15_1 : vs 1 = .bool true := h15_1
     replace h15_2 : vs 2 = .int .i64 4 := h15_2
     replace h15_3 : vs 3 = .bool true := h15_3
     replace h15_4 : vs 4 = .bool true := h15_4
     replace h15_5 : vs 5 = .bool true := h15_5
     simp only [h15_0, h15_1, h15_2, h15_3, h15_4, h15_5]
     clear h15_0 h15_1 h15_2 h15_3 h15_4 h15_5
     obtain ⟨kp3_0, kp3_1, kp3_2, kp3_3, kp3_4, kp3_5⟩ := p3.c6
     obtain ⟨kp4_0, kp4_1, kp4_2, kp4_3, kp4_4, kp4_5⟩ := p4.c6
     obtain ⟨kp5_0, kp5_1⟩ := p5.c2
     obtain ⟨kp3_10_0, kp3_10_1, kp3_10_2⟩ := p3_10.c3
     obtain ⟨kp3_11_0, kp3_11_1, kp3_11_2⟩ := p3_11.c3
     obtain ⟨kp4_8_0, kp4_8_1, kp4_8_2, kp4_8_3, kp4_8_4, kp4_8_5⟩ := p4_8.c6
     obtain ⟨kp4_9_0, kp4_9_1, kp4_9_2, kp4_9_3, kp4_9_4, kp4_9_5⟩ := p4_9.c6
     obtain ⟨kp6_9_0, kp6_9_1, kp6_9_2, kp6_9_3, kp6_9_4, kp6_9_5⟩ := p6_9.c6
     obtain ⟨kp12_7_0, kp12_7_1, kp12_7_2, kp12_7_3, kp12_7_4, kp12_7_5⟩ := p12_7.c6
     obtain ⟨kp13_7_0, kp13_7_1, kp13_7_2⟩ := p13_7.c3
     clear hsp hsq h3_3 h3_7 h4_2 h4_5 h5_3 h5_10 h6_6 h14_1; go_wp2; go_ret
     exact ⟨rfl, E0⟩
    ·have HY0 := Lib.hid hy0
     clear hy0
     obtain ⟨kp3_0, kp3_1, kp3_2, kp3_3, kp3_4, kp3_5⟩ := p3.c6
     obtain ⟨kp4_0, kp4_1, kp4_2, kp4_3, kp4_4, kp4_5⟩ := p4.c6
     obtain ⟨kp5_0, kp5_1⟩ := p5.c2
     obtain ⟨kp3_10_0, kp3_10_1, kp3_10_2⟩ := p3_10.c3
     obtain ⟨kp3_11_0, kp3_11_1, kp3_11_2⟩ := p3_11.c3
     obtain ⟨kp4_8_0, kp4_8_1, kp4_8_2, kp4_8_3, kp4_8_4, kp4_8_5⟩ := p4_8.c6
     obtain ⟨kp4_9_0, kp4_9_1, kp4_9_2, kp4_9_3, kp4_9_4, kp4_9_5⟩ := p4_9.c6
     obtain ⟨kp6_9_0, kp6_9_1, kp6_9_2, kp6_9_3, kp6_9_4, kp6_9_5⟩ := p6_9.c6
     obtain ⟨kp12_7_0, kp12_7_1, kp12_7_2, kp12_7_3, kp12_7_4, kp12_7_5⟩ := p12_7.c6
     go_upto_region 11 with (fail)
     clear kp3_0 kp3_1 kp3_2 kp3_3 kp3_4 kp3_5 kp4_0 kp4_1 kp4_2 kp4_3 kp4_4 kp4_5 kp5_0 kp5_1 kp3_10_0 kp3_10_1 kp3_10_2 kp3_11_0 kp3_11_1 kp3_11_2 kp4_8_0 kp4_8_1 kp4_8_2 kp4_8_3 kp4_8_4 kp4_8_5 kp4_9_0 kp4_9_1 kp4_9_2 kp4_9_3 kp4_9_4 kp4_9_5 kp6_9_0 kp6_9_1 kp6_9_2 kp6_9_3 kp6_9_4 kp6_9_5 kp12_7_0 kp12_7_1 kp12_7_2 kp12_7_3 kp12_7_4 kp12_7_5; have ltp12_7 := p12_7.lt; have szw16 := Ext.size E0
     refine region_gs [.one fun v _ => v = .agg #[.bool b3_10, .slice a3_10 n3_10 c3_10, .slice d3_10 m3_10 o3_10],
       .one fun v _ => v = .agg #[.bool b3_11, .slice a3_11 n3_11 c3_11, .slice d3_11 m3_11 o3_11],
       .one fun v W => ∃ v', v = .tuple #[v', .int .i64 0] ∧ (fun v W => Rw W v (x / y)) v' W,
       .one fun v W => ∃ v', v = .tuple #[v', .int .i64 0] ∧ (fun v W => Rw W v (x / y)) v' W,
       .one fun v W => Rw W v (x / y),
       .one fun v _ => v = .int .i64 0,
       .one fun v W => ∃ g, v = .pointer (some ⟨g, 0, none⟩) ∧ W12.heap.size ≤ g ∧ Form W g 27 3,
       .three 6 4 (fun p r _ W => Put3 W12.heap.size 27 p r W),
       .one fun v _ => v = .int .i64 0]
      (fun W => Ext w W ∧ Bx6 W w.heap.size 29 (.bool b1) (.slice a1 n1 c1) (.slice d1 m1 o1) (.bool bb1) (.slice aa1 nn1 cc1) (.slice dd1 mm1 oo1) ∧ Bx6 W (w.heap.size + 1) 29 (.bool b2) (.slice a2 n2 c2) (.slice d2 m2 o2) (.bool bb2) (.slice aa2 nn2 cc2) (.slice dd2 mm2 oo2) ∧ Bx2 W (w.heap.size + 1 + 1) 48 (.int .u8 (f0 : Int)) (.int .u8 (f1 : Int)) ∧ Sw W (.agg #[.bool b1, .slice a1 n1 c1, .slice d1 m1 o1, .bool bb1, .slice aa1 nn1 cc1, .slice dd1 mm1 oo1]) p ∧ Sw W (.agg #[.bool b2, .slice a2 n2 c2, .slice d2 m2 o2, .bool bb2, .slice aa2 nn2 cc2, .slice dd2 mm2 oo2]) q ∧ Rw W (.agg #[.bool b3_10, .slice a3_10 n3_10 c3_10, .slice d3_10 m3_10 o3_10]) x ∧ Bx3 W g3_10 27 (.bool b3_10) (.slice a3_10 n3_10 c3_10) (.slice d3_10 m3_10 o3_10) ∧ Rw W (.agg #[.bool b3_11, .slice a3_11 n3_11 c3_11, .slice d3_11 m3_11 o3_11]) y ∧ Bx3 W g3_11 27 (.bool b3_11) (.slice a3_11 n3_11 c3_11) (.slice d3_11 m3_11 o3_11) ∧ Sw W (.agg #[.bool b4_8, .slice a4_8 n4_8 c4_8, .slice d4_8 m4_8 o4_8, .bool bb4_8, .slice aa4_8 nn4_8 cc4_8, .slice dd4_8 mm4_8 oo4_8]) sm ∧ Bx6 W g4_8 29 (.bool b4_8) (.slice a4_8 n4_8 c4_8) (.slice d4_8 m4_8 o4_8) (.bool bb4_8) (.slice aa4_8 nn4_8 cc4_8) (.slice dd4_8 mm4_8 oo4_8) ∧ Sw W (.agg #[.bool b4_9, .slice a4_9 n4_9 c4_9, .slice d4_9 m4_9 o4_9, .bool bb4_9, .slice aa4_9 nn4_9 cc4_9, .slice dd4_9 mm4_9 oo4_9]) pr ∧ Bx6 W g4_9 29 (.bool b4_9) (.slice a4_9 n4_9 c4_9) (.slice d4_9 m4_9 o4_9) (.bool bb4_9) (.slice aa4_9 nn4_9 cc4_9) (.slice dd4_9 mm4_9 oo4_9) ∧ Rw W u5_3 (x + y) ∧ Rw W u5_10 (x * y) ∧ Sw W (.agg #[.bool b6_9, .slice a6_9 n6_9 c6_9, .slice d6_9 m6_9 o6_9, .bool bb6_9, .slice aa6_9 nn6_9 cc6_9, .slice dd6_9 mm6_9 oo6_9]) wd ∧ Bx6 W g6_9 29 (.bool b6_9) (.slice a6_9 n6_9 c6_9) (.slice d6_9 m6_9 o6_9) (.bool bb6_9) (.slice aa6_9 nn6_9 cc6_9) (.slice dd6_9 mm6_9 oo6_9) ∧ Bx6 W g12_7 29 (.bool false) (.slice none 0 0) (.slice none 0 0) (.bool false) (.slice none 0 0) (.slice none 0 0) ∧ W12.heap.size ≤ W.heap.size) ⟨Good.is _, Good.is _, (Good.rat _).tup _, (Good.rat _).tup _, Good.rat _, Good.is _, Good.box _ _ _, cert_put3, Good.is _, trivial⟩
      ⟨E0, p3, p4, p5, hsp, hsq, h3_3, p3_10, h3_7, p3_11, h4_2, p4_8, h4_5, p4_9, h5_3, h5_10, h6_6, p6_9, p12_7, Nat.le_refl _⟩ (A := ?A16) ?hA16 ?howe16 ?hfin16
     case hA16 =>
      intro vs
      simp only [putAll, Act.put, sA, sZ, sS, Nat.zero_add, Nat.reduceAdd]
      exact rfl
     case howe16 =>
      clear E0 p3 p4 p5 hsp hsq h3_3 p3_10 h3_7 p3_11 h4_2 p4_8 h4_5 p4_9 h5_3 h5_10 h6_6 p6_9 p12_7
      intro hf
      refine ⟨oE 0 [] hf rfl ?_, oE 1 [] hf rfl ?_, oE 2 [0, 1] hf rfl ?_, oE 3 [2] hf rfl ?_, oE 4 [3] hf rfl ?_, oE 5 [3] hf rfl ?_, oE 6 [] hf rfl ?_, oW 7 [6, 4] hf rfl ?_, oE 8 [5] hf rfl ?_, trivial⟩
      all_goals intro vs W hS hp hx KO hKO
      all_goals simp only [Act.put, sA, sZ, sS] at hKO
      ·have fc0 := hS.2.2.2.2.2.2.2.1.cell0; have fc1 := hS.2.2.2.2.2.2.2.1.cell1; have fc2 := hS.2.2.2.2.2.2.2.1.cell2; go_simp; exact hKO _ W (.refl W) rfl
      ·have fc0 := hS.2.2.2.2.2.2.2.2.2.1.cell0; have fc1 := hS.2.2.2.2.2.2.2.2.2.1.cell1; have fc2 := hS.2.2.2.2.2.2.2.2.2.1.cell2; go_simp; exact hKO _ W (.refl W) rfl
      ·have e0 := isOf hp.1; have e1 := isOf hp.2.1; simp only [e0, e1] at hKO; go_simp
       refine (Tryz.refRDiv (hS.2.2.2.2.2.2.1) (hS.2.2.2.2.2.2.2.2.1) SX.out SY.out (by omega) HY0.out).mono ?_
       rintro e W1 ⟨v, rfl, hv, hE⟩
       exact hKO _ W1 hE ⟨_, rfl, hv⟩
      ·have q2 := hp.1
       obtain ⟨u, ev, hu⟩ := q2
       replace ev : vs 2 = _ := ev; simp only [ev] at hKO; go_simp; exact hKO _ W (Ext.refl W) ⟨u, rfl, hu⟩
      ·have q3 := hp.1
       obtain ⟨u, ev, hu⟩ := q3
       replace ev : vs 3 = _ := ev; simp only [ev] at hKO; go_simp; exact hKO _ W (Ext.refl W) hu
      ·have q3 := hp.1
       obtain ⟨u, ev, hu⟩ := q3
       replace ev : vs 3 = _ := ev; simp only [ev] at hKO; go_simp; exact hKO _ W (.refl W) rfl
      ·have hn := Bx3.new W 27 (.bool false) (.slice none 0 0) (.slice none 0 0)
       have hE := Ext.alloc1 W (.cells #[.bool false, .slice none 0 0, .slice none 0 0] 27)
       have hsz := hS.2.2.2.2.2.2.2.2.2.2.2.2.2.2.2.2.2.2.2
       go_simp
       exact hKO _ _ hE ⟨_, rfl, hsz, hn.form⟩
      ·have q6 := hp.1; have q4 := hp.2.1
       obtain ⟨g, ev, hg, hf⟩ := q6
       replace ev : vs 6 = _ := ev
       obtain ⟨x0_0, x0_1, x0_2, hx, hno⟩ := hf.bx3
       have qr := q4
       obtain ⟨b3, a3, n3, c3, d3, m3, o3, er, -, -, -⟩ := qr
       replace er : vs 4 = _ := er
       have r0 := hx.froz0
       have t0 := hx.cell0
       have r1 := hx.froz1
       have t1 := hx.cell1
       have r2 := hx.froz2
       have t2 := hx.cell2
       have hw := Wr.set3 hx hno b3 a3 n3 c3 d3 m3 o3
       have hq := hx.set (.bool b3) (.slice a3 n3 c3) (.slice d3 m3 o3)
       simp only [ev, er] at hKO; go_simp
       exact hKO _ _ hw ⟨(Ext.wr hS.1 hw (by omega)), (hS.2.1.wr hw (by omega)), (hS.2.2.1.wr hw (by omega)), (hS.2.2.2.1.wr hw (by omega)), (hS.2.2.2.2.1.wr hw), (hS.2.2.2.2.2.1.wr hw), (hS.2.2.2.2.2.2.1.wr hw), (hS.2.2.2.2.2.2.2.1.wr hw (by omega)), (hS.2.2.2.2.2.2.2.2.1.wr hw), (hS.2.2.2.2.2.2.2.2.2.1.wr hw (by omega)), (hS.2.2.2.2.2.2.2.2.2.2.1.wr hw), (hS.2.2.2.2.2.2.2.2.2.2.2.1.wr hw (by omega)), (hS.2.2.2.2.2.2.2.2.2.2.2.2.1.wr hw), (hS.2.2.2.2.2.2.2.2.2.2.2.2.2.1.wr hw (by omega)), (hS.2.2.2.2.2.2.2.2.2.2.2.2.2.2.1.wr hw), (hS.2.2.2.2.2.2.2.2.2.2.2.2.2.2.2.1.wr hw), (hS.2.2.2.2.2.2.2.2.2.2.2.2.2.2.2.2.1.wr hw), (hS.2.2.2.2.2.2.2.2.2.2.2.2.2.2.2.2.2.1.wr hw (by omega)), (hS.2.2.2.2.2.2.2.2.2.2.2.2.2.2.2.2.2.2.1.wr hw (by omega)), (Nat.le_trans hS.2.2.2.2.2.2.2.2.2.2.2.2.2.2.2.2.2.2.2 hw.apart.size)⟩ ⟨g, b3, a3, n3, c3, d3, m3, o3, ev, er, hg, hq⟩
      ·have e5 := isOf hp.1; simp only [e5] at hKO; go_simp; exact hKO _ W (.refl W) rfl
     intro vs W16 hS hp
     clear szw16 E0 p3 p4 p5 hsp hsq h3_3 p3_10 h3_7 p3_11 h4_2 p4_8 h4_5 p4_9 h5_3 h5_10 h6_6 p6_9 p12_7
     obtain ⟨E0, p3, p4, p5, hsp, hsq, h3_3, p3_10, h3_7, p3_11, h4_2, p4_8, h4_5, p4_9, h5_3, h5_10, h6_6, p6_9, p12_7, sz16⟩ := hS
     obtain ⟨h16_0, h16_1, h16_2, h16_3, h16_4, h16_5, h16_6, h16_7, h16_8, -⟩ := hp
     obtain ⟨g16_7, b16_7, a16_7, n16_7, c16_7, d16_7, m16_7, o16_7, ev16_7, er16_7, hg16_7, p16_7⟩ := h16_7
     replace ev16_7 : vs 6 = _ := ev16_7; replace er16_7 : vs 4 = _ := er16_7; replace h16_4 := (show Rw W16 (vs 4) (x / y) from h16_4)
     rw [er16_7] at h16_4
     replace h16_0 : vs 0 = .agg #[.bool b3_10, .slice a3_10 n3_10 c3_10, .slice d3_10 m3_10 o3_10] := h16_0
     replace h16_1 : vs 1 = .agg #[.bool b3_11, .slice a3_11 n3_11 c3_11, .slice d3_11 m3_11 o3_11] := h16_1
     replace h16_5 : vs 5 = .int .i64 0 := h16_5
     replace h16_8 : vs 8 = .int .i64 0 := h16_8
     simp only [ev16_7, er16_7, h16_0, h16_1, h16_5, h16_8]
     clear ev16_7 er16_7 h16_0 h16_1 h16_5 h16_8 h16_2 h16_3 h16_6
     obtain ⟨kp3_0, kp3_1, kp3_2, kp3_3, kp3_4, kp3_5⟩ := p3.c6
     obtain ⟨kp4_0, kp4_1, kp4_2, kp4_3, kp4_4, kp4_5⟩ := p4.c6
     obtain ⟨kp5_0, kp5_1⟩ := p5.c2
     obtain ⟨kp3_10_0, kp3_10_1, kp3_10_2⟩ := p3_10.c3
     obtain ⟨kp3_11_0, kp3_11_1, kp3_11_2⟩ := p3_11.c3
     obtain ⟨kp4_8_0, kp4_8_1, kp4_8_2, kp4_8_3, kp4_8_4, kp4_8_5⟩ := p4_8.c6
     obtain ⟨kp4_9_0, kp4_9_1, kp4_9_2, kp4_9_3, kp4_9_4, kp4_9_5⟩ := p4_9.c6
     obtain ⟨kp6_9_0, kp6_9_1, kp6_9_2, kp6_9_3, kp6_9_4, kp6_9_5⟩ := p6_9.c6
     obtain ⟨kp12_7_0, kp12_7_1, kp12_7_2, kp12_7_3, kp12_7_4, kp12_7_5⟩ := p12_7.c6
     obtain ⟨kp16_7_0, kp16_7_1, kp16_7_2⟩ := p16_7.c3
     go_upto_region 12 with (fail)
     clear kp3_0 kp3_1 kp3_2 kp3_3 kp3_4 kp3_5 kp4_0 kp4_1 kp4_2 kp4_3 kp4_4 kp4_5 kp5_0 kp5_1 kp3_10_0 kp3_10_1 kp3_10_2 kp3_11_0 kp3_11_1 kp3_11_2 kp4_8_0 kp4_8_1 kp4_8_2 kp4_8_3 kp4_8_4 kp4_8_5 kp4_9_0 kp4_9_1 kp4_9_2 kp4_9_3 kp4_9_4 kp4_9_5 kp6_9_0 kp6_9_1 kp6_9_2 kp6_9_3 kp6_9_4 kp6_9_5 kp12_7_0 kp12_7_1 kp12_7_2 kp12_7_3 kp12_7_4 kp12_7_5 kp16_7_0 kp16_7_1 kp16_7_2; have ltp16_7 := p16_7.lt; have szw17 := Ext.size E0
     refine region_gs [.one fun v _ => v = .agg #[.bool b2, .slice a2 n2 c2, .slice d2 m2 o2, .bool bb2, .slice aa2 nn2 cc2, .slice dd2 mm2 oo2],
       .one fun v W => Rw W v (((0 : Int) : Rat)),
       .one fun v _ => v = .bool true,
       .one fun v _ => v = .bool true]
      (fun W => Ext w W ∧ Bx6 W w.heap.size 29 (.bool b1) (.slice a1 n1 c1) (.slice d1 m1 o1) (.bool bb1) (.slice aa1 nn1 cc1) (.slice dd1 mm1 oo1) ∧ Bx6 W (w.heap.size + 1) 29 (.bool b2) (.slice a2 n2 c2) (.slice d2 m2 o2) (.bool bb2) (.slice aa2 nn2 cc2) (.slice dd2 mm2 oo2) ∧ Bx2 W (w.heap.size + 1 + 1) 48 (.int .u8 (f0 : Int)) (.int .u8 (f1 : Int)) ∧ Sw W (.agg #[.bool b1, .slice a1 n1 c1, .slice d1 m1 o1, .bool bb1, .slice aa1 nn1 cc1, .slice dd1 mm1 oo1]) p ∧ Sw W (.agg #[.bool b2, .slice a2 n2 c2, .slice d2 m2 o2, .bool bb2, .slice aa2 nn2 cc2, .slice dd2 mm2 oo2]) q ∧ Rw W (.agg #[.bool b3_10, .slice a3_10 n3_10 c3_10, .slice d3_10 m3_10 o3_10]) x ∧ Bx3 W g3_10 27 (.bool b3_10) (.slice a3_10 n3_10 c3_10) (.slice d3_10 m3_10 o3_10) ∧ Rw W (.agg #[.bool b3_11, .slice a3_11 n3_11 c3_11, .slice d3_11 m3_11 o3_11]) y ∧ Bx3 W g3_11 27 (.bool b3_11) (.slice a3_11 n3_11 c3_11) (.slice d3_11 m3_11 o3_11) ∧ Sw W (.agg #[.bool b4_8, .slice a4_8 n4_8 c4_8, .slice d4_8 m4_8 o4_8, .bool bb4_8, .slice aa4_8 nn4_8 cc4_8, .slice dd4_8 mm4_8 oo4_8]) sm ∧ Bx6 W g4_8 29 (.bool b4_8) (.slice a4_8 n4_8 c4_8) (.slice d4_8 m4_8 o4_8) (.bool bb4_8) (.slice aa4_8 nn4_8 cc4_8) (.slice dd4_8 mm4_8 oo4_8) ∧ Sw W (.agg #[.bool b4_9, .slice a4_9 n4_9 c4_9, .slice d4_9 m4_9 o4_9, .bool bb4_9, .slice aa4_9 nn4_9 cc4_9, .slice dd4_9 mm4_9 oo4_9]) pr ∧ Bx6 W g4_9 29 (.bool b4_9) (.slice a4_9 n4_9 c4_9) (.slice d4_9 m4_9 o4_9) (.bool bb4_9) (.slice aa4_9 nn4_9 cc4_9) (.slice dd4_9 mm4_9 oo4_9) ∧ Rw W u5_3 (x + y) ∧ Rw W u5_10 (x * y) ∧ Sw W (.agg #[.bool b6_9, .slice a6_9 n6_9 c6_9, .slice d6_9 m6_9 o6_9, .bool bb6_9, .slice aa6_9 nn6_9 cc6_9, .slice dd6_9 mm6_9 oo6_9]) wd ∧ Bx6 W g6_9 29 (.bool b6_9) (.slice a6_9 n6_9 c6_9) (.slice d6_9 m6_9 o6_9) (.bool bb6_9) (.slice aa6_9 nn6_9 cc6_9) (.slice dd6_9 mm6_9 oo6_9) ∧ Bx6 W g12_7 29 (.bool false) (.slice none 0 0) (.slice none 0 0) (.bool false) (.slice none 0 0) (.slice none 0 0) ∧ Rw W (.agg #[.bool b16_7, .slice a16_7 n16_7 c16_7, .slice d16_7 m16_7 o16_7]) (x / y) ∧ Bx3 W g16_7 27 (.bool b16_7) (.slice a16_7 n16_7 c16_7) (.slice d16_7 m16_7 o16_7) ∧ W16.heap.size ≤ W.heap.size) ⟨Good.is _, Good.rat _, Good.is _, Good.is _, trivial⟩
      ⟨E0, p3, p4, p5, hsp, hsq, h3_3, p3_10, h3_7, p3_11, h4_2, p4_8, h4_5, p4_9, h5_3, h5_10, h6_6, p6_9, p12_7, h16_4, p16_7, Nat.le_refl _⟩ (A := ?A17) ?hA17 ?howe17 ?hfin17
     case hA17 =>
      intro vs
      simp only [putAll, Act.put, sA, sZ, sS, Nat.zero_add, Nat.reduceAdd]
      exact rfl
     case howe17 =>
      clear E0 p3 p4 p5 hsp hsq h3_3 p3_10 h3_7 p3_11 h4_2 p4_8 h4_5 p4_9 h5_3 h5_10 h6_6 p6_9 p12_7 h16_4 p16_7
      intro hf
      refine ⟨oE 0 [] hf rfl ?_, oE 1 [] hf rfl ?_, oE 2 [0, 1] hf rfl ?_, oE 3 [2] hf rfl ?_, trivial⟩
      all_goals intro vs W hS hp hx KO hKO
      all_goals simp only [Act.put, sA, sZ, sS] at hKO
      ·have fc0 := hS.2.2.1.cell0; have fc1 := hS.2.2.1.cell1; have fc2 := hS.2.2.1.cell2; have fc3 := hS.2.2.1.cell3; have fc4 := hS.2.2.1.cell4; have fc5 := hS.2.2.1.cell5; go_simp; exact hKO _ W (.refl W) rfl
      ·go_simp
       refine (Tryz.refROf 0 _ (by omega) (by omega)).mono ?_
       rintro e W1 ⟨v, rfl, hv, hE⟩
       exact hKO _ W1 hE hv
      ·have e0 := isOf hp.1; have q1 := hp.2.1; simp only [e0] at hKO; go_simp
       refine (Tryz.rsHas (hS.2.2.2.2.2.1) q1 SQ.out S0.out (by omega)).mono ?_
       rintro e W1 ⟨rfl, hE⟩
       rw [HHZ.out]
       exact hKO _ W1 hE rfl
      ·have e2 := isOf hp.1; simp only [e2] at hKO; go_simp; exact hKO _ W (.refl W) rfl
     intro vs W17 hS hp
     clear szw17 E0 p3 p4 p5 hsp hsq h3_3 p3_10 h3_7 p3_11 h4_2 p4_8 h4_5 p4_9 h5_3 h5_10 h6_6 p6_9 p12_7 h16_4 p16_7
     obtain ⟨E0, p3, p4, p5, hsp, hsq, h3_3, p3_10, h3_7, p3_11, h4_2, p4_8, h4_5, p4_9, h5_3, h5_10, h6_6, p6_9, p12_7, h16_4, p16_7, sz17⟩ := hS
     obtain ⟨h17_0, h17_1, h17_2, h17_3, -⟩ := hp
     replace h17_0 : vs 0 = .agg #[.bool b2, .slice a2 n2 c2, .slice d2 m2 o2, .bool bb2, .slice aa2 nn2 cc2, .slice dd2 mm2 oo2] := h17_0
     replace h17_2 : vs 2 = .bool true := h17_2
     replace h17_3 : vs 3 = .bool true := h17_3
     simp only [h17_0, h17_2, h17_3]
     replace h17_1 : Rw W17 (vs 1) (((0 : Int) : Rat)) := h17_1
     generalize vs 1 = u17_1 at h17_1 ⊢
     clear h17_0 h17_2 h17_3
     obtain ⟨kp3_0, kp3_1, kp3_2, kp3_3, kp3_4, kp3_5⟩ := p3.c6
     obtain ⟨kp4_0, kp4_1, kp4_2, kp4_3, kp4_4, kp4_5⟩ := p4.c6
     obtain ⟨kp5_0, kp5_1⟩ := p5.c2
     obtain ⟨kp3_10_0, kp3_10_1, kp3_10_2⟩ := p3_10.c3
     obtain ⟨kp3_11_0, kp3_11_1, kp3_11_2⟩ := p3_11.c3
     obtain ⟨kp4_8_0, kp4_8_1, kp4_8_2, kp4_8_3, kp4_8_4, kp4_8_5⟩ := p4_8.c6
     obtain ⟨kp4_9_0, kp4_9_1, kp4_9_2, kp4_9_3, kp4_9_4, kp4_9_5⟩ := p4_9.c6
     obtain ⟨kp6_9_0, kp6_9_1, kp6_9_2, kp6_9_3, kp6_9_4, kp6_9_5⟩ := p6_9.c6
     obtain ⟨kp12_7_0, kp12_7_1, kp12_7_2, kp12_7_3, kp12_7_4, kp12_7_5⟩ := p12_7.c6
     obtain ⟨kp16_7_0, kp16_7_1, kp16_7_2⟩ := p16_7.c3
     go_upto_region 14 with (fail)
     clear kp3_0 kp3_1 kp3_2 kp3_3 kp3_4 kp3_5 kp4_0 kp4_1 kp4_2 kp4_3 kp4_4 kp4_5 kp5_0 kp5_1 kp3_10_0 kp3_10_1 kp3_10_2 kp3_11_0 kp3_11_1 kp3_11_2 kp4_8_0 kp4_8_1 kp4_8_2 kp4_8_3 kp4_8_4 kp4_8_5 kp4_9_0 kp4_9_1 kp4_9_2 kp4_9_3 kp4_9_4 kp4_9_5 kp6_9_0 kp6_9_1 kp6_9_2 kp6_9_3 kp6_9_4 kp6_9_5 kp12_7_0 kp12_7_1 kp12_7_2 kp12_7_3 kp12_7_4 kp12_7_5 kp16_7_0 kp16_7_1 kp16_7_2; have szw18 := Ext.size E0
     refine region_gs [.one fun v _ => v = .bool true,
       .one fun v _ => v = .bool true,
       .one fun v _ => v = .int .i64 4,
       .one fun v _ => v = .bool true,
       .one fun v _ => v = .bool true,
       .one fun v _ => v = .bool true]
      (fun W => Ext w W ∧ Bx6 W w.heap.size 29 (.bool b1) (.slice a1 n1 c1) (.slice d1 m1 o1) (.bool bb1) (.slice aa1 nn1 cc1) (.slice dd1 mm1 oo1) ∧ Bx6 W (w.heap.size + 1) 29 (.bool b2) (.slice a2 n2 c2) (.slice d2 m2 o2) (.bool bb2) (.slice aa2 nn2 cc2) (.slice dd2 mm2 oo2) ∧ Bx2 W (w.heap.size + 1 + 1) 48 (.int .u8 (f0 : Int)) (.int .u8 (f1 : Int)) ∧ Sw W (.agg #[.bool b1, .slice a1 n1 c1, .slice d1 m1 o1, .bool bb1, .slice aa1 nn1 cc1, .slice dd1 mm1 oo1]) p ∧ Sw W (.agg #[.bool b2, .slice a2 n2 c2, .slice d2 m2 o2, .bool bb2, .slice aa2 nn2 cc2, .slice dd2 mm2 oo2]) q ∧ Rw W (.agg #[.bool b3_10, .slice a3_10 n3_10 c3_10, .slice d3_10 m3_10 o3_10]) x ∧ Bx3 W g3_10 27 (.bool b3_10) (.slice a3_10 n3_10 c3_10) (.slice d3_10 m3_10 o3_10) ∧ Rw W (.agg #[.bool b3_11, .slice a3_11 n3_11 c3_11, .slice d3_11 m3_11 o3_11]) y ∧ Bx3 W g3_11 27 (.bool b3_11) (.slice a3_11 n3_11 c3_11) (.slice d3_11 m3_11 o3_11) ∧ Sw W (.agg #[.bool b4_8, .slice a4_8 n4_8 c4_8, .slice d4_8 m4_8 o4_8, .bool bb4_8, .slice aa4_8 nn4_8 cc4_8, .slice dd4_8 mm4_8 oo4_8]) sm ∧ Bx6 W g4_8 29 (.bool b4_8) (.slice a4_8 n4_8 c4_8) (.slice d4_8 m4_8 o4_8) (.bool bb4_8) (.slice aa4_8 nn4_8 cc4_8) (.slice dd4_8 mm4_8 oo4_8) ∧ Sw W (.agg #[.bool b4_9, .slice a4_9 n4_9 c4_9, .slice d4_9 m4_9 o4_9, .bool bb4_9, .slice aa4_9 nn4_9 cc4_9, .slice dd4_9 mm4_9 oo4_9]) pr ∧ Bx6 W g4_9 29 (.bool b4_9) (.slice a4_9 n4_9 c4_9) (.slice d4_9 m4_9 o4_9) (.bool bb4_9) (.slice aa4_9 nn4_9 cc4_9) (.slice dd4_9 mm4_9 oo4_9) ∧ Rw W u5_3 (x + y) ∧ Rw W u5_10 (x * y) ∧ Sw W (.agg #[.bool b6_9, .slice a6_9 n6_9 c6_9, .slice d6_9 m6_9 o6_9, .bool bb6_9, .slice aa6_9 nn6_9 cc6_9, .slice dd6_9 mm6_9 oo6_9]) wd ∧ Bx6 W g6_9 29 (.bool b6_9) (.slice a6_9 n6_9 c6_9) (.slice d6_9 m6_9 o6_9) (.bool bb6_9) (.slice aa6_9 nn6_9 cc6_9) (.slice dd6_9 mm6_9 oo6_9) ∧ Bx6 W g12_7 29 (.bool false) (.slice none 0 0) (.slice none 0 0) (.bool false) (.slice none 0 0) (.slice none 0 0) ∧ Rw W (.agg #[.bool b16_7, .slice a16_7 n16_7 c16_7, .slice d16_7 m16_7 o16_7]) (x / y) ∧ Bx3 W g16_7 27 (.bool b16_7) (.slice a16_7 n16_7 c16_7) (.slice d16_7 m16_7 o16_7) ∧ Rw W u17_1 (((0 : Int) : Rat)) ∧ W17.heap.size ≤ W.heap.size) ⟨Good.is _, Good.is _, Good.is _, Good.is _, Good.is _, Good.is _, trivial⟩
      ⟨E0, p3, p4, p5, hsp, hsq, h3_3, p3_10, h3_7, p3_11, h4_2, p4_8, h4_5, p4_9, h5_3, h5_10, h6_6, p6_9, p12_7, h16_4, p16_7, h17_1, Nat.le_refl _⟩ (A := ?A18) ?hA18 ?howe18 ?hfin18
     case hA18 =>
      intro vs
      simp only [putAll, Act.put, sA, sZ, sS, Nat.zero_add, Nat.reduceAdd]
      exact rfl
     case howe18 =>
      clear E0 p3 p4 p5 hsp hsq h3_3 p3_10 h3_7 p3_11 h4_2 p4_8 h4_5 p4_9 h5_3 h5_10 h6_6 p6_9 p12_7 h16_4 p16_7 h17_1
      intro hf
      refine ⟨oE 0 [] hf rfl ?_, oE 1 [0] hf rfl ?_, oE 2 [1] hf rfl ?_, oE 3 [1, 2] hf rfl ?_, oE 4 [1, 3] hf rfl ?_, oE 5 [4] hf rfl ?_, trivial⟩
      all_goals intro vs W hS hp hx KO hKO
      all_goals simp only [Act.put, sA, sZ, sS] at hKO
      ·go_simp
       refine (Tryz.alive07 _).mono ?_
       rintro e W1 ⟨rfl, hE⟩
       exact hKO _ W1 hE rfl
      ·have e0 := isOf hp.1; simp only [e0] at hKO; go_simp; exact hKO _ W (.refl W) rfl
      ·have e1 := isOf hp.1; simp only [e1] at hKO; go_simp; exact hKO _ W (.refl W) rfl
      ·have e1 := isOf hp.1; have e2 := isOf hp.2.1; simp only [e1, e2] at hKO; go_simp; exact hKO _ W (.refl W) rfl
      ·have e1 := isOf hp.1; have e3 := isOf hp.2.1; simp only [e1, e3] at hKO; go_simp; exact hKO _ W (.refl W) rfl
      ·have e4 := isOf hp.1; simp only [e4] at hKO; go_simp; exact hKO _ W (.refl W) rfl
     intro vs W18 hS hp
     clear szw18 E0 p3 p4 p5 hsp hsq h3_3 p3_10 h3_7 p3_11 h4_2 p4_8 h4_5 p4_9 h5_3 h5_10 h6_6 p6_9 p12_7 h16_4 p16_7 h17_1
     obtain ⟨E0, p3, p4, p5, hsp, hsq, h3_3, p3_10, h3_7, p3_11, h4_2, p4_8, h4_5, p4_9, h5_3, h5_10, h6_6, p6_9, p12_7, h16_4, p16_7, h17_1, sz18⟩ := hS
     obtain ⟨h18_0, h18_1, h18_2, h18_3, h18_4, h18_5, -⟩ := hp
     replace h18_0 : vs 0 = .bool true := h18_0
     replace h18_1 : vs 1 = .bool true := h18_1
     replace h18_2 : vs 2 = .int .i64 4 := h18_2
     replace h18_3 : vs 3 = .bool true := h18_3
     replace h18_4 : vs 4 = .bool true := h18_4
     replace h18_5 : vs 5 = .bool true := h18_5
     simp only [h18_0, h18_1, h18_2, h18_3, h18_4, h18_5]
     clear h18_0 h18_1 h18_2 h18_3 h18_4 h18_5
     obtain ⟨kp3_0, kp3_1, kp3_2, kp3_3, kp3_4, kp3_5⟩ := p3.c6
     obtain ⟨kp4_0, kp4_1, kp4_2, kp4_3, kp4_4, kp4_5⟩ := p4.c6
     obtain ⟨kp5_0, kp5_1⟩ := p5.c2
     obtain ⟨kp3_10_0, kp3_10_1, kp3_10_2⟩ := p3_10.c3
     obtain ⟨kp3_11_0, kp3_11_1, kp3_11_2⟩ := p3_11.c3
     obtain ⟨kp4_8_0, kp4_8_1, kp4_8_2, kp4_8_3, kp4_8_4, kp4_8_5⟩ := p4_8.c6
     obtain ⟨kp4_9_0, kp4_9_1, kp4_9_2, kp4_9_3, kp4_9_4, kp4_9_5⟩ := p4_9.c6
     obtain ⟨kp6_9_0, kp6_9_1, kp6_9_2, kp6_9_3, kp6_9_4, kp6_9_5⟩ := p6_9.c6
     obtain ⟨kp12_7_0, kp12_7_1, kp12_7_2, kp12_7_3, kp12_7_4, kp12_7_5⟩ := p12_7.c6
     obtain ⟨kp16_7_0, kp16_7_1, kp16_7_2⟩ := p16_7.c3
     clear hsp hsq h3_3 h3_7 h4_2 h4_5 h5_3 h5_10 h6_6 h16_4 h17_1; go_wp2; go_ret
     exact ⟨rfl, E0⟩

end Go.Rt
