/-
 Chapter 7: of intervals in two others the sum and the product are in these's; rounded outward they stay so.
-/
import Derived.Test.YthmncdhibcoiaaaGreatSqz
import Derived.Test.YthmncdhibcoiaaaGreatIvO
namespace Go.Rt
open Go Go.RowKit Go.Proofs

theorem inS_outs {p q : Rat × Rat} (h : p.1 ≤ p.2) (h1 : q.1 ≤ p.1) (h2 : p.2 ≤ q.2) (K : Nat) : inS (outS p K) (outS q K) = true :=
 have m := outS_mono K h1 h2
 have r := outS_right h K
 inS_iff.2 ⟨⟨m.1, Rat.le_trans r m.2⟩, Rat.le_trans m.1 r, m.2⟩

theorem inS_add {x y p q : Rat × Rat} (hx : x.1 ≤ x.2) (hy : y.1 ≤ y.2) (h1 : p.1 ≤ x.1) (h2 : x.2 ≤ p.2) (h3 : q.1 ≤ y.1) (h4 : y.2 ≤ q.2) : inS (x.1 + y.1, x.2 + y.2) (p.1 + q.1, p.2 + q.2) = true := by
 rw [inS_iff]
 refine ⟨⟨?_, ?_⟩, ?_, ?_⟩ <;> (show _ + _ ≤ _ + _; grind)

set_option maxRecDepth 100000 in
set_option maxHeartbeats 8000000 in
theorem Tryz.lawIvalIn {b1 : Bool} {a1 : Option Addr} {n1 c1 : Nat} {d1 : Option Addr} {m1 o1 : Nat} {bb1 : Bool} {aa1 : Option Addr} {nn1 cc1 : Nat} {dd1 : Option Addr} {mm1 oo1 : Nat} {xs1 ys1 us1 zs1 : List Nat} {b2 : Bool} {a2 : Option Addr} {n2 c2 : Nat} {d2 : Option Addr} {m2 o2 : Nat} {bb2 : Bool} {aa2 : Option Addr} {nn2 cc2 : Nat} {dd2 : Option Addr} {mm2 oo2 : Nat} {xs2 ys2 us2 zs2 : List Nat} {w : World} (x11 : Nt w (.slice a1 n1 c1) xs1) (x12 : Nt w (.slice d1 m1 o1) ys1) (x13 : Nt w (.slice aa1 nn1 cc1) us1) (x14 : Nt w (.slice dd1 mm1 oo1) zs1) (x21 : Nt w (.slice a2 n2 c2) xs2) (x22 : Nt w (.slice d2 m2 o2) ys2) (x23 : Nt w (.slice aa2 nn2 cc2) us2) (x24 : Nt w (.slice dd2 mm2 oo2) zs2) (f0 : Nat) (hf0 : f0 < 256) (f1 : Nat) (hf1 : f1 < 256) (f2 : Nat) (hf2 : f2 < 256) (f3 : Nat) (hf3 : f3 < 256) :
  Calls Tryz.prog 9 #[.agg #[.bool b1, .slice a1 n1 c1, .slice d1 m1 o1, .bool bb1, .slice aa1 nn1 cc1, .slice dd1 mm1 oo1], .agg #[.bool b2, .slice a2 n2 c2, .slice d2 m2 o2, .bool bb2, .slice aa2 nn2 cc2, .slice dd2 mm2 oo2], .agg #[.int .u8 (f0 : Int), .int .u8 (f1 : Int), .int .u8 (f2 : Int), .int .u8 (f3 : Int)]] w fun e w' => e = .returned (.bool true) ∧ Ext w w' := by
 have Hf0 := Lib.hid hf0
 have Hf1 := Lib.hid hf1
 have Hf2 := Lib.hid hf2
 have Hf3 := Lib.hid hf3
 have hwf0 : IntKind.i64.wrap (f0 : Int) = (f0 : Int) := by rw [IntKind.wrap_i64]; omega
 clear hf0 hf1 hf2 hf3
 obtain ⟨W0, hW0⟩ : ∃ W0, W0 = (((w.alloc (.cells #[.bool b1, .slice a1 n1 c1, .slice d1 m1 o1, .bool bb1, .slice aa1 nn1 cc1, .slice dd1 mm1 oo1] 29)).alloc (.cells #[.bool b2, .slice a2 n2 c2, .slice d2 m2 o2, .bool bb2, .slice aa2 nn2 cc2, .slice dd2 mm2 oo2] 29)).alloc (.cells #[.int .u8 (f0 : Int), .int .u8 (f1 : Int), .int .u8 (f2 : Int), .int .u8 (f3 : Int)] 53)) := ⟨_, rfl⟩
 have E0 : Ext w W0 := by rw [hW0]; exact (((Ext.alloc1 w (.cells #[.bool b1, .slice a1 n1 c1, .slice d1 m1 o1, .bool bb1, .slice aa1 nn1 cc1, .slice dd1 mm1 oo1] 29)).alloc (.cells #[.bool b2, .slice a2 n2 c2, .slice d2 m2 o2, .bool bb2, .slice aa2 nn2 cc2, .slice dd2 mm2 oo2] 29)).alloc (.cells #[.int .u8 (f0 : Int), .int .u8 (f1 : Int), .int .u8 (f2 : Int), .int .u8 (f3 : Int)] 53))
 replace x11 : Nt W0 (.slice a1 n1 c1) xs1 := x11.ext E0
 replace x12 : Nt W0 (.slice d1 m1 o1) ys1 := x12.ext E0
 replace x13 : Nt W0 (.slice aa1 nn1 cc1) us1 := x13.ext E0
 replace x14 : Nt W0 (.slice dd1 mm1 oo1) zs1 := x14.ext E0
 replace x21 : Nt W0 (.slice a2 n2 c2) xs2 := x21.ext E0
 replace x22 : Nt W0 (.slice d2 m2 o2) ys2 := x22.ext E0
 replace x23 : Nt W0 (.slice aa2 nn2 cc2) us2 := x23.ext E0
 replace x24 : Nt W0 (.slice dd2 mm2 oo2) zs2 := x24.ext E0
 have p3 : Bx6 W0 w.heap.size 29 (.bool b1) (.slice a1 n1 c1) (.slice d1 m1 o1) (.bool bb1) (.slice aa1 nn1 cc1) (.slice dd1 mm1 oo1) := by rw [hW0]; exact (Bx6.new w 29 (.bool b1) (.slice a1 n1 c1) (.slice d1 m1 o1) (.bool bb1) (.slice aa1 nn1 cc1) (.slice dd1 mm1 oo1)).ext ((Ext.alloc1 (w.alloc (.cells #[.bool b1, .slice a1 n1 c1, .slice d1 m1 o1, .bool bb1, .slice aa1 nn1 cc1, .slice dd1 mm1 oo1] 29)) (.cells #[.bool b2, .slice a2 n2 c2, .slice d2 m2 o2, .bool bb2, .slice aa2 nn2 cc2, .slice dd2 mm2 oo2] 29)).alloc (.cells #[.int .u8 (f0 : Int), .int .u8 (f1 : Int), .int .u8 (f2 : Int), .int .u8 (f3 : Int)] 53))
 have p4 : Bx6 W0 (w.heap.size + 1) 29 (.bool b2) (.slice a2 n2 c2) (.slice d2 m2 o2) (.bool bb2) (.slice aa2 nn2 cc2) (.slice dd2 mm2 oo2) := by rw [hW0]; simpa using (Bx6.new (w.alloc (.cells #[.bool b1, .slice a1 n1 c1, .slice d1 m1 o1, .bool bb1, .slice aa1 nn1 cc1, .slice dd1 mm1 oo1] 29)) 29 (.bool b2) (.slice a2 n2 c2) (.slice d2 m2 o2) (.bool bb2) (.slice aa2 nn2 cc2) (.slice dd2 mm2 oo2)).ext (Ext.alloc1 ((w.alloc (.cells #[.bool b1, .slice a1 n1 c1, .slice d1 m1 o1, .bool bb1, .slice aa1 nn1 cc1, .slice dd1 mm1 oo1] 29)).alloc (.cells #[.bool b2, .slice a2 n2 c2, .slice d2 m2 o2, .bool bb2, .slice aa2 nn2 cc2, .slice dd2 mm2 oo2] 29)) (.cells #[.int .u8 (f0 : Int), .int .u8 (f1 : Int), .int .u8 (f2 : Int), .int .u8 (f3 : Int)] 53))
 have p5 : BxA W0 (w.heap.size + 1 + 1) 53 #[.int .u8 (f0 : Int), .int .u8 (f1 : Int), .int .u8 (f2 : Int), .int .u8 (f3 : Int)] := by rw [hW0]; simpa using (BxA.new ((w.alloc (.cells #[.bool b1, .slice a1 n1 c1, .slice d1 m1 o1, .bool bb1, .slice aa1 nn1 cc1, .slice dd1 mm1 oo1] 29)).alloc (.cells #[.bool b2, .slice a2 n2 c2, .slice d2 m2 o2, .bool bb2, .slice aa2 nn2 cc2, .slice dd2 mm2 oo2] 29)) 53 #[.int .u8 (f0 : Int), .int .u8 (f1 : Int), .int .u8 (f2 : Int), .int .u8 (f3 : Int)])
 go_enter Tryz.func9, Tryz.ntmps9
 obtain ⟨kp3_0, kp3_1, kp3_2, kp3_3, kp3_4, kp3_5⟩ := p3.c6
 obtain ⟨kp4_0, kp4_1, kp4_2, kp4_3, kp4_4, kp4_5⟩ := p4.c6
 obtain ⟨kp5_0, kp5_1, kp5_2, kp5_3⟩ := p5.c4
 go_wp2_with fail
 rw [← hW0]
 clear hW0; clear kp3_0 kp3_1 kp3_2 kp3_3 kp3_4 kp3_5 kp4_0 kp4_1 kp4_2 kp4_3 kp4_4 kp4_5 kp5_0 kp5_1 kp5_2 kp5_3
 refine (Tryz.rsFew x11 x12 x13 x14 2 (by omega)).mono ?_
 rintro e WfB1 ⟨B1, rfl, hB1, hE⟩
 replace hB1 : B1 = true → ∃ p, Sw WfB1 (.agg #[.bool b1, .slice a1 n1 c1, .slice d1 m1 o1, .bool bb1, .slice aa1 nn1 cc1, .slice dd1 mm1 oo1]) p ∧ SmS 2 p ∧ p.1 ≤ p.2 := fun e => let ⟨p, k1, k2⟩ := hB1 e; ⟨p, k1.ext hE, k2⟩
 replace E0 := (Ext.trans E0 hE)
 replace x11 := (x11.ext hE)
 replace x12 := (x12.ext hE)
 replace x13 := (x13.ext hE)
 replace x14 := (x14.ext hE)
 replace x21 := (x21.ext hE)
 replace x22 := (x22.ext hE)
 replace x23 := (x23.ext hE)
 replace x24 := (x24.ext hE)
 replace p3 := (p3.ext hE); replace p4 := (p4.ext hE); replace p5 := (p5.ext hE); clear hE
 cases B1
 ·clear hB1
  obtain ⟨kp3_0, kp3_1, kp3_2, kp3_3, kp3_4, kp3_5⟩ := p3.c6
  obtain ⟨kp4_0, kp4_1, kp4_2, kp4_3, kp4_4, kp4_5⟩ := p4.c6
  obtain ⟨kp5_0, kp5_1, kp5_2, kp5_3⟩ := p5.c4
  go_wp2_with fail
  clear kp3_0 kp3_1 kp3_2 kp3_3 kp3_4 kp3_5 kp4_0 kp4_1 kp4_2 kp4_3 kp4_4 kp4_5 kp5_0 kp5_1 kp5_2 kp5_3
  refine (Tryz.alive07 _).mono ?_
  rintro e Wv ⟨rfl, hE⟩
  replace E0 := (Ext.trans E0 hE)
  replace x11 := (x11.ext hE)
  replace x12 := (x12.ext hE)
  replace x13 := (x13.ext hE)
  replace x14 := (x14.ext hE)
  replace x21 := (x21.ext hE)
  replace x22 := (x22.ext hE)
  replace x23 := (x23.ext hE)
  replace x24 := (x24.ext hE)
  replace p3 := (p3.ext hE); replace p4 := (p4.ext hE); replace p5 := (p5.ext hE); clear hE
  obtain ⟨kp3_0, kp3_1, kp3_2, kp3_3, kp3_4, kp3_5⟩ := p3.c6
  obtain ⟨kp4_0, kp4_1, kp4_2, kp4_3, kp4_4, kp4_5⟩ := p4.c6
  obtain ⟨kp5_0, kp5_1, kp5_2, kp5_3⟩ := p5.c4
  clear x11 x12 x13 x14 x21 x22 x23 x24; go_wp2; go_ret
  exact ⟨rfl, E0⟩
 ·obtain ⟨p, hsp, sp, hlp⟩ := hB1 rfl
  have SP := Lib.hid sp
  have HLP := Lib.hid hlp
  clear sp hB1 hlp
  obtain ⟨kp3_0, kp3_1, kp3_2, kp3_3, kp3_4, kp3_5⟩ := p3.c6
  obtain ⟨kp4_0, kp4_1, kp4_2, kp4_3, kp4_4, kp4_5⟩ := p4.c6
  obtain ⟨kp5_0, kp5_1, kp5_2, kp5_3⟩ := p5.c4
  go_wp2_with fail
  clear kp3_0 kp3_1 kp3_2 kp3_3 kp3_4 kp3_5 kp4_0 kp4_1 kp4_2 kp4_3 kp4_4 kp4_5 kp5_0 kp5_1 kp5_2 kp5_3
  refine (Tryz.rsFew x21 x22 x23 x24 2 (by omega)).mono ?_
  rintro e WfB2 ⟨B2, rfl, hB2, hE⟩
  replace hB2 : B2 = true → ∃ p, Sw WfB2 (.agg #[.bool b2, .slice a2 n2 c2, .slice d2 m2 o2, .bool bb2, .slice aa2 nn2 cc2, .slice dd2 mm2 oo2]) p ∧ SmS 2 p ∧ p.1 ≤ p.2 := fun e => let ⟨p, k1, k2⟩ := hB2 e; ⟨p, k1.ext hE, k2⟩
  replace E0 := (Ext.trans E0 hE)
  replace x11 := (x11.ext hE)
  replace x12 := (x12.ext hE)
  replace x13 := (x13.ext hE)
  replace x14 := (x14.ext hE)
  replace x21 := (x21.ext hE)
  replace x22 := (x22.ext hE)
  replace x23 := (x23.ext hE)
  replace x24 := (x24.ext hE)
  replace p3 := (p3.ext hE); replace p4 := (p4.ext hE); replace p5 := (p5.ext hE); replace hsp := (hsp.ext hE); clear hE
  cases B2
  ·clear hB2
   obtain ⟨kp3_0, kp3_1, kp3_2, kp3_3, kp3_4, kp3_5⟩ := p3.c6
   obtain ⟨kp4_0, kp4_1, kp4_2, kp4_3, kp4_4, kp4_5⟩ := p4.c6
   obtain ⟨kp5_0, kp5_1, kp5_2, kp5_3⟩ := p5.c4
   go_wp2_with fail
   clear kp3_0 kp3_1 kp3_2 kp3_3 kp3_4 kp3_5 kp4_0 kp4_1 kp4_2 kp4_3 kp4_4 kp4_5 kp5_0 kp5_1 kp5_2 kp5_3
   refine (Tryz.alive07 _).mono ?_
   rintro e Wv ⟨rfl, hE⟩
   replace E0 := (Ext.trans E0 hE)
   replace x11 := (x11.ext hE)
   replace x12 := (x12.ext hE)
   replace x13 := (x13.ext hE)
   replace x14 := (x14.ext hE)
   replace x21 := (x21.ext hE)
   replace x22 := (x22.ext hE)
   replace x23 := (x23.ext hE)
   replace x24 := (x24.ext hE)
   replace p3 := (p3.ext hE); replace p4 := (p4.ext hE); replace p5 := (p5.ext hE); replace hsp := (hsp.ext hE); clear hE
   obtain ⟨kp3_0, kp3_1, kp3_2, kp3_3, kp3_4, kp3_5⟩ := p3.c6
   obtain ⟨kp4_0, kp4_1, kp4_2, kp4_3, kp4_4, kp4_5⟩ := p4.c6
   obtain ⟨kp5_0, kp5_1, kp5_2, kp5_3⟩ := p5.c4
   clear x11 x12 x13 x14 x21 x22 x23 x24 hsp; go_wp2; go_ret
   exact ⟨rfl, E0⟩
  ·obtain ⟨q, hsq, sq, hlq⟩ := hB2 rfl
   have SQ := Lib.hid sq
   have HLQ := Lib.hid hlq
   clear sq hB2 hlq; clear x11 x12 x13 x14 x21 x22 x23 x24
   obtain ⟨i0, hi⟩ : ∃ i, i = min f0 f1 := ⟨_, rfl⟩
   obtain ⟨j0, hj⟩ : ∃ j, j = max f0 f1 := ⟨_, rfl⟩
   have Hi0 : Hid (i0 < 256 ∧ j0 < 256 ∧ i0 ≤ j0) := Lib.hid (by have := Hf0.out; have := Hf1.out; omega)
   have hmni0 : min (f0 : Int) (f1 : Int) = (i0 : Int) := by omega
   have hmxj0 : max (f0 : Int) (f1 : Int) = (j0 : Int) := by omega
   have hmmi0 : (if (f1 : Int) < (f0 : Int) then (f1 : Int) else (f0 : Int)) = (i0 : Int) := by split <;> omega
   have hmmj0 : (if (f1 : Int) > (f0 : Int) then (f1 : Int) else (f0 : Int)) = (j0 : Int) := by split <;> omega
   clear hi hj
   obtain ⟨x, hx⟩ : ∃ x : Rat × Rat, x = (ofR p i0, ofR p j0) := ⟨_, rfl⟩
   have Hx1 : Hid (ofR p i0 = x.1) := Lib.hid (by rw [hx])
   have Hx2 : Hid (ofR p j0 = x.2) := Lib.hid (by rw [hx])
   have Sx : Hid (SmS 21 x) := Lib.hid (by rw [hx]; exact ⟨(ofR_sm SP.out Hi0.out.1).2.2.2.2, (ofR_sm SP.out Hi0.out.2.1).2.2.2.2⟩)
   have HxI : Hid (p.1 ≤ x.1 ∧ x.2 ≤ p.2 ∧ x.1 ≤ x.2) := Lib.hid (by rw [hx]; exact ⟨(of_in HLP.out i0 (by have := Hi0.out; omega)).1, (of_in HLP.out j0 (by have := Hi0.out; omega)).2, of_mono HLP.out Hi0.out.2.2⟩)
   clear hx
   obtain ⟨i2, hi⟩ : ∃ i, i = min f2 f3 := ⟨_, rfl⟩
   obtain ⟨j2, hj⟩ : ∃ j, j = max f2 f3 := ⟨_, rfl⟩
   have Hi2 : Hid (i2 < 256 ∧ j2 < 256 ∧ i2 ≤ j2) := Lib.hid (by have := Hf2.out; have := Hf3.out; omega)
   have hmni2 : min (f2 : Int) (f3 : Int) = (i2 : Int) := by omega
   have hmxj2 : max (f2 : Int) (f3 : Int) = (j2 : Int) := by omega
   have hmmi2 : (if (f3 : Int) < (f2 : Int) then (f3 : Int) else (f2 : Int)) = (i2 : Int) := by split <;> omega
   have hmmj2 : (if (f3 : Int) > (f2 : Int) then (f3 : Int) else (f2 : Int)) = (j2 : Int) := by split <;> omega
   clear hi hj
   obtain ⟨y, hx⟩ : ∃ x : Rat × Rat, x = (ofR q i2, ofR q j2) := ⟨_, rfl⟩
   have Hy1 : Hid (ofR q i2 = y.1) := Lib.hid (by rw [hx])
   have Hy2 : Hid (ofR q j2 = y.2) := Lib.hid (by rw [hx])
   have Sy : Hid (SmS 21 y) := Lib.hid (by rw [hx]; exact ⟨(ofR_sm SQ.out Hi2.out.1).2.2.2.2, (ofR_sm SQ.out Hi2.out.2.1).2.2.2.2⟩)
   have HyI : Hid (q.1 ≤ y.1 ∧ y.2 ≤ q.2 ∧ y.1 ≤ y.2) := Lib.hid (by rw [hx]; exact ⟨(of_in HLQ.out i2 (by have := Hi2.out; omega)).1, (of_in HLQ.out j2 (by have := Hi2.out; omega)).2, of_mono HLQ.out Hi2.out.2.2⟩)
   clear hx
   have HI1 : Hid (inS (x.1 + y.1, x.2 + y.2) (p.1 + q.1, p.2 + q.2) = true) := Lib.hid (inS_add HxI.out.2.2 HyI.out.2.2 HxI.out.1 HxI.out.2.1 HyI.out.1 HyI.out.2.1)
   have HI2 : Hid (inS (mulS x y) (mulS p q) = true) := Lib.hid (mulS_in ⟨HxI.out.1, Rat.le_trans HxI.out.2.2 HxI.out.2.1⟩ ⟨Rat.le_trans HxI.out.1 HxI.out.2.2, HxI.out.2.1⟩ ⟨HyI.out.1, Rat.le_trans HyI.out.2.2 HyI.out.2.1⟩ ⟨Rat.le_trans HyI.out.1 HyI.out.2.2, HyI.out.2.1⟩)
   have HI3 : Hid (inS x p = true) := Lib.hid (inS_iff.2 ⟨⟨HxI.out.1, Rat.le_trans HxI.out.2.2 HxI.out.2.1⟩, Rat.le_trans HxI.out.1 HxI.out.2.2, HxI.out.2.1⟩)
   have HI4 : Hid (inS (outS x f0) (outS p f0) = true) := Lib.hid (inS_outs HxI.out.2.2 HxI.out.1 HxI.out.2.1 f0)
   have HI5 : Hid (inS (y.1, y.1) y = true) := Lib.hid (inS_iff.2 ⟨⟨Rat.le_refl, HyI.out.2.2⟩, Rat.le_refl, HyI.out.2.2⟩)
   have SA : Hid (SmS 43 (x.1 + y.1, x.2 + y.2) ∧ SmS 43 (p.1 + q.1, p.2 + q.2)) := Lib.hid ⟨⟨(Sx.out.lo.add Sy.out.lo).mono (by omega), (Sx.out.hi.add Sy.out.hi).mono (by omega)⟩, ⟨(SP.out.lo.add SQ.out.lo).mono (by omega), (SP.out.hi.add SQ.out.hi).mono (by omega)⟩⟩
   have SM : Hid (SmS 42 (mulS x y) ∧ SmS 42 (mulS p q)) := Lib.hid ⟨mulS_sm Sx.out Sy.out, (mulS_sm SP.out SQ.out).mono (by omega)⟩
   have SO : Hid (SmS 30 (outS x f0) ∧ SmS 30 (outS p f0)) := Lib.hid ⟨outS_sm Sx.out Hf0.out, (outS_sm SP.out Hf0.out).mono (by omega)⟩
   obtain ⟨kp3_0, kp3_1, kp3_2, kp3_3, kp3_4, kp3_5⟩ := p3.c6
   obtain ⟨kp4_0, kp4_1, kp4_2, kp4_3, kp4_4, kp4_5⟩ := p4.c6
   obtain ⟨kp5_0, kp5_1, kp5_2, kp5_3⟩ := p5.c4
   go_upto_region 3 with (fail)
   clear kp3_0 kp3_1 kp3_2 kp3_3 kp3_4 kp3_5 kp4_0 kp4_1 kp4_2 kp4_3 kp4_4 kp4_5 kp5_0 kp5_1 kp5_2 kp5_3; have ltp3 := p3.lt; have ltp4 := p4.lt; have ltp5 := p5.lt; have szw1 := Ext.size E0
   refine region_gs [.one fun v _ => v = .agg #[.bool b1, .slice a1 n1 c1, .slice d1 m1 o1, .bool bb1, .slice aa1 nn1 cc1, .slice dd1 mm1 oo1],
     .one fun v _ => v = .pointer (some ⟨w.heap.size + 1 + 1, 0, none⟩),
     .one fun v _ => v = .int .u8 (f0 : Int),
     .one fun v _ => v = .pointer (some ⟨w.heap.size + 1 + 1, 1, none⟩),
     .one fun v _ => v = .int .u8 (f1 : Int),
     .one fun v _ => v = .int .u8 (i0 : Int),
     .one fun v W => Rw W v x.1,
     .one fun v _ => v = .agg #[.bool b1, .slice a1 n1 c1, .slice d1 m1 o1, .bool bb1, .slice aa1 nn1 cc1, .slice dd1 mm1 oo1],
     .one fun v _ => v = .pointer (some ⟨w.heap.size + 1 + 1, 0, none⟩),
     .one fun v _ => v = .int .u8 (f0 : Int),
     .one fun v _ => v = .pointer (some ⟨w.heap.size + 1 + 1, 1, none⟩),
     .one fun v _ => v = .int .u8 (f1 : Int),
     .one fun v _ => v = .int .u8 (j0 : Int),
     .one fun v W => Rw W v x.2,
     .one fun v W => Sw W v x,
     .one fun v W => ∃ g, v = .pointer (some ⟨g, 0, none⟩) ∧ WfB2.heap.size ≤ g ∧ Form W g 29 6,
     .three 15 14 (fun p r _ W => Put6 WfB2.heap.size 29 p r W)]
    (fun W => Ext w W ∧ Bx6 W w.heap.size 29 (.bool b1) (.slice a1 n1 c1) (.slice d1 m1 o1) (.bool bb1) (.slice aa1 nn1 cc1) (.slice dd1 mm1 oo1) ∧ Bx6 W (w.heap.size + 1) 29 (.bool b2) (.slice a2 n2 c2) (.slice d2 m2 o2) (.bool bb2) (.slice aa2 nn2 cc2) (.slice dd2 mm2 oo2) ∧ BxA W (w.heap.size + 1 + 1) 53 #[.int .u8 (f0 : Int), .int .u8 (f1 : Int), .int .u8 (f2 : Int), .int .u8 (f3 : Int)] ∧ Sw W (.agg #[.bool b1, .slice a1 n1 c1, .slice d1 m1 o1, .bool bb1, .slice aa1 nn1 cc1, .slice dd1 mm1 oo1]) p ∧ Sw W (.agg #[.bool b2, .slice a2 n2 c2, .slice d2 m2 o2, .bool bb2, .slice aa2 nn2 cc2, .slice dd2 mm2 oo2]) q ∧ WfB2.heap.size ≤ W.heap.size) ⟨Good.is _, Good.is _, Good.is _, Good.is _, Good.is _, Good.is _, Good.rat _, Good.is _, Good.is _, Good.is _, Good.is _, Good.is _, Good.is _, Good.rat _, Good.span _, Good.box _ _ _, cert_put6, trivial⟩
    ⟨E0, p3, p4, p5, hsp, hsq, Nat.le_refl _⟩ (A := ?A1) ?hA1 ?howe1 ?hfin1
   case hA1 =>
    intro vs
    simp only [putAll, Act.put, sA, sZ, sS, Nat.zero_add, Nat.reduceAdd]
    exact rfl
   case howe1 =>
    clear E0 p3 p4 p5 hsp hsq
    intro hf
    refine ⟨oE 0 [] hf rfl ?_, oE 1 [] hf rfl ?_, oE 2 [1] hf rfl ?_, oE 3 [] hf rfl ?_, oE 4 [3] hf rfl ?_, oE 5 [2, 4] hf rfl ?_, oE 6 [0, 5] hf rfl ?_, oE 7 [] hf rfl ?_, oE 8 [] hf rfl ?_, oE 9 [8] hf rfl ?_, oE 10 [] hf rfl ?_, oE 11 [10] hf rfl ?_, oE 12 [9, 11] hf rfl ?_, oE 13 [7, 12] hf rfl ?_, oE 14 [6, 13] hf rfl ?_, oE 15 [] hf rfl ?_, oW 16 [15, 14] hf rfl ?_, trivial⟩
    all_goals intro vs W hS hp hx KO hKO
    all_goals simp only [Act.put, sA, sZ, sS] at hKO
    ·have fc0 := hS.2.1.cell0; have fc1 := hS.2.1.cell1; have fc2 := hS.2.1.cell2; have fc3 := hS.2.1.cell3; have fc4 := hS.2.1.cell4; have fc5 := hS.2.1.cell5; go_simp; exact hKO _ W (.refl W) rfl
    ·go_simp; exact hKO _ W (.refl W) rfl
    ·have e1 := isOf hp.1; simp only [e1] at hKO; have fc0 := BxA.cell (hS.2.2.2.1) 0 (v := .int .u8 (f0 : Int)) rfl; go_simp; exact hKO _ W (.refl W) rfl
    ·go_simp; exact hKO _ W (.refl W) rfl
    ·have e3 := isOf hp.1; simp only [e3] at hKO; have fc1 := BxA.cell (hS.2.2.2.1) 1 (v := .int .u8 (f1 : Int)) rfl; go_simp; exact hKO _ W (.refl W) rfl
    ·have e2 := isOf hp.1; have e4 := isOf hp.2.1; simp only [e2, e4] at hKO; go_simp; exact hKO _ W (.refl W) rfl
    ·have e0 := isOf hp.1; have e5 := isOf hp.2.1; simp only [e0, e5] at hKO; go_simp
     refine (Tryz.lawOf7 (hS.2.2.2.2.1) SP.out i0 Hi0.out.1).mono ?_
     rintro e W1 ⟨v, rfl, hv, hE⟩
     rw [Hx1.out] at hv
     exact hKO _ W1 hE hv
    ·have fc0 := hS.2.1.cell0; have fc1 := hS.2.1.cell1; have fc2 := hS.2.1.cell2; have fc3 := hS.2.1.cell3; have fc4 := hS.2.1.cell4; have fc5 := hS.2.1.cell5; go_simp; exact hKO _ W (.refl W) rfl
    ·go_simp; exact hKO _ W (.refl W) rfl
    ·have e8 := isOf hp.1; simp only [e8] at hKO; have fc0 := BxA.cell (hS.2.2.2.1) 0 (v := .int .u8 (f0 : Int)) rfl; go_simp; exact hKO _ W (.refl W) rfl
    ·go_simp; exact hKO _ W (.refl W) rfl
    ·have e10 := isOf hp.1; simp only [e10] at hKO; have fc1 := BxA.cell (hS.2.2.2.1) 1 (v := .int .u8 (f1 : Int)) rfl; go_simp; exact hKO _ W (.refl W) rfl
    ·have e9 := isOf hp.1; have e11 := isOf hp.2.1; simp only [e9, e11] at hKO; go_simp; exact hKO _ W (.refl W) rfl
    ·have e7 := isOf hp.1; have e12 := isOf hp.2.1; simp only [e7, e12] at hKO; go_simp
     refine (Tryz.lawOf7 (hS.2.2.2.2.1) SP.out j0 Hi0.out.2.1).mono ?_
     rintro e W1 ⟨v, rfl, hv, hE⟩
     rw [Hx2.out] at hv
     exact hKO _ W1 hE hv
    ·have q6 := hp.1; have q13 := hp.2.1
     have qr := q6
     obtain ⟨b6, a6, n6, c6, d6, m6, o6, ev6, -, -, -⟩ := qr
     replace q6 : Rw W (vs 6) x.1 := q6
     rw [ev6] at q6
     replace ev6 : vs 6 = _ := ev6
     have qr := q13
     obtain ⟨b13, a13, n13, c13, d13, m13, o13, ev13, -, -, -⟩ := qr
     replace q13 : Rw W (vs 13) x.2 := q13
     rw [ev13] at q13
     replace ev13 : vs 13 = _ := ev13; simp only [ev6, ev13] at hKO; go_simp; exact hKO _ W (Ext.refl W) (Sw.mk q6 q13)
    ·have hn := Bx6.new W 29 (.bool false) (.slice none 0 0) (.slice none 0 0) (.bool false) (.slice none 0 0) (.slice none 0 0)
     have hE := Ext.alloc1 W (.cells #[.bool false, .slice none 0 0, .slice none 0 0, .bool false, .slice none 0 0, .slice none 0 0] 29)
     have hsz := hS.2.2.2.2.2.2
     go_simp
     exact hKO _ _ hE ⟨_, rfl, hsz, hn.form⟩
    ·have q15 := hp.1; have q14 := hp.2.1
     obtain ⟨g, ev, hg, hf⟩ := q15
     replace ev : vs 15 = _ := ev
     obtain ⟨x0_0, x0_1, x0_2, x0_3, x0_4, x0_5, hx, hno⟩ := hf.bx6
     have qr := q14
     obtain ⟨b3, a3, n3, c3, d3, m3, o3, bb3, aa3, nn3, cc3, dd3, mm3, oo3, er, -, -⟩ := qr
     replace er : vs 14 = _ := er
     have r0 := hx.froz0
     have t0 := hx.cell0
     have r1 := hx.froz1
     have t1 := hx.cell1
     have r2 := hx.froz2
     have t2 := hx.cell2
     have r3 := hx.froz3
     have t3 := hx.cell3
     have r4 := hx.froz4
     have t4 := hx.cell4
     have r5 := hx.froz5
     have t5 := hx.cell5
     have hw := Wr.set6 hx hno b3 a3 n3 c3 d3 m3 o3 bb3 aa3 nn3 cc3 dd3 mm3 oo3
     have hq := hx.set (.bool b3) (.slice a3 n3 c3) (.slice d3 m3 o3) (.bool bb3) (.slice aa3 nn3 cc3) (.slice dd3 mm3 oo3)
     simp only [ev, er] at hKO; go_simp
     exact hKO _ _ hw ⟨(Ext.wr hS.1 hw (by omega)), (hS.2.1.wr hw (by omega)), (hS.2.2.1.wr hw (by omega)), (hS.2.2.2.1.wr hw (by omega)), (hS.2.2.2.2.1.wr hw), (hS.2.2.2.2.2.1.wr hw), (Nat.le_trans hS.2.2.2.2.2.2 hw.apart.size)⟩ ⟨g, b3, a3, n3, c3, d3, m3, o3, bb3, aa3, nn3, cc3, dd3, mm3, oo3, ev, er, hg, hq⟩
   intro vs W1 hS hp
   clear szw1 E0 p3 p4 p5 hsp hsq
   obtain ⟨E0, p3, p4, p5, hsp, hsq, sz1⟩ := hS
   obtain ⟨h1_0, h1_1, h1_2, h1_3, h1_4, h1_5, h1_6, h1_7, h1_8, h1_9, h1_10, h1_11, h1_12, h1_13, h1_14, h1_15, h1_16, -⟩ := hp
   obtain ⟨g1_16, b1_16, a1_16, n1_16, c1_16, d1_16, m1_16, o1_16, bb1_16, aa1_16, nn1_16, cc1_16, dd1_16, mm1_16, oo1_16, ev1_16, er1_16, hg1_16, p1_16⟩ := h1_16
   replace ev1_16 : vs 15 = _ := ev1_16; replace er1_16 : vs 14 = _ := er1_16; replace h1_14 := (show Sw W1 (vs 14) x from h1_14)
   rw [er1_16] at h1_14
   replace h1_0 : vs 0 = .agg #[.bool b1, .slice a1 n1 c1, .slice d1 m1 o1, .bool bb1, .slice aa1 nn1 cc1, .slice dd1 mm1 oo1] := h1_0
   replace h1_1 : vs 1 = .pointer (some ⟨w.heap.size + 1 + 1, 0, none⟩) := h1_1
   replace h1_2 : vs 2 = .int .u8 (f0 : Int) := h1_2
   replace h1_3 : vs 3 = .pointer (some ⟨w.heap.size + 1 + 1, 1, none⟩) := h1_3
   replace h1_4 : vs 4 = .int .u8 (f1 : Int) := h1_4
   replace h1_5 : vs 5 = .int .u8 (i0 : Int) := h1_5
   replace h1_7 : vs 7 = .agg #[.bool b1, .slice a1 n1 c1, .slice d1 m1 o1, .bool bb1, .slice aa1 nn1 cc1, .slice dd1 mm1 oo1] := h1_7
   replace h1_8 : vs 8 = .pointer (some ⟨w.heap.size + 1 + 1, 0, none⟩) := h1_8
   replace h1_9 : vs 9 = .int .u8 (f0 : Int) := h1_9
   replace h1_10 : vs 10 = .pointer (some ⟨w.heap.size + 1 + 1, 1, none⟩) := h1_10
   replace h1_11 : vs 11 = .int .u8 (f1 : Int) := h1_11
   replace h1_12 : vs 12 = .int .u8 (j0 : Int) := h1_12
   simp only [ev1_16, er1_16, h1_0, h1_1, h1_2, h1_3, h1_4, h1_5, h1_7, h1_8, h1_9, h1_10, h1_11, h1_12]
   replace h1_6 : Rw W1 (vs 6) x.1 := h1_6
   generalize vs 6 = u1_6 at h1_6 ⊢
   replace h1_13 : Rw W1 (vs 13) x.2 := h1_13
   generalize vs 13 = u1_13 at h1_13 ⊢
   clear ev1_16 er1_16 h1_0 h1_1 h1_2 h1_3 h1_4 h1_5 h1_7 h1_8 h1_9 h1_10 h1_11 h1_12 h1_15
   obtain ⟨kp3_0, kp3_1, kp3_2, kp3_3, kp3_4, kp3_5⟩ := p3.c6
   obtain ⟨kp4_0, kp4_1, kp4_2, kp4_3, kp4_4, kp4_5⟩ := p4.c6
   obtain ⟨kp5_0, kp5_1, kp5_2, kp5_3⟩ := p5.c4
   obtain ⟨kp1_16_0, kp1_16_1, kp1_16_2, kp1_16_3, kp1_16_4, kp1_16_5⟩ := p1_16.c6
   go_upto_region 4 with (fail)
   clear kp3_0 kp3_1 kp3_2 kp3_3 kp3_4 kp3_5 kp4_0 kp4_1 kp4_2 kp4_3 kp4_4 kp4_5 kp5_0 kp5_1 kp5_2 kp5_3 kp1_16_0 kp1_16_1 kp1_16_2 kp1_16_3 kp1_16_4 kp1_16_5; have ltp1_16 := p1_16.lt; have szw2 := Ext.size E0
   refine region_gs [.one fun v _ => v = .agg #[.bool b2, .slice a2 n2 c2, .slice d2 m2 o2, .bool bb2, .slice aa2 nn2 cc2, .slice dd2 mm2 oo2],
     .one fun v _ => v = .pointer (some ⟨w.heap.size + 1 + 1, 2, none⟩),
     .one fun v _ => v = .int .u8 (f2 : Int),
     .one fun v _ => v = .pointer (some ⟨w.heap.size + 1 + 1, 3, none⟩),
     .one fun v _ => v = .int .u8 (f3 : Int),
     .one fun v _ => v = .int .u8 (i2 : Int),
     .one fun v W => Rw W v y.1,
     .one fun v _ => v = .agg #[.bool b2, .slice a2 n2 c2, .slice d2 m2 o2, .bool bb2, .slice aa2 nn2 cc2, .slice dd2 mm2 oo2],
     .one fun v _ => v = .pointer (some ⟨w.heap.size + 1 + 1, 2, none⟩),
     .one fun v _ => v = .int .u8 (f2 : Int),
     .one fun v _ => v = .pointer (some ⟨w.heap.size + 1 + 1, 3, none⟩),
     .one fun v _ => v = .int .u8 (f3 : Int),
     .one fun v _ => v = .int .u8 (j2 : Int),
     .one fun v W => Rw W v y.2,
     .one fun v W => Sw W v y,
     .one fun v W => ∃ g, v = .pointer (some ⟨g, 0, none⟩) ∧ W1.heap.size ≤ g ∧ Form W g 29 6,
     .three 15 14 (fun p r _ W => Put6 W1.heap.size 29 p r W)]
    (fun W => Ext w W ∧ Bx6 W w.heap.size 29 (.bool b1) (.slice a1 n1 c1) (.slice d1 m1 o1) (.bool bb1) (.slice aa1 nn1 cc1) (.slice dd1 mm1 oo1) ∧ Bx6 W (w.heap.size + 1) 29 (.bool b2) (.slice a2 n2 c2) (.slice d2 m2 o2) (.bool bb2) (.slice aa2 nn2 cc2) (.slice dd2 mm2 oo2) ∧ BxA W (w.heap.size + 1 + 1) 53 #[.int .u8 (f0 : Int), .int .u8 (f1 : Int), .int .u8 (f2 : Int), .int .u8 (f3 : Int)] ∧ Sw W (.agg #[.bool b1, .slice a1 n1 c1, .slice d1 m1 o1, .bool bb1, .slice aa1 nn1 cc1, .slice dd1 mm1 oo1]) p ∧ Sw W (.agg #[.bool b2, .slice a2 n2 c2, .slice d2 m2 o2, .bool bb2, .slice aa2 nn2 cc2, .slice dd2 mm2 oo2]) q ∧ Sw W (.agg #[.bool b1_16, .slice a1_16 n1_16 c1_16, .slice d1_16 m1_16 o1_16, .bool bb1_16, .slice aa1_16 nn1_16 cc1_16, .slice dd1_16 mm1_16 oo1_16]) x ∧ Bx6 W g1_16 29 (.bool b1_16) (.slice a1_16 n1_16 c1_16) (.slice d1_16 m1_16 o1_16) (.bool bb1_16) (.slice aa1_16 nn1_16 cc1_16) (.slice dd1_16 mm1_16 oo1_16) ∧ Rw W u1_6 x.1 ∧ Rw W u1_13 x.2 ∧ W1.heap.size ≤ W.heap.size) ⟨Good.is _, Good.is _, Good.is _, Good.is _, Good.is _, Good.is _, Good.rat _, Good.is _, Good.is _, Good.is _, Good.is _, Good.is _, Good.is _, Good.rat _, Good.span _, Good.box _ _ _, cert_put6, trivial⟩
    ⟨E0, p3, p4, p5, hsp, hsq, h1_14, p1_16, h1_6, h1_13, Nat.le_refl _⟩ (A := ?A2) ?hA2 ?howe2 ?hfin2
   case hA2 =>
    intro vs
    simp only [putAll, Act.put, sA, sZ, sS, Nat.zero_add, Nat.reduceAdd]
    exact rfl
   case howe2 =>
    clear E0 p3 p4 p5 hsp hsq h1_14 p1_16 h1_6 h1_13
    intro hf
    refine ⟨oE 0 [] hf rfl ?_, oE 1 [] hf rfl ?_, oE 2 [1] hf rfl ?_, oE 3 [] hf rfl ?_, oE 4 [3] hf rfl ?_, oE 5 [2, 4] hf rfl ?_, oE 6 [0, 5] hf rfl ?_, oE 7 [] hf rfl ?_, oE 8 [] hf rfl ?_, oE 9 [8] hf rfl ?_, oE 10 [] hf rfl ?_, oE 11 [10] hf rfl ?_, oE 12 [9, 11] hf rfl ?_, oE 13 [7, 12] hf rfl ?_, oE 14 [6, 13] hf rfl ?_, oE 15 [] hf rfl ?_, oW 16 [15, 14] hf rfl ?_, trivial⟩
    all_goals intro vs W hS hp hx KO hKO
    all_goals simp only [Act.put, sA, sZ, sS] at hKO
    ·have fc0 := hS.2.2.1.cell0; have fc1 := hS.2.2.1.cell1; have fc2 := hS.2.2.1.cell2; have fc3 := hS.2.2.1.cell3; have fc4 := hS.2.2.1.cell4; have fc5 := hS.2.2.1.cell5; go_simp; exact hKO _ W (.refl W) rfl
    ·go_simp; exact hKO _ W (.refl W) rfl
    ·have e1 := isOf hp.1; simp only [e1] at hKO; have fc2 := BxA.cell (hS.2.2.2.1) 2 (v := .int .u8 (f2 : Int)) rfl; go_simp; exact hKO _ W (.refl W) rfl
    ·go_simp; exact hKO _ W (.refl W) rfl
    ·have e3 := isOf hp.1; simp only [e3] at hKO; have fc3 := BxA.cell (hS.2.2.2.1) 3 (v := .int .u8 (f3 : Int)) rfl; go_simp; exact hKO _ W (.refl W) rfl
    ·have e2 := isOf hp.1; have e4 := isOf hp.2.1; simp only [e2, e4] at hKO; go_simp; exact hKO _ W (.refl W) rfl
    ·have e0 := isOf hp.1; have e5 := isOf hp.2.1; simp only [e0, e5] at hKO; go_simp
     refine (Tryz.lawOf7 (hS.2.2.2.2.2.1) SQ.out i2 Hi2.out.1).mono ?_
     rintro e W1 ⟨v, rfl, hv, hE⟩
     rw [Hy1.out] at hv
     exact hKO _ W1 hE hv
    ·have fc0 := hS.2.2.1.cell0; have fc1 := hS.2.2.1.cell1; have fc2 := hS.2.2.1.cell2; have fc3 := hS.2.2.1.cell3; have fc4 := hS.2.2.1.cell4; have fc5 := hS.2.2.1.cell5; go_simp; exact hKO _ W (.refl W) rfl
    ·go_simp; exact hKO _ W (.refl W) rfl
    ·have e8 := isOf hp.1; simp only [e8] at hKO; have fc2 := BxA.cell (hS.2.2.2.1) 2 (v := .int .u8 (f2 : Int)) rfl; go_simp; exact hKO _ W (.refl W) rfl
    ·go_simp; exact hKO _ W (.refl W) rfl
    ·have e10 := isOf hp.1; simp only [e10] at hKO; have fc3 := BxA.cell (hS.2.2.2.1) 3 (v := .int .u8 (f3 : Int)) rfl; go_simp; exact hKO _ W (.refl W) rfl
    ·have e9 := isOf hp.1; have e11 := isOf hp.2.1; simp only [e9, e11] at hKO; go_simp; exact hKO _ W (.refl W) rfl
    ·have e7 := isOf hp.1; have e12 := isOf hp.2.1; simp only [e7, e12] at hKO; go_simp
     refine (Tryz.lawOf7 (hS.2.2.2.2.2.1) SQ.out j2 Hi2.out.2.1).mono ?_
     rintro e W1 ⟨v, rfl, hv, hE⟩
     rw [Hy2.out] at hv
     exact hKO _ W1 hE hv
    ·have q6 := hp.1; have q13 := hp.2.1
     have qr := q6
     obtain ⟨b6, a6, n6, c6, d6, m6, o6, ev6, -, -, -⟩ := qr
     replace q6 : Rw W (vs 6) y.1 := q6
     rw [ev6] at q6
     replace ev6 : vs 6 = _ := ev6
     have qr := q13
     obtain ⟨b13, a13, n13, c13, d13, m13, o13, ev13, -, -, -⟩ := qr
     replace q13 : Rw W (vs 13) y.2 := q13
     rw [ev13] at q13
     replace ev13 : vs 13 = _ := ev13; simp only [ev6, ev13] at hKO; go_simp; exact hKO _ W (Ext.refl W) (Sw.mk q6 q13)
    ·have hn := Bx6.new W 29 (.bool false) (.slice none 0 0) (.slice none 0 0) (.bool false) (.slice none 0 0) (.slice none 0 0)
     have hE := Ext.alloc1 W (.cells #[.bool false, .slice none 0 0, .slice none 0 0, .bool false, .slice none 0 0, .slice none 0 0] 29)
     have hsz := hS.2.2.2.2.2.2.2.2.2.2
     go_simp
     exact hKO _ _ hE ⟨_, rfl, hsz, hn.form⟩
    ·have q15 := hp.1; have q14 := hp.2.1
     obtain ⟨g, ev, hg, hf⟩ := q15
     replace ev : vs 15 = _ := ev
     obtain ⟨x0_0, x0_1, x0_2, x0_3, x0_4, x0_5, hx, hno⟩ := hf.bx6
     have qr := q14
     obtain ⟨b3, a3, n3, c3, d3, m3, o3, bb3, aa3, nn3, cc3, dd3, mm3, oo3, er, -, -⟩ := qr
     replace er : vs 14 = _ := er
     have r0 := hx.froz0
     have t0 := hx.cell0
     have r1 := hx.froz1
     have t1 := hx.cell1
     have r2 := hx.froz2
     have t2 := hx.cell2
     have r3 := hx.froz3
     have t3 := hx.cell3
     have r4 := hx.froz4
     have t4 := hx.cell4
     have r5 := hx.froz5
     have t5 := hx.cell5
     have hw := Wr.set6 hx hno b3 a3 n3 c3 d3 m3 o3 bb3 aa3 nn3 cc3 dd3 mm3 oo3
     have hq := hx.set (.bool b3) (.slice a3 n3 c3) (.slice d3 m3 o3) (.bool bb3) (.slice aa3 nn3 cc3) (.slice dd3 mm3 oo3)
     simp only [ev, er] at hKO; go_simp
     exact hKO _ _ hw ⟨(Ext.wr hS.1 hw (by omega)), (hS.2.1.wr hw (by omega)), (hS.2.2.1.wr hw (by omega)), (hS.2.2.2.1.wr hw (by omega)), (hS.2.2.2.2.1.wr hw), (hS.2.2.2.2.2.1.wr hw), (hS.2.2.2.2.2.2.1.wr hw), (hS.2.2.2.2.2.2.2.1.wr hw (by omega)), (hS.2.2.2.2.2.2.2.2.1.wr hw), (hS.2.2.2.2.2.2.2.2.2.1.wr hw), (Nat.le_trans hS.2.2.2.2.2.2.2.2.2.2 hw.apart.size)⟩ ⟨g, b3, a3, n3, c3, d3, m3, o3, bb3, aa3, nn3, cc3, dd3, mm3, oo3, ev, er, hg, hq⟩
   intro vs W2 hS hp
   clear szw2 E0 p3 p4 p5 hsp hsq h1_14 p1_16 h1_6 h1_13
   obtain ⟨E0, p3, p4, p5, hsp, hsq, h1_14, p1_16, h1_6, h1_13, sz2⟩ := hS
   obtain ⟨h2_0, h2_1, h2_2, h2_3, h2_4, h2_5, h2_6, h2_7, h2_8, h2_9, h2_10, h2_11, h2_12, h2_13, h2_14, h2_15, h2_16, -⟩ := hp
   obtain ⟨g2_16, b2_16, a2_16, n2_16, c2_16, d2_16, m2_16, o2_16, bb2_16, aa2_16, nn2_16, cc2_16, dd2_16, mm2_16, oo2_16, ev2_16, er2_16, hg2_16, p2_16⟩ := h2_16
   replace ev2_16 : vs 15 = _ := ev2_16; replace er2_16 : vs 14 = _ := er2_16; replace h2_14 := (show Sw W2 (vs 14) y from h2_14)
   rw [er2_16] at h2_14
   replace h2_0 : vs 0 = .agg #[.bool b2, .slice a2 n2 c2, .slice d2 m2 o2, .bool bb2, .slice aa2 nn2 cc2, .slice dd2 mm2 oo2] := h2_0
   replace h2_1 : vs 1 = .pointer (some ⟨w.heap.size + 1 + 1, 2, none⟩) := h2_1
   replace h2_2 : vs 2 = .int .u8 (f2 : Int) := h2_2
   replace h2_3 : vs 3 = .pointer (some ⟨w.heap.size + 1 + 1, 3, none⟩) := h2_3
   replace h2_4 : vs 4 = .int .u8 (f3 : Int) := h2_4
   replace h2_5 : vs 5 = .int .u8 (i2 : Int) := h2_5
   replace h2_7 : vs 7 = .agg #[.bool b2, .slice a2 n2 c2, .slice d2 m2 o2, .bool bb2, .slice aa2 nn2 cc2, .slice dd2 mm2 oo2] := h2_7
   replace h2_8 : vs 8 = .pointer (some ⟨w.heap.size + 1 + 1, 2, none⟩) := h2_8
   replace h2_9 : vs 9 = .int .u8 (f2 : Int) := h2_9
   replace h2_10 : vs 10 = .pointer (some ⟨w.heap.size + 1 + 1, 3, none⟩) := h2_10
   replace h2_11 : vs 11 = .int .u8 (f3 : Int) := h2_11
   replace h2_12 : vs 12 = .int .u8 (j2 : Int) := h2_12
   simp only [ev2_16, er2_16, h2_0, h2_1, h2_2, h2_3, h2_4, h2_5, h2_7, h2_8, h2_9, h2_10, h2_11, h2_12]
   replace h2_6 : Rw W2 (vs 6) y.1 := h2_6
   generalize vs 6 = u2_6 at h2_6 ⊢
   replace h2_13 : Rw W2 (vs 13) y.2 := h2_13
   generalize vs 13 = u2_13 at h2_13 ⊢
   clear ev2_16 er2_16 h2_0 h2_1 h2_2 h2_3 h2_4 h2_5 h2_7 h2_8 h2_9 h2_10 h2_11 h2_12 h2_15; clear hmni0 hmmi0 hmni2 hmmi2 hmxj0 hmmj0 hmxj2 hmmj2
   obtain ⟨kp3_0, kp3_1, kp3_2, kp3_3, kp3_4, kp3_5⟩ := p3.c6
   obtain ⟨kp4_0, kp4_1, kp4_2, kp4_3, kp4_4, kp4_5⟩ := p4.c6
   obtain ⟨kp5_0, kp5_1, kp5_2, kp5_3⟩ := p5.c4
   obtain ⟨kp1_16_0, kp1_16_1, kp1_16_2, kp1_16_3, kp1_16_4, kp1_16_5⟩ := p1_16.c6
   obtain ⟨kp2_16_0, kp2_16_1, kp2_16_2, kp2_16_3, kp2_16_4, kp2_16_5⟩ := p2_16.c6
   go_upto_region 5 with (fail)
   clear kp3_0 kp3_1 kp3_2 kp3_3 kp3_4 kp3_5 kp4_0 kp4_1 kp4_2 kp4_3 kp4_4 kp4_5 kp5_0 kp5_1 kp5_2 kp5_3 kp1_16_0 kp1_16_1 kp1_16_2 kp1_16_3 kp1_16_4 kp1_16_5 kp2_16_0 kp2_16_1 kp2_16_2 kp2_16_3 kp2_16_4 kp2_16_5; have ltp2_16 := p2_16.lt; have szw3 := Ext.size E0
   refine region_gs [.one fun v _ => v = .agg #[.bool b1_16, .slice a1_16 n1_16 c1_16, .slice d1_16 m1_16 o1_16, .bool bb1_16, .slice aa1_16 nn1_16 cc1_16, .slice dd1_16 mm1_16 oo1_16],
     .one fun v _ => v = .agg #[.bool b2_16, .slice a2_16 n2_16 c2_16, .slice d2_16 m2_16 o2_16, .bool bb2_16, .slice aa2_16 nn2_16 cc2_16, .slice dd2_16 mm2_16 oo2_16],
     .one fun v W => Sw W v ((x.1 + y.1, x.2 + y.2)),
     .one fun v _ => v = .agg #[.bool b1, .slice a1 n1 c1, .slice d1 m1 o1, .bool bb1, .slice aa1 nn1 cc1, .slice dd1 mm1 oo1],
     .one fun v _ => v = .agg #[.bool b2, .slice a2 n2 c2, .slice d2 m2 o2, .bool bb2, .slice aa2 nn2 cc2, .slice dd2 mm2 oo2],
     .one fun v W => Sw W v ((p.1 + q.1, p.2 + q.2)),
     .one fun v _ => v = .bool true,
     .one fun v _ => v = .bool false,
     .one fun v _ => v = .bool false,
     .one fun v _ => v = .agg #[.bool b1_16, .slice a1_16 n1_16 c1_16, .slice d1_16 m1_16 o1_16, .bool bb1_16, .slice aa1_16 nn1_16 cc1_16, .slice dd1_16 mm1_16 oo1_16],
     .one fun v _ => v = .agg #[.bool b2_16, .slice a2_16 n2_16 c2_16, .slice d2_16 m2_16 o2_16, .bool bb2_16, .slice aa2_16 nn2_16 cc2_16, .slice dd2_16 mm2_16 oo2_16],
     .one fun v W => Sw W v (mulS x y),
     .one fun v _ => v = .agg #[.bool b1, .slice a1 n1 c1, .slice d1 m1 o1, .bool bb1, .slice aa1 nn1 cc1, .slice dd1 mm1 oo1],
     .one fun v _ => v = .agg #[.bool b2, .slice a2 n2 c2, .slice d2 m2 o2, .bool bb2, .slice aa2 nn2 cc2, .slice dd2 mm2 oo2],
     .one fun v W => Sw W v (mulS p q),
     .one fun v _ => v = .bool true,
     .one fun v _ => v = .bool false,
     .one fun v _ => v = .bool false,
     .one fun v _ => v = .bool false,
     .one fun v _ => v = .agg #[.bool b1_16, .slice a1_16 n1_16 c1_16, .slice d1_16 m1_16 o1_16, .bool bb1_16, .slice aa1_16 nn1_16 cc1_16, .slice dd1_16 mm1_16 oo1_16],
     .one fun v _ => v = .agg #[.bool b1, .slice a1 n1 c1, .slice d1 m1 o1, .bool bb1, .slice aa1 nn1 cc1, .slice dd1 mm1 oo1],
     .one fun v _ => v = .bool true,
     .one fun v _ => v = .bool false,
     .one fun v _ => v = .bool false]
    (fun W => Ext w W ∧ Bx6 W w.heap.size 29 (.bool b1) (.slice a1 n1 c1) (.slice d1 m1 o1) (.bool bb1) (.slice aa1 nn1 cc1) (.slice dd1 mm1 oo1) ∧ Bx6 W (w.heap.size + 1) 29 (.bool b2) (.slice a2 n2 c2) (.slice d2 m2 o2) (.bool bb2) (.slice aa2 nn2 cc2) (.slice dd2 mm2 oo2) ∧ BxA W (w.heap.size + 1 + 1) 53 #[.int .u8 (f0 : Int), .int .u8 (f1 : Int), .int .u8 (f2 : Int), .int .u8 (f3 : Int)] ∧ Sw W (.agg #[.bool b1, .slice a1 n1 c1, .slice d1 m1 o1, .bool bb1, .slice aa1 nn1 cc1, .slice dd1 mm1 oo1]) p ∧ Sw W (.agg #[.bool b2, .slice a2 n2 c2, .slice d2 m2 o2, .bool bb2, .slice aa2 nn2 cc2, .slice dd2 mm2 oo2]) q ∧ Sw W (.agg #[.bool b1_16, .slice a1_16 n1_16 c1_16, .slice d1_16 m1_16 o1_16, .bool bb1_16, .slice aa1_16 nn1_16 cc1_16, .slice dd1_16 mm1_16 oo1_16]) x ∧ Bx6 W g1_16 29 (.bool b1_16) (.slice a1_16 n1_16 c1_16) (.slice d1_16 m1_16 o1_16) (.bool bb1_16) (.slice aa1_16 nn1_16 cc1_16) (.slice dd1_16 mm1_16 oo1_16) ∧ Rw W u1_6 x.1 ∧ Rw W u1_13 x.2 ∧ Sw W (.agg #[.bool b2_16, .slice a2_16 n2_16 c2_16, .slice d2_16 m2_16 o2_16, .bool bb2_16, .slice aa2_16 nn2_16 cc2_16, .slice dd2_16 mm2_16 oo2_16]) y ∧ Bx6 W g2_16 29 (.bool b2_16) (.slice a2_16 n2_16 c2_16) (.slice d2_16 m2_16 o2_16) (.bool bb2_16) (.slice aa2_16 nn2_16 cc2_16) (.slice dd2_16 mm2_16 oo2_16) ∧ Rw W u2_6 y.1 ∧ Rw W u2_13 y.2 ∧ W2.heap.size ≤ W.heap.size) ⟨Good.is _, Good.is _, Good.span _, Good.is _, Good.is _, Good.span _, Good.is _, Good.is _, Good.is _, Good.is _, Good.is _, Good.span _, Good.is _, Good.is _, Good.span _, Good.is _, Good.is _, Good.is _, Good.is _, Good.is _, Good.is _, Good.is _, Good.is _, Good.is _, trivial⟩
    ⟨E0, p3, p4, p5, hsp, hsq, h1_14, p1_16, h1_6, h1_13, h2_14, p2_16, h2_6, h2_13, Nat.le_refl _⟩ (A := ?A3) ?hA3 ?howe3 ?hfin3
   case hA3 =>
    intro vs
    simp only [putAll, Act.put, sA, sZ, sS, Nat.zero_add, Nat.reduceAdd]
    exact rfl
   case howe3 =>
    clear E0 p3 p4 p5 hsp hsq h1_14 p1_16 h1_6 h1_13 h2_14 p2_16 h2_6 h2_13
    intro hf
    refine ⟨oE 0 [] hf rfl ?_, oE 1 [] hf rfl ?_, oE 2 [0, 1] hf rfl ?_, oE 3 [] hf rfl ?_, oE 4 [] hf rfl ?_, oE 5 [3, 4] hf rfl ?_, oE 6 [2, 5] hf rfl ?_, oE 7 [6] hf rfl ?_, oE 8 [7] hf rfl ?_, oE 9 [8] hf rfl ?_, oE 10 [8] hf rfl ?_, oE 11 [8, 9, 10] hf rfl ?_, oE 12 [8] hf rfl ?_, oE 13 [8] hf rfl ?_, oE 14 [8, 12, 13] hf rfl ?_, oE 15 [8, 11, 14] hf rfl ?_, oE 16 [8, 15] hf rfl ?_, oE 17 [8, 16] hf rfl ?_, oE 18 [17] hf rfl ?_, oE 19 [18] hf rfl ?_, oE 20 [18] hf rfl ?_, oE 21 [18, 19, 20] hf rfl ?_, oE 22 [18, 21] hf rfl ?_, oE 23 [18, 22] hf rfl ?_, trivial⟩
    all_goals intro vs W hS hp hx KO hKO
    all_goals simp only [Act.put, sA, sZ, sS] at hKO
    ·have fc0 := hS.2.2.2.2.2.2.2.1.cell0; have fc1 := hS.2.2.2.2.2.2.2.1.cell1; have fc2 := hS.2.2.2.2.2.2.2.1.cell2; have fc3 := hS.2.2.2.2.2.2.2.1.cell3; have fc4 := hS.2.2.2.2.2.2.2.1.cell4; have fc5 := hS.2.2.2.2.2.2.2.1.cell5; go_simp; exact hKO _ W (.refl W) rfl
    ·have fc0 := hS.2.2.2.2.2.2.2.2.2.2.2.1.cell0; have fc1 := hS.2.2.2.2.2.2.2.2.2.2.2.1.cell1; have fc2 := hS.2.2.2.2.2.2.2.2.2.2.2.1.cell2; have fc3 := hS.2.2.2.2.2.2.2.2.2.2.2.1.cell3; have fc4 := hS.2.2.2.2.2.2.2.2.2.2.2.1.cell4; have fc5 := hS.2.2.2.2.2.2.2.2.2.2.2.1.cell5; go_simp; exact hKO _ W (.refl W) rfl
    ·have e0 := isOf hp.1; have e1 := isOf hp.2.1; simp only [e0, e1] at hKO; go_simp
     refine (Tryz.ivAdd (hS.2.2.2.2.2.2.1) (hS.2.2.2.2.2.2.2.2.2.2.1) Sx.out Sy.out (by omega)).mono ?_
     rintro e W1 ⟨v, rfl, hv, hE⟩
     exact hKO _ W1 hE hv
    ·have fc0 := hS.2.1.cell0; have fc1 := hS.2.1.cell1; have fc2 := hS.2.1.cell2; have fc3 := hS.2.1.cell3; have fc4 := hS.2.1.cell4; have fc5 := hS.2.1.cell5; go_simp; exact hKO _ W (.refl W) rfl
    ·have fc0 := hS.2.2.1.cell0; have fc1 := hS.2.2.1.cell1; have fc2 := hS.2.2.1.cell2; have fc3 := hS.2.2.1.cell3; have fc4 := hS.2.2.1.cell4; have fc5 := hS.2.2.1.cell5; go_simp; exact hKO _ W (.refl W) rfl
    ·have e3 := isOf hp.1; have e4 := isOf hp.2.1; simp only [e3, e4] at hKO; go_simp
     refine (Tryz.ivAdd (hS.2.2.2.2.1) (hS.2.2.2.2.2.1) SP.out SQ.out (by omega)).mono ?_
     rintro e W1 ⟨v, rfl, hv, hE⟩
     exact hKO _ W1 hE hv
    ·have q2 := hp.1; have q5 := hp.2.1; go_simp
     refine (Tryz.rsIn q2 q5 SA.out.1 SA.out.2 (by omega)).mono ?_
     rintro e W1 ⟨rfl, hE⟩
     rw [HI1.out]
     exact hKO _ W1 hE rfl
    ·have e6 := isOf hp.1; simp only [e6] at hKO; go_simp; exact hKO _ W (.refl W) rfl
    ·have e7 := isOf hp.1; simp only [e7] at hKO; go_simp; exact hKO _ W (.refl W) rfl
    ·have e8 := isOf hp.1; simp only [e8] at hKO; have fc0 := hS.2.2.2.2.2.2.2.1.cell0; have fc1 := hS.2.2.2.2.2.2.2.1.cell1; have fc2 := hS.2.2.2.2.2.2.2.1.cell2; have fc3 := hS.2.2.2.2.2.2.2.1.cell3; have fc4 := hS.2.2.2.2.2.2.2.1.cell4; have fc5 := hS.2.2.2.2.2.2.2.1.cell5; go_simp; exact hKO _ W (.refl W) rfl
    ·have e8 := isOf hp.1; simp only [e8] at hKO; have fc0 := hS.2.2.2.2.2.2.2.2.2.2.2.1.cell0; have fc1 := hS.2.2.2.2.2.2.2.2.2.2.2.1.cell1; have fc2 := hS.2.2.2.2.2.2.2.2.2.2.2.1.cell2; have fc3 := hS.2.2.2.2.2.2.2.2.2.2.2.1.cell3; have fc4 := hS.2.2.2.2.2.2.2.2.2.2.2.1.cell4; have fc5 := hS.2.2.2.2.2.2.2.2.2.2.2.1.cell5; go_simp; exact hKO _ W (.refl W) rfl
    ·have e8 := isOf hp.1; have e9 := isOf hp.2.1; have e10 := isOf hp.2.2.1; simp only [e8, e9, e10] at hKO; go_simp
     refine (Tryz.ivMul (hS.2.2.2.2.2.2.1) (hS.2.2.2.2.2.2.2.2.2.2.1) Sx.out Sy.out (by omega)).mono ?_
     rintro e W1 ⟨v, rfl, hv, hE⟩
     exact hKO _ W1 hE hv
    ·have e8 := isOf hp.1; simp only [e8] at hKO; have fc0 := hS.2.1.cell0; have fc1 := hS.2.1.cell1; have fc2 := hS.2.1.cell2; have fc3 := hS.2.1.cell3; have fc4 := hS.2.1.cell4; have fc5 := hS.2.1.cell5; go_simp; exact hKO _ W (.refl W) rfl
    ·have e8 := isOf hp.1; simp only [e8] at hKO; have fc0 := hS.2.2.1.cell0; have fc1 := hS.2.2.1.cell1; have fc2 := hS.2.2.1.cell2; have fc3 := hS.2.2.1.cell3; have fc4 := hS.2.2.1.cell4; have fc5 := hS.2.2.1.cell5; go_simp; exact hKO _ W (.refl W) rfl
    ·have e8 := isOf hp.1; have e12 := isOf hp.2.1; have e13 := isOf hp.2.2.1; simp only [e8, e12, e13] at hKO; go_simp
     refine (Tryz.ivMul (hS.2.2.2.2.1) (hS.2.2.2.2.2.1) SP.out SQ.out (by omega)).mono ?_
     rintro e W1 ⟨v, rfl, hv, hE⟩
     exact hKO _ W1 hE hv
    ·have e8 := isOf hp.1; have q11 := hp.2.1; have q14 := hp.2.2.1; simp only [e8] at hKO; go_simp
     refine (Tryz.rsIn q11 q14 SM.out.1 SM.out.2 (by omega)).mono ?_
     rintro e W1 ⟨rfl, hE⟩
     rw [HI2.out]
     exact hKO _ W1 hE rfl
    ·have e8 := isOf hp.1; have e15 := isOf hp.2.1; simp only [e8, e15] at hKO; go_simp; exact hKO _ W (.refl W) rfl
    ·have e8 := isOf hp.1; have e16 := isOf hp.2.1; simp only [e8, e16] at hKO; go_simp; exact hKO _ W (.refl W) rfl
    ·have e17 := isOf hp.1; simp only [e17] at hKO; go_simp; exact hKO _ W (.refl W) rfl
    ·have e18 := isOf hp.1; simp only [e18] at hKO; have fc0 := hS.2.2.2.2.2.2.2.1.cell0; have fc1 := hS.2.2.2.2.2.2.2.1.cell1; have fc2 := hS.2.2.2.2.2.2.2.1.cell2; have fc3 := hS.2.2.2.2.2.2.2.1.cell3; have fc4 := hS.2.2.2.2.2.2.2.1.cell4; have fc5 := hS.2.2.2.2.2.2.2.1.cell5; go_simp; exact hKO _ W (.refl W) rfl
    ·have e18 := isOf hp.1; simp only [e18] at hKO; have fc0 := hS.2.1.cell0; have fc1 := hS.2.1.cell1; have fc2 := hS.2.1.cell2; have fc3 := hS.2.1.cell3; have fc4 := hS.2.1.cell4; have fc5 := hS.2.1.cell5; go_simp; exact hKO _ W (.refl W) rfl
    ·have e18 := isOf hp.1; have e19 := isOf hp.2.1; have e20 := isOf hp.2.2.1; simp only [e18, e19, e20] at hKO; go_simp
     refine (Tryz.ivIn (hS.2.2.2.2.2.2.1) (hS.2.2.2.2.1) Sx.out (SP.out.mono (by omega)) (by omega)).mono ?_
     rintro e W1 ⟨rfl, hE⟩
     rw [HI3.out]
     exact hKO _ W1 hE rfl
    ·have e18 := isOf hp.1; have e21 := isOf hp.2.1; simp only [e18, e21] at hKO; go_simp; exact hKO _ W (.refl W) rfl
    ·have e18 := isOf hp.1; have e22 := isOf hp.2.1; simp only [e18, e22] at hKO; go_simp; exact hKO _ W (.refl W) rfl
   intro vs W3 hS hp
   clear szw3 E0 p3 p4 p5 hsp hsq h1_14 p1_16 h1_6 h1_13 h2_14 p2_16 h2_6 h2_13
   obtain ⟨E0, p3, p4, p5, hsp, hsq, h1_14, p1_16, h1_6, h1_13, h2_14, p2_16, h2_6, h2_13, sz3⟩ := hS
   obtain ⟨h3_0, h3_1, h3_2, h3_3, h3_4, h3_5, h3_6, h3_7, h3_8, h3_9, h3_10, h3_11, h3_12, h3_13, h3_14, h3_15, h3_16, h3_17, h3_18, h3_19, h3_20, h3_21, h3_22, h3_23, -⟩ := hp
   replace h3_0 : vs 0 = .agg #[.bool b1_16, .slice a1_16 n1_16 c1_16, .slice d1_16 m1_16 o1_16, .bool bb1_16, .slice aa1_16 nn1_16 cc1_16, .slice dd1_16 mm1_16 oo1_16] := h3_0
   replace h3_1 : vs 1 = .agg #[.bool b2_16, .slice a2_16 n2_16 c2_16, .slice d2_16 m2_16 o2_16, .bool bb2_16, .slice aa2_16 nn2_16 cc2_16, .slice dd2_16 mm2_16 oo2_16] := h3_1
   replace h3_3 : vs 3 = .agg #[.bool b1, .slice a1 n1 c1, .slice d1 m1 o1, .bool bb1, .slice aa1 nn1 cc1, .slice dd1 mm1 oo1] := h3_3
   replace h3_4 : vs 4 = .agg #[.bool b2, .slice a2 n2 c2, .slice d2 m2 o2, .bool bb2, .slice aa2 nn2 cc2, .slice dd2 mm2 oo2] := h3_4
   replace h3_6 : vs 6 = .bool true := h3_6
   replace h3_7 : vs 7 = .bool false := h3_7
   replace h3_8 : vs 8 = .bool false := h3_8
   replace h3_9 : vs 9 = .agg #[.bool b1_16, .slice a1_16 n1_16 c1_16, .slice d1_16 m1_16 o1_16, .bool bb1_16, .slice aa1_16 nn1_16 cc1_16, .slice dd1_16 mm1_16 oo1_16] := h3_9
   replace h3_10 : vs 10 = .agg #[.bool b2_16, .slice a2_16 n2_16 c2_16, .slice d2_16 m2_16 o2_16, .bool bb2_16, .slice aa2_16 nn2_16 cc2_16, .slice dd2_16 mm2_16 oo2_16] := h3_10
   replace h3_12 : vs 12 = .agg #[.bool b1, .slice a1 n1 c1, .slice d1 m1 o1, .bool bb1, .slice aa1 nn1 cc1, .slice dd1 mm1 oo1] := h3_12
   replace h3_13 : vs 13 = .agg #[.bool b2, .slice a2 n2 c2, .slice d2 m2 o2, .bool bb2, .slice aa2 nn2 cc2, .slice dd2 mm2 oo2] := h3_13
   replace h3_15 : vs 15 = .bool true := h3_15
   replace h3_16 : vs 16 = .bool false := h3_16
   replace h3_17 : vs 17 = .bool false := h3_17
   replace h3_18 : vs 18 = .bool false := h3_18
   replace h3_19 : vs 19 = .agg #[.bool b1_16, .slice a1_16 n1_16 c1_16, .slice d1_16 m1_16 o1_16, .bool bb1_16, .slice aa1_16 nn1_16 cc1_16, .slice dd1_16 mm1_16 oo1_16] := h3_19
   replace h3_20 : vs 20 = .agg #[.bool b1, .slice a1 n1 c1, .slice d1 m1 o1, .bool bb1, .slice aa1 nn1 cc1, .slice dd1 mm1 oo1] := h3_20
   replace h3_21 : vs 21 = .bool true := h3_21
   replace h3_22 : vs 22 = .bool false := h3_22
   replace h3_23 : vs 23 = .bool false := h3_23
   simp only [h3_0, h3_1, h3_3, h3_4, h3_6, h3_7, h3_8, h3_9, h3_10, h3_12, h3_13, h3_15, h3_16, h3_17, h3_18, h3_19, h3_20, h3_21, h3_22, h3_23]
   replace h3_2 : Sw W3 (vs 2) ((x.1 + y.1, x.2 + y.2)) := h3_2
   generalize vs 2 = u3_2 at h3_2 ⊢
   replace h3_5 : Sw W3 (vs 5) ((p.1 + q.1, p.2 + q.2)) := h3_5
   generalize vs 5 = u3_5 at h3_5 ⊢
   replace h3_11 : Sw W3 (vs 11) (mulS x y) := h3_11
   generalize vs 11 = u3_11 at h3_11 ⊢
   replace h3_14 : Sw W3 (vs 14) (mulS p q) := h3_14
   generalize vs 14 = u3_14 at h3_14 ⊢
   clear h3_0 h3_1 h3_3 h3_4 h3_6 h3_7 h3_8 h3_9 h3_10 h3_12 h3_13 h3_15 h3_16 h3_17 h3_18 h3_19 h3_20 h3_21 h3_22 h3_23
   obtain ⟨kp3_0, kp3_1, kp3_2, kp3_3, kp3_4, kp3_5⟩ := p3.c6
   obtain ⟨kp4_0, kp4_1, kp4_2, kp4_3, kp4_4, kp4_5⟩ := p4.c6
   obtain ⟨kp5_0, kp5_1, kp5_2, kp5_3⟩ := p5.c4
   obtain ⟨kp1_16_0, kp1_16_1, kp1_16_2, kp1_16_3, kp1_16_4, kp1_16_5⟩ := p1_16.c6
   obtain ⟨kp2_16_0, kp2_16_1, kp2_16_2, kp2_16_3, kp2_16_4, kp2_16_5⟩ := p2_16.c6
   go_upto_region 7 with (fail)
   clear kp3_0 kp3_1 kp3_2 kp3_3 kp3_4 kp3_5 kp4_0 kp4_1 kp4_2 kp4_3 kp4_4 kp4_5 kp5_0 kp5_1 kp5_2 kp5_3 kp1_16_0 kp1_16_1 kp1_16_2 kp1_16_3 kp1_16_4 kp1_16_5 kp2_16_0 kp2_16_1 kp2_16_2 kp2_16_3 kp2_16_4 kp2_16_5; have szw4 := Ext.size E0
   refine region_gs [.one fun v _ => v = .agg #[.bool b1_16, .slice a1_16 n1_16 c1_16, .slice d1_16 m1_16 o1_16, .bool bb1_16, .slice aa1_16 nn1_16 cc1_16, .slice dd1_16 mm1_16 oo1_16],
     .one fun v _ => v = .pointer (some ⟨w.heap.size + 1 + 1, 0, none⟩),
     .one fun v _ => v = .int .u8 (f0 : Int),
     .one fun v _ => v = .int .i64 (f0 : Int),
     .one fun v W => ∃ v', v = .tuple #[v', .int .i64 0] ∧ (fun v W => Sw W v (outS x f0)) v' W,
     .one fun v W => ∃ v', v = .tuple #[v', .int .i64 0] ∧ (fun v W => Sw W v (outS x f0)) v' W,
     .one fun v W => Sw W v (outS x f0),
     .one fun v _ => v = .int .i64 0,
     .one fun v W => ∃ g, v = .pointer (some ⟨g, 0, none⟩) ∧ W3.heap.size ≤ g ∧ Form W g 29 6,
     .three 8 6 (fun p r _ W => Put6 W3.heap.size 29 p r W),
     .one fun v _ => v = .int .i64 0]
    (fun W => Ext w W ∧ Bx6 W w.heap.size 29 (.bool b1) (.slice a1 n1 c1) (.slice d1 m1 o1) (.bool bb1) (.slice aa1 nn1 cc1) (.slice dd1 mm1 oo1) ∧ Bx6 W (w.heap.size + 1) 29 (.bool b2) (.slice a2 n2 c2) (.slice d2 m2 o2) (.bool bb2) (.slice aa2 nn2 cc2) (.slice dd2 mm2 oo2) ∧ BxA W (w.heap.size + 1 + 1) 53 #[.int .u8 (f0 : Int), .int .u8 (f1 : Int), .int .u8 (f2 : Int), .int .u8 (f3 : Int)] ∧ Sw W (.agg #[.bool b1, .slice a1 n1 c1, .slice d1 m1 o1, .bool bb1, .slice aa1 nn1 cc1, .slice dd1 mm1 oo1]) p ∧ Sw W (.agg #[.bool b2, .slice a2 n2 c2, .slice d2 m2 o2, .bool bb2, .slice aa2 nn2 cc2, .slice dd2 mm2 oo2]) q ∧ Sw W (.agg #[.bool b1_16, .slice a1_16 n1_16 c1_16, .slice d1_16 m1_16 o1_16, .bool bb1_16, .slice aa1_16 nn1_16 cc1_16, .slice dd1_16 mm1_16 oo1_16]) x ∧ Bx6 W g1_16 29 (.bool b1_16) (.slice a1_16 n1_16 c1_16) (.slice d1_16 m1_16 o1_16) (.bool bb1_16) (.slice aa1_16 nn1_16 cc1_16) (.slice dd1_16 mm1_16 oo1_16) ∧ Rw W u1_6 x.1 ∧ Rw W u1_13 x.2 ∧ Sw W (.agg #[.bool b2_16, .slice a2_16 n2_16 c2_16, .slice d2_16 m2_16 o2_16, .bool bb2_16, .slice aa2_16 nn2_16 cc2_16, .slice dd2_16 mm2_16 oo2_16]) y ∧ Bx6 W g2_16 29 (.bool b2_16) (.slice a2_16 n2_16 c2_16) (.slice d2_16 m2_16 o2_16) (.bool bb2_16) (.slice aa2_16 nn2_16 cc2_16) (.slice dd2_16 mm2_16 oo2_16) ∧ Rw W u2_6 y.1 ∧ Rw W u2_13 y.2 ∧ Sw W u3_2 ((x.1 + y.1, x.2 + y.2)) ∧ Sw W u3_5 ((p.1 + q.1, p.2 + q.2)) ∧ Sw W u3_11 (mulS x y) ∧ Sw W u3_14 (mulS p q) ∧ W3.heap.size ≤ W.heap.size) ⟨Good.is _, Good.is _, Good.is _, Good.is _, (Good.span _).tup _, (Good.span _).tup _, Good.span _, Good.is _, Good.box _ _ _, cert_put6, Good.is _, trivial⟩
    ⟨E0, p3, p4, p5, hsp, hsq, h1_14, p1_16, h1_6, h1_13, h2_14, p2_16, h2_6, h2_13, h3_2, h3_5, h3_11, h3_14, Nat.le_refl _⟩ (A := ?A4) ?hA4 ?howe4 ?hfin4
   case hA4 =>
    intro vs
    simp only [putAll, Act.put, sA, sZ, sS, Nat.zero_add, Nat.reduceAdd]
    exact rfl
   case howe4 =>
    clear E0 p3 p4 p5 hsp hsq h1_14 p1_16 h1_6 h1_13 h2_14 p2_16 h2_6 h2_13 h3_2 h3_5 h3_11 h3_14
    intro hf
    refine ⟨oE 0 [] hf rfl ?_, oE 1 [] hf rfl ?_, oE 2 [1] hf rfl ?_, oE 3 [2] hf rfl ?_, oE 4 [0, 3] hf rfl ?_, oE 5 [4] hf rfl ?_, oE 6 [5] hf rfl ?_, oE 7 [5] hf rfl ?_, oE 8 [] hf rfl ?_, oW 9 [8, 6] hf rfl ?_, oE 10 [7] hf rfl ?_, trivial⟩
    all_goals intro vs W hS hp hx KO hKO
    all_goals simp only [Act.put, sA, sZ, sS] at hKO
    ·have fc0 := hS.2.2.2.2.2.2.2.1.cell0; have fc1 := hS.2.2.2.2.2.2.2.1.cell1; have fc2 := hS.2.2.2.2.2.2.2.1.cell2; have fc3 := hS.2.2.2.2.2.2.2.1.cell3; have fc4 := hS.2.2.2.2.2.2.2.1.cell4; have fc5 := hS.2.2.2.2.2.2.2.1.cell5; go_simp; exact hKO _ W (.refl W) rfl
    ·go_simp; exact hKO _ W (.refl W) rfl
    ·have e1 := isOf hp.1; simp only [e1] at hKO; have fc0 := BxA.cell (hS.2.2.2.1) 0 (v := .int .u8 (f0 : Int)) rfl; go_simp; exact hKO _ W (.refl W) rfl
    ·have e2 := isOf hp.1; simp only [e2] at hKO; go_simp; exact hKO _ W (.refl W) rfl
    ·have e0 := isOf hp.1; have e3 := isOf hp.2.1; simp only [e0, e3] at hKO; go_simp
     refine (Tryz.ivOut (hS.2.2.2.2.2.2.1) Sx.out (by omega) f0 (by have := Hf0.out; omega)).mono ?_
     rintro e W1 ⟨v, rfl, hv, hE⟩
     exact hKO _ W1 hE ⟨_, rfl, hv⟩
    ·have q4 := hp.1
     obtain ⟨u, ev, hu⟩ := q4
     replace ev : vs 4 = _ := ev; simp only [ev] at hKO; go_simp; exact hKO _ W (Ext.refl W) ⟨u, rfl, hu⟩
    ·have q5 := hp.1
     obtain ⟨u, ev, hu⟩ := q5
     replace ev : vs 5 = _ := ev; simp only [ev] at hKO; go_simp; exact hKO _ W (Ext.refl W) hu
    ·have q5 := hp.1
     obtain ⟨u, ev, hu⟩ := q5
     replace ev : vs 5 = _ := ev; simp only [ev] at hKO; go_simp; exact hKO _ W (.refl W) rfl
    ·have hn := Bx6.new W 29 (.bool false) (.slice none 0 0) (.slice none 0 0) (.bool false) (.slice none 0 0) (.slice none 0 0)
     have hE := Ext.alloc1 W (.cells #[.bool false, .slice none 0 0, .slice none 0 0, .bool false, .slice none 0 0, .slice none 0 0] 29)
     have hsz := hS.2.2.2.2.2.2.2.2.2.2.2.2.2.2.2.2.2.2
     go_simp
     exact hKO _ _ hE ⟨_, rfl, hsz, hn.form⟩
    ·have q8 := hp.1; have q6 := hp.2.1
     obtain ⟨g, ev, hg, hf⟩ := q8
     replace ev : vs 8 = _ := ev
     obtain ⟨x0_0, x0_1, x0_2, x0_3, x0_4, x0_5, hx, hno⟩ := hf.bx6
     have qr := q6
     obtain ⟨b3, a3, n3, c3, d3, m3, o3, bb3, aa3, nn3, cc3, dd3, mm3, oo3, er, -, -⟩ := qr
     replace er : vs 6 = _ := er
     have r0 := hx.froz0
     have t0 := hx.cell0
     have r1 := hx.froz1
     have t1 := hx.cell1
     have r2 := hx.froz2
     have t2 := hx.cell2
     have r3 := hx.froz3
     have t3 := hx.cell3
     have r4 := hx.froz4
     have t4 := hx.cell4
     have r5 := hx.froz5
     have t5 := hx.cell5
     have hw := Wr.set6 hx hno b3 a3 n3 c3 d3 m3 o3 bb3 aa3 nn3 cc3 dd3 mm3 oo3
     have hq := hx.set (.bool b3) (.slice a3 n3 c3) (.slice d3 m3 o3) (.bool bb3) (.slice aa3 nn3 cc3) (.slice dd3 mm3 oo3)
     simp only [ev, er] at hKO; go_simp
     exact hKO _ _ hw ⟨(Ext.wr hS.1 hw (by omega)), (hS.2.1.wr hw (by omega)), (hS.2.2.1.wr hw (by omega)), (hS.2.2.2.1.wr hw (by omega)), (hS.2.2.2.2.1.wr hw), (hS.2.2.2.2.2.1.wr hw), (hS.2.2.2.2.2.2.1.wr hw), (hS.2.2.2.2.2.2.2.1.wr hw (by omega)), (hS.2.2.2.2.2.2.2.2.1.wr hw), (hS.2.2.2.2.2.2.2.2.2.1.wr hw), (hS.2.2.2.2.2.2.2.2.2.2.1.wr hw), (hS.2.2.2.2.2.2.2.2.2.2.2.1.wr hw (by omega)), (hS.2.2.2.2.2.2.2.2.2.2.2.2.1.wr hw), (hS.2.2.2.2.2.2.2.2.2.2.2.2.2.1.wr hw), (hS.2.2.2.2.2.2.2.2.2.2.2.2.2.2.1.wr hw), (hS.2.2.2.2.2.2.2.2.2.2.2.2.2.2.2.1.wr hw), (hS.2.2.2.2.2.2.2.2.2.2.2.2.2.2.2.2.1.wr hw), (hS.2.2.2.2.2.2.2.2.2.2.2.2.2.2.2.2.2.1.wr hw), (Nat.le_trans hS.2.2.2.2.2.2.2.2.2.2.2.2.2.2.2.2.2.2 hw.apart.size)⟩ ⟨g, b3, a3, n3, c3, d3, m3, o3, bb3, aa3, nn3, cc3, dd3, mm3, oo3, ev, er, hg, hq⟩
    ·have e7 := isOf hp.1; simp only [e7] at hKO; go_simp; exact hKO _ W (.refl W) rfl
   intro vs W4 hS hp
   clear szw4 E0 p3 p4 p5 hsp hsq h1_14 p1_16 h1_6 h1_13 h2_14 p2_16 h2_6 h2_13 h3_2 h3_5 h3_11 h3_14
   obtain ⟨E0, p3, p4, p5, hsp, hsq, h1_14, p1_16, h1_6, h1_13, h2_14, p2_16, h2_6, h2_13, h3_2, h3_5, h3_11, h3_14, sz4⟩ := hS
   obtain ⟨h4_0, h4_1, h4_2, h4_3, h4_4, h4_5, h4_6, h4_7, h4_8, h4_9, h4_10, -⟩ := hp
   obtain ⟨g4_9, b4_9, a4_9, n4_9, c4_9, d4_9, m4_9, o4_9, bb4_9, aa4_9, nn4_9, cc4_9, dd4_9, mm4_9, oo4_9, ev4_9, er4_9, hg4_9, p4_9⟩ := h4_9
   replace ev4_9 : vs 8 = _ := ev4_9; replace er4_9 : vs 6 = _ := er4_9; replace h4_6 := (show Sw W4 (vs 6) (outS x f0) from h4_6)
   rw [er4_9] at h4_6
   replace h4_0 : vs 0 = .agg #[.bool b1_16, .slice a1_16 n1_16 c1_16, .slice d1_16 m1_16 o1_16, .bool bb1_16, .slice aa1_16 nn1_16 cc1_16, .slice dd1_16 mm1_16 oo1_16] := h4_0
   replace h4_1 : vs 1 = .pointer (some ⟨w.heap.size + 1 + 1, 0, none⟩) := h4_1
   replace h4_2 : vs 2 = .int .u8 (f0 : Int) := h4_2
   replace h4_3 : vs 3 = .int .i64 (f0 : Int) := h4_3
   replace h4_7 : vs 7 = .int .i64 0 := h4_7
   replace h4_10 : vs 10 = .int .i64 0 := h4_10
   simp only [ev4_9, er4_9, h4_0, h4_1, h4_2, h4_3, h4_7, h4_10]
   clear ev4_9 er4_9 h4_0 h4_1 h4_2 h4_3 h4_7 h4_10 h4_4 h4_5 h4_8
   obtain ⟨kp3_0, kp3_1, kp3_2, kp3_3, kp3_4, kp3_5⟩ := p3.c6
   obtain ⟨kp4_0, kp4_1, kp4_2, kp4_3, kp4_4, kp4_5⟩ := p4.c6
   obtain ⟨kp5_0, kp5_1, kp5_2, kp5_3⟩ := p5.c4
   obtain ⟨kp1_16_0, kp1_16_1, kp1_16_2, kp1_16_3, kp1_16_4, kp1_16_5⟩ := p1_16.c6
   obtain ⟨kp2_16_0, kp2_16_1, kp2_16_2, kp2_16_3, kp2_16_4, kp2_16_5⟩ := p2_16.c6
   obtain ⟨kp4_9_0, kp4_9_1, kp4_9_2, kp4_9_3, kp4_9_4, kp4_9_5⟩ := p4_9.c6
   go_upto_region 8 with (fail)
   clear kp3_0 kp3_1 kp3_2 kp3_3 kp3_4 kp3_5 kp4_0 kp4_1 kp4_2 kp4_3 kp4_4 kp4_5 kp5_0 kp5_1 kp5_2 kp5_3 kp1_16_0 kp1_16_1 kp1_16_2 kp1_16_3 kp1_16_4 kp1_16_5 kp2_16_0 kp2_16_1 kp2_16_2 kp2_16_3 kp2_16_4 kp2_16_5 kp4_9_0 kp4_9_1 kp4_9_2 kp4_9_3 kp4_9_4 kp4_9_5; have ltp4_9 := p4_9.lt; have szw5 := Ext.size E0
   refine region_gs [.one fun v _ => v = .agg #[.bool b1, .slice a1 n1 c1, .slice d1 m1 o1, .bool bb1, .slice aa1 nn1 cc1, .slice dd1 mm1 oo1],
     .one fun v _ => v = .pointer (some ⟨w.heap.size + 1 + 1, 0, none⟩),
     .one fun v _ => v = .int .u8 (f0 : Int),
     .one fun v _ => v = .int .i64 (f0 : Int),
     .one fun v W => ∃ v', v = .tuple #[v', .int .i64 0] ∧ (fun v W => Sw W v (outS p f0)) v' W,
     .one fun v W => ∃ v', v = .tuple #[v', .int .i64 0] ∧ (fun v W => Sw W v (outS p f0)) v' W,
     .one fun v W => Sw W v (outS p f0),
     .one fun v _ => v = .int .i64 0,
     .one fun v W => ∃ g, v = .pointer (some ⟨g, 0, none⟩) ∧ W4.heap.size ≤ g ∧ Form W g 29 6,
     .three 8 6 (fun p r _ W => Put6 W4.heap.size 29 p r W),
     .one fun v _ => v = .int .i64 0]
    (fun W => Ext w W ∧ Bx6 W w.heap.size 29 (.bool b1) (.slice a1 n1 c1) (.slice d1 m1 o1) (.bool bb1) (.slice aa1 nn1 cc1) (.slice dd1 mm1 oo1) ∧ Bx6 W (w.heap.size + 1) 29 (.bool b2) (.slice a2 n2 c2) (.slice d2 m2 o2) (.bool bb2) (.slice aa2 nn2 cc2) (.slice dd2 mm2 oo2) ∧ BxA W (w.heap.size + 1 + 1) 53 #[.int .u8 (f0 : Int), .int .u8 (f1 : Int), .int .u8 (f2 : Int), .int .u8 (f3 : Int)] ∧ Sw W (.agg #[.bool b1, .slice a1 n1 c1, .slice d1 m1 o1, .bool bb1, .slice aa1 nn1 cc1, .slice dd1 mm1 oo1]) p ∧ Sw W (.agg #[.bool b2, .slice a2 n2 c2, .slice d2 m2 o2, .bool bb2, .slice aa2 nn2 cc2, .slice dd2 mm2 oo2]) q ∧ Sw W (.agg #[.bool b1_16, .slice a1_16 n1_16 c1_16, .slice d1_16 m1_16 o1_16, .bool bb1_16, .slice aa1_16 nn1_16 cc1_16, .slice dd1_16 mm1_16 oo1_16]) x ∧ Bx6 W g1_16 29 (.bool b1_16) (.slice a1_16 n1_16 c1_16) (.slice d1_16 m1_16 o1_16) (.bool bb1_16) (.slice aa1_16 nn1_16 cc1_16) (.slice dd1_16 mm1_16 oo1_16) ∧ Rw W u1_6 x.1 ∧ Rw W u1_13 x.2 ∧ Sw W (.agg #[.bool b2_16, .slice a2_16 n2_16 c2_16, .slice d2_16 m2_16 o2_16, .bool bb2_16, .slice aa2_16 nn2_16 cc2_16, .slice dd2_16 mm2_16 oo2_16]) y ∧ Bx6 W g2_16 29 (.bool b2_16) (.slice a2_16 n2_16 c2_16) (.slice d2_16 m2_16 o2_16) (.bool bb2_16) (.slice aa2_16 nn2_16 cc2_16) (.slice dd2_16 mm2_16 oo2_16) ∧ Rw W u2_6 y.1 ∧ Rw W u2_13 y.2 ∧ Sw W u3_2 ((x.1 + y.1, x.2 + y.2)) ∧ Sw W u3_5 ((p.1 + q.1, p.2 + q.2)) ∧ Sw W u3_11 (mulS x y) ∧ Sw W u3_14 (mulS p q) ∧ Sw W (.agg #[.bool b4_9, .slice a4_9 n4_9 c4_9, .slice d4_9 m4_9 o4_9, .bool bb4_9, .slice aa4_9 nn4_9 cc4_9, .slice dd4_9 mm4_9 oo4_9]) (outS x f0) ∧ Bx6 W g4_9 29 (.bool b4_9) (.slice a4_9 n4_9 c4_9) (.slice d4_9 m4_9 o4_9) (.bool bb4_9) (.slice aa4_9 nn4_9 cc4_9) (.slice dd4_9 mm4_9 oo4_9) ∧ W4.heap.size ≤ W.heap.size) ⟨Good.is _, Good.is _, Good.is _, Good.is _, (Good.span _).tup _, (Good.span _).tup _, Good.span _, Good.is _, Good.box _ _ _, cert_put6, Good.is _, trivial⟩
    ⟨E0, p3, p4, p5, hsp, hsq, h1_14, p1_16, h1_6, h1_13, h2_14, p2_16, h2_6, h2_13, h3_2, h3_5, h3_11, h3_14, h4_6, p4_9, Nat.le_refl _⟩ (A := ?A5) ?hA5 ?howe5 ?hfin5
   case hA5 =>
    intro vs
    simp only [putAll, Act.put, sA, sZ, sS, Nat.zero_add, Nat.reduceAdd]
    exact rfl
   case howe5 =>
    clear E0 p3 p4 p5 hsp hsq h1_14 p1_16 h1_6 h1_13 h2_14 p2_16 h2_6 h2_13 h3_2 h3_5 h3_11 h3_14 h4_6 p4_9
    intro hf
    refine ⟨oE 0 [] hf rfl ?_, oE 1 [] hf rfl ?_, oE 2 [1] hf rfl ?_, oE 3 [2] hf rfl ?_, oE 4 [0, 3] hf rfl ?_, oE 5 [4] hf rfl ?_, oE 6 [5] hf rfl ?_, oE 7 [5] hf rfl ?_, oE 8 [] hf rfl ?_, oW 9 [8, 6] hf rfl ?_, oE 10 [7] hf rfl ?_, trivial⟩
    all_goals intro vs W hS hp hx KO hKO
    all_goals simp only [Act.put, sA, sZ, sS] at hKO
    ·have fc0 := hS.2.1.cell0; have fc1 := hS.2.1.cell1; have fc2 := hS.2.1.cell2; have fc3 := hS.2.1.cell3; have fc4 := hS.2.1.cell4; have fc5 := hS.2.1.cell5; go_simp; exact hKO _ W (.refl W) rfl
    ·go_simp; exact hKO _ W (.refl W) rfl
    ·have e1 := isOf hp.1; simp only [e1] at hKO; have fc0 := BxA.cell (hS.2.2.2.1) 0 (v := .int .u8 (f0 : Int)) rfl; go_simp; exact hKO _ W (.refl W) rfl
    ·have e2 := isOf hp.1; simp only [e2] at hKO; go_simp; exact hKO _ W (.refl W) rfl
    ·have e0 := isOf hp.1; have e3 := isOf hp.2.1; simp only [e0, e3] at hKO; go_simp
     refine (Tryz.ivOut (hS.2.2.2.2.1) SP.out (by omega) f0 (by have := Hf0.out; omega)).mono ?_
     rintro e W1 ⟨v, rfl, hv, hE⟩
     exact hKO _ W1 hE ⟨_, rfl, hv⟩
    ·have q4 := hp.1
     obtain ⟨u, ev, hu⟩ := q4
     replace ev : vs 4 = _ := ev; simp only [ev] at hKO; go_simp; exact hKO _ W (Ext.refl W) ⟨u, rfl, hu⟩
    ·have q5 := hp.1
     obtain ⟨u, ev, hu⟩ := q5
     replace ev : vs 5 = _ := ev; simp only [ev] at hKO; go_simp; exact hKO _ W (Ext.refl W) hu
    ·have q5 := hp.1
     obtain ⟨u, ev, hu⟩ := q5
     replace ev : vs 5 = _ := ev; simp only [ev] at hKO; go_simp; exact hKO _ W (.refl W) rfl
    ·have hn := Bx6.new W 29 (.bool false) (.slice none 0 0) (.slice none 0 0) (.bool false) (.slice none 0 0) (.slice none 0 0)
     have hE := Ext.alloc1 W (.cells #[.bool false, .slice none 0 0, .slice none 0 0, .bool false, .slice none 0 0, .slice none 0 0] 29)
     have hsz := hS.2.2.2.2.2.2.2.2.2.2.2.2.2.2.2.2.2.2.2.2
     go_simp
     exact hKO _ _ hE ⟨_, rfl, hsz, hn.form⟩
    ·have q8 := hp.1; have q6 := hp.2.1
     obtain ⟨g, ev, hg, hf⟩ := q8
     replace ev : vs 8 = _ := ev
     obtain ⟨x0_0, x0_1, x0_2, x0_3, x0_4, x0_5, hx, hno⟩ := hf.bx6
     have qr := q6
     obtain ⟨b3, a3, n3, c3, d3, m3, o3, bb3, aa3, nn3, cc3, dd3, mm3, oo3, er, -, -⟩ := qr
     replace er : vs 6 = _ := er
     have r0 := hx.froz0
     have t0 := hx.cell0
     have r1 := hx.froz1
     have t1 := hx.cell1
     have r2 := hx.froz2
     have t2 := hx.cell2
     have r3 := hx.froz3
     have t3 := hx.cell3
     have r4 := hx.froz4
     have t4 := hx.cell4
     have r5 := hx.froz5
     have t5 := hx.cell5
     have hw := Wr.set6 hx hno b3 a3 n3 c3 d3 m3 o3 bb3 aa3 nn3 cc3 dd3 mm3 oo3
     have hq := hx.set (.bool b3) (.slice a3 n3 c3) (.slice d3 m3 o3) (.bool bb3) (.slice aa3 nn3 cc3) (.slice dd3 mm3 oo3)
     simp only [ev, er] at hKO; go_simp
     exact hKO _ _ hw ⟨(Ext.wr hS.1 hw (by omega)), (hS.2.1.wr hw (by omega)), (hS.2.2.1.wr hw (by omega)), (hS.2.2.2.1.wr hw (by omega)), (hS.2.2.2.2.1.wr hw), (hS.2.2.2.2.2.1.wr hw), (hS.2.2.2.2.2.2.1.wr hw), (hS.2.2.2.2.2.2.2.1.wr hw (by omega)), (hS.2.2.2.2.2.2.2.2.1.wr hw), (hS.2.2.2.2.2.2.2.2.2.1.wr hw), (hS.2.2.2.2.2.2.2.2.2.2.1.wr hw), (hS.2.2.2.2.2.2.2.2.2.2.2.1.wr hw (by omega)), (hS.2.2.2.2.2.2.2.2.2.2.2.2.1.wr hw), (hS.2.2.2.2.2.2.2.2.2.2.2.2.2.1.wr hw), (hS.2.2.2.2.2.2.2.2.2.2.2.2.2.2.1.wr hw), (hS.2.2.2.2.2.2.2.2.2.2.2.2.2.2.2.1.wr hw), (hS.2.2.2.2.2.2.2.2.2.2.2.2.2.2.2.2.1.wr hw), (hS.2.2.2.2.2.2.2.2.2.2.2.2.2.2.2.2.2.1.wr hw), (hS.2.2.2.2.2.2.2.2.2.2.2.2.2.2.2.2.2.2.1.wr hw), (hS.2.2.2.2.2.2.2.2.2.2.2.2.2.2.2.2.2.2.2.1.wr hw (by omega)), (Nat.le_trans hS.2.2.2.2.2.2.2.2.2.2.2.2.2.2.2.2.2.2.2.2 hw.apart.size)⟩ ⟨g, b3, a3, n3, c3, d3, m3, o3, bb3, aa3, nn3, cc3, dd3, mm3, oo3, ev, er, hg, hq⟩
    ·have e7 := isOf hp.1; simp only [e7] at hKO; go_simp; exact hKO _ W (.refl W) rfl
   intro vs W5 hS hp
   clear szw5 E0 p3 p4 p5 hsp hsq h1_14 p1_16 h1_6 h1_13 h2_14 p2_16 h2_6 h2_13 h3_2 h3_5 h3_11 h3_14 h4_6 p4_9
   obtain ⟨E0, p3, p4, p5, hsp, hsq, h1_14, p1_16, h1_6, h1_13, h2_14, p2_16, h2_6, h2_13, h3_2, h3_5, h3_11, h3_14, h4_6, p4_9, sz5⟩ := hS
   obtain ⟨h5_0, h5_1, h5_2, h5_3, h5_4, h5_5, h5_6, h5_7, h5_8, h5_9, h5_10, -⟩ := hp
   obtain ⟨g5_9, b5_9, a5_9, n5_9, c5_9, d5_9, m5_9, o5_9, bb5_9, aa5_9, nn5_9, cc5_9, dd5_9, mm5_9, oo5_9, ev5_9, er5_9, hg5_9, p5_9⟩ := h5_9
   replace ev5_9 : vs 8 = _ := ev5_9; replace er5_9 : vs 6 = _ := er5_9; replace h5_6 := (show Sw W5 (vs 6) (outS p f0) from h5_6)
   rw [er5_9] at h5_6
   replace h5_0 : vs 0 = .agg #[.bool b1, .slice a1 n1 c1, .slice d1 m1 o1, .bool bb1, .slice aa1 nn1 cc1, .slice dd1 mm1 oo1] := h5_0
   replace h5_1 : vs 1 = .pointer (some ⟨w.heap.size + 1 + 1, 0, none⟩) := h5_1
   replace h5_2 : vs 2 = .int .u8 (f0 : Int) := h5_2
   replace h5_3 : vs 3 = .int .i64 (f0 : Int) := h5_3
   replace h5_7 : vs 7 = .int .i64 0 := h5_7
   replace h5_10 : vs 10 = .int .i64 0 := h5_10
   simp only [ev5_9, er5_9, h5_0, h5_1, h5_2, h5_3, h5_7, h5_10]
   clear ev5_9 er5_9 h5_0 h5_1 h5_2 h5_3 h5_7 h5_10 h5_4 h5_5 h5_8
   obtain ⟨kp3_0, kp3_1, kp3_2, kp3_3, kp3_4, kp3_5⟩ := p3.c6
   obtain ⟨kp4_0, kp4_1, kp4_2, kp4_3, kp4_4, kp4_5⟩ := p4.c6
   obtain ⟨kp5_0, kp5_1, kp5_2, kp5_3⟩ := p5.c4
   obtain ⟨kp1_16_0, kp1_16_1, kp1_16_2, kp1_16_3, kp1_16_4, kp1_16_5⟩ := p1_16.c6
   obtain ⟨kp2_16_0, kp2_16_1, kp2_16_2, kp2_16_3, kp2_16_4, kp2_16_5⟩ := p2_16.c6
   obtain ⟨kp4_9_0, kp4_9_1, kp4_9_2, kp4_9_3, kp4_9_4, kp4_9_5⟩ := p4_9.c6
   obtain ⟨kp5_9_0, kp5_9_1, kp5_9_2, kp5_9_3, kp5_9_4, kp5_9_5⟩ := p5_9.c6
   go_upto_region 9 with (fail)
   clear kp3_0 kp3_1 kp3_2 kp3_3 kp3_4 kp3_5 kp4_0 kp4_1 kp4_2 kp4_3 kp4_4 kp4_5 kp5_0 kp5_1 kp5_2 kp5_3 kp1_16_0 kp1_16_1 kp1_16_2 kp1_16_3 kp1_16_4 kp1_16_5 kp2_16_0 kp2_16_1 kp2_16_2 kp2_16_3 kp2_16_4 kp2_16_5 kp4_9_0 kp4_9_1 kp4_9_2 kp4_9_3 kp4_9_4 kp4_9_5 kp5_9_0 kp5_9_1 kp5_9_2 kp5_9_3 kp5_9_4 kp5_9_5; have ltp5_9 := p5_9.lt; have szw6 := Ext.size E0
   refine region_gs [.one fun v _ => v = .bool true,
     .one fun v _ => v = .bool true,
     .one fun v _ => v = .int .i64 0,
     .one fun v _ => v = .bool true,
     .one fun v _ => v = .bool true,
     .one fun v _ => v = .bool true,
     .one fun v _ => v = .int .i64 0,
     .one fun v _ => v = .bool true,
     .one fun v _ => v = .bool true,
     .one fun v _ => v = .bool true,
     .one fun v _ => v = .agg #[.bool b4_9, .slice a4_9 n4_9 c4_9, .slice d4_9 m4_9 o4_9, .bool bb4_9, .slice aa4_9 nn4_9 cc4_9, .slice dd4_9 mm4_9 oo4_9],
     .one fun v _ => v = .agg #[.bool b5_9, .slice a5_9 n5_9 c5_9, .slice d5_9 m5_9 o5_9, .bool bb5_9, .slice aa5_9 nn5_9 cc5_9, .slice dd5_9 mm5_9 oo5_9],
     .one fun v _ => v = .bool true,
     .one fun v _ => v = .bool true,
     .one fun v _ => v = .bool true,
     .one fun v _ => v = .pointer (some ⟨g2_16, 0, none⟩),
     .one fun v _ => v = .agg #[.bool b2_16, .slice a2_16 n2_16 c2_16, .slice d2_16 m2_16 o2_16],
     .one fun v W => Sw W v ((y.1, y.1)),
     .one fun v _ => v = .agg #[.bool b2_16, .slice a2_16 n2_16 c2_16, .slice d2_16 m2_16 o2_16, .bool bb2_16, .slice aa2_16 nn2_16 cc2_16, .slice dd2_16 mm2_16 oo2_16],
     .one fun v _ => v = .bool true,
     .one fun v _ => v = .bool true,
     .one fun v _ => v = .bool true]
    (fun W => Ext w W ∧ Bx6 W w.heap.size 29 (.bool b1) (.slice a1 n1 c1) (.slice d1 m1 o1) (.bool bb1) (.slice aa1 nn1 cc1) (.slice dd1 mm1 oo1) ∧ Bx6 W (w.heap.size + 1) 29 (.bool b2) (.slice a2 n2 c2) (.slice d2 m2 o2) (.bool bb2) (.slice aa2 nn2 cc2) (.slice dd2 mm2 oo2) ∧ BxA W (w.heap.size + 1 + 1) 53 #[.int .u8 (f0 : Int), .int .u8 (f1 : Int), .int .u8 (f2 : Int), .int .u8 (f3 : Int)] ∧ Sw W (.agg #[.bool b1, .slice a1 n1 c1, .slice d1 m1 o1, .bool bb1, .slice aa1 nn1 cc1, .slice dd1 mm1 oo1]) p ∧ Sw W (.agg #[.bool b2, .slice a2 n2 c2, .slice d2 m2 o2, .bool bb2, .slice aa2 nn2 cc2, .slice dd2 mm2 oo2]) q ∧ Sw W (.agg #[.bool b1_16, .slice a1_16 n1_16 c1_16, .slice d1_16 m1_16 o1_16, .bool bb1_16, .slice aa1_16 nn1_16 cc1_16, .slice dd1_16 mm1_16 oo1_16]) x ∧ Bx6 W g1_16 29 (.bool b1_16) (.slice a1_16 n1_16 c1_16) (.slice d1_16 m1_16 o1_16) (.bool bb1_16) (.slice aa1_16 nn1_16 cc1_16) (.slice dd1_16 mm1_16 oo1_16) ∧ Rw W u1_6 x.1 ∧ Rw W u1_13 x.2 ∧ Sw W (.agg #[.bool b2_16, .slice a2_16 n2_16 c2_16, .slice d2_16 m2_16 o2_16, .bool bb2_16, .slice aa2_16 nn2_16 cc2_16, .slice dd2_16 mm2_16 oo2_16]) y ∧ Bx6 W g2_16 29 (.bool b2_16) (.slice a2_16 n2_16 c2_16) (.slice d2_16 m2_16 o2_16) (.bool bb2_16) (.slice aa2_16 nn2_16 cc2_16) (.slice dd2_16 mm2_16 oo2_16) ∧ Rw W u2_6 y.1 ∧ Rw W u2_13 y.2 ∧ Sw W u3_2 ((x.1 + y.1, x.2 + y.2)) ∧ Sw W u3_5 ((p.1 + q.1, p.2 + q.2)) ∧ Sw W u3_11 (mulS x y) ∧ Sw W u3_14 (mulS p q) ∧ Sw W (.agg #[.bool b4_9, .slice a4_9 n4_9 c4_9, .slice d4_9 m4_9 o4_9, .bool bb4_9, .slice aa4_9 nn4_9 cc4_9, .slice dd4_9 mm4_9 oo4_9]) (outS x f0) ∧ Bx6 W g4_9 29 (.bool b4_9) (.slice a4_9 n4_9 c4_9) (.slice d4_9 m4_9 o4_9) (.bool bb4_9) (.slice aa4_9 nn4_9 cc4_9) (.slice dd4_9 mm4_9 oo4_9) ∧ Sw W (.agg #[.bool b5_9, .slice a5_9 n5_9 c5_9, .slice d5_9 m5_9 o5_9, .bool bb5_9, .slice aa5_9 nn5_9 cc5_9, .slice dd5_9 mm5_9 oo5_9]) (outS p f0) ∧ Bx6 W g5_9 29 (.bool b5_9) (.slice a5_9 n5_9 c5_9) (.slice d5_9 m5_9 o5_9) (.bool bb5_9) (.slice aa5_9 nn5_9 cc5_9) (.slice dd5_9 mm5_9 oo5_9) ∧ W5.heap.size ≤ W.heap.size) ⟨Good.is _, Good.is _, Good.is _, Good.is _, Good.is _, Good.is _, Good.is _, Good.is _, Good.is _, Good.is _, Good.is _, Good.is _, Good.is _, Good.is _, Good.is _, Good.is _, Good.is _, Good.span _, Good.is _, Good.is _, Good.is _, Good.is _, trivial⟩
    ⟨E0, p3, p4, p5, hsp, hsq, h1_14, p1_16, h1_6, h1_13, h2_14, p2_16, h2_6, h2_13, h3_2, h3_5, h3_11, h3_14, h4_6, p4_9, h5_6, p5_9, Nat.le_refl _⟩ (A := ?A6) ?hA6 ?howe6 ?hfin6
   case hA6 =>
    intro vs
    simp only [putAll, Act.put, sA, sZ, sS, Nat.zero_add, Nat.reduceAdd]
    exact rfl
   case howe6 =>
    clear E0 p3 p4 p5 hsp hsq h1_14 p1_16 h1_6 h1_13 h2_14 p2_16 h2_6 h2_13 h3_2 h3_5 h3_11 h3_14 h4_6 p4_9 h5_6 p5_9
    intro hf
    refine ⟨oE 0 [] hf rfl ?_, oE 1 [0] hf rfl ?_, oE 2 [1] hf rfl ?_, oE 3 [1, 2] hf rfl ?_, oE 4 [1, 3] hf rfl ?_, oE 5 [4] hf rfl ?_, oE 6 [5] hf rfl ?_, oE 7 [5, 6] hf rfl ?_, oE 8 [5, 7] hf rfl ?_, oE 9 [8] hf rfl ?_, oE 10 [9] hf rfl ?_, oE 11 [9] hf rfl ?_, oE 12 [9, 10, 11] hf rfl ?_, oE 13 [9, 12] hf rfl ?_, oE 14 [13] hf rfl ?_, oE 15 [14] hf rfl ?_, oE 16 [14, 15] hf rfl ?_, oE 17 [14, 16] hf rfl ?_, oE 18 [14] hf rfl ?_, oE 19 [14, 17, 18] hf rfl ?_, oE 20 [14, 19] hf rfl ?_, oE 21 [20] hf rfl ?_, trivial⟩
    all_goals intro vs W hS hp hx KO hKO
    all_goals simp only [Act.put, sA, sZ, sS] at hKO
    ·go_simp
     refine (Tryz.alive07 _).mono ?_
     rintro e W1 ⟨rfl, hE⟩
     exact hKO _ W1 hE rfl
    ·have e0 := isOf hp.1; simp only [e0] at hKO; go_simp; exact hKO _ W (.refl W) rfl
    ·have e1 := isOf hp.1; simp only [e1] at hKO; go_simp; exact hKO _ W (.refl W) rfl
    ·have e1 := isOf hp.1; have e2 := isOf hp.2.1; simp only [e1, e2] at hKO; go_simp; exact hKO _ W (.refl W) rfl
    ·have e1 := isOf hp.1; have e3 := isOf hp.2.1; simp only [e1, e3] at hKO; go_simp; exact hKO _ W (.refl W) rfl
    ·have e4 := isOf hp.1; simp only [e4] at hKO; go_simp; exact hKO _ W (.refl W) rfl
    ·have e5 := isOf hp.1; simp only [e5] at hKO; go_simp; exact hKO _ W (.refl W) rfl
    ·have e5 := isOf hp.1; have e6 := isOf hp.2.1; simp only [e5, e6] at hKO; go_simp; exact hKO _ W (.refl W) rfl
    ·have e5 := isOf hp.1; have e7 := isOf hp.2.1; simp only [e5, e7] at hKO; go_simp; exact hKO _ W (.refl W) rfl
    ·have e8 := isOf hp.1; simp only [e8] at hKO; go_simp; exact hKO _ W (.refl W) rfl
    ·have e9 := isOf hp.1; simp only [e9] at hKO; have fc0 := hS.2.2.2.2.2.2.2.2.2.2.2.2.2.2.2.2.2.2.2.1.cell0; have fc1 := hS.2.2.2.2.2.2.2.2.2.2.2.2.2.2.2.2.2.2.2.1.cell1; have fc2 := hS.2.2.2.2.2.2.2.2.2.2.2.2.2.2.2.2.2.2.2.1.cell2; have fc3 := hS.2.2.2.2.2.2.2.2.2.2.2.2.2.2.2.2.2.2.2.1.cell3; have fc4 := hS.2.2.2.2.2.2.2.2.2.2.2.2.2.2.2.2.2.2.2.1.cell4; have fc5 := hS.2.2.2.2.2.2.2.2.2.2.2.2.2.2.2.2.2.2.2.1.cell5; go_simp; exact hKO _ W (.refl W) rfl
    ·have e9 := isOf hp.1; simp only [e9] at hKO; have fc0 := hS.2.2.2.2.2.2.2.2.2.2.2.2.2.2.2.2.2.2.2.2.2.1.cell0; have fc1 := hS.2.2.2.2.2.2.2.2.2.2.2.2.2.2.2.2.2.2.2.2.2.1.cell1; have fc2 := hS.2.2.2.2.2.2.2.2.2.2.2.2.2.2.2.2.2.2.2.2.2.1.cell2; have fc3 := hS.2.2.2.2.2.2.2.2.2.2.2.2.2.2.2.2.2.2.2.2.2.1.cell3; have fc4 := hS.2.2.2.2.2.2.2.2.2.2.2.2.2.2.2.2.2.2.2.2.2.1.cell4; have fc5 := hS.2.2.2.2.2.2.2.2.2.2.2.2.2.2.2.2.2.2.2.2.2.1.cell5; go_simp; exact hKO _ W (.refl W) rfl
    ·have e9 := isOf hp.1; have e10 := isOf hp.2.1; have e11 := isOf hp.2.2.1; simp only [e9, e10, e11] at hKO; go_simp
     refine (Tryz.rsIn (hS.2.2.2.2.2.2.2.2.2.2.2.2.2.2.2.2.2.2.1) (hS.2.2.2.2.2.2.2.2.2.2.2.2.2.2.2.2.2.2.2.2.1) SO.out.1 SO.out.2 (by omega)).mono ?_
     rintro e W1 ⟨rfl, hE⟩
     rw [HI4.out]
     exact hKO _ W1 hE rfl
    ·have e9 := isOf hp.1; have e12 := isOf hp.2.1; simp only [e9, e12] at hKO; go_simp; exact hKO _ W (.refl W) rfl
    ·have e13 := isOf hp.1; simp only [e13] at hKO; go_simp; exact hKO _ W (.refl W) rfl
    ·have e14 := isOf hp.1; simp only [e14] at hKO; go_simp; exact hKO _ W (.refl W) rfl
    ·have e14 := isOf hp.1; have e15 := isOf hp.2.1; simp only [e14, e15] at hKO; have fc0 := hS.2.2.2.2.2.2.2.2.2.2.2.1.cell0; have fc1 := hS.2.2.2.2.2.2.2.2.2.2.2.1.cell1; have fc2 := hS.2.2.2.2.2.2.2.2.2.2.2.1.cell2; go_simp; exact hKO _ W (.refl W) rfl
    ·have e14 := isOf hp.1; have e16 := isOf hp.2.1; simp only [e14, e16] at hKO; go_simp
     refine (Tryz.ivOf (hS.2.2.2.2.2.2.2.2.2.2.1.lo)).mono ?_
     rintro e W1 ⟨v, rfl, hv, hE⟩
     exact hKO _ W1 hE hv
    ·have e14 := isOf hp.1; simp only [e14] at hKO; have fc0 := hS.2.2.2.2.2.2.2.2.2.2.2.1.cell0; have fc1 := hS.2.2.2.2.2.2.2.2.2.2.2.1.cell1; have fc2 := hS.2.2.2.2.2.2.2.2.2.2.2.1.cell2; have fc3 := hS.2.2.2.2.2.2.2.2.2.2.2.1.cell3; have fc4 := hS.2.2.2.2.2.2.2.2.2.2.2.1.cell4; have fc5 := hS.2.2.2.2.2.2.2.2.2.2.2.1.cell5; go_simp; exact hKO _ W (.refl W) rfl
    ·have e14 := isOf hp.1; have q17 := hp.2.1; have e18 := isOf hp.2.2.1; simp only [e14, e18] at hKO; go_simp
     refine (Tryz.ivIn q17 (hS.2.2.2.2.2.2.2.2.2.2.1) ⟨Sy.out.lo, Sy.out.lo⟩ Sy.out (by omega)).mono ?_
     rintro e W1 ⟨rfl, hE⟩
     rw [HI5.out]
     exact hKO _ W1 hE rfl
    ·have e14 := isOf hp.1; have e19 := isOf hp.2.1; simp only [e14, e19] at hKO; go_simp; exact hKO _ W (.refl W) rfl
    ·have e20 := isOf hp.1; simp only [e20] at hKO; go_simp; exact hKO _ W (.refl W) rfl
   intro vs W6 hS hp
   clear szw6 E0 p3 p4 p5 hsp hsq h1_14 p1_16 h1_6 h1_13 h2_14 p2_16 h2_6 h2_13 h3_2 h3_5 h3_11 h3_14 h4_6 p4_9 h5_6 p5_9
   obtain ⟨E0, p3, p4, p5, hsp, hsq, h1_14, p1_16, h1_6, h1_13, h2_14, p2_16, h2_6, h2_13, h3_2, h3_5, h3_11, h3_14, h4_6, p4_9, h5_6, p5_9, sz6⟩ := hS
   obtain ⟨h6_0, h6_1, h6_2, h6_3, h6_4, h6_5, h6_6, h6_7, h6_8, h6_9, h6_10, h6_11, h6_12, h6_13, h6_14, h6_15, h6_16, h6_17, h6_18, h6_19, h6_20, h6_21, -⟩ := hp
   replace h6_0 : vs 0 = .bool true := h6_0
   replace h6_1 : vs 1 = .bool true := h6_1
   replace h6_2 : vs 2 = .int .i64 0 := h6_2
   replace h6_3 : vs 3 = .bool true := h6_3
   replace h6_4 : vs 4 = .bool true := h6_4
   replace h6_5 : vs 5 = .bool true := h6_5
   replace h6_6 : vs 6 = .int .i64 0 := h6_6
   replace h6_7 : vs 7 = .bool true := h6_7
   replace h6_8 : vs 8 = .bool true := h6_8
   replace h6_9 : vs 9 = .bool true := h6_9
   replace h6_10 : vs 10 = .agg #[.bool b4_9, .slice a4_9 n4_9 c4_9, .slice d4_9 m4_9 o4_9, .bool bb4_9, .slice aa4_9 nn4_9 cc4_9, .slice dd4_9 mm4_9 oo4_9] := h6_10
   replace h6_11 : vs 11 = .agg #[.bool b5_9, .slice a5_9 n5_9 c5_9, .slice d5_9 m5_9 o5_9, .bool bb5_9, .slice aa5_9 nn5_9 cc5_9, .slice dd5_9 mm5_9 oo5_9] := h6_11
   replace h6_12 : vs 12 = .bool true := h6_12
   replace h6_13 : vs 13 = .bool true := h6_13
   replace h6_14 : vs 14 = .bool true := h6_14
   replace h6_15 : vs 15 = .pointer (some ⟨g2_16, 0, none⟩) := h6_15
   replace h6_16 : vs 16 = .agg #[.bool b2_16, .slice a2_16 n2_16 c2_16, .slice d2_16 m2_16 o2_16] := h6_16
   replace h6_18 : vs 18 = .agg #[.bool b2_16, .slice a2_16 n2_16 c2_16, .slice d2_16 m2_16 o2_16, .bool bb2_16, .slice aa2_16 nn2_16 cc2_16, .slice dd2_16 mm2_16 oo2_16] := h6_18
   replace h6_19 : vs 19 = .bool true := h6_19
   replace h6_20 : vs 20 = .bool true := h6_20
   replace h6_21 : vs 21 = .bool true := h6_21
   simp only [h6_0, h6_1, h6_2, h6_3, h6_4, h6_5, h6_6, h6_7, h6_8, h6_9, h6_10, h6_11, h6_12, h6_13, h6_14, h6_15, h6_16, h6_18, h6_19, h6_20, h6_21]
   replace h6_17 : Sw W6 (vs 17) ((y.1, y.1)) := h6_17
   generalize vs 17 = u6_17 at h6_17 ⊢
   clear h6_0 h6_1 h6_2 h6_3 h6_4 h6_5 h6_6 h6_7 h6_8 h6_9 h6_10 h6_11 h6_12 h6_13 h6_14 h6_15 h6_16 h6_18 h6_19 h6_20 h6_21
   obtain ⟨kp3_0, kp3_1, kp3_2, kp3_3, kp3_4, kp3_5⟩ := p3.c6
   obtain ⟨kp4_0, kp4_1, kp4_2, kp4_3, kp4_4, kp4_5⟩ := p4.c6
   obtain ⟨kp5_0, kp5_1, kp5_2, kp5_3⟩ := p5.c4
   obtain ⟨kp1_16_0, kp1_16_1, kp1_16_2, kp1_16_3, kp1_16_4, kp1_16_5⟩ := p1_16.c6
   obtain ⟨kp2_16_0, kp2_16_1, kp2_16_2, kp2_16_3, kp2_16_4, kp2_16_5⟩ := p2_16.c6
   obtain ⟨kp4_9_0, kp4_9_1, kp4_9_2, kp4_9_3, kp4_9_4, kp4_9_5⟩ := p4_9.c6
   obtain ⟨kp5_9_0, kp5_9_1, kp5_9_2, kp5_9_3, kp5_9_4, kp5_9_5⟩ := p5_9.c6
   clear hsp hsq h1_14 h1_6 h1_13 h2_14 h2_6 h2_13 h3_2 h3_5 h3_11 h3_14 h4_6 h5_6 h6_17; go_wp2; go_ret
   exact ⟨rfl, E0⟩

end Go.Rt
