/-
 Chapter 7: sums and products of intervals hang on no order.
-/
import Derived.Test.YthmncdhibcoiaaaGreatSqz
import Derived.Test.YthmncdhibcoiaaaGreatIvF
namespace Go.Rt
open Go Go.RowKit Go.Proofs

theorem minQ_le {l : List Rat} {n : Nat} : ∀ i, i ≤ n → minQ l n ≤ atQ l i := by
 induction n with
 | zero =>
  intro i hi
  obtain rfl : i = 0 := by omega
  exact Rat.le_refl
 | succ n ih =>
  intro i hi
  unfold minQ
  rcases Nat.lt_or_ge i (n + 1) with h | h
  ·have h1 := ih i (by omega)
   split
   ·rename_i h2; exact Rat.le_trans (Rat.le_of_lt h2) h1
   ·exact h1
  ·obtain rfl : i = n + 1 := by omega
   split
   ·exact Rat.le_refl
   ·rename_i h2; exact Rat.not_lt.1 h2

theorem le_minQ {l : List Rat} {x : Rat} {n : Nat} (h : ∀ i, i ≤ n → x ≤ atQ l i) : x ≤ minQ l n := by
 induction n with
 | zero => exact h 0 (Nat.le_refl _)
 | succ n ih =>
  unfold minQ
  split
  ·exact h _ (Nat.le_refl _)
  ·exact ih fun i hi => h i (by omega)

theorem le_maxQ {l : List Rat} {n : Nat} : ∀ i, i ≤ n → atQ l i ≤ maxQ l n := by
 induction n with
 | zero =>
  intro i hi
  obtain rfl : i = 0 := by omega
  exact Rat.le_refl
 | succ n ih =>
  intro i hi
  unfold maxQ
  rcases Nat.lt_or_ge i (n + 1) with h | h
  ·have h1 := ih i (by omega)
   split
   ·rename_i h2; exact Rat.le_trans h1 (Rat.le_of_lt h2)
   ·exact h1
  ·obtain rfl : i = n + 1 := by omega
   split
   ·exact Rat.le_refl
   ·rename_i h2; exact Rat.not_lt.1 h2

theorem maxQ_le {l : List Rat} {x : Rat} {n : Nat} (h : ∀ i, i ≤ n → atQ l i ≤ x) : maxQ l n ≤ x := by
 induction n with
 | zero => exact h 0 (Nat.le_refl _)
 | succ n ih =>
  unfold maxQ
  split
  ·exact h _ (Nat.le_refl _)
  ·exact ih fun i hi => h i (by omega)

theorem mulL_turn (p q : Rat × Rat) : ∀ i, i ≤ 3 → ∃ j, j ≤ 3 ∧ atQ (mulL p q) i = atQ (mulL q p) j := by
 intro i hi
 match i, hi with
 | 0, _ => exact ⟨0, by omega, Rat.mul_comm _ _⟩
 | 1, _ => exact ⟨2, by omega, Rat.mul_comm _ _⟩
 | 2, _ => exact ⟨1, by omega, Rat.mul_comm _ _⟩
 | 3, _ => exact ⟨3, by omega, Rat.mul_comm _ _⟩

theorem mulS_comm (p q : Rat × Rat) : mulS p q = mulS q p := by
 have a : ∀ p q, minQ (mulL p q) 3 ≤ minQ (mulL q p) 3 := fun p q => le_minQ fun i hi => by
  obtain ⟨j, hj, e⟩ := mulL_turn q p i hi
  rw [e]
  exact minQ_le j hj
 have b : ∀ p q, maxQ (mulL p q) 3 ≤ maxQ (mulL q p) 3 := fun p q => maxQ_le fun i hi => by
  obtain ⟨j, hj, e⟩ := mulL_turn p q i hi
  rw [e]
  exact le_maxQ j hj
 exact Prod.ext (Rat.le_antisymm (a p q) (a q p)) (Rat.le_antisymm (b p q) (b q p))

theorem mulS_one (x y : Rat) : mulS (x, x) (y, y) = (x * y, x * y) := by
 have e : ∀ i, i ≤ 3 → atQ (mulL (x, x) (y, y)) i = x * y := fun i hi => by
  match i, hi with
  | 0, _ => rfl
  | 1, _ => rfl
  | 2, _ => rfl
  | 3, _ => rfl
 refine Prod.ext ?_ ?_
 ·refine Rat.le_antisymm ?_ (le_minQ fun i hi => by rw [e i hi]; exact Rat.le_refl)
  have := minQ_le (l := mulL (x, x) (y, y)) (n := 3) 0 (by omega)
  rw [e 0 (by omega)] at this
  exact this
 ·refine Rat.le_antisymm (maxQ_le fun i hi => by rw [e i hi]; exact Rat.le_refl) ?_
  have := le_maxQ (l := mulL (x, x) (y, y)) (n := 3) 0 (by omega)
  rw [e 0 (by omega)] at this
  exact this

set_option maxRecDepth 100000 in
set_option maxHeartbeats 8000000 in
theorem Tryz.lawIvalTurns {b1 : Bool} {a1 : Option Addr} {n1 c1 : Nat} {d1 : Option Addr} {m1 o1 : Nat} {bb1 : Bool} {aa1 : Option Addr} {nn1 cc1 : Nat} {dd1 : Option Addr} {mm1 oo1 : Nat} {xs1 ys1 us1 zs1 : List Nat} {b2 : Bool} {a2 : Option Addr} {n2 c2 : Nat} {d2 : Option Addr} {m2 o2 : Nat} {bb2 : Bool} {aa2 : Option Addr} {nn2 cc2 : Nat} {dd2 : Option Addr} {mm2 oo2 : Nat} {xs2 ys2 us2 zs2 : List Nat} {b3 : Bool} {a3 : Option Addr} {n3 c3 : Nat} {d3 : Option Addr} {m3 o3 : Nat} {xs3 ys3 : List Nat} {w : World} (x11 : Nt w (.slice a1 n1 c1) xs1) (x12 : Nt w (.slice d1 m1 o1) ys1) (x13 : Nt w (.slice aa1 nn1 cc1) us1) (x14 : Nt w (.slice dd1 mm1 oo1) zs1) (x21 : Nt w (.slice a2 n2 c2) xs2) (x22 : Nt w (.slice d2 m2 o2) ys2) (x23 : Nt w (.slice aa2 nn2 cc2) us2) (x24 : Nt w (.slice dd2 mm2 oo2) zs2) (x31 : Nt w (.slice a3 n3 c3) xs3) (x32 : Nt w (.slice d3 m3 o3) ys3) :
  Calls Tryz.prog 6 #[.agg #[.bool b1, .slice a1 n1 c1, .slice d1 m1 o1, .bool bb1, .slice aa1 nn1 cc1, .slice dd1 mm1 oo1], .agg #[.bool b2, .slice a2 n2 c2, .slice d2 m2 o2, .bool bb2, .slice aa2 nn2 cc2, .slice dd2 mm2 oo2], .agg #[.bool b3, .slice a3 n3 c3, .slice d3 m3 o3]] w fun e w' => e = .returned (.bool true) ∧ Ext w w' := by
 obtain ⟨W0, hW0⟩ : ∃ W0, W0 = (((w.alloc (.cells #[.bool b1, .slice a1 n1 c1, .slice d1 m1 o1, .bool bb1, .slice aa1 nn1 cc1, .slice dd1 mm1 oo1] 29)).alloc (.cells #[.bool b2, .slice a2 n2 c2, .slice d2 m2 o2, .bool bb2, .slice aa2 nn2 cc2, .slice dd2 mm2 oo2] 29)).alloc (.cells #[.bool b3, .slice a3 n3 c3, .slice d3 m3 o3] 27)) := ⟨_, rfl⟩
 have E0 : Ext w W0 := by rw [hW0]; exact (((Ext.alloc1 w (.cells #[.bool b1, .slice a1 n1 c1, .slice d1 m1 o1, .bool bb1, .slice aa1 nn1 cc1, .slice dd1 mm1 oo1] 29)).alloc (.cells #[.bool b2, .slice a2 n2 c2, .slice d2 m2 o2, .bool bb2, .slice aa2 nn2 cc2, .slice dd2 mm2 oo2] 29)).alloc (.cells #[.bool b3, .slice a3 n3 c3, .slice d3 m3 o3] 27))
 replace x11 : Nt W0 (.slice a1 n1 c1) xs1 := x11.ext E0
 replace x12 : Nt W0 (.slice d1 m1 o1) ys1 := x12.ext E0
 replace x13 : Nt W0 (.slice aa1 nn1 cc1) us1 := x13.ext E0
 replace x14 : Nt W0 (.slice dd1 mm1 oo1) zs1 := x14.ext E0
 replace x21 : Nt W0 (.slice a2 n2 c2) xs2 := x21.ext E0
 replace x22 : Nt W0 (.slice d2 m2 o2) ys2 := x22.ext E0
 replace x23 : Nt W0 (.slice aa2 nn2 cc2) us2 := x23.ext E0
 replace x24 : Nt W0 (.slice dd2 mm2 oo2) zs2 := x24.ext E0
 replace x31 : Nt W0 (.slice a3 n3 c3) xs3 := x31.ext E0
 replace x32 : Nt W0 (.slice d3 m3 o3) ys3 := x32.ext E0
 have p3 : Bx6 W0 w.heap.size 29 (.bool b1) (.slice a1 n1 c1) (.slice d1 m1 o1) (.bool bb1) (.slice aa1 nn1 cc1) (.slice dd1 mm1 oo1) := by rw [hW0]; exact (Bx6.new w 29 (.bool b1) (.slice a1 n1 c1) (.slice d1 m1 o1) (.bool bb1) (.slice aa1 nn1 cc1) (.slice dd1 mm1 oo1)).ext ((Ext.alloc1 (w.alloc (.cells #[.bool b1, .slice a1 n1 c1, .slice d1 m1 o1, .bool bb1, .slice aa1 nn1 cc1, .slice dd1 mm1 oo1] 29)) (.cells #[.bool b2, .slice a2 n2 c2, .slice d2 m2 o2, .bool bb2, .slice aa2 nn2 cc2, .slice dd2 mm2 oo2] 29)).alloc (.cells #[.bool b3, .slice a3 n3 c3, .slice d3 m3 o3] 27))
 have p4 : Bx6 W0 (w.heap.size + 1) 29 (.bool b2) (.slice a2 n2 c2) (.slice d2 m2 o2) (.bool bb2) (.slice aa2 nn2 cc2) (.slice dd2 mm2 oo2) := by rw [hW0]; simpa using (Bx6.new (w.alloc (.cells #[.bool b1, .slice a1 n1 c1, .slice d1 m1 o1, .bool bb1, .slice aa1 nn1 cc1, .slice dd1 mm1 oo1] 29)) 29 (.bool b2) (.slice a2 n2 c2) (.slice d2 m2 o2) (.bool bb2) (.slice aa2 nn2 cc2) (.slice dd2 mm2 oo2)).ext (Ext.alloc1 ((w.alloc (.cells #[.bool b1, .slice a1 n1 c1, .slice d1 m1 o1, .bool bb1, .slice aa1 nn1 cc1, .slice dd1 mm1 oo1] 29)).alloc (.cells #[.bool b2, .slice a2 n2 c2, .slice d2 m2 o2, .bool bb2, .slice aa2 nn2 cc2, .slice dd2 mm2 oo2] 29)) (.cells #[.bool b3, .slice a3 n3 c3, .slice d3 m3 o3] 27))
 have p5 : Bx3 W0 (w.heap.size + 1 + 1) 27 (.bool b3) (.slice a3 n3 c3) (.slice d3 m3 o3) := by rw [hW0]; simpa using (Bx3.new ((w.alloc (.cells #[.bool b1, .slice a1 n1 c1, .slice d1 m1 o1, .bool bb1, .slice aa1 nn1 cc1, .slice dd1 mm1 oo1] 29)).alloc (.cells #[.bool b2, .slice a2 n2 c2, .slice d2 m2 o2, .bool bb2, .slice aa2 nn2 cc2, .slice dd2 mm2 oo2] 29)) 27 (.bool b3) (.slice a3 n3 c3) (.slice d3 m3 o3))
 go_enter Tryz.func6, Tryz.ntmps6
 obtain ⟨kp3_0, kp3_1, kp3_2, kp3_3, kp3_4, kp3_5⟩ := p3.c6
 obtain ⟨kp4_0, kp4_1, kp4_2, kp4_3, kp4_4, kp4_5⟩ := p4.c6
 obtain ⟨kp5_0, kp5_1, kp5_2⟩ := p5.c3
 go_wp2_with fail
 rw [← hW0]
 clear hW0; clear kp3_0 kp3_1 kp3_2 kp3_3 kp3_4 kp3_5 kp4_0 kp4_1 kp4_2 kp4_3 kp4_4 kp4_5 kp5_0 kp5_1 kp5_2
 refine (Tryz.rsFew x11 x12 x13 x14 3 (by omega)).mono ?_
 rintro e WfB1 ⟨B1, rfl, hB1, hE⟩
 replace hB1 : B1 = true → ∃ p, Sw WfB1 (.agg #[.bool b1, .slice a1 n1 c1, .slice d1 m1 o1, .bool bb1, .slice aa1 nn1 cc1, .slice dd1 mm1 oo1]) p ∧ SmS 3 p ∧ p.1 ≤ p.2 := fun e => let ⟨p, k1, k2⟩ := hB1 e; ⟨p, k1.ext hE, k2⟩
 replace E0 := (Ext.trans E0 hE)
 replace x11 := (x11.ext hE)
 replace x12 := (x12.ext hE)
 replace x13 := (x13.ext hE)
 replace x14 := (x14.ext hE)
 replace x21 := (x21.ext hE)
 replace x22 := (x22.ext hE)
 replace x23 := (x23.ext hE)
 replace x24 := (x24.ext hE)
 replace x31 := (x31.ext hE)
 replace x32 := (x32.ext hE)
 replace p3 := (p3.ext hE); replace p4 := (p4.ext hE); replace p5 := (p5.ext hE); clear hE
 cases B1
 ·clear hB1
  obtain ⟨kp3_0, kp3_1, kp3_2, kp3_3, kp3_4, kp3_5⟩ := p3.c6
  obtain ⟨kp4_0, kp4_1, kp4_2, kp4_3, kp4_4, kp4_5⟩ := p4.c6
  obtain ⟨kp5_0, kp5_1, kp5_2⟩ := p5.c3
  go_wp2_with fail
  clear kp3_0 kp3_1 kp3_2 kp3_3 kp3_4 kp3_5 kp4_0 kp4_1 kp4_2 kp4_3 kp4_4 kp4_5 kp5_0 kp5_1 kp5_2
  refine (Tryz.alive07 _).mono ?_
  rintro e Wv ⟨rfl, hE⟩
  replace E0 := (Ext.trans E0 hE)
  replace x11 := (x11.ext hE)
  replace x12 := (x12.ext hE)
  replace x13 := (x13.ext hE)
  replace x14 := (x14.ext hE)
  replace x21 := (x21.ext hE)
  replace x22 := (x22.ext hE)
  replace x23 := (x23.ext hE)
  replace x24 := (x24.ext hE)
  replace x31 := (x31.ext hE)
  replace x32 := (x32.ext hE)
  replace p3 := (p3.ext hE); replace p4 := (p4.ext hE); replace p5 := (p5.ext hE); clear hE
  obtain ⟨kp3_0, kp3_1, kp3_2, kp3_3, kp3_4, kp3_5⟩ := p3.c6
  obtain ⟨kp4_0, kp4_1, kp4_2, kp4_3, kp4_4, kp4_5⟩ := p4.c6
  obtain ⟨kp5_0, kp5_1, kp5_2⟩ := p5.c3
  clear x11 x12 x13 x14 x21 x22 x23 x24 x31 x32; go_wp2; go_ret
  exact ⟨rfl, E0⟩
 ·obtain ⟨p, hsp, sp, hle⟩ := hB1 rfl
  have SP := Lib.hid sp
  have HLE := Lib.hid hle
  clear sp hle hB1
  obtain ⟨kp3_0, kp3_1, kp3_2, kp3_3, kp3_4, kp3_5⟩ := p3.c6
  obtain ⟨kp4_0, kp4_1, kp4_2, kp4_3, kp4_4, kp4_5⟩ := p4.c6
  obtain ⟨kp5_0, kp5_1, kp5_2⟩ := p5.c3
  go_wp2_with fail
  clear kp3_0 kp3_1 kp3_2 kp3_3 kp3_4 kp3_5 kp4_0 kp4_1 kp4_2 kp4_3 kp4_4 kp4_5 kp5_0 kp5_1 kp5_2
  refine (Tryz.rsFew x21 x22 x23 x24 3 (by omega)).mono ?_
  rintro e WfB2 ⟨B2, rfl, hB2, hE⟩
  replace hB2 : B2 = true → ∃ p, Sw WfB2 (.agg #[.bool b2, .slice a2 n2 c2, .slice d2 m2 o2, .bool bb2, .slice aa2 nn2 cc2, .slice dd2 mm2 oo2]) p ∧ SmS 3 p ∧ p.1 ≤ p.2 := fun e => let ⟨p, k1, k2⟩ := hB2 e; ⟨p, k1.ext hE, k2⟩
  replace E0 := (Ext.trans E0 hE)
  replace x11 := (x11.ext hE)
  replace x12 := (x12.ext hE)
  replace x13 := (x13.ext hE)
  replace x14 := (x14.ext hE)
  replace x21 := (x21.ext hE)
  replace x22 := (x22.ext hE)
  replace x23 := (x23.ext hE)
  replace x24 := (x24.ext hE)
  replace x31 := (x31.ext hE)
  replace x32 := (x32.ext hE)
  replace p3 := (p3.ext hE); replace p4 := (p4.ext hE); replace p5 := (p5.ext hE); replace hsp := (hsp.ext hE); clear hE
  cases B2
  ·clear hB2
   obtain ⟨kp3_0, kp3_1, kp3_2, kp3_3, kp3_4, kp3_5⟩ := p3.c6
   obtain ⟨kp4_0, kp4_1, kp4_2, kp4_3, kp4_4, kp4_5⟩ := p4.c6
   obtain ⟨kp5_0, kp5_1, kp5_2⟩ := p5.c3
   go_wp2_with fail
   clear kp3_0 kp3_1 kp3_2 kp3_3 kp3_4 kp3_5 kp4_0 kp4_1 kp4_2 kp4_3 kp4_4 kp4_5 kp5_0 kp5_1 kp5_2
   refine (Tryz.alive07 _).mono ?_
   rintro e Wv ⟨rfl, hE⟩
   replace E0 := (Ext.trans E0 hE)
   replace x11 := (x11.ext hE)
   replace x12 := (x12.ext hE)
   replace x13 := (x13.ext hE)
   replace x14 := (x14.ext hE)
   replace x21 := (x21.ext hE)
   replace x22 := (x22.ext hE)
   replace x23 := (x23.ext hE)
   replace x24 := (x24.ext hE)
   replace x31 := (x31.ext hE)
   replace x32 := (x32.ext hE)
   replace p3 := (p3.ext hE); replace p4 := (p4.ext hE); replace p5 := (p5.ext hE); replace hsp := (hsp.ext hE); clear hE
   obtain ⟨kp3_0, kp3_1, kp3_2, kp3_3, kp3_4, kp3_5⟩ := p3.c6
   obtain ⟨kp4_0, kp4_1, kp4_2, kp4_3, kp4_4, kp4_5⟩ := p4.c6
   obtain ⟨kp5_0, kp5_1, kp5_2⟩ := p5.c3
   clear x11 x12 x13 x14 x21 x22 x23 x24 x31 x32 hsp; go_wp2; go_ret
   exact ⟨rfl, E0⟩
  ·obtain ⟨q, hsq, sq, -⟩ := hB2 rfl
   have SQ := Lib.hid sq
   clear sq hB2
   obtain ⟨kp3_0, kp3_1, kp3_2, kp3_3, kp3_4, kp3_5⟩ := p3.c6
   obtain ⟨kp4_0, kp4_1, kp4_2, kp4_3, kp4_4, kp4_5⟩ := p4.c6
   obtain ⟨kp5_0, kp5_1, kp5_2⟩ := p5.c3
   go_wp2_with fail
   clear kp3_0 kp3_1 kp3_2 kp3_3 kp3_4 kp3_5 kp4_0 kp4_1 kp4_2 kp4_3 kp4_4 kp4_5 kp5_0 kp5_1 kp5_2
   refine (Tryz.refRFew x31 x32 3 (by omega)).mono ?_
   rintro e Wx ⟨rfl, hE⟩
   replace E0 := (Ext.trans E0 hE)
   replace x11 := (x11.ext hE)
   replace x12 := (x12.ext hE)
   replace x13 := (x13.ext hE)
   replace x14 := (x14.ext hE)
   replace x21 := (x21.ext hE)
   replace x22 := (x22.ext hE)
   replace x23 := (x23.ext hE)
   replace x24 := (x24.ext hE)
   replace x31 := (x31.ext hE)
   replace x32 := (x32.ext hE)
   replace p3 := (p3.ext hE); replace p4 := (p4.ext hE); replace p5 := (p5.ext hE); replace hsp := (hsp.ext hE); replace hsq := (hsq.ext hE); clear hE
   cases hf : fewR b3 xs3 ys3 ((3 : Nat) : Int)
   ·clear hf
    obtain ⟨kp3_0, kp3_1, kp3_2, kp3_3, kp3_4, kp3_5⟩ := p3.c6
    obtain ⟨kp4_0, kp4_1, kp4_2, kp4_3, kp4_4, kp4_5⟩ := p4.c6
    obtain ⟨kp5_0, kp5_1, kp5_2⟩ := p5.c3
    go_wp2_with fail
    clear kp3_0 kp3_1 kp3_2 kp3_3 kp3_4 kp3_5 kp4_0 kp4_1 kp4_2 kp4_3 kp4_4 kp4_5 kp5_0 kp5_1 kp5_2
    refine (Tryz.alive07 _).mono ?_
    rintro e Wv ⟨rfl, hE⟩
    replace E0 := (Ext.trans E0 hE)
    replace x11 := (x11.ext hE)
    replace x12 := (x12.ext hE)
    replace x13 := (x13.ext hE)
    replace x14 := (x14.ext hE)
    replace x21 := (x21.ext hE)
    replace x22 := (x22.ext hE)
    replace x23 := (x23.ext hE)
    replace x24 := (x24.ext hE)
    replace x31 := (x31.ext hE)
    replace x32 := (x32.ext hE)
    replace p3 := (p3.ext hE); replace p4 := (p4.ext hE); replace p5 := (p5.ext hE); replace hsp := (hsp.ext hE); replace hsq := (hsq.ext hE); clear hE
    obtain ⟨kp3_0, kp3_1, kp3_2, kp3_3, kp3_4, kp3_5⟩ := p3.c6
    obtain ⟨kp4_0, kp4_1, kp4_2, kp4_3, kp4_4, kp4_5⟩ := p4.c6
    obtain ⟨kp5_0, kp5_1, kp5_2⟩ := p5.c3
    clear x11 x12 x13 x14 x21 x22 x23 x24 x31 x32 hsp hsq; go_wp2; go_ret
    exact ⟨rfl, E0⟩
   ·have HF := Lib.hid hf
    clear hf
    obtain ⟨x, hx, sx⟩ := fewR_rw x31 x32 HF.out
    have SX := Lib.hid sx
    clear sx; clear x11 x12 x13 x14 x21 x22 x23 x24 x31 x32
    have SA : Hid (SmR 8 (p.1 + q.2) ∧ SmR 8 (p.1 * q.2)) := Lib.hid ⟨(SP.out.lo.add SQ.out.hi).mono (by omega), (SP.out.lo.mul SQ.out.hi).mono (by omega)⟩
    have H1 : Hid (mulS (p.1, p.1) (q.2, q.2) = (p.1 * q.2, p.1 * q.2)) := Lib.hid (mulS_one _ _)
    have H2 : Hid ((p.1 + q.1, p.2 + q.2) = (q.1 + p.1, q.2 + p.2)) := Lib.hid (by rw [Rat.add_comm p.1, Rat.add_comm p.2])
    have H3 := Lib.hid (mulS_comm p q)
    have H4 : Hid (hasS p p.1 = true) := Lib.hid (by unfold hasS; rw [decide_eq_true Rat.le_refl, decide_eq_true HLE.out]; rfl)
    have H5 : Hid (hasS p p.2 = true) := Lib.hid (by unfold hasS; rw [decide_eq_true Rat.le_refl, decide_eq_true HLE.out]; rfl)
    obtain ⟨B3, hB3⟩ : ∃ B, hasS p x = B := ⟨_, rfl⟩
    have HB3 := Lib.hid hB3
    have HB4 : Hid (inS (x, x) p = B3) := Lib.hid (by unfold inS; rw [hB3, Bool.and_self])
    clear hB3
    obtain ⟨kp3_0, kp3_1, kp3_2, kp3_3, kp3_4, kp3_5⟩ := p3.c6
    obtain ⟨kp4_0, kp4_1, kp4_2, kp4_3, kp4_4, kp4_5⟩ := p4.c6
    obtain ⟨kp5_0, kp5_1, kp5_2⟩ := p5.c3
    go_upto_region 3 with (fail)
    clear kp3_0 kp3_1 kp3_2 kp3_3 kp3_4 kp3_5 kp4_0 kp4_1 kp4_2 kp4_3 kp4_4 kp4_5 kp5_0 kp5_1 kp5_2; have ltp3 := p3.lt; have ltp4 := p4.lt; have ltp5 := p5.lt; have szw1 := Ext.size E0
    refine region_go2 [.one fun v _ => v = .pointer (some ⟨w.heap.size, 0, none⟩),
      .one fun v _ => v = .agg #[.bool b1, .slice a1 n1 c1, .slice d1 m1 o1],
      .one fun v W => Sw W v ((p.1, p.1)),
      .one fun v _ => v = .pointer (some ⟨w.heap.size + 1, 3, none⟩),
      .one fun v _ => v = .agg #[.bool bb2, .slice aa2 nn2 cc2, .slice dd2 mm2 oo2],
      .one fun v W => Sw W v ((q.2, q.2)),
      .one fun v W => ∃ g, v = .pointer (some ⟨g, 0, none⟩) ∧ Wx.heap.size ≤ g ∧ Form W g 29 6,
      .one fun v W => ∃ g, v = .pointer (some ⟨g, 0, none⟩) ∧ Wx.heap.size ≤ g ∧ Form W g 29 6,
      .three 6 2 (fun p r _ W => Put6 Wx.heap.size 29 p r W),
      .three 7 5 (fun p r _ W => Put6 Wx.heap.size 29 p r W)]
     (fun W => Ext w W ∧ Bx6 W w.heap.size 29 (.bool b1) (.slice a1 n1 c1) (.slice d1 m1 o1) (.bool bb1) (.slice aa1 nn1 cc1) (.slice dd1 mm1 oo1) ∧ Bx6 W (w.heap.size + 1) 29 (.bool b2) (.slice a2 n2 c2) (.slice d2 m2 o2) (.bool bb2) (.slice aa2 nn2 cc2) (.slice dd2 mm2 oo2) ∧ Bx3 W (w.heap.size + 1 + 1) 27 (.bool b3) (.slice a3 n3 c3) (.slice d3 m3 o3) ∧ Sw W (.agg #[.bool b1, .slice a1 n1 c1, .slice d1 m1 o1, .bool bb1, .slice aa1 nn1 cc1, .slice dd1 mm1 oo1]) p ∧ Sw W (.agg #[.bool b2, .slice a2 n2 c2, .slice d2 m2 o2, .bool bb2, .slice aa2 nn2 cc2, .slice dd2 mm2 oo2]) q ∧ Rw W (.agg #[.bool b3, .slice a3 n3 c3, .slice d3 m3 o3]) x ∧ Wx.heap.size ≤ W.heap.size) Wx.heap.size [6, 7] [Tag.any, Tag.any, Tag.any, Tag.any, Tag.any, Tag.any, Tag.any, Tag.any, Tag.new 6, Tag.new 7] ⟨Good.is _, Good.is _, Good.span _, Good.is _, Good.is _, Good.span _, Good.box _ _ _, Good.box _ _ _, tag_put6, tag_put6, trivial⟩ (fun g0 hg => by simp at hg)
     (fun W W1 hS hE => ⟨(Ext.trans hS.1 hE), (hS.2.1.ext hE), (hS.2.2.1.ext hE), (hS.2.2.2.1.ext hE), (hS.2.2.2.2.1.ext hE), (hS.2.2.2.2.2.1.ext hE), (hS.2.2.2.2.2.2.1.ext hE), (Nat.le_trans hS.2.2.2.2.2.2.2 (Ext.size hE))⟩) ⟨E0, p3, p4, p5, hsp, hsq, hx, Nat.le_refl _⟩ (fun m hm => by simp at hm; rcases hm with rfl | rfl <;> rfl) (by kernel_rfl) (by kernel_rfl) (by kernel_rfl) (by kernel_rfl) (A := ?A1) ?hA1 ?howe1 ?hfin1
    case hA1 =>
     intro vs
     simp only [putAll, Act.put, sA, sZ, sS, Nat.zero_add, Nat.reduceAdd]
     exact rfl
    case howe1 =>
     clear E0 p3 p4 p5 hsp hsq hx
     intro hf
     refine ⟨owesM 0 [] hf rfl rfl (by kernel_rfl) ?_, owesM 1 [0] hf rfl rfl (by kernel_rfl) ?_, owesM 2 [1] hf rfl rfl (by kernel_rfl) ?_, owesM 3 [] hf rfl rfl (by kernel_rfl) ?_, owesM 4 [3] hf rfl rfl (by kernel_rfl) ?_, owesM 5 [4] hf rfl rfl (by kernel_rfl) ?_, owesN 6 [] hf rfl (by kernel_rfl) ?_, owesN 7 [] hf rfl (by kernel_rfl) ?_, owesP 8 6 [6, 2] hf rfl rfl (by kernel_rfl) rfl (by kernel_rfl) ?_, owesP 9 7 [7, 5] hf rfl rfl (by kernel_rfl) rfl (by kernel_rfl) ?_, trivial⟩
     all_goals intro vs W hS hp hx KO hKO
     all_goals simp only [Act.put, sA, sZ, sS] at hKO
     ·go_simp; exact hKO _ W (.refl W) rfl
     ·have e0 := isOf hp.1; simp only [e0] at hKO; have fc0 := hS.2.1.cell0; have fc1 := hS.2.1.cell1; have fc2 := hS.2.1.cell2; go_simp; exact hKO _ W (.refl W) rfl
     ·have e1 := isOf hp.1; simp only [e1] at hKO; go_simp
      refine (Tryz.ivOf (hS.2.2.2.2.1.lo)).mono ?_
      rintro e W1 ⟨v, rfl, hv, hE⟩
      exact hKO _ W1 hE hv
     ·go_simp; exact hKO _ W (.refl W) rfl
     ·have e3 := isOf hp.1; simp only [e3] at hKO; have fc3 := hS.2.2.1.cell3; have fc4 := hS.2.2.1.cell4; have fc5 := hS.2.2.1.cell5; go_simp; exact hKO _ W (.refl W) rfl
     ·have e4 := isOf hp.1; simp only [e4] at hKO; go_simp
      refine (Tryz.ivOf (hS.2.2.2.2.2.1.hi)).mono ?_
      rintro e W1 ⟨v, rfl, hv, hE⟩
      exact hKO _ W1 hE hv
     ·have hn := Bx6.new W 29 (.bool false) (.slice none 0 0) (.slice none 0 0) (.bool false) (.slice none 0 0) (.slice none 0 0)
      have hE := Ext.alloc1 W (.cells #[.bool false, .slice none 0 0, .slice none 0 0, .bool false, .slice none 0 0, .slice none 0 0] 29)
      have hsz := hS.2.2.2.2.2.2.2
      go_simp
      exact hKO _ _ rfl ⟨_, rfl, hsz, hn.form⟩
     ·have hn := Bx6.new W 29 (.bool false) (.slice none 0 0) (.slice none 0 0) (.bool false) (.slice none 0 0) (.slice none 0 0)
      have hE := Ext.alloc1 W (.cells #[.bool false, .slice none 0 0, .slice none 0 0, .bool false, .slice none 0 0, .slice none 0 0] 29)
      have hsz := hS.2.2.2.2.2.2.2
      go_simp
      exact hKO _ _ rfl ⟨_, rfl, hsz, hn.form⟩
     ·have q6 := hp.1; have q2 := hp.2.1
      obtain ⟨g, ev, hg, hf⟩ := q6
      replace ev : vs 6 = _ := ev
      obtain ⟨x0_0, x0_1, x0_2, x0_3, x0_4, x0_5, hx, hno⟩ := hf.bx6
      have qr := q2
      obtain ⟨b3, a3, n3, c3, d3, m3, o3, bb3, aa3, nn3, cc3, dd3, mm3, oo3, er, -, -⟩ := qr
      replace er : vs 2 = _ := er
      have r0 := hx.froz0
      have t0 := hx.cell0
      have r1 := hx.froz1
      have t1 := hx.cell1
      have r2 := hx.froz2
      have t2 := hx.cell2
      have r3 := hx.froz3
      have t3 := hx.cell3
      have r4 := hx.froz4
      have t4 := hx.cell4
      have r5 := hx.froz5
      have t5 := hx.cell5
      have hw := Wr.set6 hx hno b3 a3 n3 c3 d3 m3 o3 bb3 aa3 nn3 cc3 dd3 mm3 oo3
      have hq := hx.set (.bool b3) (.slice a3 n3 c3) (.slice d3 m3 o3) (.bool bb3) (.slice aa3 nn3 cc3) (.slice dd3 mm3 oo3)
      simp only [ev, er] at hKO; go_simp
      exact hKO _ g rfl hg hw ⟨(Ext.wr hS.1 hw (by omega)), (hS.2.1.wr hw (by omega)), (hS.2.2.1.wr hw (by omega)), (hS.2.2.2.1.wr hw (by omega)), (hS.2.2.2.2.1.wr hw), (hS.2.2.2.2.2.1.wr hw), (hS.2.2.2.2.2.2.1.wr hw), (Nat.le_trans hS.2.2.2.2.2.2.2 hw.apart.size)⟩ ⟨g, b3, a3, n3, c3, d3, m3, o3, bb3, aa3, nn3, cc3, dd3, mm3, oo3, ev, er, hg, hq⟩
     ·have q7 := hp.1; have q5 := hp.2.1
      obtain ⟨g, ev, hg, hf⟩ := q7
      replace ev : vs 7 = _ := ev
      obtain ⟨x0_0, x0_1, x0_2, x0_3, x0_4, x0_5, hx, hno⟩ := hf.bx6
      have qr := q5
      obtain ⟨b3, a3, n3, c3, d3, m3, o3, bb3, aa3, nn3, cc3, dd3, mm3, oo3, er, -, -⟩ := qr
      replace er : vs 5 = _ := er
      have r0 := hx.froz0
      have t0 := hx.cell0
      have r1 := hx.froz1
      have t1 := hx.cell1
      have r2 := hx.froz2
      have t2 := hx.cell2
      have r3 := hx.froz3
      have t3 := hx.cell3
      have r4 := hx.froz4
      have t4 := hx.cell4
      have r5 := hx.froz5
      have t5 := hx.cell5
      have hw := Wr.set6 hx hno b3 a3 n3 c3 d3 m3 o3 bb3 aa3 nn3 cc3 dd3 mm3 oo3
      have hq := hx.set (.bool b3) (.slice a3 n3 c3) (.slice d3 m3 o3) (.bool bb3) (.slice aa3 nn3 cc3) (.slice dd3 mm3 oo3)
      simp only [ev, er] at hKO; go_simp
      exact hKO _ g rfl hg hw ⟨(Ext.wr hS.1 hw (by omega)), (hS.2.1.wr hw (by omega)), (hS.2.2.1.wr hw (by omega)), (hS.2.2.2.1.wr hw (by omega)), (hS.2.2.2.2.1.wr hw), (hS.2.2.2.2.2.1.wr hw), (hS.2.2.2.2.2.2.1.wr hw), (Nat.le_trans hS.2.2.2.2.2.2.2 hw.apart.size)⟩ ⟨g, b3, a3, n3, c3, d3, m3, o3, bb3, aa3, nn3, cc3, dd3, mm3, oo3, ev, er, hg, hq⟩
    intro vs W1 hS hM hp
    clear szw1 E0 p3 p4 p5 hsp hsq hx
    obtain ⟨E0, p3, p4, p5, hsp, hsq, hx, sz1⟩ := hS
    obtain ⟨h1_0, h1_1, h1_2, h1_3, h1_4, h1_5, h1_6, h1_7, h1_8, h1_9, -⟩ := hp
    obtain ⟨g1_8, b1_8, a1_8, n1_8, c1_8, d1_8, m1_8, o1_8, bb1_8, aa1_8, nn1_8, cc1_8, dd1_8, mm1_8, oo1_8, ev1_8, er1_8, hg1_8, p1_8⟩ := h1_8
    replace ev1_8 : vs 6 = _ := ev1_8; replace er1_8 : vs 2 = _ := er1_8; replace h1_2 := (show Sw W1 (vs 2) ((p.1, p.1)) from h1_2)
    rw [er1_8] at h1_2
    obtain ⟨g1_9, b1_9, a1_9, n1_9, c1_9, d1_9, m1_9, o1_9, bb1_9, aa1_9, nn1_9, cc1_9, dd1_9, mm1_9, oo1_9, ev1_9, er1_9, hg1_9, p1_9⟩ := h1_9
    replace ev1_9 : vs 7 = _ := ev1_9; replace er1_9 : vs 5 = _ := er1_9; replace h1_5 := (show Sw W1 (vs 5) ((q.2, q.2)) from h1_5)
    rw [er1_9] at h1_5
    replace h1_0 : vs 0 = .pointer (some ⟨w.heap.size, 0, none⟩) := h1_0
    replace h1_1 : vs 1 = .agg #[.bool b1, .slice a1 n1 c1, .slice d1 m1 o1] := h1_1
    replace h1_3 : vs 3 = .pointer (some ⟨w.heap.size + 1, 3, none⟩) := h1_3
    replace h1_4 : vs 4 = .agg #[.bool bb2, .slice aa2 nn2 cc2, .slice dd2 mm2 oo2] := h1_4
    clear hM
    simp only [ev1_8, er1_8, ev1_9, er1_9, h1_0, h1_1, h1_3, h1_4]
    clear ev1_8 er1_8 ev1_9 er1_9 h1_0 h1_1 h1_3 h1_4 h1_6 h1_7
    obtain ⟨kp3_0, kp3_1, kp3_2, kp3_3, kp3_4, kp3_5⟩ := p3.c6
    obtain ⟨kp4_0, kp4_1, kp4_2, kp4_3, kp4_4, kp4_5⟩ := p4.c6
    obtain ⟨kp5_0, kp5_1, kp5_2⟩ := p5.c3
    obtain ⟨kp1_8_0, kp1_8_1, kp1_8_2, kp1_8_3, kp1_8_4, kp1_8_5⟩ := p1_8.c6
    obtain ⟨kp1_9_0, kp1_9_1, kp1_9_2, kp1_9_3, kp1_9_4, kp1_9_5⟩ := p1_9.c6
    go_upto_region 4 with (fail)
    clear kp3_0 kp3_1 kp3_2 kp3_3 kp3_4 kp3_5 kp4_0 kp4_1 kp4_2 kp4_3 kp4_4 kp4_5 kp5_0 kp5_1 kp5_2 kp1_8_0 kp1_8_1 kp1_8_2 kp1_8_3 kp1_8_4 kp1_8_5 kp1_9_0 kp1_9_1 kp1_9_2 kp1_9_3 kp1_9_4 kp1_9_5; have ltp1_8 := p1_8.lt; have ltp1_9 := p1_9.lt; have szw2 := Ext.size E0
    refine region_gs [.one fun v _ => v = .pointer (some ⟨w.heap.size, 0, none⟩),
      .one fun v _ => v = .agg #[.bool b1, .slice a1 n1 c1, .slice d1 m1 o1],
      .one fun v _ => v = .pointer (some ⟨w.heap.size + 1, 3, none⟩),
      .one fun v _ => v = .agg #[.bool bb2, .slice aa2 nn2 cc2, .slice dd2 mm2 oo2],
      .one fun v W => Rw W v (p.1 + q.2),
      .one fun v W => Sw W v ((p.1 + q.2, p.1 + q.2)),
      .one fun v W => ∃ g, v = .pointer (some ⟨g, 0, none⟩) ∧ W1.heap.size ≤ g ∧ Form W g 29 6,
      .three 6 5 (fun p r _ W => Put6 W1.heap.size 29 p r W)]
     (fun W => Ext w W ∧ Bx6 W w.heap.size 29 (.bool b1) (.slice a1 n1 c1) (.slice d1 m1 o1) (.bool bb1) (.slice aa1 nn1 cc1) (.slice dd1 mm1 oo1) ∧ Bx6 W (w.heap.size + 1) 29 (.bool b2) (.slice a2 n2 c2) (.slice d2 m2 o2) (.bool bb2) (.slice aa2 nn2 cc2) (.slice dd2 mm2 oo2) ∧ Bx3 W (w.heap.size + 1 + 1) 27 (.bool b3) (.slice a3 n3 c3) (.slice d3 m3 o3) ∧ Sw W (.agg #[.bool b1, .slice a1 n1 c1, .slice d1 m1 o1, .bool bb1, .slice aa1 nn1 cc1, .slice dd1 mm1 oo1]) p ∧ Sw W (.agg #[.bool b2, .slice a2 n2 c2, .slice d2 m2 o2, .bool bb2, .slice aa2 nn2 cc2, .slice dd2 mm2 oo2]) q ∧ Rw W (.agg #[.bool b3, .slice a3 n3 c3, .slice d3 m3 o3]) x ∧ Sw W (.agg #[.bool b1_8, .slice a1_8 n1_8 c1_8, .slice d1_8 m1_8 o1_8, .bool bb1_8, .slice aa1_8 nn1_8 cc1_8, .slice dd1_8 mm1_8 oo1_8]) ((p.1, p.1)) ∧ Bx6 W g1_8 29 (.bool b1_8) (.slice a1_8 n1_8 c1_8) (.slice d1_8 m1_8 o1_8) (.bool bb1_8) (.slice aa1_8 nn1_8 cc1_8) (.slice dd1_8 mm1_8 oo1_8) ∧ Sw W (.agg #[.bool b1_9, .slice a1_9 n1_9 c1_9, .slice d1_9 m1_9 o1_9, .bool bb1_9, .slice aa1_9 nn1_9 cc1_9, .slice dd1_9 mm1_9 oo1_9]) ((q.2, q.2)) ∧ Bx6 W g1_9 29 (.bool b1_9) (.slice a1_9 n1_9 c1_9) (.slice d1_9 m1_9 o1_9) (.bool bb1_9) (.slice aa1_9 nn1_9 cc1_9) (.slice dd1_9 mm1_9 oo1_9) ∧ W1.heap.size ≤ W.heap.size) ⟨Good.is _, Good.is _, Good.is _, Good.is _, Good.rat _, Good.span _, Good.box _ _ _, cert_put6, trivial⟩
     ⟨E0, p3, p4, p5, hsp, hsq, hx, h1_2, p1_8, h1_5, p1_9, Nat.le_refl _⟩ (A := ?A2) ?hA2 ?howe2 ?hfin2
    case hA2 =>
     intro vs
     simp only [putAll, Act.put, sA, sZ, sS, Nat.zero_add, Nat.reduceAdd]
     exact rfl
    case howe2 =>
     clear E0 p3 p4 p5 hsp hsq hx h1_2 p1_8 h1_5 p1_9
     intro hf
     refine ⟨oE 0 [] hf rfl ?_, oE 1 [0] hf rfl ?_, oE 2 [] hf rfl ?_, oE 3 [2] hf rfl ?_, oE 4 [1, 3] hf rfl ?_, oE 5 [4] hf rfl ?_, oE 6 [] hf rfl ?_, oW 7 [6, 5] hf rfl ?_, trivial⟩
     all_goals intro vs W hS hp hx KO hKO
     all_goals simp only [Act.put, sA, sZ, sS] at hKO
     ·go_simp; exact hKO _ W (.refl W) rfl
     ·have e0 := isOf hp.1; simp only [e0] at hKO; have fc0 := hS.2.1.cell0; have fc1 := hS.2.1.cell1; have fc2 := hS.2.1.cell2; go_simp; exact hKO _ W (.refl W) rfl
     ·go_simp; exact hKO _ W (.refl W) rfl
     ·have e2 := isOf hp.1; simp only [e2] at hKO; have fc3 := hS.2.2.1.cell3; have fc4 := hS.2.2.1.cell4; have fc5 := hS.2.2.1.cell5; go_simp; exact hKO _ W (.refl W) rfl
     ·have e1 := isOf hp.1; have e3 := isOf hp.2.1; simp only [e1, e3] at hKO; go_simp
      refine (Tryz.refRAdd (hS.2.2.2.2.1.lo) (hS.2.2.2.2.2.1.hi) SP.out.lo SQ.out.hi (by omega)).mono ?_
      rintro e W1 ⟨v, rfl, hv, hE⟩
      exact hKO _ W1 hE hv
     ·have q4 := hp.1; go_simp
      refine (Tryz.ivOf q4).mono ?_
      rintro e W1 ⟨v, rfl, hv, hE⟩
      exact hKO _ W1 hE hv
     ·have hn := Bx6.new W 29 (.bool false) (.slice none 0 0) (.slice none 0 0) (.bool false) (.slice none 0 0) (.slice none 0 0)
      have hE := Ext.alloc1 W (.cells #[.bool false, .slice none 0 0, .slice none 0 0, .bool false, .slice none 0 0, .slice none 0 0] 29)
      have hsz := hS.2.2.2.2.2.2.2.2.2.2.2
      go_simp
      exact hKO _ _ hE ⟨_, rfl, hsz, hn.form⟩
     ·have q6 := hp.1; have q5 := hp.2.1
      obtain ⟨g, ev, hg, hf⟩ := q6
      replace ev : vs 6 = _ := ev
      obtain ⟨x0_0, x0_1, x0_2, x0_3, x0_4, x0_5, hx, hno⟩ := hf.bx6
      have qr := q5
      obtain ⟨b3, a3, n3, c3, d3, m3, o3, bb3, aa3, nn3, cc3, dd3, mm3, oo3, er, -, -⟩ := qr
      replace er : vs 5 = _ := er
      have r0 := hx.froz0
      have t0 := hx.cell0
      have r1 := hx.froz1
      have t1 := hx.cell1
      have r2 := hx.froz2
      have t2 := hx.cell2
      have r3 := hx.froz3
      have t3 := hx.cell3
      have r4 := hx.froz4
      have t4 := hx.cell4
      have r5 := hx.froz5
      have t5 := hx.cell5
      have hw := Wr.set6 hx hno b3 a3 n3 c3 d3 m3 o3 bb3 aa3 nn3 cc3 dd3 mm3 oo3
      have hq := hx.set (.bool b3) (.slice a3 n3 c3) (.slice d3 m3 o3) (.bool bb3) (.slice aa3 nn3 cc3) (.slice dd3 mm3 oo3)
      simp only [ev, er] at hKO; go_simp
      exact hKO _ _ hw ⟨(Ext.wr hS.1 hw (by omega)), (hS.2.1.wr hw (by omega)), (hS.2.2.1.wr hw (by omega)), (hS.2.2.2.1.wr hw (by omega)), (hS.2.2.2.2.1.wr hw), (hS.2.2.2.2.2.1.wr hw), (hS.2.2.2.2.2.2.1.wr hw), (hS.2.2.2.2.2.2.2.1.wr hw), (hS.2.2.2.2.2.2.2.2.1.wr hw (by omega)), (hS.2.2.2.2.2.2.2.2.2.1.wr hw), (hS.2.2.2.2.2.2.2.2.2.2.1.wr hw (by omega)), (Nat.le_trans hS.2.2.2.2.2.2.2.2.2.2.2 hw.apart.size)⟩ ⟨g, b3, a3, n3, c3, d3, m3, o3, bb3, aa3, nn3, cc3, dd3, mm3, oo3, ev, er, hg, hq⟩
    intro vs W2 hS hp
    clear szw2 E0 p3 p4 p5 hsp hsq hx h1_2 p1_8 h1_5 p1_9
    obtain ⟨E0, p3, p4, p5, hsp, hsq, hx, h1_2, p1_8, h1_5, p1_9, sz2⟩ := hS
    obtain ⟨h2_0, h2_1, h2_2, h2_3, h2_4, h2_5, h2_6, h2_7, -⟩ := hp
    obtain ⟨g2_7, b2_7, a2_7, n2_7, c2_7, d2_7, m2_7, o2_7, bb2_7, aa2_7, nn2_7, cc2_7, dd2_7, mm2_7, oo2_7, ev2_7, er2_7, hg2_7, p2_7⟩ := h2_7
    replace ev2_7 : vs 6 = _ := ev2_7; replace er2_7 : vs 5 = _ := er2_7; replace h2_5 := (show Sw W2 (vs 5) ((p.1 + q.2, p.1 + q.2)) from h2_5)
    rw [er2_7] at h2_5
    replace h2_0 : vs 0 = .pointer (some ⟨w.heap.size, 0, none⟩) := h2_0
    replace h2_1 : vs 1 = .agg #[.bool b1, .slice a1 n1 c1, .slice d1 m1 o1] := h2_1
    replace h2_2 : vs 2 = .pointer (some ⟨w.heap.size + 1, 3, none⟩) := h2_2
    replace h2_3 : vs 3 = .agg #[.bool bb2, .slice aa2 nn2 cc2, .slice dd2 mm2 oo2] := h2_3
    simp only [ev2_7, er2_7, h2_0, h2_1, h2_2, h2_3]
    replace h2_4 : Rw W2 (vs 4) (p.1 + q.2) := h2_4
    generalize vs 4 = u2_4 at h2_4 ⊢
    clear ev2_7 er2_7 h2_0 h2_1 h2_2 h2_3 h2_6
    obtain ⟨kp3_0, kp3_1, kp3_2, kp3_3, kp3_4, kp3_5⟩ := p3.c6
    obtain ⟨kp4_0, kp4_1, kp4_2, kp4_3, kp4_4, kp4_5⟩ := p4.c6
    obtain ⟨kp5_0, kp5_1, kp5_2⟩ := p5.c3
    obtain ⟨kp1_8_0, kp1_8_1, kp1_8_2, kp1_8_3, kp1_8_4, kp1_8_5⟩ := p1_8.c6
    obtain ⟨kp1_9_0, kp1_9_1, kp1_9_2, kp1_9_3, kp1_9_4, kp1_9_5⟩ := p1_9.c6
    obtain ⟨kp2_7_0, kp2_7_1, kp2_7_2, kp2_7_3, kp2_7_4, kp2_7_5⟩ := p2_7.c6
    go_upto_region 5 with (fail)
    clear kp3_0 kp3_1 kp3_2 kp3_3 kp3_4 kp3_5 kp4_0 kp4_1 kp4_2 kp4_3 kp4_4 kp4_5 kp5_0 kp5_1 kp5_2 kp1_8_0 kp1_8_1 kp1_8_2 kp1_8_3 kp1_8_4 kp1_8_5 kp1_9_0 kp1_9_1 kp1_9_2 kp1_9_3 kp1_9_4 kp1_9_5 kp2_7_0 kp2_7_1 kp2_7_2 kp2_7_3 kp2_7_4 kp2_7_5; have ltp2_7 := p2_7.lt; have szw3 := Ext.size E0
    refine region_gs [.one fun v _ => v = .pointer (some ⟨w.heap.size, 0, none⟩),
      .one fun v _ => v = .agg #[.bool b1, .slice a1 n1 c1, .slice d1 m1 o1],
      .one fun v _ => v = .pointer (some ⟨w.heap.size + 1, 3, none⟩),
      .one fun v _ => v = .agg #[.bool bb2, .slice aa2 nn2 cc2, .slice dd2 mm2 oo2],
      .one fun v W => Rw W v (p.1 * q.2),
      .one fun v W => Sw W v ((p.1 * q.2, p.1 * q.2)),
      .one fun v W => ∃ g, v = .pointer (some ⟨g, 0, none⟩) ∧ W2.heap.size ≤ g ∧ Form W g 29 6,
      .three 6 5 (fun p r _ W => Put6 W2.heap.size 29 p r W)]
     (fun W => Ext w W ∧ Bx6 W w.heap.size 29 (.bool b1) (.slice a1 n1 c1) (.slice d1 m1 o1) (.bool bb1) (.slice aa1 nn1 cc1) (.slice dd1 mm1 oo1) ∧ Bx6 W (w.heap.size + 1) 29 (.bool b2) (.slice a2 n2 c2) (.slice d2 m2 o2) (.bool bb2) (.slice aa2 nn2 cc2) (.slice dd2 mm2 oo2) ∧ Bx3 W (w.heap.size + 1 + 1) 27 (.bool b3) (.slice a3 n3 c3) (.slice d3 m3 o3) ∧ Sw W (.agg #[.bool b1, .slice a1 n1 c1, .slice d1 m1 o1, .bool bb1, .slice aa1 nn1 cc1, .slice dd1 mm1 oo1]) p ∧ Sw W (.agg #[.bool b2, .slice a2 n2 c2, .slice d2 m2 o2, .bool bb2, .slice aa2 nn2 cc2, .slice dd2 mm2 oo2]) q ∧ Rw W (.agg #[.bool b3, .slice a3 n3 c3, .slice d3 m3 o3]) x ∧ Sw W (.agg #[.bool b1_8, .slice a1_8 n1_8 c1_8, .slice d1_8 m1_8 o1_8, .bool bb1_8, .slice aa1_8 nn1_8 cc1_8, .slice dd1_8 mm1_8 oo1_8]) ((p.1, p.1)) ∧ Bx6 W g1_8 29 (.bool b1_8) (.slice a1_8 n1_8 c1_8) (.slice d1_8 m1_8 o1_8) (.bool bb1_8) (.slice aa1_8 nn1_8 cc1_8) (.slice dd1_8 mm1_8 oo1_8) ∧ Sw W (.agg #[.bool b1_9, .slice a1_9 n1_9 c1_9, .slice d1_9 m1_9 o1_9, .bool bb1_9, .slice aa1_9 nn1_9 cc1_9, .slice dd1_9 mm1_9 oo1_9]) ((q.2, q.2)) ∧ Bx6 W g1_9 29 (.bool b1_9) (.slice a1_9 n1_9 c1_9) (.slice d1_9 m1_9 o1_9) (.bool bb1_9) (.slice aa1_9 nn1_9 cc1_9) (.slice dd1_9 mm1_9 oo1_9) ∧ Sw W (.agg #[.bool b2_7, .slice a2_7 n2_7 c2_7, .slice d2_7 m2_7 o2_7, .bool bb2_7, .slice aa2_7 nn2_7 cc2_7, .slice dd2_7 mm2_7 oo2_7]) ((p.1 + q.2, p.1 + q.2)) ∧ Bx6 W g2_7 29 (.bool b2_7) (.slice a2_7 n2_7 c2_7) (.slice d2_7 m2_7 o2_7) (.bool bb2_7) (.slice aa2_7 nn2_7 cc2_7) (.slice dd2_7 mm2_7 oo2_7) ∧ Rw W u2_4 (p.1 + q.2) ∧ W2.heap.size ≤ W.heap.size) ⟨Good.is _, Good.is _, Good.is _, Good.is _, Good.rat _, Good.span _, Good.box _ _ _, cert_put6, trivial⟩
     ⟨E0, p3, p4, p5, hsp, hsq, hx, h1_2, p1_8, h1_5, p1_9, h2_5, p2_7, h2_4, Nat.le_refl _⟩ (A := ?A3) ?hA3 ?howe3 ?hfin3
    case hA3 =>
     intro vs
     simp only [putAll, Act.put, sA, sZ, sS, Nat.zero_add, Nat.reduceAdd]
     exact rfl
    case howe3 =>
     clear E0 p3 p4 p5 hsp hsq hx h1_2 p1_8 h1_5 p1_9 h2_5 p2_7 h2_4
     intro hf
     refine ⟨oE 0 [] hf rfl ?_, oE 1 [0] hf rfl ?_, oE 2 [] hf rfl ?_, oE 3 [2] hf rfl ?_, oE 4 [1, 3] hf rfl ?_, oE 5 [4] hf rfl ?_, oE 6 [] hf rfl ?_, oW 7 [6, 5] hf rfl ?_, trivial⟩
     all_goals intro vs W hS hp hx KO hKO
     all_goals simp only [Act.put, sA, sZ, sS] at hKO
     ·go_simp; exact hKO _ W (.refl W) rfl
     ·have e0 := isOf hp.1; simp only [e0] at hKO; have fc0 := hS.2.1.cell0; have fc1 := hS.2.1.cell1; have fc2 := hS.2.1.cell2; go_simp; exact hKO _ W (.refl W) rfl
     ·go_simp; exact hKO _ W (.refl W) rfl
     ·have e2 := isOf hp.1; simp only [e2] at hKO; have fc3 := hS.2.2.1.cell3; have fc4 := hS.2.2.1.cell4; have fc5 := hS.2.2.1.cell5; go_simp; exact hKO _ W (.refl W) rfl
     ·have e1 := isOf hp.1; have e3 := isOf hp.2.1; simp only [e1, e3] at hKO; go_simp
      refine (Tryz.refRMul (hS.2.2.2.2.1.lo) (hS.2.2.2.2.2.1.hi) SP.out.lo SQ.out.hi (by omega)).mono ?_
      rintro e W1 ⟨v, rfl, hv, hE⟩
      exact hKO _ W1 hE hv
     ·have q4 := hp.1; go_simp
      refine (Tryz.ivOf q4).mono ?_
      rintro e W1 ⟨v, rfl, hv, hE⟩
      exact hKO _ W1 hE hv
     ·have hn := Bx6.new W 29 (.bool false) (.slice none 0 0) (.slice none 0 0) (.bool false) (.slice none 0 0) (.slice none 0 0)
      have hE := Ext.alloc1 W (.cells #[.bool false, .slice none 0 0, .slice none 0 0, .bool false, .slice none 0 0, .slice none 0 0] 29)
      have hsz := hS.2.2.2.2.2.2.2.2.2.2.2.2.2.2
      go_simp
      exact hKO _ _ hE ⟨_, rfl, hsz, hn.form⟩
     ·have q6 := hp.1; have q5 := hp.2.1
      obtain ⟨g, ev, hg, hf⟩ := q6
      replace ev : vs 6 = _ := ev
      obtain ⟨x0_0, x0_1, x0_2, x0_3, x0_4, x0_5, hx, hno⟩ := hf.bx6
      have qr := q5
      obtain ⟨b3, a3, n3, c3, d3, m3, o3, bb3, aa3, nn3, cc3, dd3, mm3, oo3, er, -, -⟩ := qr
      replace er : vs 5 = _ := er
      have r0 := hx.froz0
      have t0 := hx.cell0
      have r1 := hx.froz1
      have t1 := hx.cell1
      have r2 := hx.froz2
      have t2 := hx.cell2
      have r3 := hx.froz3
      have t3 := hx.cell3
      have r4 := hx.froz4
      have t4 := hx.cell4
      have r5 := hx.froz5
      have t5 := hx.cell5
      have hw := Wr.set6 hx hno b3 a3 n3 c3 d3 m3 o3 bb3 aa3 nn3 cc3 dd3 mm3 oo3
      have hq := hx.set (.bool b3) (.slice a3 n3 c3) (.slice d3 m3 o3) (.bool bb3) (.slice aa3 nn3 cc3) (.slice dd3 mm3 oo3)
      simp only [ev, er] at hKO; go_simp
      exact hKO _ _ hw ⟨(Ext.wr hS.1 hw (by omega)), (hS.2.1.wr hw (by omega)), (hS.2.2.1.wr hw (by omega)), (hS.2.2.2.1.wr hw (by omega)), (hS.2.2.2.2.1.wr hw), (hS.2.2.2.2.2.1.wr hw), (hS.2.2.2.2.2.2.1.wr hw), (hS.2.2.2.2.2.2.2.1.wr hw), (hS.2.2.2.2.2.2.2.2.1.wr hw (by omega)), (hS.2.2.2.2.2.2.2.2.2.1.wr hw), (hS.2.2.2.2.2.2.2.2.2.2.1.wr hw (by omega)), (hS.2.2.2.2.2.2.2.2.2.2.2.1.wr hw), (hS.2.2.2.2.2.2.2.2.2.2.2.2.1.wr hw (by omega)), (hS.2.2.2.2.2.2.2.2.2.2.2.2.2.1.wr hw), (Nat.le_trans hS.2.2.2.2.2.2.2.2.2.2.2.2.2.2 hw.apart.size)⟩ ⟨g, b3, a3, n3, c3, d3, m3, o3, bb3, aa3, nn3, cc3, dd3, mm3, oo3, ev, er, hg, hq⟩
    intro vs W3 hS hp
    clear szw3 E0 p3 p4 p5 hsp hsq hx h1_2 p1_8 h1_5 p1_9 h2_5 p2_7 h2_4
    obtain ⟨E0, p3, p4, p5, hsp, hsq, hx, h1_2, p1_8, h1_5, p1_9, h2_5, p2_7, h2_4, sz3⟩ := hS
    obtain ⟨h3_0, h3_1, h3_2, h3_3, h3_4, h3_5, h3_6, h3_7, -⟩ := hp
    obtain ⟨g3_7, b3_7, a3_7, n3_7, c3_7, d3_7, m3_7, o3_7, bb3_7, aa3_7, nn3_7, cc3_7, dd3_7, mm3_7, oo3_7, ev3_7, er3_7, hg3_7, p3_7⟩ := h3_7
    replace ev3_7 : vs 6 = _ := ev3_7; replace er3_7 : vs 5 = _ := er3_7; replace h3_5 := (show Sw W3 (vs 5) ((p.1 * q.2, p.1 * q.2)) from h3_5)
    rw [er3_7] at h3_5
    replace h3_0 : vs 0 = .pointer (some ⟨w.heap.size, 0, none⟩) := h3_0
    replace h3_1 : vs 1 = .agg #[.bool b1, .slice a1 n1 c1, .slice d1 m1 o1] := h3_1
    replace h3_2 : vs 2 = .pointer (some ⟨w.heap.size + 1, 3, none⟩) := h3_2
    replace h3_3 : vs 3 = .agg #[.bool bb2, .slice aa2 nn2 cc2, .slice dd2 mm2 oo2] := h3_3
    simp only [ev3_7, er3_7, h3_0, h3_1, h3_2, h3_3]
    replace h3_4 : Rw W3 (vs 4) (p.1 * q.2) := h3_4
    generalize vs 4 = u3_4 at h3_4 ⊢
    clear ev3_7 er3_7 h3_0 h3_1 h3_2 h3_3 h3_6
    obtain ⟨kp3_0, kp3_1, kp3_2, kp3_3, kp3_4, kp3_5⟩ := p3.c6
    obtain ⟨kp4_0, kp4_1, kp4_2, kp4_3, kp4_4, kp4_5⟩ := p4.c6
    obtain ⟨kp5_0, kp5_1, kp5_2⟩ := p5.c3
    obtain ⟨kp1_8_0, kp1_8_1, kp1_8_2, kp1_8_3, kp1_8_4, kp1_8_5⟩ := p1_8.c6
    obtain ⟨kp1_9_0, kp1_9_1, kp1_9_2, kp1_9_3, kp1_9_4, kp1_9_5⟩ := p1_9.c6
    obtain ⟨kp2_7_0, kp2_7_1, kp2_7_2, kp2_7_3, kp2_7_4, kp2_7_5⟩ := p2_7.c6
    obtain ⟨kp3_7_0, kp3_7_1, kp3_7_2, kp3_7_3, kp3_7_4, kp3_7_5⟩ := p3_7.c6
    go_upto_region 6 with (fail)
    clear kp3_0 kp3_1 kp3_2 kp3_3 kp3_4 kp3_5 kp4_0 kp4_1 kp4_2 kp4_3 kp4_4 kp4_5 kp5_0 kp5_1 kp5_2 kp1_8_0 kp1_8_1 kp1_8_2 kp1_8_3 kp1_8_4 kp1_8_5 kp1_9_0 kp1_9_1 kp1_9_2 kp1_9_3 kp1_9_4 kp1_9_5 kp2_7_0 kp2_7_1 kp2_7_2 kp2_7_3 kp2_7_4 kp2_7_5 kp3_7_0 kp3_7_1 kp3_7_2 kp3_7_3 kp3_7_4 kp3_7_5; have ltp3_7 := p3_7.lt; have szw4 := Ext.size E0
    refine region_gs [.one fun v _ => v = .agg #[.bool b1_8, .slice a1_8 n1_8 c1_8, .slice d1_8 m1_8 o1_8, .bool bb1_8, .slice aa1_8 nn1_8 cc1_8, .slice dd1_8 mm1_8 oo1_8],
      .one fun v _ => v = .agg #[.bool b1_9, .slice a1_9 n1_9 c1_9, .slice d1_9 m1_9 o1_9, .bool bb1_9, .slice aa1_9 nn1_9 cc1_9, .slice dd1_9 mm1_9 oo1_9],
      .one fun v W => Sw W v ((p.1 + q.2, p.1 + q.2)),
      .one fun v _ => v = .agg #[.bool b2_7, .slice a2_7 n2_7 c2_7, .slice d2_7 m2_7 o2_7, .bool bb2_7, .slice aa2_7 nn2_7 cc2_7, .slice dd2_7 mm2_7 oo2_7],
      .one fun v _ => v = .bool true,
      .one fun v _ => v = .bool true,
      .one fun v _ => v = .agg #[.bool b1_8, .slice a1_8 n1_8 c1_8, .slice d1_8 m1_8 o1_8, .bool bb1_8, .slice aa1_8 nn1_8 cc1_8, .slice dd1_8 mm1_8 oo1_8],
      .one fun v _ => v = .agg #[.bool b1_9, .slice a1_9 n1_9 c1_9, .slice d1_9 m1_9 o1_9, .bool bb1_9, .slice aa1_9 nn1_9 cc1_9, .slice dd1_9 mm1_9 oo1_9],
      .one fun v W => Sw W v (mulS (p.1, p.1) (q.2, q.2)),
      .one fun v _ => v = .agg #[.bool b3_7, .slice a3_7 n3_7 c3_7, .slice d3_7 m3_7 o3_7, .bool bb3_7, .slice aa3_7 nn3_7 cc3_7, .slice dd3_7 mm3_7 oo3_7],
      .one fun v _ => v = .bool true,
      .one fun v _ => v = .bool true,
      .one fun v _ => v = .bool true]
     (fun W => Ext w W ∧ Bx6 W w.heap.size 29 (.bool b1) (.slice a1 n1 c1) (.slice d1 m1 o1) (.bool bb1) (.slice aa1 nn1 cc1) (.slice dd1 mm1 oo1) ∧ Bx6 W (w.heap.size + 1) 29 (.bool b2) (.slice a2 n2 c2) (.slice d2 m2 o2) (.bool bb2) (.slice aa2 nn2 cc2) (.slice dd2 mm2 oo2) ∧ Bx3 W (w.heap.size + 1 + 1) 27 (.bool b3) (.slice a3 n3 c3) (.slice d3 m3 o3) ∧ Sw W (.agg #[.bool b1, .slice a1 n1 c1, .slice d1 m1 o1, .bool bb1, .slice aa1 nn1 cc1, .slice dd1 mm1 oo1]) p ∧ Sw W (.agg #[.bool b2, .slice a2 n2 c2, .slice d2 m2 o2, .bool bb2, .slice aa2 nn2 cc2, .slice dd2 mm2 oo2]) q ∧ Rw W (.agg #[.bool b3, .slice a3 n3 c3, .slice d3 m3 o3]) x ∧ Sw W (.agg #[.bool b1_8, .slice a1_8 n1_8 c1_8, .slice d1_8 m1_8 o1_8, .bool bb1_8, .slice aa1_8 nn1_8 cc1_8, .slice dd1_8 mm1_8 oo1_8]) ((p.1, p.1)) ∧ Bx6 W g1_8 29 (.bool b1_8) (.slice a1_8 n1_8 c1_8) (.slice d1_8 m1_8 o1_8) (.bool bb1_8) (.slice aa1_8 nn1_8 cc1_8) (.slice dd1_8 mm1_8 oo1_8) ∧ Sw W (.agg #[.bool b1_9, .slice a1_9 n1_9 c1_9, .slice d1_9 m1_9 o1_9, .bool bb1_9, .slice aa1_9 nn1_9 cc1_9, .slice dd1_9 mm1_9 oo1_9]) ((q.2, q.2)) ∧ Bx6 W g1_9 29 (.bool b1_9) (.slice a1_9 n1_9 c1_9) (.slice d1_9 m1_9 o1_9) (.bool bb1_9) (.slice aa1_9 nn1_9 cc1_9) (.slice dd1_9 mm1_9 oo1_9) ∧ Sw W (.agg #[.bool b2_7, .slice a2_7 n2_7 c2_7, .slice d2_7 m2_7 o2_7, .bool bb2_7, .slice aa2_7 nn2_7 cc2_7, .slice dd2_7 mm2_7 oo2_7]) ((p.1 + q.2, p.1 + q.2)) ∧ Bx6 W g2_7 29 (.bool b2_7) (.slice a2_7 n2_7 c2_7) (.slice d2_7 m2_7 o2_7) (.bool bb2_7) (.slice aa2_7 nn2_7 cc2_7) (.slice dd2_7 mm2_7 oo2_7) ∧ Rw W u2_4 (p.1 + q.2) ∧ Sw W (.agg #[.bool b3_7, .slice a3_7 n3_7 c3_7, .slice d3_7 m3_7 o3_7, .bool bb3_7, .slice aa3_7 nn3_7 cc3_7, .slice dd3_7 mm3_7 oo3_7]) ((p.1 * q.2, p.1 * q.2)) ∧ Bx6 W g3_7 29 (.bool b3_7) (.slice a3_7 n3_7 c3_7) (.slice d3_7 m3_7 o3_7) (.bool bb3_7) (.slice aa3_7 nn3_7 cc3_7) (.slice dd3_7 mm3_7 oo3_7) ∧ Rw W u3_4 (p.1 * q.2) ∧ W3.heap.size ≤ W.heap.size) ⟨Good.is _, Good.is _, Good.span _, Good.is _, Good.is _, Good.is _, Good.is _, Good.is _, Good.span _, Good.is _, Good.is _, Good.is _, Good.is _, trivial⟩
     ⟨E0, p3, p4, p5, hsp, hsq, hx, h1_2, p1_8, h1_5, p1_9, h2_5, p2_7, h2_4, h3_5, p3_7, h3_4, Nat.le_refl _⟩ (A := ?A4) ?hA4 ?howe4 ?hfin4
    case hA4 =>
     intro vs
     simp only [putAll, Act.put, sA, sZ, sS, Nat.zero_add, Nat.reduceAdd]
     exact rfl
    case howe4 =>
     clear E0 p3 p4 p5 hsp hsq hx h1_2 p1_8 h1_5 p1_9 h2_5 p2_7 h2_4 h3_5 p3_7 h3_4
     intro hf
     refine ⟨oE 0 [] hf rfl ?_, oE 1 [] hf rfl ?_, oE 2 [0, 1] hf rfl ?_, oE 3 [] hf rfl ?_, oE 4 [2, 3] hf rfl ?_, oE 5 [4] hf rfl ?_, oE 6 [5] hf rfl ?_, oE 7 [5] hf rfl ?_, oE 8 [5, 6, 7] hf rfl ?_, oE 9 [5] hf rfl ?_, oE 10 [5, 8, 9] hf rfl ?_, oE 11 [5, 10] hf rfl ?_, oE 12 [11] hf rfl ?_, trivial⟩
     all_goals intro vs W hS hp hx KO hKO
     all_goals simp only [Act.put, sA, sZ, sS] at hKO
     ·have fc0 := hS.2.2.2.2.2.2.2.2.1.cell0; have fc1 := hS.2.2.2.2.2.2.2.2.1.cell1; have fc2 := hS.2.2.2.2.2.2.2.2.1.cell2; have fc3 := hS.2.2.2.2.2.2.2.2.1.cell3; have fc4 := hS.2.2.2.2.2.2.2.2.1.cell4; have fc5 := hS.2.2.2.2.2.2.2.2.1.cell5; go_simp; exact hKO _ W (.refl W) rfl
     ·have fc0 := hS.2.2.2.2.2.2.2.2.2.2.1.cell0; have fc1 := hS.2.2.2.2.2.2.2.2.2.2.1.cell1; have fc2 := hS.2.2.2.2.2.2.2.2.2.2.1.cell2; have fc3 := hS.2.2.2.2.2.2.2.2.2.2.1.cell3; have fc4 := hS.2.2.2.2.2.2.2.2.2.2.1.cell4; have fc5 := hS.2.2.2.2.2.2.2.2.2.2.1.cell5; go_simp; exact hKO _ W (.refl W) rfl
     ·have e0 := isOf hp.1; have e1 := isOf hp.2.1; simp only [e0, e1] at hKO; go_simp
      refine (Tryz.ivAdd (hS.2.2.2.2.2.2.2.1) (hS.2.2.2.2.2.2.2.2.2.1) ⟨SP.out.lo, SP.out.lo⟩ ⟨SQ.out.hi, SQ.out.hi⟩ (by omega)).mono ?_
      rintro e W1 ⟨v, rfl, hv, hE⟩
      exact hKO _ W1 hE hv
     ·have fc0 := hS.2.2.2.2.2.2.2.2.2.2.2.2.1.cell0; have fc1 := hS.2.2.2.2.2.2.2.2.2.2.2.2.1.cell1; have fc2 := hS.2.2.2.2.2.2.2.2.2.2.2.2.1.cell2; have fc3 := hS.2.2.2.2.2.2.2.2.2.2.2.2.1.cell3; have fc4 := hS.2.2.2.2.2.2.2.2.2.2.2.2.1.cell4; have fc5 := hS.2.2.2.2.2.2.2.2.2.2.2.2.1.cell5; go_simp; exact hKO _ W (.refl W) rfl
     ·have q2 := hp.1; have e3 := isOf hp.2.1; simp only [e3] at hKO; go_simp
      refine (Tryz.rsSameT q2 (hS.2.2.2.2.2.2.2.2.2.2.2.1) rfl).mono ?_
      rintro e W1 ⟨rfl, hE⟩
      exact hKO _ W1 hE rfl
     ·have e4 := isOf hp.1; simp only [e4] at hKO; go_simp; exact hKO _ W (.refl W) rfl
     ·have e5 := isOf hp.1; simp only [e5] at hKO; have fc0 := hS.2.2.2.2.2.2.2.2.1.cell0; have fc1 := hS.2.2.2.2.2.2.2.2.1.cell1; have fc2 := hS.2.2.2.2.2.2.2.2.1.cell2; have fc3 := hS.2.2.2.2.2.2.2.2.1.cell3; have fc4 := hS.2.2.2.2.2.2.2.2.1.cell4; have fc5 := hS.2.2.2.2.2.2.2.2.1.cell5; go_simp; exact hKO _ W (.refl W) rfl
     ·have e5 := isOf hp.1; simp only [e5] at hKO; have fc0 := hS.2.2.2.2.2.2.2.2.2.2.1.cell0; have fc1 := hS.2.2.2.2.2.2.2.2.2.2.1.cell1; have fc2 := hS.2.2.2.2.2.2.2.2.2.2.1.cell2; have fc3 := hS.2.2.2.2.2.2.2.2.2.2.1.cell3; have fc4 := hS.2.2.2.2.2.2.2.2.2.2.1.cell4; have fc5 := hS.2.2.2.2.2.2.2.2.2.2.1.cell5; go_simp; exact hKO _ W (.refl W) rfl
     ·have e5 := isOf hp.1; have e6 := isOf hp.2.1; have e7 := isOf hp.2.2.1; simp only [e5, e6, e7] at hKO; go_simp
      refine (Tryz.ivMul (hS.2.2.2.2.2.2.2.1) (hS.2.2.2.2.2.2.2.2.2.1) ⟨SP.out.lo, SP.out.lo⟩ ⟨SQ.out.hi, SQ.out.hi⟩ (by omega)).mono ?_
      rintro e W1 ⟨v, rfl, hv, hE⟩
      exact hKO _ W1 hE hv
     ·have e5 := isOf hp.1; simp only [e5] at hKO; have fc0 := hS.2.2.2.2.2.2.2.2.2.2.2.2.2.2.2.1.cell0; have fc1 := hS.2.2.2.2.2.2.2.2.2.2.2.2.2.2.2.1.cell1; have fc2 := hS.2.2.2.2.2.2.2.2.2.2.2.2.2.2.2.1.cell2; have fc3 := hS.2.2.2.2.2.2.2.2.2.2.2.2.2.2.2.1.cell3; have fc4 := hS.2.2.2.2.2.2.2.2.2.2.2.2.2.2.2.1.cell4; have fc5 := hS.2.2.2.2.2.2.2.2.2.2.2.2.2.2.2.1.cell5; go_simp; exact hKO _ W (.refl W) rfl
     ·have e5 := isOf hp.1; have q8 := hp.2.1; have e9 := isOf hp.2.2.1; simp only [e5, e9] at hKO; go_simp
      refine (Tryz.rsSameT q8 (hS.2.2.2.2.2.2.2.2.2.2.2.2.2.2.1) H1.out).mono ?_
      rintro e W1 ⟨rfl, hE⟩
      exact hKO _ W1 hE rfl
     ·have e5 := isOf hp.1; have e10 := isOf hp.2.1; simp only [e5, e10] at hKO; go_simp; exact hKO _ W (.refl W) rfl
     ·have e11 := isOf hp.1; simp only [e11] at hKO; go_simp; exact hKO _ W (.refl W) rfl
    intro vs W4 hS hp
    clear szw4 E0 p3 p4 p5 hsp hsq hx h1_2 p1_8 h1_5 p1_9 h2_5 p2_7 h2_4 h3_5 p3_7 h3_4
    obtain ⟨E0, p3, p4, p5, hsp, hsq, hx, h1_2, p1_8, h1_5, p1_9, h2_5, p2_7, h2_4, h3_5, p3_7, h3_4, sz4⟩ := hS
    obtain ⟨h4_0, h4_1, h4_2, h4_3, h4_4, h4_5, h4_6, h4_7, h4_8, h4_9, h4_10, h4_11, h4_12, -⟩ := hp
    replace h4_0 : vs 0 = .agg #[.bool b1_8, .slice a1_8 n1_8 c1_8, .slice d1_8 m1_8 o1_8, .bool bb1_8, .slice aa1_8 nn1_8 cc1_8, .slice dd1_8 mm1_8 oo1_8] := h4_0
    replace h4_1 : vs 1 = .agg #[.bool b1_9, .slice a1_9 n1_9 c1_9, .slice d1_9 m1_9 o1_9, .bool bb1_9, .slice aa1_9 nn1_9 cc1_9, .slice dd1_9 mm1_9 oo1_9] := h4_1
    replace h4_3 : vs 3 = .agg #[.bool b2_7, .slice a2_7 n2_7 c2_7, .slice d2_7 m2_7 o2_7, .bool bb2_7, .slice aa2_7 nn2_7 cc2_7, .slice dd2_7 mm2_7 oo2_7] := h4_3
    replace h4_4 : vs 4 = .bool true := h4_4
    replace h4_5 : vs 5 = .bool true := h4_5
    replace h4_6 : vs 6 = .agg #[.bool b1_8, .slice a1_8 n1_8 c1_8, .slice d1_8 m1_8 o1_8, .bool bb1_8, .slice aa1_8 nn1_8 cc1_8, .slice dd1_8 mm1_8 oo1_8] := h4_6
    replace h4_7 : vs 7 = .agg #[.bool b1_9, .slice a1_9 n1_9 c1_9, .slice d1_9 m1_9 o1_9, .bool bb1_9, .slice aa1_9 nn1_9 cc1_9, .slice dd1_9 mm1_9 oo1_9] := h4_7
    replace h4_9 : vs 9 = .agg #[.bool b3_7, .slice a3_7 n3_7 c3_7, .slice d3_7 m3_7 o3_7, .bool bb3_7, .slice aa3_7 nn3_7 cc3_7, .slice dd3_7 mm3_7 oo3_7] := h4_9
    replace h4_10 : vs 10 = .bool true := h4_10
    replace h4_11 : vs 11 = .bool true := h4_11
    replace h4_12 : vs 12 = .bool true := h4_12
    simp only [h4_0, h4_1, h4_3, h4_4, h4_5, h4_6, h4_7, h4_9, h4_10, h4_11, h4_12]
    replace h4_2 : Sw W4 (vs 2) ((p.1 + q.2, p.1 + q.2)) := h4_2
    generalize vs 2 = u4_2 at h4_2 ⊢
    replace h4_8 : Sw W4 (vs 8) (mulS (p.1, p.1) (q.2, q.2)) := h4_8
    generalize vs 8 = u4_8 at h4_8 ⊢
    clear h4_0 h4_1 h4_3 h4_4 h4_5 h4_6 h4_7 h4_9 h4_10 h4_11 h4_12
    obtain ⟨kp3_0, kp3_1, kp3_2, kp3_3, kp3_4, kp3_5⟩ := p3.c6
    obtain ⟨kp4_0, kp4_1, kp4_2, kp4_3, kp4_4, kp4_5⟩ := p4.c6
    obtain ⟨kp5_0, kp5_1, kp5_2⟩ := p5.c3
    obtain ⟨kp1_8_0, kp1_8_1, kp1_8_2, kp1_8_3, kp1_8_4, kp1_8_5⟩ := p1_8.c6
    obtain ⟨kp1_9_0, kp1_9_1, kp1_9_2, kp1_9_3, kp1_9_4, kp1_9_5⟩ := p1_9.c6
    obtain ⟨kp2_7_0, kp2_7_1, kp2_7_2, kp2_7_3, kp2_7_4, kp2_7_5⟩ := p2_7.c6
    obtain ⟨kp3_7_0, kp3_7_1, kp3_7_2, kp3_7_3, kp3_7_4, kp3_7_5⟩ := p3_7.c6
    go_upto_region 7 with (fail)
    clear kp3_0 kp3_1 kp3_2 kp3_3 kp3_4 kp3_5 kp4_0 kp4_1 kp4_2 kp4_3 kp4_4 kp4_5 kp5_0 kp5_1 kp5_2 kp1_8_0 kp1_8_1 kp1_8_2 kp1_8_3 kp1_8_4 kp1_8_5 kp1_9_0 kp1_9_1 kp1_9_2 kp1_9_3 kp1_9_4 kp1_9_5 kp2_7_0 kp2_7_1 kp2_7_2 kp2_7_3 kp2_7_4 kp2_7_5 kp3_7_0 kp3_7_1 kp3_7_2 kp3_7_3 kp3_7_4 kp3_7_5; have szw5 := Ext.size E0
    refine region_gs [.one fun v _ => v = .agg #[.bool b1, .slice a1 n1 c1, .slice d1 m1 o1, .bool bb1, .slice aa1 nn1 cc1, .slice dd1 mm1 oo1],
      .one fun v _ => v = .agg #[.bool b2, .slice a2 n2 c2, .slice d2 m2 o2, .bool bb2, .slice aa2 nn2 cc2, .slice dd2 mm2 oo2],
      .one fun v W => Sw W v ((p.1 + q.1, p.2 + q.2)),
      .one fun v _ => v = .agg #[.bool b2, .slice a2 n2 c2, .slice d2 m2 o2, .bool bb2, .slice aa2 nn2 cc2, .slice dd2 mm2 oo2],
      .one fun v _ => v = .agg #[.bool b1, .slice a1 n1 c1, .slice d1 m1 o1, .bool bb1, .slice aa1 nn1 cc1, .slice dd1 mm1 oo1],
      .one fun v W => Sw W v ((q.1 + p.1, q.2 + p.2)),
      .one fun v _ => v = .bool true,
      .one fun v _ => v = .bool true,
      .one fun v _ => v = .agg #[.bool b1, .slice a1 n1 c1, .slice d1 m1 o1, .bool bb1, .slice aa1 nn1 cc1, .slice dd1 mm1 oo1],
      .one fun v _ => v = .agg #[.bool b2, .slice a2 n2 c2, .slice d2 m2 o2, .bool bb2, .slice aa2 nn2 cc2, .slice dd2 mm2 oo2],
      .one fun v W => Sw W v (mulS p q),
      .one fun v _ => v = .agg #[.bool b2, .slice a2 n2 c2, .slice d2 m2 o2, .bool bb2, .slice aa2 nn2 cc2, .slice dd2 mm2 oo2],
      .one fun v _ => v = .agg #[.bool b1, .slice a1 n1 c1, .slice d1 m1 o1, .bool bb1, .slice aa1 nn1 cc1, .slice dd1 mm1 oo1],
      .one fun v W => Sw W v (mulS q p),
      .one fun v _ => v = .bool true,
      .one fun v _ => v = .bool true,
      .one fun v _ => v = .bool true]
     (fun W => Ext w W ∧ Bx6 W w.heap.size 29 (.bool b1) (.slice a1 n1 c1) (.slice d1 m1 o1) (.bool bb1) (.slice aa1 nn1 cc1) (.slice dd1 mm1 oo1) ∧ Bx6 W (w.heap.size + 1) 29 (.bool b2) (.slice a2 n2 c2) (.slice d2 m2 o2) (.bool bb2) (.slice aa2 nn2 cc2) (.slice dd2 mm2 oo2) ∧ Bx3 W (w.heap.size + 1 + 1) 27 (.bool b3) (.slice a3 n3 c3) (.slice d3 m3 o3) ∧ Sw W (.agg #[.bool b1, .slice a1 n1 c1, .slice d1 m1 o1, .bool bb1, .slice aa1 nn1 cc1, .slice dd1 mm1 oo1]) p ∧ Sw W (.agg #[.bool b2, .slice a2 n2 c2, .slice d2 m2 o2, .bool bb2, .slice aa2 nn2 cc2, .slice dd2 mm2 oo2]) q ∧ Rw W (.agg #[.bool b3, .slice a3 n3 c3, .slice d3 m3 o3]) x ∧ Sw W (.agg #[.bool b1_8, .slice a1_8 n1_8 c1_8, .slice d1_8 m1_8 o1_8, .bool bb1_8, .slice aa1_8 nn1_8 cc1_8, .slice dd1_8 mm1_8 oo1_8]) ((p.1, p.1)) ∧ Bx6 W g1_8 29 (.bool b1_8) (.slice a1_8 n1_8 c1_8) (.slice d1_8 m1_8 o1_8) (.bool bb1_8) (.slice aa1_8 nn1_8 cc1_8) (.slice dd1_8 mm1_8 oo1_8) ∧ Sw W (.agg #[.bool b1_9, .slice a1_9 n1_9 c1_9, .slice d1_9 m1_9 o1_9, .bool bb1_9, .slice aa1_9 nn1_9 cc1_9, .slice dd1_9 mm1_9 oo1_9]) ((q.2, q.2)) ∧ Bx6 W g1_9 29 (.bool b1_9) (.slice a1_9 n1_9 c1_9) (.slice d1_9 m1_9 o1_9) (.bool bb1_9) (.slice aa1_9 nn1_9 cc1_9) (.slice dd1_9 mm1_9 oo1_9) ∧ Sw W (.agg #[.bool b2_7, .slice a2_7 n2_7 c2_7, .slice d2_7 m2_7 o2_7, .bool bb2_7, .slice aa2_7 nn2_7 cc2_7, .slice dd2_7 mm2_7 oo2_7]) ((p.1 + q.2, p.1 + q.2)) ∧ Bx6 W g2_7 29 (.bool b2_7) (.slice a2_7 n2_7 c2_7) (.slice d2_7 m2_7 o2_7) (.bool bb2_7) (.slice aa2_7 nn2_7 cc2_7) (.slice dd2_7 mm2_7 oo2_7) ∧ Rw W u2_4 (p.1 + q.2) ∧ Sw W (.agg #[.bool b3_7, .slice a3_7 n3_7 c3_7, .slice d3_7 m3_7 o3_7, .bool bb3_7, .slice aa3_7 nn3_7 cc3_7, .slice dd3_7 mm3_7 oo3_7]) ((p.1 * q.2, p.1 * q.2)) ∧ Bx6 W g3_7 29 (.bool b3_7) (.slice a3_7 n3_7 c3_7) (.slice d3_7 m3_7 o3_7) (.bool bb3_7) (.slice aa3_7 nn3_7 cc3_7) (.slice dd3_7 mm3_7 oo3_7) ∧ Rw W u3_4 (p.1 * q.2) ∧ Sw W u4_2 ((p.1 + q.2, p.1 + q.2)) ∧ Sw W u4_8 (mulS (p.1, p.1) (q.2, q.2)) ∧ W4.heap.size ≤ W.heap.size) ⟨Good.is _, Good.is _, Good.span _, Good.is _, Good.is _, Good.span _, Good.is _, Good.is _, Good.is _, Good.is _, Good.span _, Good.is _, Good.is _, Good.span _, Good.is _, Good.is _, Good.is _, trivial⟩
     ⟨E0, p3, p4, p5, hsp, hsq, hx, h1_2, p1_8, h1_5, p1_9, h2_5, p2_7, h2_4, h3_5, p3_7, h3_4, h4_2, h4_8, Nat.le_refl _⟩ (A := ?A5) ?hA5 ?howe5 ?hfin5
    case hA5 =>
     intro vs
     simp only [putAll, Act.put, sA, sZ, sS, Nat.zero_add, Nat.reduceAdd]
     exact rfl
    case howe5 =>
     clear E0 p3 p4 p5 hsp hsq hx h1_2 p1_8 h1_5 p1_9 h2_5 p2_7 h2_4 h3_5 p3_7 h3_4 h4_2 h4_8
     intro hf
     refine ⟨oE 0 [] hf rfl ?_, oE 1 [] hf rfl ?_, oE 2 [0, 1] hf rfl ?_, oE 3 [] hf rfl ?_, oE 4 [] hf rfl ?_, oE 5 [3, 4] hf rfl ?_, oE 6 [2, 5] hf rfl ?_, oE 7 [6] hf rfl ?_, oE 8 [7] hf rfl ?_, oE 9 [7] hf rfl ?_, oE 10 [7, 8, 9] hf rfl ?_, oE 11 [7] hf rfl ?_, oE 12 [7] hf rfl ?_, oE 13 [7, 11, 12] hf rfl ?_, oE 14 [7, 10, 13] hf rfl ?_, oE 15 [7, 14] hf rfl ?_, oE 16 [15] hf rfl ?_, trivial⟩
     all_goals intro vs W hS hp hx KO hKO
     all_goals simp only [Act.put, sA, sZ, sS] at hKO
     ·have fc0 := hS.2.1.cell0; have fc1 := hS.2.1.cell1; have fc2 := hS.2.1.cell2; have fc3 := hS.2.1.cell3; have fc4 := hS.2.1.cell4; have fc5 := hS.2.1.cell5; go_simp; exact hKO _ W (.refl W) rfl
     ·have fc0 := hS.2.2.1.cell0; have fc1 := hS.2.2.1.cell1; have fc2 := hS.2.2.1.cell2; have fc3 := hS.2.2.1.cell3; have fc4 := hS.2.2.1.cell4; have fc5 := hS.2.2.1.cell5; go_simp; exact hKO _ W (.refl W) rfl
     ·have e0 := isOf hp.1; have e1 := isOf hp.2.1; simp only [e0, e1] at hKO; go_simp
      refine (Tryz.ivAdd (hS.2.2.2.2.1) (hS.2.2.2.2.2.1) SP.out SQ.out (by omega)).mono ?_
      rintro e W1 ⟨v, rfl, hv, hE⟩
      exact hKO _ W1 hE hv
     ·have fc0 := hS.2.2.1.cell0; have fc1 := hS.2.2.1.cell1; have fc2 := hS.2.2.1.cell2; have fc3 := hS.2.2.1.cell3; have fc4 := hS.2.2.1.cell4; have fc5 := hS.2.2.1.cell5; go_simp; exact hKO _ W (.refl W) rfl
     ·have fc0 := hS.2.1.cell0; have fc1 := hS.2.1.cell1; have fc2 := hS.2.1.cell2; have fc3 := hS.2.1.cell3; have fc4 := hS.2.1.cell4; have fc5 := hS.2.1.cell5; go_simp; exact hKO _ W (.refl W) rfl
     ·have e3 := isOf hp.1; have e4 := isOf hp.2.1; simp only [e3, e4] at hKO; go_simp
      refine (Tryz.ivAdd (hS.2.2.2.2.2.1) (hS.2.2.2.2.1) SQ.out SP.out (by omega)).mono ?_
      rintro e W1 ⟨v, rfl, hv, hE⟩
      exact hKO _ W1 hE hv
     ·have q2 := hp.1; have q5 := hp.2.1; go_simp
      refine (Tryz.rsSameT q2 q5 H2.out).mono ?_
      rintro e W1 ⟨rfl, hE⟩
      exact hKO _ W1 hE rfl
     ·have e6 := isOf hp.1; simp only [e6] at hKO; go_simp; exact hKO _ W (.refl W) rfl
     ·have e7 := isOf hp.1; simp only [e7] at hKO; have fc0 := hS.2.1.cell0; have fc1 := hS.2.1.cell1; have fc2 := hS.2.1.cell2; have fc3 := hS.2.1.cell3; have fc4 := hS.2.1.cell4; have fc5 := hS.2.1.cell5; go_simp; exact hKO _ W (.refl W) rfl
     ·have e7 := isOf hp.1; simp only [e7] at hKO; have fc0 := hS.2.2.1.cell0; have fc1 := hS.2.2.1.cell1; have fc2 := hS.2.2.1.cell2; have fc3 := hS.2.2.1.cell3; have fc4 := hS.2.2.1.cell4; have fc5 := hS.2.2.1.cell5; go_simp; exact hKO _ W (.refl W) rfl
     ·have e7 := isOf hp.1; have e8 := isOf hp.2.1; have e9 := isOf hp.2.2.1; simp only [e7, e8, e9] at hKO; go_simp
      refine (Tryz.ivMul (hS.2.2.2.2.1) (hS.2.2.2.2.2.1) SP.out SQ.out (by omega)).mono ?_
      rintro e W1 ⟨v, rfl, hv, hE⟩
      exact hKO _ W1 hE hv
     ·have e7 := isOf hp.1; simp only [e7] at hKO; have fc0 := hS.2.2.1.cell0; have fc1 := hS.2.2.1.cell1; have fc2 := hS.2.2.1.cell2; have fc3 := hS.2.2.1.cell3; have fc4 := hS.2.2.1.cell4; have fc5 := hS.2.2.1.cell5; go_simp; exact hKO _ W (.refl W) rfl
     ·have e7 := isOf hp.1; simp only [e7] at hKO; have fc0 := hS.2.1.cell0; have fc1 := hS.2.1.cell1; have fc2 := hS.2.1.cell2; have fc3 := hS.2.1.cell3; have fc4 := hS.2.1.cell4; have fc5 := hS.2.1.cell5; go_simp; exact hKO _ W (.refl W) rfl
     ·have e7 := isOf hp.1; have e11 := isOf hp.2.1; have e12 := isOf hp.2.2.1; simp only [e7, e11, e12] at hKO; go_simp
      refine (Tryz.ivMul (hS.2.2.2.2.2.1) (hS.2.2.2.2.1) SQ.out SP.out (by omega)).mono ?_
      rintro e W1 ⟨v, rfl, hv, hE⟩
      exact hKO _ W1 hE hv
     ·have e7 := isOf hp.1; have q10 := hp.2.1; have q13 := hp.2.2.1; simp only [e7] at hKO; go_simp
      refine (Tryz.rsSameT q10 q13 H3.out).mono ?_
      rintro e W1 ⟨rfl, hE⟩
      exact hKO _ W1 hE rfl
     ·have e7 := isOf hp.1; have e14 := isOf hp.2.1; simp only [e7, e14] at hKO; go_simp; exact hKO _ W (.refl W) rfl
     ·have e15 := isOf hp.1; simp only [e15] at hKO; go_simp; exact hKO _ W (.refl W) rfl
    intro vs W5 hS hp
    clear szw5 E0 p3 p4 p5 hsp hsq hx h1_2 p1_8 h1_5 p1_9 h2_5 p2_7 h2_4 h3_5 p3_7 h3_4 h4_2 h4_8
    obtain ⟨E0, p3, p4, p5, hsp, hsq, hx, h1_2, p1_8, h1_5, p1_9, h2_5, p2_7, h2_4, h3_5, p3_7, h3_4, h4_2, h4_8, sz5⟩ := hS
    obtain ⟨h5_0, h5_1, h5_2, h5_3, h5_4, h5_5, h5_6, h5_7, h5_8, h5_9, h5_10, h5_11, h5_12, h5_13, h5_14, h5_15, h5_16, -⟩ := hp
    replace h5_0 : vs 0 = .agg #[.bool b1, .slice a1 n1 c1, .slice d1 m1 o1, .bool bb1, .slice aa1 nn1 cc1, .slice dd1 mm1 oo1] := h5_0
    replace h5_1 : vs 1 = .agg #[.bool b2, .slice a2 n2 c2, .slice d2 m2 o2, .bool bb2, .slice aa2 nn2 cc2, .slice dd2 mm2 oo2] := h5_1
    replace h5_3 : vs 3 = .agg #[.bool b2, .slice a2 n2 c2, .slice d2 m2 o2, .bool bb2, .slice aa2 nn2 cc2, .slice dd2 mm2 oo2] := h5_3
    replace h5_4 : vs 4 = .agg #[.bool b1, .slice a1 n1 c1, .slice d1 m1 o1, .bool bb1, .slice aa1 nn1 cc1, .slice dd1 mm1 oo1] := h5_4
    replace h5_6 : vs 6 = .bool true := h5_6
    replace h5_7 : vs 7 = .bool true := h5_7
    replace h5_8 : vs 8 = .agg #[.bool b1, .slice a1 n1 c1, .slice d1 m1 o1, .bool bb1, .slice aa1 nn1 cc1, .slice dd1 mm1 oo1] := h5_8
    replace h5_9 : vs 9 = .agg #[.bool b2, .slice a2 n2 c2, .slice d2 m2 o2, .bool bb2, .slice aa2 nn2 cc2, .slice dd2 mm2 oo2] := h5_9
    replace h5_11 : vs 11 = .agg #[.bool b2, .slice a2 n2 c2, .slice d2 m2 o2, .bool bb2, .slice aa2 nn2 cc2, .slice dd2 mm2 oo2] := h5_11
    replace h5_12 : vs 12 = .agg #[.bool b1, .slice a1 n1 c1, .slice d1 m1 o1, .bool bb1, .slice aa1 nn1 cc1, .slice dd1 mm1 oo1] := h5_12
    replace h5_14 : vs 14 = .bool true := h5_14
    replace h5_15 : vs 15 = .bool true := h5_15
    replace h5_16 : vs 16 = .bool true := h5_16
    simp only [h5_0, h5_1, h5_3, h5_4, h5_6, h5_7, h5_8, h5_9, h5_11, h5_12, h5_14, h5_15, h5_16]
    replace h5_2 : Sw W5 (vs 2) ((p.1 + q.1, p.2 + q.2)) := h5_2
    generalize vs 2 = u5_2 at h5_2 ⊢
    replace h5_5 : Sw W5 (vs 5) ((q.1 + p.1, q.2 + p.2)) := h5_5
    generalize vs 5 = u5_5 at h5_5 ⊢
    replace h5_10 : Sw W5 (vs 10) (mulS p q) := h5_10
    generalize vs 10 = u5_10 at h5_10 ⊢
    replace h5_13 : Sw W5 (vs 13) (mulS q p) := h5_13
    generalize vs 13 = u5_13 at h5_13 ⊢
    clear h5_0 h5_1 h5_3 h5_4 h5_6 h5_7 h5_8 h5_9 h5_11 h5_12 h5_14 h5_15 h5_16
    obtain ⟨kp3_0, kp3_1, kp3_2, kp3_3, kp3_4, kp3_5⟩ := p3.c6
    obtain ⟨kp4_0, kp4_1, kp4_2, kp4_3, kp4_4, kp4_5⟩ := p4.c6
    obtain ⟨kp5_0, kp5_1, kp5_2⟩ := p5.c3
    obtain ⟨kp1_8_0, kp1_8_1, kp1_8_2, kp1_8_3, kp1_8_4, kp1_8_5⟩ := p1_8.c6
    obtain ⟨kp1_9_0, kp1_9_1, kp1_9_2, kp1_9_3, kp1_9_4, kp1_9_5⟩ := p1_9.c6
    obtain ⟨kp2_7_0, kp2_7_1, kp2_7_2, kp2_7_3, kp2_7_4, kp2_7_5⟩ := p2_7.c6
    obtain ⟨kp3_7_0, kp3_7_1, kp3_7_2, kp3_7_3, kp3_7_4, kp3_7_5⟩ := p3_7.c6
    go_upto_region 8 with (fail)
    clear kp3_0 kp3_1 kp3_2 kp3_3 kp3_4 kp3_5 kp4_0 kp4_1 kp4_2 kp4_3 kp4_4 kp4_5 kp5_0 kp5_1 kp5_2 kp1_8_0 kp1_8_1 kp1_8_2 kp1_8_3 kp1_8_4 kp1_8_5 kp1_9_0 kp1_9_1 kp1_9_2 kp1_9_3 kp1_9_4 kp1_9_5 kp2_7_0 kp2_7_1 kp2_7_2 kp2_7_3 kp2_7_4 kp2_7_5 kp3_7_0 kp3_7_1 kp3_7_2 kp3_7_3 kp3_7_4 kp3_7_5; have szw6 := Ext.size E0
    refine region_gs [.one fun v _ => v = .bool true,
      .one fun v _ => v = .bool true,
      .one fun v _ => v = .bool true,
      .one fun v _ => v = .bool true,
      .one fun v _ => v = .bool true,
      .one fun v _ => v = .bool true,
      .one fun v _ => v = .bool true,
      .one fun v _ => v = .bool true,
      .one fun v _ => v = .agg #[.bool b1, .slice a1 n1 c1, .slice d1 m1 o1, .bool bb1, .slice aa1 nn1 cc1, .slice dd1 mm1 oo1],
      .one fun v _ => v = .pointer (some ⟨w.heap.size, 0, none⟩),
      .one fun v _ => v = .agg #[.bool b1, .slice a1 n1 c1, .slice d1 m1 o1],
      .one fun v _ => v = .bool true,
      .one fun v _ => v = .bool true,
      .one fun v _ => v = .bool true,
      .one fun v _ => v = .agg #[.bool b1, .slice a1 n1 c1, .slice d1 m1 o1, .bool bb1, .slice aa1 nn1 cc1, .slice dd1 mm1 oo1],
      .one fun v _ => v = .pointer (some ⟨w.heap.size, 3, none⟩),
      .one fun v _ => v = .agg #[.bool bb1, .slice aa1 nn1 cc1, .slice dd1 mm1 oo1],
      .one fun v _ => v = .bool true,
      .one fun v _ => v = .bool true,
      .one fun v _ => v = .bool true,
      .one fun v _ => v = .agg #[.bool b3, .slice a3 n3 c3, .slice d3 m3 o3],
      .one fun v W => Sw W v ((x, x)),
      .one fun v _ => v = .agg #[.bool b1, .slice a1 n1 c1, .slice d1 m1 o1, .bool bb1, .slice aa1 nn1 cc1, .slice dd1 mm1 oo1],
      .one fun v _ => v = .bool B3,
      .one fun v _ => v = .agg #[.bool b1, .slice a1 n1 c1, .slice d1 m1 o1, .bool bb1, .slice aa1 nn1 cc1, .slice dd1 mm1 oo1],
      .one fun v _ => v = .agg #[.bool b3, .slice a3 n3 c3, .slice d3 m3 o3],
      .one fun v _ => v = .bool B3,
      .one fun v _ => v = .bool true,
      .one fun v _ => v = .bool true,
      .one fun v _ => v = .bool true]
     (fun W => Ext w W ∧ Bx6 W w.heap.size 29 (.bool b1) (.slice a1 n1 c1) (.slice d1 m1 o1) (.bool bb1) (.slice aa1 nn1 cc1) (.slice dd1 mm1 oo1) ∧ Bx6 W (w.heap.size + 1) 29 (.bool b2) (.slice a2 n2 c2) (.slice d2 m2 o2) (.bool bb2) (.slice aa2 nn2 cc2) (.slice dd2 mm2 oo2) ∧ Bx3 W (w.heap.size + 1 + 1) 27 (.bool b3) (.slice a3 n3 c3) (.slice d3 m3 o3) ∧ Sw W (.agg #[.bool b1, .slice a1 n1 c1, .slice d1 m1 o1, .bool bb1, .slice aa1 nn1 cc1, .slice dd1 mm1 oo1]) p ∧ Sw W (.agg #[.bool b2, .slice a2 n2 c2, .slice d2 m2 o2, .bool bb2, .slice aa2 nn2 cc2, .slice dd2 mm2 oo2]) q ∧ Rw W (.agg #[.bool b3, .slice a3 n3 c3, .slice d3 m3 o3]) x ∧ Sw W (.agg #[.bool b1_8, .slice a1_8 n1_8 c1_8, .slice d1_8 m1_8 o1_8, .bool bb1_8, .slice aa1_8 nn1_8 cc1_8, .slice dd1_8 mm1_8 oo1_8]) ((p.1, p.1)) ∧ Bx6 W g1_8 29 (.bool b1_8) (.slice a1_8 n1_8 c1_8) (.slice d1_8 m1_8 o1_8) (.bool bb1_8) (.slice aa1_8 nn1_8 cc1_8) (.slice dd1_8 mm1_8 oo1_8) ∧ Sw W (.agg #[.bool b1_9, .slice a1_9 n1_9 c1_9, .slice d1_9 m1_9 o1_9, .bool bb1_9, .slice aa1_9 nn1_9 cc1_9, .slice dd1_9 mm1_9 oo1_9]) ((q.2, q.2)) ∧ Bx6 W g1_9 29 (.bool b1_9) (.slice a1_9 n1_9 c1_9) (.slice d1_9 m1_9 o1_9) (.bool bb1_9) (.slice aa1_9 nn1_9 cc1_9) (.slice dd1_9 mm1_9 oo1_9) ∧ Sw W (.agg #[.bool b2_7, .slice a2_7 n2_7 c2_7, .slice d2_7 m2_7 o2_7, .bool bb2_7, .slice aa2_7 nn2_7 cc2_7, .slice dd2_7 mm2_7 oo2_7]) ((p.1 + q.2, p.1 + q.2)) ∧ Bx6 W g2_7 29 (.bool b2_7) (.slice a2_7 n2_7 c2_7) (.slice d2_7 m2_7 o2_7) (.bool bb2_7) (.slice aa2_7 nn2_7 cc2_7) (.slice dd2_7 mm2_7 oo2_7) ∧ Rw W u2_4 (p.1 + q.2) ∧ Sw W (.agg #[.bool b3_7, .slice a3_7 n3_7 c3_7, .slice d3_7 m3_7 o3_7, .bool bb3_7, .slice aa3_7 nn3_7 cc3_7, .slice dd3_7 mm3_7 oo3_7]) ((p.1 * q.2, p.1 * q.2)) ∧ Bx6 W g3_7 29 (.bool b3_7) (.slice a3_7 n3_7 c3_7) (.slice d3_7 m3_7 o3_7) (.bool bb3_7) (.slice aa3_7 nn3_7 cc3_7) (.slice dd3_7 mm3_7 oo3_7) ∧ Rw W u3_4 (p.1 * q.2) ∧ Sw W u4_2 ((p.1 + q.2, p.1 + q.2)) ∧ Sw W u4_8 (mulS (p.1, p.1) (q.2, q.2)) ∧ Sw W u5_2 ((p.1 + q.1, p.2 + q.2)) ∧ Sw W u5_5 ((q.1 + p.1, q.2 + p.2)) ∧ Sw W u5_10 (mulS p q) ∧ Sw W u5_13 (mulS q p) ∧ W5.heap.size ≤ W.heap.size) ⟨Good.is _, Good.is _, Good.is _, Good.is _, Good.is _, Good.is _, Good.is _, Good.is _, Good.is _, Good.is _, Good.is _, Good.is _, Good.is _, Good.is _, Good.is _, Good.is _, Good.is _, Good.is _, Good.is _, Good.is _, Good.is _, Good.span _, Good.is _, Good.is _, Good.is _, Good.is _, Good.is _, Good.is _, Good.is _, Good.is _, trivial⟩
     ⟨E0, p3, p4, p5, hsp, hsq, hx, h1_2, p1_8, h1_5, p1_9, h2_5, p2_7, h2_4, h3_5, p3_7, h3_4, h4_2, h4_8, h5_2, h5_5, h5_10, h5_13, Nat.le_refl _⟩ (A := ?A6) ?hA6 ?howe6 ?hfin6
    case hA6 =>
     intro vs
     simp only [putAll, Act.put, sA, sZ, sS, Nat.zero_add, Nat.reduceAdd]
     exact rfl
    case howe6 =>
     clear E0 p3 p4 p5 hsp hsq hx h1_2 p1_8 h1_5 p1_9 h2_5 p2_7 h2_4 h3_5 p3_7 h3_4 h4_2 h4_8 h5_2 h5_5 h5_10 h5_13
     intro hf
     refine ⟨oE 0 [] hf rfl ?_, oE 1 [0] hf rfl ?_, oE 2 [1] hf rfl ?_, oE 3 [1, 2] hf rfl ?_, oE 4 [3] hf rfl ?_, oE 5 [4] hf rfl ?_, oE 6 [4, 5] hf rfl ?_, oE 7 [6] hf rfl ?_, oE 8 [7] hf rfl ?_, oE 9 [7] hf rfl ?_, oE 10 [7, 9] hf rfl ?_, oE 11 [7, 8, 10] hf rfl ?_, oE 12 [7, 11] hf rfl ?_, oE 13 [12] hf rfl ?_, oE 14 [13] hf rfl ?_, oE 15 [13] hf rfl ?_, oE 16 [13, 15] hf rfl ?_, oE 17 [13, 14, 16] hf rfl ?_, oE 18 [13, 17] hf rfl ?_, oE 19 [18] hf rfl ?_, oE 20 [19] hf rfl ?_, oE 21 [19, 20] hf rfl ?_, oE 22 [19] hf rfl ?_, oE 23 [19, 21, 22] hf rfl ?_, oE 24 [19] hf rfl ?_, oE 25 [19] hf rfl ?_, oE 26 [19, 24, 25] hf rfl ?_, oE 27 [19, 23, 26] hf rfl ?_, oE 28 [19, 27] hf rfl ?_, oE 29 [28] hf rfl ?_, trivial⟩
     all_goals intro vs W hS hp hx KO hKO
     all_goals simp only [Act.put, sA, sZ, sS] at hKO
     ·go_simp
      refine (Tryz.alive07 _).mono ?_
      rintro e W1 ⟨rfl, hE⟩
      exact hKO _ W1 hE rfl
     ·have e0 := isOf hp.1; simp only [e0] at hKO; go_simp; exact hKO _ W (.refl W) rfl
     ·have e1 := isOf hp.1; simp only [e1] at hKO; go_simp; exact hKO _ W (.refl W) rfl
     ·have e1 := isOf hp.1; have e2 := isOf hp.2.1; simp only [e1, e2] at hKO; go_simp; exact hKO _ W (.refl W) rfl
     ·have e3 := isOf hp.1; simp only [e3] at hKO; go_simp; exact hKO _ W (.refl W) rfl
     ·have e4 := isOf hp.1; simp only [e4] at hKO; go_simp; exact hKO _ W (.refl W) rfl
     ·have e4 := isOf hp.1; have e5 := isOf hp.2.1; simp only [e4, e5] at hKO; go_simp; exact hKO _ W (.refl W) rfl
     ·have e6 := isOf hp.1; simp only [e6] at hKO; go_simp; exact hKO _ W (.refl W) rfl
     ·have e7 := isOf hp.1; simp only [e7] at hKO; have fc0 := hS.2.1.cell0; have fc1 := hS.2.1.cell1; have fc2 := hS.2.1.cell2; have fc3 := hS.2.1.cell3; have fc4 := hS.2.1.cell4; have fc5 := hS.2.1.cell5; go_simp; exact hKO _ W (.refl W) rfl
     ·have e7 := isOf hp.1; simp only [e7] at hKO; go_simp; exact hKO _ W (.refl W) rfl
     ·have e7 := isOf hp.1; have e9 := isOf hp.2.1; simp only [e7, e9] at hKO; have fc0 := hS.2.1.cell0; have fc1 := hS.2.1.cell1; have fc2 := hS.2.1.cell2; go_simp; exact hKO _ W (.refl W) rfl
     ·have e7 := isOf hp.1; have e8 := isOf hp.2.1; have e10 := isOf hp.2.2.1; simp only [e7, e8, e10] at hKO; go_simp
      refine (Tryz.ivHas (hS.2.2.2.2.1) (hS.2.2.2.2.1.lo) SP.out SP.out.lo (by omega)).mono ?_
      rintro e W1 ⟨rfl, hE⟩
      rw [H4.out]
      exact hKO _ W1 hE rfl
     ·have e7 := isOf hp.1; have e11 := isOf hp.2.1; simp only [e7, e11] at hKO; go_simp; exact hKO _ W (.refl W) rfl
     ·have e12 := isOf hp.1; simp only [e12] at hKO; go_simp; exact hKO _ W (.refl W) rfl
     ·have e13 := isOf hp.1; simp only [e13] at hKO; have fc0 := hS.2.1.cell0; have fc1 := hS.2.1.cell1; have fc2 := hS.2.1.cell2; have fc3 := hS.2.1.cell3; have fc4 := hS.2.1.cell4; have fc5 := hS.2.1.cell5; go_simp; exact hKO _ W (.refl W) rfl
     ·have e13 := isOf hp.1; simp only [e13] at hKO; go_simp; exact hKO _ W (.refl W) rfl
     ·have e13 := isOf hp.1; have e15 := isOf hp.2.1; simp only [e13, e15] at hKO; have fc3 := hS.2.1.cell3; have fc4 := hS.2.1.cell4; have fc5 := hS.2.1.cell5; go_simp; exact hKO _ W (.refl W) rfl
     ·have e13 := isOf hp.1; have e14 := isOf hp.2.1; have e16 := isOf hp.2.2.1; simp only [e13, e14, e16] at hKO; go_simp
      refine (Tryz.ivHas (hS.2.2.2.2.1) (hS.2.2.2.2.1.hi) SP.out SP.out.hi (by omega)).mono ?_
      rintro e W1 ⟨rfl, hE⟩
      rw [H5.out]
      exact hKO _ W1 hE rfl
     ·have e13 := isOf hp.1; have e17 := isOf hp.2.1; simp only [e13, e17] at hKO; go_simp; exact hKO _ W (.refl W) rfl
     ·have e18 := isOf hp.1; simp only [e18] at hKO; go_simp; exact hKO _ W (.refl W) rfl
     ·have e19 := isOf hp.1; simp only [e19] at hKO; have fc0 := hS.2.2.2.1.cell0; have fc1 := hS.2.2.2.1.cell1; have fc2 := hS.2.2.2.1.cell2; go_simp; exact hKO _ W (.refl W) rfl
     ·have e19 := isOf hp.1; have e20 := isOf hp.2.1; simp only [e19, e20] at hKO; go_simp
      refine (Tryz.ivOf (hS.2.2.2.2.2.2.1)).mono ?_
      rintro e W1 ⟨v, rfl, hv, hE⟩
      exact hKO _ W1 hE hv
     ·have e19 := isOf hp.1; simp only [e19] at hKO; have fc0 := hS.2.1.cell0; have fc1 := hS.2.1.cell1; have fc2 := hS.2.1.cell2; have fc3 := hS.2.1.cell3; have fc4 := hS.2.1.cell4; have fc5 := hS.2.1.cell5; go_simp; exact hKO _ W (.refl W) rfl
     ·have e19 := isOf hp.1; have q21 := hp.2.1; have e22 := isOf hp.2.2.1; simp only [e19, e22] at hKO; go_simp
      refine (Tryz.ivIn q21 (hS.2.2.2.2.1) ⟨SX.out, SX.out⟩ SP.out (by omega)).mono ?_
      rintro e W1 ⟨rfl, hE⟩
      rw [HB4.out]
      exact hKO _ W1 hE rfl
     ·have e19 := isOf hp.1; simp only [e19] at hKO; have fc0 := hS.2.1.cell0; have fc1 := hS.2.1.cell1; have fc2 := hS.2.1.cell2; have fc3 := hS.2.1.cell3; have fc4 := hS.2.1.cell4; have fc5 := hS.2.1.cell5; go_simp; exact hKO _ W (.refl W) rfl
     ·have e19 := isOf hp.1; simp only [e19] at hKO; have fc0 := hS.2.2.2.1.cell0; have fc1 := hS.2.2.2.1.cell1; have fc2 := hS.2.2.2.1.cell2; go_simp; exact hKO _ W (.refl W) rfl
     ·have e19 := isOf hp.1; have e24 := isOf hp.2.1; have e25 := isOf hp.2.2.1; simp only [e19, e24, e25] at hKO; go_simp
      refine (Tryz.ivHas (hS.2.2.2.2.1) (hS.2.2.2.2.2.2.1) SP.out SX.out (by omega)).mono ?_
      rintro e W1 ⟨rfl, hE⟩
      rw [HB3.out]
      exact hKO _ W1 hE rfl
     ·have e19 := isOf hp.1; have e23 := isOf hp.2.1; have e26 := isOf hp.2.2.1; simp only [e19, e23, e26] at hKO; go_simp; exact hKO _ W (.refl W) rfl
     ·have e19 := isOf hp.1; have e27 := isOf hp.2.1; simp only [e19, e27] at hKO; go_simp; exact hKO _ W (.refl W) rfl
     ·have e28 := isOf hp.1; simp only [e28] at hKO; go_simp; exact hKO _ W (.refl W) rfl
    intro vs W6 hS hp
    clear szw6 E0 p3 p4 p5 hsp hsq hx h1_2 p1_8 h1_5 p1_9 h2_5 p2_7 h2_4 h3_5 p3_7 h3_4 h4_2 h4_8 h5_2 h5_5 h5_10 h5_13
    obtain ⟨E0, p3, p4, p5, hsp, hsq, hx, h1_2, p1_8, h1_5, p1_9, h2_5, p2_7, h2_4, h3_5, p3_7, h3_4, h4_2, h4_8, h5_2, h5_5, h5_10, h5_13, sz6⟩ := hS
    obtain ⟨h6_0, h6_1, h6_2, h6_3, h6_4, h6_5, h6_6, h6_7, h6_8, h6_9, h6_10, h6_11, h6_12, h6_13, h6_14, h6_15, h6_16, h6_17, h6_18, h6_19, h6_20, h6_21, h6_22, h6_23, h6_24, h6_25, h6_26, h6_27, h6_28, h6_29, -⟩ := hp
    replace h6_0 : vs 0 = .bool true := h6_0
    replace h6_1 : vs 1 = .bool true := h6_1
    replace h6_2 : vs 2 = .bool true := h6_2
    replace h6_3 : vs 3 = .bool true := h6_3
    replace h6_4 : vs 4 = .bool true := h6_4
    replace h6_5 : vs 5 = .bool true := h6_5
    replace h6_6 : vs 6 = .bool true := h6_6
    replace h6_7 : vs 7 = .bool true := h6_7
    replace h6_8 : vs 8 = .agg #[.bool b1, .slice a1 n1 c1, .slice d1 m1 o1, .bool bb1, .slice aa1 nn1 cc1, .slice dd1 mm1 oo1] := h6_8
    replace h6_9 : vs 9 = .pointer (some ⟨w.heap.size, 0, none⟩) := h6_9
    replace h6_10 : vs 10 = .agg #[.bool b1, .slice a1 n1 c1, .slice d1 m1 o1] := h6_10
    replace h6_11 : vs 11 = .bool true := h6_11
    replace h6_12 : vs 12 = .bool true := h6_12
    replace h6_13 : vs 13 = .bool true := h6_13
    replace h6_14 : vs 14 = .agg #[.bool b1, .slice a1 n1 c1, .slice d1 m1 o1, .bool bb1, .slice aa1 nn1 cc1, .slice dd1 mm1 oo1] := h6_14
    replace h6_15 : vs 15 = .pointer (some ⟨w.heap.size, 3, none⟩) := h6_15
    replace h6_16 : vs 16 = .agg #[.bool bb1, .slice aa1 nn1 cc1, .slice dd1 mm1 oo1] := h6_16
    replace h6_17 : vs 17 = .bool true := h6_17
    replace h6_18 : vs 18 = .bool true := h6_18
    replace h6_19 : vs 19 = .bool true := h6_19
    replace h6_20 : vs 20 = .agg #[.bool b3, .slice a3 n3 c3, .slice d3 m3 o3] := h6_20
    replace h6_22 : vs 22 = .agg #[.bool b1, .slice a1 n1 c1, .slice d1 m1 o1, .bool bb1, .slice aa1 nn1 cc1, .slice dd1 mm1 oo1] := h6_22
    replace h6_23 : vs 23 = .bool B3 := h6_23
    replace h6_24 : vs 24 = .agg #[.bool b1, .slice a1 n1 c1, .slice d1 m1 o1, .bool bb1, .slice aa1 nn1 cc1, .slice dd1 mm1 oo1] := h6_24
    replace h6_25 : vs 25 = .agg #[.bool b3, .slice a3 n3 c3, .slice d3 m3 o3] := h6_25
    replace h6_26 : vs 26 = .bool B3 := h6_26
    replace h6_27 : vs 27 = .bool true := h6_27
    replace h6_28 : vs 28 = .bool true := h6_28
    replace h6_29 : vs 29 = .bool true := h6_29
    simp only [h6_0, h6_1, h6_2, h6_3, h6_4, h6_5, h6_6, h6_7, h6_8, h6_9, h6_10, h6_11, h6_12, h6_13, h6_14, h6_15, h6_16, h6_17, h6_18, h6_19, h6_20, h6_22, h6_23, h6_24, h6_25, h6_26, h6_27, h6_28, h6_29]
    replace h6_21 : Sw W6 (vs 21) ((x, x)) := h6_21
    generalize vs 21 = u6_21 at h6_21 ⊢
    clear h6_0 h6_1 h6_2 h6_3 h6_4 h6_5 h6_6 h6_7 h6_8 h6_9 h6_10 h6_11 h6_12 h6_13 h6_14 h6_15 h6_16 h6_17 h6_18 h6_19 h6_20 h6_22 h6_23 h6_24 h6_25 h6_26 h6_27 h6_28 h6_29
    obtain ⟨kp3_0, kp3_1, kp3_2, kp3_3, kp3_4, kp3_5⟩ := p3.c6
    obtain ⟨kp4_0, kp4_1, kp4_2, kp4_3, kp4_4, kp4_5⟩ := p4.c6
    obtain ⟨kp5_0, kp5_1, kp5_2⟩ := p5.c3
    obtain ⟨kp1_8_0, kp1_8_1, kp1_8_2, kp1_8_3, kp1_8_4, kp1_8_5⟩ := p1_8.c6
    obtain ⟨kp1_9_0, kp1_9_1, kp1_9_2, kp1_9_3, kp1_9_4, kp1_9_5⟩ := p1_9.c6
    obtain ⟨kp2_7_0, kp2_7_1, kp2_7_2, kp2_7_3, kp2_7_4, kp2_7_5⟩ := p2_7.c6
    obtain ⟨kp3_7_0, kp3_7_1, kp3_7_2, kp3_7_3, kp3_7_4, kp3_7_5⟩ := p3_7.c6
    clear hsp hsq hx h1_2 h1_5 h2_5 h2_4 h3_5 h3_4 h4_2 h4_8 h5_2 h5_5 h5_10 h5_13 h6_21; go_wp2; go_ret
    exact ⟨rfl, E0⟩

end Go.Rt
