/-
 Intervals: one of a number, what is in one, which is in which, which are right, sums; by the program and by definition.
-/
import Derived.Test.YthmncdhibcoiaaaGreatLaw05b
import Derived.Test.YthmncdhibcoiaaaGreatRight
import Derived.Test.YthmncdhibcoiaaaGreatRatP
import Derived.Test.YthmncdhibcoiaaaGreatGL
import Derived.Test.YthmncdhibcoiaaaGreatReg6
import Derived.Test.YthmncdhibcoiaaaGreatInv2
import Derived.Test.YthmncdhibcoiaaaGreatSqz

namespace Go.Rt

open Go Go.RowKit Go.Proofs

instance lasts_sw {v : Value} {p : Rat × Rat} : Nonempty (Lasts (fun W => Sw W v p)) := ⟨fun _ _ h hE => h.ext hE⟩

instance lasts_bx6 {b : Nat} {t : TypeId} {x0 x1 x2 x3 x4 x5 : Value} : Nonempty (Lasts (fun W => Bx6 W b t x0 x1 x2 x3 x4 x5)) := ⟨fun _ _ h hE => h.ext hE⟩

theorem le_cmp {x y : Rat} {c : Int} (h : cmpR x y = c) : decide (c ≤ 0) = decide (x ≤ y) := by
 rw [Bool.eq_iff_iff, decide_eq_true_iff, decide_eq_true_iff, ← h]
 exact cmpR_le

/-- is a number in it? -/
def hasS (p : Rat × Rat) (x : Rat) : Bool := decide (p.1 ≤ x) && decide (x ≤ p.2)

def inS (p q : Rat × Rat) : Bool := hasS q p.1 && hasS q p.2

/-- of few limbs -/
structure SmS (L : Nat) (p : Rat × Rat) : Prop where
 lo : SmR L p.1
 hi : SmR L p.2

theorem Tryz.ratLe {v1 v2 : Value} {x y : Rat} {L : Nat} {w : World} (h1 : Rw w v1 x) (h2 : Rw w v2 y) (s1 : SmR L x) (s2 : SmR L y) (hL : L ≤ 1000) :
  Calls Tryz.prog 43 #[v1, v2] w fun e w' => ∃ c : Int, e = .returned (.int .i64 c) ∧ decide (c ≤ 0) = decide (x ≤ y) ∧ Ext w w' :=
 (Tryz.ratCmpR h1 h2 s1 s2 hL rfl).mono fun _ _ ⟨he, hE⟩ => ⟨_, he, le_cmp rfl, hE⟩

theorem Tryz.refRLe {v1 v2 : Value} {x y : Rat} {L : Nat} {w : World} (h1 : Rw w v1 x) (h2 : Rw w v2 y) (s1 : SmR L x) (s2 : SmR L y) (hL : L ≤ 1000) :
  Calls Tryz.prog 26 #[v1, v2] w fun e w' => ∃ c : Int, e = .returned (.int .i64 c) ∧ decide (c ≤ 0) = decide (x ≤ y) ∧ Ext w w' :=
 (Tryz.refRCmpR h1 h2 s1 s2 hL rfl).mono fun _ _ ⟨he, hE⟩ => ⟨_, he, le_cmp rfl, hE⟩

set_option maxRecDepth 100000 in
set_option maxHeartbeats 8000000 in
theorem Tryz.ivOf {va : Value} {x : Rat} {w : World} (h1 : Rw w va x) :
  Calls Tryz.prog 15 #[va] w fun e w' => ∃ v', e = .returned v' ∧ Sw w' v' (x, x) ∧ Ext w w' := by
 obtain ⟨b1, a1, n1, c1, d1, m1, o1, rfl, q1⟩ : ∃ b a n c d m o, va = .agg #[.bool b, .slice a n c, .slice d m o] ∧ True := let ⟨b, a, n, c, d, m, o, e, _⟩ := h1; ⟨b, a, n, c, d, m, o, e, trivial⟩
 clear q1
 obtain ⟨W0, hW0⟩ : ∃ W0, W0 = ((w.alloc (.cells #[.bool b1, .slice a1 n1 c1, .slice d1 m1 o1] 27)).alloc (.cells #[.bool false, .slice none 0 0, .slice none 0 0, .bool false, .slice none 0 0, .slice none 0 0] 29)) := ⟨_, rfl⟩
 have E0 : Ext w W0 := by rw [hW0]; exact ((Ext.alloc1 w (.cells #[.bool b1, .slice a1 n1 c1, .slice d1 m1 o1] 27)).alloc (.cells #[.bool false, .slice none 0 0, .slice none 0 0, .bool false, .slice none 0 0, .slice none 0 0] 29))
 replace h1 : Rw W0 (.agg #[.bool b1, .slice a1 n1 c1, .slice d1 m1 o1]) x := h1.ext E0
 have p1 : Bx3 W0 w.heap.size 27 (.bool b1) (.slice a1 n1 c1) (.slice d1 m1 o1) := by rw [hW0]; exact (Bx3.new w 27 (.bool b1) (.slice a1 n1 c1) (.slice d1 m1 o1)).ext (Ext.alloc1 (w.alloc (.cells #[.bool b1, .slice a1 n1 c1, .slice d1 m1 o1] 27)) (.cells #[.bool false, .slice none 0 0, .slice none 0 0, .bool false, .slice none 0 0, .slice none 0 0] 29))
 have p2 : Bx6 W0 (w.heap.size + 1) 29 (.bool false) (.slice none 0 0) (.slice none 0 0) (.bool false) (.slice none 0 0) (.slice none 0 0) := by rw [hW0]; simpa using (Bx6.new (w.alloc (.cells #[.bool b1, .slice a1 n1 c1, .slice d1 m1 o1] 27)) 29 (.bool false) (.slice none 0 0) (.slice none 0 0) (.bool false) (.slice none 0 0) (.slice none 0 0))
 go_enter Tryz.func15, Tryz.ntmps15
 obtain ⟨kp1_0, kp1_1, kp1_2⟩ := p1.c3
 obtain ⟨kp2_0, kp2_1, kp2_2, kp2_3, kp2_4, kp2_5⟩ := p2.c6
 go_upto_region 1 with (fail)
 rw [← hW0]
 clear hW0; clear kp1_0 kp1_1 kp1_2 kp2_0 kp2_1 kp2_2 kp2_3 kp2_4 kp2_5; have fp2 := p2.form; have ltp1 := p1.lt; have ltfp2 := fp2.lt; have szw1 := Ext.size E0
 refine region_gs [.one fun v _ => v = .agg #[.bool b1, .slice a1 n1 c1, .slice d1 m1 o1],
   .one fun v _ => v = .agg #[.bool b1, .slice a1 n1 c1, .slice d1 m1 o1],
   .one fun v _ => v = .agg #[.bool b1, .slice a1 n1 c1, .slice d1 m1 o1, .bool b1, .slice a1 n1 c1, .slice d1 m1 o1],
   .own fun W => Bx6 W (w.heap.size + 1) 29 (.bool b1) (.slice a1 n1 c1) (.slice d1 m1 o1) (.bool b1) (.slice a1 n1 c1) (.slice d1 m1 o1)]
  (fun W => Ext w W ∧ Rw W (.agg #[.bool b1, .slice a1 n1 c1, .slice d1 m1 o1]) x ∧ Bx3 W w.heap.size 27 (.bool b1) (.slice a1 n1 c1) (.slice d1 m1 o1) ∧ Form W (w.heap.size + 1) 29 6 ∧ W0.heap.size ≤ W.heap.size) ⟨Good.is _, Good.is _, Good.is _, cert_bx6, trivial⟩
  ⟨E0, h1, p1, fp2, Nat.le_refl _⟩ (A := ?A1) ?hA1 ?howe1 ?hfin1
 case hA1 =>
  intro vs
  simp only [putAll, Act.put, sA, sZ, sS, Nat.zero_add, Nat.reduceAdd]
  exact rfl
 case howe1 =>
  clear E0 h1 p1 fp2
  intro hf
  refine ⟨oE 0 [] hf rfl ?_, oE 1 [] hf rfl ?_, oE 2 [0, 1] hf rfl ?_, oW 3 [2] hf rfl ?_, trivial⟩
  all_goals intro vs W hS hp hx KO hKO
  all_goals simp only [Act.put, sA, sZ, sS] at hKO
  ·have fc0 := hS.2.2.1.cell0; have fc1 := hS.2.2.1.cell1; have fc2 := hS.2.2.1.cell2; go_simp; exact hKO _ W (.refl W) rfl
  ·have fc0 := hS.2.2.1.cell0; have fc1 := hS.2.2.1.cell1; have fc2 := hS.2.2.1.cell2; go_simp; exact hKO _ W (.refl W) rfl
  ·have e0 := isOf hp.1; have e1 := isOf hp.2.1; simp only [e0, e1] at hKO; go_simp; exact hKO _ W (.refl W) rfl
  ·have e2 := isOf hp.1; simp only [e2] at hKO
   have hf := hS.2.2.2.1
   obtain ⟨x0_0, x0_1, x0_2, x0_3, x0_4, x0_5, hx, hno⟩ := hf.bx6
   have r0 := hx.froz0
   have t0 := hx.cell0
   have r1 := hx.froz1
   have t1 := hx.cell1
   have r2 := hx.froz2
   have t2 := hx.cell2
   have r3 := hx.froz3
   have t3 := hx.cell3
   have r4 := hx.froz4
   have t4 := hx.cell4
   have r5 := hx.froz5
   have t5 := hx.cell5
   have hw := Wr.set6 hx hno b1 a1 n1 c1 d1 m1 o1 b1 a1 n1 c1 d1 m1 o1
   have hq := hx.set (.bool b1) (.slice a1 n1 c1) (.slice d1 m1 o1) (.bool b1) (.slice a1 n1 c1) (.slice d1 m1 o1)
   have hg : (w.heap.size + 1) ≤ (w.heap.size + 1) := Nat.le_refl _
   go_simp
   exact hKO _ _ hw ⟨(Ext.wr hS.1 hw (by omega)), (hS.2.1.wr hw), (hS.2.2.1.wr hw (by omega)), (hS.2.2.2.1.wr hw), (Nat.le_trans hS.2.2.2.2 hw.apart.size)⟩ hq
 intro vs W1 hS hp
 clear szw1 E0 h1 p1 fp2
 obtain ⟨E0, h1, p1, fp2, sz1⟩ := hS
 obtain ⟨h1_0, h1_1, h1_2, h1_3, -⟩ := hp
 have p1_3 : Bx6 W1 (w.heap.size + 1) 29 (.bool b1) (.slice a1 n1 c1) (.slice d1 m1 o1) (.bool b1) (.slice a1 n1 c1) (.slice d1 m1 o1) := h1_3
 replace h1_0 : vs 0 = .agg #[.bool b1, .slice a1 n1 c1, .slice d1 m1 o1] := h1_0
 replace h1_1 : vs 1 = .agg #[.bool b1, .slice a1 n1 c1, .slice d1 m1 o1] := h1_1
 replace h1_2 : vs 2 = .agg #[.bool b1, .slice a1 n1 c1, .slice d1 m1 o1, .bool b1, .slice a1 n1 c1, .slice d1 m1 o1] := h1_2
 simp only [h1_0, h1_1, h1_2]
 clear h1_0 h1_1 h1_2
 obtain ⟨kp1_0, kp1_1, kp1_2⟩ := p1.c3
 obtain ⟨kp1_3_0, kp1_3_1, kp1_3_2, kp1_3_3, kp1_3_4, kp1_3_5⟩ := p1_3.c6
 go_wp2
 exact bodyPost_ret (v := .agg #[.bool b1, .slice a1 n1 c1, .slice d1 m1 o1, .bool b1, .slice a1 n1 c1, .slice d1 m1 o1]) (by simp [results, Tryz.results15, go_sem, kp1_3_0, kp1_3_1, kp1_3_2, kp1_3_3, kp1_3_4, kp1_3_5]) rfl ⟨_, rfl, Sw.mk h1 h1, E0⟩

set_option maxRecDepth 100000 in
set_option maxHeartbeats 8000000 in
theorem Tryz.ivHas {v1 v2 : Value} {p : Rat × Rat} {x : Rat} {L : Nat} {w : World} (h1 : Sw w v1 p) (h2 : Rw w v2 x) (s1 : SmS L p) (s2 : SmR L x) (hL : L ≤ 1000) :
  Calls Tryz.prog 18 #[v1, v2] w fun e w' => e = .returned (.bool (hasS p x)) ∧ Ext w w' := by
 obtain ⟨b1, a1, n1, c1, d1, m1, o1, bb1, aa1, nn1, cc1, dd1, mm1, oo1, rfl, q1⟩ : ∃ b1 a1 n1 c1 d1 m1 o1 bb1 aa1 nn1 cc1 dd1 mm1 oo1, v1 = .agg #[.bool b1, .slice a1 n1 c1, .slice d1 m1 o1, .bool bb1, .slice aa1 nn1 cc1, .slice dd1 mm1 oo1] ∧ True := let ⟨b1, a1, n1, c1, d1, m1, o1, bb1, aa1, nn1, cc1, dd1, mm1, oo1, e, _⟩ := h1; ⟨b1, a1, n1, c1, d1, m1, o1, bb1, aa1, nn1, cc1, dd1, mm1, oo1, e, trivial⟩
 clear q1
 obtain ⟨b2, a2, n2, c2, d2, m2, o2, rfl, q2⟩ : ∃ b a n c d m o, v2 = .agg #[.bool b, .slice a n c, .slice d m o] ∧ True := let ⟨b, a, n, c, d, m, o, e, _⟩ := h2; ⟨b, a, n, c, d, m, o, e, trivial⟩
 clear q2
 obtain ⟨W0, hW0⟩ : ∃ W0, W0 = ((w.alloc (.cells #[.bool b1, .slice a1 n1 c1, .slice d1 m1 o1, .bool bb1, .slice aa1 nn1 cc1, .slice dd1 mm1 oo1] 29)).alloc (.cells #[.bool b2, .slice a2 n2 c2, .slice d2 m2 o2] 27)) := ⟨_, rfl⟩
 have E0 : Ext w W0 := by rw [hW0]; exact ((Ext.alloc1 w (.cells #[.bool b1, .slice a1 n1 c1, .slice d1 m1 o1, .bool bb1, .slice aa1 nn1 cc1, .slice dd1 mm1 oo1] 29)).alloc (.cells #[.bool b2, .slice a2 n2 c2, .slice d2 m2 o2] 27))
 replace h1 : Sw W0 (.agg #[.bool b1, .slice a1 n1 c1, .slice d1 m1 o1, .bool bb1, .slice aa1 nn1 cc1, .slice dd1 mm1 oo1]) p := h1.ext E0
 replace h2 : Rw W0 (.agg #[.bool b2, .slice a2 n2 c2, .slice d2 m2 o2]) x := h2.ext E0
 have p2 : Bx6 W0 w.heap.size 29 (.bool b1) (.slice a1 n1 c1) (.slice d1 m1 o1) (.bool bb1) (.slice aa1 nn1 cc1) (.slice dd1 mm1 oo1) := by rw [hW0]; exact (Bx6.new w 29 (.bool b1) (.slice a1 n1 c1) (.slice d1 m1 o1) (.bool bb1) (.slice aa1 nn1 cc1) (.slice dd1 mm1 oo1)).ext (Ext.alloc1 (w.alloc (.cells #[.bool b1, .slice a1 n1 c1, .slice d1 m1 o1, .bool bb1, .slice aa1 nn1 cc1, .slice dd1 mm1 oo1] 29)) (.cells #[.bool b2, .slice a2 n2 c2, .slice d2 m2 o2] 27))
 have p3 : Bx3 W0 (w.heap.size + 1) 27 (.bool b2) (.slice a2 n2 c2) (.slice d2 m2 o2) := by rw [hW0]; simpa using (Bx3.new (w.alloc (.cells #[.bool b1, .slice a1 n1 c1, .slice d1 m1 o1, .bool bb1, .slice aa1 nn1 cc1, .slice dd1 mm1 oo1] 29)) 27 (.bool b2) (.slice a2 n2 c2) (.slice d2 m2 o2))
 go_enter Tryz.func18, Tryz.ntmps18
 obtain ⟨kp2_0, kp2_1, kp2_2, kp2_3, kp2_4, kp2_5⟩ := p2.c6
 obtain ⟨kp3_0, kp3_1, kp3_2⟩ := p3.c3
 go_wp2_with fail
 rw [← hW0]
 clear hW0; clear kp2_0 kp2_1 kp2_2 kp2_3 kp2_4 kp2_5 kp3_0 kp3_1 kp3_2
 refine (Tryz.ratLe h1.lo h2 s1.lo s2 hL).mono ?_
 rintro e W1 ⟨c1, rfl, hc1, hE⟩
 replace E0 := (Ext.trans E0 hE); replace h1 := (h1.ext hE); replace h2 := (h2.ext hE); replace p2 := (p2.ext hE); replace p3 := (p3.ext hE); clear hE
 cases hb : decide (p.1 ≤ x)
 ·rw [hb] at hc1
  have HB := Lib.hid hb
  clear hb
  obtain ⟨kp2_0, kp2_1, kp2_2, kp2_3, kp2_4, kp2_5⟩ := p2.c6
  obtain ⟨kp3_0, kp3_1, kp3_2⟩ := p3.c3
  clear h1 h2; go_wp2; go_ret
  exact ⟨ret_b (by unfold hasS; rw [HB.out]; rfl), E0⟩
 ·rw [hb] at hc1
  have HB := Lib.hid hb
  clear hb
  obtain ⟨kp2_0, kp2_1, kp2_2, kp2_3, kp2_4, kp2_5⟩ := p2.c6
  obtain ⟨kp3_0, kp3_1, kp3_2⟩ := p3.c3
  go_wp2_with fail
  clear kp2_0 kp2_1 kp2_2 kp2_3 kp2_4 kp2_5 kp3_0 kp3_1 kp3_2
  refine (Tryz.ratLe h2 h1.hi s2 s1.hi hL).mono ?_
  rintro e W2 ⟨c2, rfl, hc2, hE⟩
  have HC := Lib.hid hc2
  clear hc2; replace E0 := (Ext.trans E0 hE); replace h1 := (h1.ext hE); replace h2 := (h2.ext hE); replace p2 := (p2.ext hE); replace p3 := (p3.ext hE); clear hE
  obtain ⟨kp2_0, kp2_1, kp2_2, kp2_3, kp2_4, kp2_5⟩ := p2.c6
  obtain ⟨kp3_0, kp3_1, kp3_2⟩ := p3.c3
  clear h1 h2; go_wp2; go_ret
  exact ⟨ret_b (by unfold hasS; rw [HB.out, ← HC.out]; rfl), E0⟩

set_option maxRecDepth 100000 in
set_option maxHeartbeats 8000000 in
theorem Tryz.ivIn {v1 v2 : Value} {p q : Rat × Rat} {L : Nat} {w : World} (h1 : Sw w v1 p) (h2 : Sw w v2 q) (s1 : SmS L p) (s2 : SmS L q) (hL : L ≤ 1000) :
  Calls Tryz.prog 20 #[v1, v2] w fun e w' => e = .returned (.bool (inS p q)) ∧ Ext w w' := by
 obtain ⟨b1, a1, n1, c1, d1, m1, o1, bb1, aa1, nn1, cc1, dd1, mm1, oo1, rfl, q1⟩ : ∃ b1 a1 n1 c1 d1 m1 o1 bb1 aa1 nn1 cc1 dd1 mm1 oo1, v1 = .agg #[.bool b1, .slice a1 n1 c1, .slice d1 m1 o1, .bool bb1, .slice aa1 nn1 cc1, .slice dd1 mm1 oo1] ∧ True := let ⟨b1, a1, n1, c1, d1, m1, o1, bb1, aa1, nn1, cc1, dd1, mm1, oo1, e, _⟩ := h1; ⟨b1, a1, n1, c1, d1, m1, o1, bb1, aa1, nn1, cc1, dd1, mm1, oo1, e, trivial⟩
 clear q1
 obtain ⟨b2, a2, n2, c2, d2, m2, o2, bb2, aa2, nn2, cc2, dd2, mm2, oo2, rfl, q2⟩ : ∃ b2 a2 n2 c2 d2 m2 o2 bb2 aa2 nn2 cc2 dd2 mm2 oo2, v2 = .agg #[.bool b2, .slice a2 n2 c2, .slice d2 m2 o2, .bool bb2, .slice aa2 nn2 cc2, .slice dd2 mm2 oo2] ∧ True := let ⟨b2, a2, n2, c2, d2, m2, o2, bb2, aa2, nn2, cc2, dd2, mm2, oo2, e, _⟩ := h2; ⟨b2, a2, n2, c2, d2, m2, o2, bb2, aa2, nn2, cc2, dd2, mm2, oo2, e, trivial⟩
 clear q2
 obtain ⟨W0, hW0⟩ : ∃ W0, W0 = ((w.alloc (.cells #[.bool b1, .slice a1 n1 c1, .slice d1 m1 o1, .bool bb1, .slice aa1 nn1 cc1, .slice dd1 mm1 oo1] 29)).alloc (.cells #[.bool b2, .slice a2 n2 c2, .slice d2 m2 o2, .bool bb2, .slice aa2 nn2 cc2, .slice dd2 mm2 oo2] 29)) := ⟨_, rfl⟩
 have E0 : Ext w W0 := by rw [hW0]; exact ((Ext.alloc1 w (.cells #[.bool b1, .slice a1 n1 c1, .slice d1 m1 o1, .bool bb1, .slice aa1 nn1 cc1, .slice dd1 mm1 oo1] 29)).alloc (.cells #[.bool b2, .slice a2 n2 c2, .slice d2 m2 o2, .bool bb2, .slice aa2 nn2 cc2, .slice dd2 mm2 oo2] 29))
 replace h1 : Sw W0 (.agg #[.bool b1, .slice a1 n1 c1, .slice d1 m1 o1, .bool bb1, .slice aa1 nn1 cc1, .slice dd1 mm1 oo1]) p := h1.ext E0
 replace h2 : Sw W0 (.agg #[.bool b2, .slice a2 n2 c2, .slice d2 m2 o2, .bool bb2, .slice aa2 nn2 cc2, .slice dd2 mm2 oo2]) q := h2.ext E0
 have p2 : Bx6 W0 w.heap.size 29 (.bool b1) (.slice a1 n1 c1) (.slice d1 m1 o1) (.bool bb1) (.slice aa1 nn1 cc1) (.slice dd1 mm1 oo1) := by rw [hW0]; exact (Bx6.new w 29 (.bool b1) (.slice a1 n1 c1) (.slice d1 m1 o1) (.bool bb1) (.slice aa1 nn1 cc1) (.slice dd1 mm1 oo1)).ext (Ext.alloc1 (w.alloc (.cells #[.bool b1, .slice a1 n1 c1, .slice d1 m1 o1, .bool bb1, .slice aa1 nn1 cc1, .slice dd1 mm1 oo1] 29)) (.cells #[.bool b2, .slice a2 n2 c2, .slice d2 m2 o2, .bool bb2, .slice aa2 nn2 cc2, .slice dd2 mm2 oo2] 29))
 have p3 : Bx6 W0 (w.heap.size + 1) 29 (.bool b2) (.slice a2 n2 c2) (.slice d2 m2 o2) (.bool bb2) (.slice aa2 nn2 cc2) (.slice dd2 mm2 oo2) := by rw [hW0]; simpa using (Bx6.new (w.alloc (.cells #[.bool b1, .slice a1 n1 c1, .slice d1 m1 o1, .bool bb1, .slice aa1 nn1 cc1, .slice dd1 mm1 oo1] 29)) 29 (.bool b2) (.slice a2 n2 c2) (.slice d2 m2 o2) (.bool bb2) (.slice aa2 nn2 cc2) (.slice dd2 mm2 oo2))
 go_enter Tryz.func20, Tryz.ntmps20
 obtain ⟨kp2_0, kp2_1, kp2_2, kp2_3, kp2_4, kp2_5⟩ := p2.c6
 obtain ⟨kp3_0, kp3_1, kp3_2, kp3_3, kp3_4, kp3_5⟩ := p3.c6
 go_wp2_with fail
 rw [← hW0]
 clear hW0; clear kp2_0 kp2_1 kp2_2 kp2_3 kp2_4 kp2_5 kp3_0 kp3_1 kp3_2 kp3_3 kp3_4 kp3_5
 refine (Tryz.ivHas h2 h1.lo s2 s1.lo hL).mono ?_
 rintro e W1 ⟨rfl, hE⟩
 replace E0 := (Ext.trans E0 hE); replace h1 := (h1.ext hE); replace h2 := (h2.ext hE); replace p2 := (p2.ext hE); replace p3 := (p3.ext hE); clear hE
 cases hb : hasS q p.1
 ·have HB := Lib.hid hb
  clear hb
  obtain ⟨kp2_0, kp2_1, kp2_2, kp2_3, kp2_4, kp2_5⟩ := p2.c6
  obtain ⟨kp3_0, kp3_1, kp3_2, kp3_3, kp3_4, kp3_5⟩ := p3.c6
  clear h1 h2; go_wp2; go_ret
  exact ⟨ret_b (by unfold inS; rw [HB.out]; rfl), E0⟩
 ·have HB := Lib.hid hb
  clear hb
  obtain ⟨kp2_0, kp2_1, kp2_2, kp2_3, kp2_4, kp2_5⟩ := p2.c6
  obtain ⟨kp3_0, kp3_1, kp3_2, kp3_3, kp3_4, kp3_5⟩ := p3.c6
  go_wp2_with fail
  clear kp2_0 kp2_1 kp2_2 kp2_3 kp2_4 kp2_5 kp3_0 kp3_1 kp3_2 kp3_3 kp3_4 kp3_5
  refine (Tryz.ivHas h2 h1.hi s2 s1.hi hL).mono ?_
  rintro e W2 ⟨rfl, hE⟩
  obtain ⟨B, hB⟩ : ∃ B, B = hasS q p.2 := ⟨_, rfl⟩
  rw [← hB]
  have HBB := Lib.hid hB
  clear hB; replace E0 := (Ext.trans E0 hE); replace h1 := (h1.ext hE); replace h2 := (h2.ext hE); replace p2 := (p2.ext hE); replace p3 := (p3.ext hE); clear hE
  obtain ⟨kp2_0, kp2_1, kp2_2, kp2_3, kp2_4, kp2_5⟩ := p2.c6
  obtain ⟨kp3_0, kp3_1, kp3_2, kp3_3, kp3_4, kp3_5⟩ := p3.c6
  clear h1 h2; go_wp2; go_ret
  exact ⟨ret_b (by unfold inS; rw [HB.out, ← HBB.out]; rfl), E0⟩

set_option maxRecDepth 100000 in
set_option maxHeartbeats 8000000 in
theorem Tryz.ivRight {v1 : Value} {p : Rat × Rat} {L : Nat} {w : World} (h1 : Sw w v1 p) (s1 : SmS L p) (hL : L ≤ 300) :
  Calls Tryz.prog 12 #[v1] w fun e w' => e = .returned (.bool (decide (p.1 ≤ p.2))) ∧ Ext w w' := by
 obtain ⟨b1, a1, n1, c1, d1, m1, o1, bb1, aa1, nn1, cc1, dd1, mm1, oo1, rfl, q1⟩ : ∃ b1 a1 n1 c1 d1 m1 o1 bb1 aa1 nn1 cc1 dd1 mm1 oo1, v1 = .agg #[.bool b1, .slice a1 n1 c1, .slice d1 m1 o1, .bool bb1, .slice aa1 nn1 cc1, .slice dd1 mm1 oo1] ∧ True := let ⟨b1, a1, n1, c1, d1, m1, o1, bb1, aa1, nn1, cc1, dd1, mm1, oo1, e, _⟩ := h1; ⟨b1, a1, n1, c1, d1, m1, o1, bb1, aa1, nn1, cc1, dd1, mm1, oo1, e, trivial⟩
 clear q1
 obtain ⟨W0, hW0⟩ : ∃ W0, W0 = (w.alloc (.cells #[.bool b1, .slice a1 n1 c1, .slice d1 m1 o1, .bool bb1, .slice aa1 nn1 cc1, .slice dd1 mm1 oo1] 29)) := ⟨_, rfl⟩
 have E0 : Ext w W0 := by rw [hW0]; exact (Ext.alloc1 w (.cells #[.bool b1, .slice a1 n1 c1, .slice d1 m1 o1, .bool bb1, .slice aa1 nn1 cc1, .slice dd1 mm1 oo1] 29))
 replace h1 : Sw W0 (.agg #[.bool b1, .slice a1 n1 c1, .slice d1 m1 o1, .bool bb1, .slice aa1 nn1 cc1, .slice dd1 mm1 oo1]) p := h1.ext E0
 have p1 : Bx6 W0 w.heap.size 29 (.bool b1) (.slice a1 n1 c1) (.slice d1 m1 o1) (.bool bb1) (.slice aa1 nn1 cc1) (.slice dd1 mm1 oo1) := by rw [hW0]; exact (Bx6.new w 29 (.bool b1) (.slice a1 n1 c1) (.slice d1 m1 o1) (.bool bb1) (.slice aa1 nn1 cc1) (.slice dd1 mm1 oo1))
 go_enter Tryz.func12, Tryz.ntmps12
 obtain ⟨kp1_0, kp1_1, kp1_2, kp1_3, kp1_4, kp1_5⟩ := p1.c6
 go_wp2_with fail
 rw [← hW0]
 clear hW0; clear kp1_0 kp1_1 kp1_2 kp1_3 kp1_4 kp1_5
 refine (Tryz.ratRightT h1.lo s1.lo hL).mono ?_
 rintro e W1 ⟨rfl, hE⟩
 replace E0 := (Ext.trans E0 hE); replace h1 := (h1.ext hE); replace p1 := (p1.ext hE); clear hE
 obtain ⟨kp1_0, kp1_1, kp1_2, kp1_3, kp1_4, kp1_5⟩ := p1.c6
 go_wp2_with fail
 clear kp1_0 kp1_1 kp1_2 kp1_3 kp1_4 kp1_5
 refine (Tryz.ratRightT h1.hi s1.hi hL).mono ?_
 rintro e W2 ⟨rfl, hE⟩
 replace E0 := (Ext.trans E0 hE); replace h1 := (h1.ext hE); replace p1 := (p1.ext hE); clear hE
 obtain ⟨kp1_0, kp1_1, kp1_2, kp1_3, kp1_4, kp1_5⟩ := p1.c6
 go_wp2_with fail
 clear kp1_0 kp1_1 kp1_2 kp1_3 kp1_4 kp1_5
 refine (Tryz.ratLe h1.lo h1.hi s1.lo s1.hi (by omega)).mono ?_
 rintro e W3 ⟨c2, rfl, hc2, hE⟩
 have HC := Lib.hid hc2
 clear hc2; replace E0 := (Ext.trans E0 hE); replace h1 := (h1.ext hE); replace p1 := (p1.ext hE); clear hE
 obtain ⟨kp1_0, kp1_1, kp1_2, kp1_3, kp1_4, kp1_5⟩ := p1.c6
 clear h1; go_wp2; go_ret
 exact ⟨ret_b (by rw [← HC.out]), E0⟩

set_option maxRecDepth 100000 in
set_option maxHeartbeats 8000000 in
theorem Tryz.rsHas {v1 v2 : Value} {p : Rat × Rat} {x : Rat} {L : Nat} {w : World} (h1 : Sw w v1 p) (h2 : Rw w v2 x) (s1 : SmS L p) (s2 : SmR L x) (hL : L ≤ 1000) :
  Calls Tryz.prog 19 #[v1, v2] w fun e w' => e = .returned (.bool (hasS p x)) ∧ Ext w w' := by
 obtain ⟨b1, a1, n1, c1, d1, m1, o1, bb1, aa1, nn1, cc1, dd1, mm1, oo1, rfl, q1⟩ : ∃ b1 a1 n1 c1 d1 m1 o1 bb1 aa1 nn1 cc1 dd1 mm1 oo1, v1 = .agg #[.bool b1, .slice a1 n1 c1, .slice d1 m1 o1, .bool bb1, .slice aa1 nn1 cc1, .slice dd1 mm1 oo1] ∧ True := let ⟨b1, a1, n1, c1, d1, m1, o1, bb1, aa1, nn1, cc1, dd1, mm1, oo1, e, _⟩ := h1; ⟨b1, a1, n1, c1, d1, m1, o1, bb1, aa1, nn1, cc1, dd1, mm1, oo1, e, trivial⟩
 clear q1
 obtain ⟨b2, a2, n2, c2, d2, m2, o2, rfl, q2⟩ : ∃ b a n c d m o, v2 = .agg #[.bool b, .slice a n c, .slice d m o] ∧ True := let ⟨b, a, n, c, d, m, o, e, _⟩ := h2; ⟨b, a, n, c, d, m, o, e, trivial⟩
 clear q2
 obtain ⟨W0, hW0⟩ : ∃ W0, W0 = ((w.alloc (.cells #[.bool b1, .slice a1 n1 c1, .slice d1 m1 o1, .bool bb1, .slice aa1 nn1 cc1, .slice dd1 mm1 oo1] 29)).alloc (.cells #[.bool b2, .slice a2 n2 c2, .slice d2 m2 o2] 27)) := ⟨_, rfl⟩
 have E0 : Ext w W0 := by rw [hW0]; exact ((Ext.alloc1 w (.cells #[.bool b1, .slice a1 n1 c1, .slice d1 m1 o1, .bool bb1, .slice aa1 nn1 cc1, .slice dd1 mm1 oo1] 29)).alloc (.cells #[.bool b2, .slice a2 n2 c2, .slice d2 m2 o2] 27))
 replace h1 : Sw W0 (.agg #[.bool b1, .slice a1 n1 c1, .slice d1 m1 o1, .bool bb1, .slice aa1 nn1 cc1, .slice dd1 mm1 oo1]) p := h1.ext E0
 replace h2 : Rw W0 (.agg #[.bool b2, .slice a2 n2 c2, .slice d2 m2 o2]) x := h2.ext E0
 have p2 : Bx6 W0 w.heap.size 29 (.bool b1) (.slice a1 n1 c1) (.slice d1 m1 o1) (.bool bb1) (.slice aa1 nn1 cc1) (.slice dd1 mm1 oo1) := by rw [hW0]; exact (Bx6.new w 29 (.bool b1) (.slice a1 n1 c1) (.slice d1 m1 o1) (.bool bb1) (.slice aa1 nn1 cc1) (.slice dd1 mm1 oo1)).ext (Ext.alloc1 (w.alloc (.cells #[.bool b1, .slice a1 n1 c1, .slice d1 m1 o1, .bool bb1, .slice aa1 nn1 cc1, .slice dd1 mm1 oo1] 29)) (.cells #[.bool b2, .slice a2 n2 c2, .slice d2 m2 o2] 27))
 have p3 : Bx3 W0 (w.heap.size + 1) 27 (.bool b2) (.slice a2 n2 c2) (.slice d2 m2 o2) := by rw [hW0]; simpa using (Bx3.new (w.alloc (.cells #[.bool b1, .slice a1 n1 c1, .slice d1 m1 o1, .bool bb1, .slice aa1 nn1 cc1, .slice dd1 mm1 oo1] 29)) 27 (.bool b2) (.slice a2 n2 c2) (.slice d2 m2 o2))
 go_enter Tryz.func19, Tryz.ntmps19
 obtain ⟨kp2_0, kp2_1, kp2_2, kp2_3, kp2_4, kp2_5⟩ := p2.c6
 obtain ⟨kp3_0, kp3_1, kp3_2⟩ := p3.c3
 go_wp2_with fail
 rw [← hW0]
 clear hW0; clear kp2_0 kp2_1 kp2_2 kp2_3 kp2_4 kp2_5 kp3_0 kp3_1 kp3_2
 refine (Tryz.refRLe h1.lo h2 s1.lo s2 hL).mono ?_
 rintro e W1 ⟨c1, rfl, hc1, hE⟩
 replace E0 := (Ext.trans E0 hE); replace h1 := (h1.ext hE); replace h2 := (h2.ext hE); replace p2 := (p2.ext hE); replace p3 := (p3.ext hE); clear hE
 cases hb : decide (p.1 ≤ x)
 ·rw [hb] at hc1
  have HB := Lib.hid hb
  clear hb
  obtain ⟨kp2_0, kp2_1, kp2_2, kp2_3, kp2_4, kp2_5⟩ := p2.c6
  obtain ⟨kp3_0, kp3_1, kp3_2⟩ := p3.c3
  clear h1 h2; go_wp2; go_ret
  exact ⟨ret_b (by unfold hasS; rw [HB.out]; rfl), E0⟩
 ·rw [hb] at hc1
  have HB := Lib.hid hb
  clear hb
  obtain ⟨kp2_0, kp2_1, kp2_2, kp2_3, kp2_4, kp2_5⟩ := p2.c6
  obtain ⟨kp3_0, kp3_1, kp3_2⟩ := p3.c3
  go_wp2_with fail
  clear kp2_0 kp2_1 kp2_2 kp2_3 kp2_4 kp2_5 kp3_0 kp3_1 kp3_2
  refine (Tryz.refRLe h2 h1.hi s2 s1.hi hL).mono ?_
  rintro e W2 ⟨c2, rfl, hc2, hE⟩
  have HC := Lib.hid hc2
  clear hc2; replace E0 := (Ext.trans E0 hE); replace h1 := (h1.ext hE); replace h2 := (h2.ext hE); replace p2 := (p2.ext hE); replace p3 := (p3.ext hE); clear hE
  obtain ⟨kp2_0, kp2_1, kp2_2, kp2_3, kp2_4, kp2_5⟩ := p2.c6
  obtain ⟨kp3_0, kp3_1, kp3_2⟩ := p3.c3
  clear h1 h2; go_wp2; go_ret
  exact ⟨ret_b (by unfold hasS; rw [HB.out, ← HC.out]; rfl), E0⟩

set_option maxRecDepth 100000 in
set_option maxHeartbeats 8000000 in
theorem Tryz.rsIn {v1 v2 : Value} {p q : Rat × Rat} {L : Nat} {w : World} (h1 : Sw w v1 p) (h2 : Sw w v2 q) (s1 : SmS L p) (s2 : SmS L q) (hL : L ≤ 1000) :
  Calls Tryz.prog 21 #[v1, v2] w fun e w' => e = .returned (.bool (inS p q)) ∧ Ext w w' := by
 obtain ⟨b1, a1, n1, c1, d1, m1, o1, bb1, aa1, nn1, cc1, dd1, mm1, oo1, rfl, q1⟩ : ∃ b1 a1 n1 c1 d1 m1 o1 bb1 aa1 nn1 cc1 dd1 mm1 oo1, v1 = .agg #[.bool b1, .slice a1 n1 c1, .slice d1 m1 o1, .bool bb1, .slice aa1 nn1 cc1, .slice dd1 mm1 oo1] ∧ True := let ⟨b1, a1, n1, c1, d1, m1, o1, bb1, aa1, nn1, cc1, dd1, mm1, oo1, e, _⟩ := h1; ⟨b1, a1, n1, c1, d1, m1, o1, bb1, aa1, nn1, cc1, dd1, mm1, oo1, e, trivial⟩
 clear q1
 obtain ⟨b2, a2, n2, c2, d2, m2, o2, bb2, aa2, nn2, cc2, dd2, mm2, oo2, rfl, q2⟩ : ∃ b2 a2 n2 c2 d2 m2 o2 bb2 aa2 nn2 cc2 dd2 mm2 oo2, v2 = .agg #[.bool b2, .slice a2 n2 c2, .slice d2 m2 o2, .bool bb2, .slice aa2 nn2 cc2, .slice dd2 mm2 oo2] ∧ True := let ⟨b2, a2, n2, c2, d2, m2, o2, bb2, aa2, nn2, cc2, dd2, mm2, oo2, e, _⟩ := h2; ⟨b2, a2, n2, c2, d2, m2, o2, bb2, aa2, nn2, cc2, dd2, mm2, oo2, e, trivial⟩
 clear q2
 obtain ⟨W0, hW0⟩ : ∃ W0, W0 = ((w.alloc (.cells #[.bool b1, .slice a1 n1 c1, .slice d1 m1 o1, .bool bb1, .slice aa1 nn1 cc1, .slice dd1 mm1 oo1] 29)).alloc (.cells #[.bool b2, .slice a2 n2 c2, .slice d2 m2 o2, .bool bb2, .slice aa2 nn2 cc2, .slice dd2 mm2 oo2] 29)) := ⟨_, rfl⟩
 have E0 : Ext w W0 := by rw [hW0]; exact ((Ext.alloc1 w (.cells #[.bool b1, .slice a1 n1 c1, .slice d1 m1 o1, .bool bb1, .slice aa1 nn1 cc1, .slice dd1 mm1 oo1] 29)).alloc (.cells #[.bool b2, .slice a2 n2 c2, .slice d2 m2 o2, .bool bb2, .slice aa2 nn2 cc2, .slice dd2 mm2 oo2] 29))
 replace h1 : Sw W0 (.agg #[.bool b1, .slice a1 n1 c1, .slice d1 m1 o1, .bool bb1, .slice aa1 nn1 cc1, .slice dd1 mm1 oo1]) p := h1.ext E0
 replace h2 : Sw W0 (.agg #[.bool b2, .slice a2 n2 c2, .slice d2 m2 o2, .bool bb2, .slice aa2 nn2 cc2, .slice dd2 mm2 oo2]) q := h2.ext E0
 have p2 : Bx6 W0 w.heap.size 29 (.bool b1) (.slice a1 n1 c1) (.slice d1 m1 o1) (.bool bb1) (.slice aa1 nn1 cc1) (.slice dd1 mm1 oo1) := by rw [hW0]; exact (Bx6.new w 29 (.bool b1) (.slice a1 n1 c1) (.slice d1 m1 o1) (.bool bb1) (.slice aa1 nn1 cc1) (.slice dd1 mm1 oo1)).ext (Ext.alloc1 (w.alloc (.cells #[.bool b1, .slice a1 n1 c1, .slice d1 m1 o1, .bool bb1, .slice aa1 nn1 cc1, .slice dd1 mm1 oo1] 29)) (.cells #[.bool b2, .slice a2 n2 c2, .slice d2 m2 o2, .bool bb2, .slice aa2 nn2 cc2, .slice dd2 mm2 oo2] 29))
 have p3 : Bx6 W0 (w.heap.size + 1) 29 (.bool b2) (.slice a2 n2 c2) (.slice d2 m2 o2) (.bool bb2) (.slice aa2 nn2 cc2) (.slice dd2 mm2 oo2) := by rw [hW0]; simpa using (Bx6.new (w.alloc (.cells #[.bool b1, .slice a1 n1 c1, .slice d1 m1 o1, .bool bb1, .slice aa1 nn1 cc1, .slice dd1 mm1 oo1] 29)) 29 (.bool b2) (.slice a2 n2 c2) (.slice d2 m2 o2) (.bool bb2) (.slice aa2 nn2 cc2) (.slice dd2 mm2 oo2))
 go_enter Tryz.func21, Tryz.ntmps21
 obtain ⟨kp2_0, kp2_1, kp2_2, kp2_3, kp2_4, kp2_5⟩ := p2.c6
 obtain ⟨kp3_0, kp3_1, kp3_2, kp3_3, kp3_4, kp3_5⟩ := p3.c6
 go_wp2_with fail
 rw [← hW0]
 clear hW0; clear kp2_0 kp2_1 kp2_2 kp2_3 kp2_4 kp2_5 kp3_0 kp3_1 kp3_2 kp3_3 kp3_4 kp3_5
 refine (Tryz.rsHas h2 h1.lo s2 s1.lo hL).mono ?_
 rintro e W1 ⟨rfl, hE⟩
 replace E0 := (Ext.trans E0 hE); replace h1 := (h1.ext hE); replace h2 := (h2.ext hE); replace p2 := (p2.ext hE); replace p3 := (p3.ext hE); clear hE
 cases hb : hasS q p.1
 ·have HB := Lib.hid hb
  clear hb
  obtain ⟨kp2_0, kp2_1, kp2_2, kp2_3, kp2_4, kp2_5⟩ := p2.c6
  obtain ⟨kp3_0, kp3_1, kp3_2, kp3_3, kp3_4, kp3_5⟩ := p3.c6
  clear h1 h2; go_wp2; go_ret
  exact ⟨ret_b (by unfold inS; rw [HB.out]; rfl), E0⟩
 ·have HB := Lib.hid hb
  clear hb
  obtain ⟨kp2_0, kp2_1, kp2_2, kp2_3, kp2_4, kp2_5⟩ := p2.c6
  obtain ⟨kp3_0, kp3_1, kp3_2, kp3_3, kp3_4, kp3_5⟩ := p3.c6
  go_wp2_with fail
  clear kp2_0 kp2_1 kp2_2 kp2_3 kp2_4 kp2_5 kp3_0 kp3_1 kp3_2 kp3_3 kp3_4 kp3_5
  refine (Tryz.rsHas h2 h1.hi s2 s1.hi hL).mono ?_
  rintro e W2 ⟨rfl, hE⟩
  obtain ⟨B, hB⟩ : ∃ B, B = hasS q p.2 := ⟨_, rfl⟩
  rw [← hB]
  have HBB := Lib.hid hB
  clear hB; replace E0 := (Ext.trans E0 hE); replace h1 := (h1.ext hE); replace h2 := (h2.ext hE); replace p2 := (p2.ext hE); replace p3 := (p3.ext hE); clear hE
  obtain ⟨kp2_0, kp2_1, kp2_2, kp2_3, kp2_4, kp2_5⟩ := p2.c6
  obtain ⟨kp3_0, kp3_1, kp3_2, kp3_3, kp3_4, kp3_5⟩ := p3.c6
  clear h1 h2; go_wp2; go_ret
  exact ⟨ret_b (by unfold inS; rw [HB.out, ← HBB.out]; rfl), E0⟩

set_option maxRecDepth 100000 in
set_option maxHeartbeats 8000000 in
theorem Tryz.rsRight {v1 : Value} {p : Rat × Rat} {L : Nat} {w : World} (h1 : Sw w v1 p) (s1 : SmS L p) (hL : L ≤ 300) :
  Calls Tryz.prog 13 #[v1] w fun e w' => e = .returned (.bool (decide (p.1 ≤ p.2))) ∧ Ext w w' := by
 obtain ⟨b1, a1, n1, c1, d1, m1, o1, bb1, aa1, nn1, cc1, dd1, mm1, oo1, rfl, q1⟩ : ∃ b1 a1 n1 c1 d1 m1 o1 bb1 aa1 nn1 cc1 dd1 mm1 oo1, v1 = .agg #[.bool b1, .slice a1 n1 c1, .slice d1 m1 o1, .bool bb1, .slice aa1 nn1 cc1, .slice dd1 mm1 oo1] ∧ True := let ⟨b1, a1, n1, c1, d1, m1, o1, bb1, aa1, nn1, cc1, dd1, mm1, oo1, e, _⟩ := h1; ⟨b1, a1, n1, c1, d1, m1, o1, bb1, aa1, nn1, cc1, dd1, mm1, oo1, e, trivial⟩
 clear q1
 obtain ⟨W0, hW0⟩ : ∃ W0, W0 = (w.alloc (.cells #[.bool b1, .slice a1 n1 c1, .slice d1 m1 o1, .bool bb1, .slice aa1 nn1 cc1, .slice dd1 mm1 oo1] 29)) := ⟨_, rfl⟩
 have E0 : Ext w W0 := by rw [hW0]; exact (Ext.alloc1 w (.cells #[.bool b1, .slice a1 n1 c1, .slice d1 m1 o1, .bool bb1, .slice aa1 nn1 cc1, .slice dd1 mm1 oo1] 29))
 replace h1 : Sw W0 (.agg #[.bool b1, .slice a1 n1 c1, .slice d1 m1 o1, .bool bb1, .slice aa1 nn1 cc1, .slice dd1 mm1 oo1]) p := h1.ext E0
 have p1 : Bx6 W0 w.heap.size 29 (.bool b1) (.slice a1 n1 c1) (.slice d1 m1 o1) (.bool bb1) (.slice aa1 nn1 cc1) (.slice dd1 mm1 oo1) := by rw [hW0]; exact (Bx6.new w 29 (.bool b1) (.slice a1 n1 c1) (.slice d1 m1 o1) (.bool bb1) (.slice aa1 nn1 cc1) (.slice dd1 mm1 oo1))
 go_enter Tryz.func13, Tryz.ntmps13
 obtain ⟨kp1_0, kp1_1, kp1_2, kp1_3, kp1_4, kp1_5⟩ := p1.c6
 go_wp2_with fail
 rw [← hW0]
 clear hW0; clear kp1_0 kp1_1 kp1_2 kp1_3 kp1_4 kp1_5
 refine (Tryz.refRRightT h1.lo s1.lo hL).mono ?_
 rintro e W1 ⟨rfl, hE⟩
 replace E0 := (Ext.trans E0 hE); replace h1 := (h1.ext hE); replace p1 := (p1.ext hE); clear hE
 obtain ⟨kp1_0, kp1_1, kp1_2, kp1_3, kp1_4, kp1_5⟩ := p1.c6
 go_wp2_with fail
 clear kp1_0 kp1_1 kp1_2 kp1_3 kp1_4 kp1_5
 refine (Tryz.refRRightT h1.hi s1.hi hL).mono ?_
 rintro e W2 ⟨rfl, hE⟩
 replace E0 := (Ext.trans E0 hE); replace h1 := (h1.ext hE); replace p1 := (p1.ext hE); clear hE
 obtain ⟨kp1_0, kp1_1, kp1_2, kp1_3, kp1_4, kp1_5⟩ := p1.c6
 go_wp2_with fail
 clear kp1_0 kp1_1 kp1_2 kp1_3 kp1_4 kp1_5
 refine (Tryz.refRLe h1.lo h1.hi s1.lo s1.hi (by omega)).mono ?_
 rintro e W3 ⟨c2, rfl, hc2, hE⟩
 have HC := Lib.hid hc2
 clear hc2; replace E0 := (Ext.trans E0 hE); replace h1 := (h1.ext hE); replace p1 := (p1.ext hE); clear hE
 obtain ⟨kp1_0, kp1_1, kp1_2, kp1_3, kp1_4, kp1_5⟩ := p1.c6
 clear h1; go_wp2; go_ret
 exact ⟨ret_b (by rw [← HC.out]), E0⟩

set_option maxRecDepth 100000 in
set_option maxHeartbeats 8000000 in
theorem Tryz.rsFew {b1 : Bool} {a1 : Option Addr} {n1 c1 : Nat} {d1 : Option Addr} {m1 o1 : Nat} {bb1 : Bool} {aa1 : Option Addr} {nn1 cc1 : Nat} {dd1 : Option Addr} {mm1 oo1 : Nat} {xs ys us vs : List Nat} {w : World} (x1 : Nt w (.slice a1 n1 c1) xs) (x2 : Nt w (.slice d1 m1 o1) ys) (x3 : Nt w (.slice aa1 nn1 cc1) us) (x4 : Nt w (.slice dd1 mm1 oo1) vs) (L : Nat) (hL : L ≤ 300) :
  Calls Tryz.prog 17 #[.agg #[.bool b1, .slice a1 n1 c1, .slice d1 m1 o1, .bool bb1, .slice aa1 nn1 cc1, .slice dd1 mm1 oo1], .int .i64 (L : Int)] w fun e w' => ∃ B, e = .returned (.bool B) ∧ (B = true → ∃ p, Sw w (.agg #[.bool b1, .slice a1 n1 c1, .slice d1 m1 o1, .bool bb1, .slice aa1 nn1 cc1, .slice dd1 mm1 oo1]) p ∧ SmS L p ∧ p.1 ≤ p.2) ∧ Ext w w' := by
 have HY := Lib.hid (And.intro x1 (And.intro x2 (And.intro x3 x4)))
 obtain ⟨W0, hW0⟩ : ∃ W0, W0 = (w.alloc (.cells #[.bool b1, .slice a1 n1 c1, .slice d1 m1 o1, .bool bb1, .slice aa1 nn1 cc1, .slice dd1 mm1 oo1] 29)) := ⟨_, rfl⟩
 have E0 : Ext w W0 := by rw [hW0]; exact (Ext.alloc1 w (.cells #[.bool b1, .slice a1 n1 c1, .slice d1 m1 o1, .bool bb1, .slice aa1 nn1 cc1, .slice dd1 mm1 oo1] 29))
 replace x1 : Nt W0 (.slice a1 n1 c1) xs := x1.ext E0
 replace x2 : Nt W0 (.slice d1 m1 o1) ys := x2.ext E0
 replace x3 : Nt W0 (.slice aa1 nn1 cc1) us := x3.ext E0
 replace x4 : Nt W0 (.slice dd1 mm1 oo1) vs := x4.ext E0
 have p2 : Bx6 W0 w.heap.size 29 (.bool b1) (.slice a1 n1 c1) (.slice d1 m1 o1) (.bool bb1) (.slice aa1 nn1 cc1) (.slice dd1 mm1 oo1) := by rw [hW0]; exact (Bx6.new w 29 (.bool b1) (.slice a1 n1 c1) (.slice d1 m1 o1) (.bool bb1) (.slice aa1 nn1 cc1) (.slice dd1 mm1 oo1))
 go_enter Tryz.func17, Tryz.ntmps17
 obtain ⟨kp2_0, kp2_1, kp2_2, kp2_3, kp2_4, kp2_5⟩ := p2.c6
 go_wp2_with fail
 rw [← hW0]
 clear hW0; clear kp2_0 kp2_1 kp2_2 kp2_3 kp2_4 kp2_5
 refine (Tryz.refRFew x1 x2 L hL).mono ?_
 rintro e W1 ⟨rfl, hE⟩
 replace E0 := (Ext.trans E0 hE)
 replace x1 := (x1.ext hE)
 replace x2 := (x2.ext hE)
 replace x3 := (x3.ext hE)
 replace x4 := (x4.ext hE)
 replace p2 := (p2.ext hE); clear hE
 cases hb : fewR b1 xs ys (L : Int)
 ·obtain ⟨kp2_0, kp2_1, kp2_2, kp2_3, kp2_4, kp2_5⟩ := p2.c6
  clear hb; clear x1 x2 x3 x4; go_wp2; go_ret
  exact ⟨_, rfl, (fun h => by cases h), E0⟩
 ·have HB := Lib.hid hb
  clear hb
  obtain ⟨kp2_0, kp2_1, kp2_2, kp2_3, kp2_4, kp2_5⟩ := p2.c6
  go_wp2_with fail
  clear kp2_0 kp2_1 kp2_2 kp2_3 kp2_4 kp2_5
  refine (Tryz.refRFew x3 x4 L hL).mono ?_
  rintro e W2 ⟨rfl, hE⟩
  replace E0 := (Ext.trans E0 hE)
  replace x1 := (x1.ext hE)
  replace x2 := (x2.ext hE)
  replace x3 := (x3.ext hE)
  replace x4 := (x4.ext hE)
  replace p2 := (p2.ext hE); clear hE
  cases hb : fewR bb1 us vs (L : Int)
  ·obtain ⟨kp2_0, kp2_1, kp2_2, kp2_3, kp2_4, kp2_5⟩ := p2.c6
   clear hb; clear x1 x2 x3 x4; go_wp2; go_ret
   exact ⟨_, rfl, (fun h => by cases h), E0⟩
  ·have HB2 := Lib.hid hb
   clear hb
   obtain ⟨x, hx, sx⟩ := fewR_rw HY.out.1 HY.out.2.1 HB.out
   obtain ⟨y, hy, sy⟩ := fewR_rw HY.out.2.2.1 HY.out.2.2.2 HB2.out
   have hs0 := Sw.mk hx hy
   have HS := Lib.hid hs0
   have hs := hs0.ext E0
   clear hx hy hs0
   obtain ⟨kp2_0, kp2_1, kp2_2, kp2_3, kp2_4, kp2_5⟩ := p2.c6
   go_wp2_with fail
   clear kp2_0 kp2_1 kp2_2 kp2_3 kp2_4 kp2_5
   refine (Tryz.rsRight hs ⟨sx, sy⟩ hL).mono ?_
   rintro e W3 ⟨rfl, hE⟩
   obtain ⟨B, hB⟩ : ∃ B, B = decide (x ≤ y) := ⟨_, rfl⟩
   rw [← hB]
   have HBB := Lib.hid hB
   clear hB; replace E0 := (Ext.trans E0 hE)
   replace x1 := (x1.ext hE)
   replace x2 := (x2.ext hE)
   replace x3 := (x3.ext hE)
   replace x4 := (x4.ext hE)
   replace p2 := (p2.ext hE); clear hE
   obtain ⟨kp2_0, kp2_1, kp2_2, kp2_3, kp2_4, kp2_5⟩ := p2.c6
   clear x1 x2 x3 x4 hs; go_wp2; go_ret
   exact ⟨_, rfl, (fun h => ⟨(x, y), HS.out, ⟨sx, sy⟩, of_decide_eq_true (HBB.out.symm.trans (by first | exact h | simpa using h))⟩), E0⟩

set_option maxRecDepth 100000 in
set_option maxHeartbeats 8000000 in
theorem Tryz.rsSameT {v1 v2 : Value} {p q : Rat × Rat} {w : World} (h1 : Sw w v1 p) (h2 : Sw w v2 q) (he : p = q) :
  Calls Tryz.prog 14 #[v1, v2] w fun e w' => e = .returned (.bool true) ∧ Ext w w' := by
 subst he
 obtain ⟨b1, a1, n1, c1, d1, m1, o1, bb1, aa1, nn1, cc1, dd1, mm1, oo1, rfl, q1⟩ : ∃ b1 a1 n1 c1 d1 m1 o1 bb1 aa1 nn1 cc1 dd1 mm1 oo1, v1 = .agg #[.bool b1, .slice a1 n1 c1, .slice d1 m1 o1, .bool bb1, .slice aa1 nn1 cc1, .slice dd1 mm1 oo1] ∧ True := let ⟨b1, a1, n1, c1, d1, m1, o1, bb1, aa1, nn1, cc1, dd1, mm1, oo1, e, _⟩ := h1; ⟨b1, a1, n1, c1, d1, m1, o1, bb1, aa1, nn1, cc1, dd1, mm1, oo1, e, trivial⟩
 clear q1
 obtain ⟨b2, a2, n2, c2, d2, m2, o2, bb2, aa2, nn2, cc2, dd2, mm2, oo2, rfl, q2⟩ : ∃ b2 a2 n2 c2 d2 m2 o2 bb2 aa2 nn2 cc2 dd2 mm2 oo2, v2 = .agg #[.bool b2, .slice a2 n2 c2, .slice d2 m2 o2, .bool bb2, .slice aa2 nn2 cc2, .slice dd2 mm2 oo2] ∧ True := let ⟨b2, a2, n2, c2, d2, m2, o2, bb2, aa2, nn2, cc2, dd2, mm2, oo2, e, _⟩ := h2; ⟨b2, a2, n2, c2, d2, m2, o2, bb2, aa2, nn2, cc2, dd2, mm2, oo2, e, trivial⟩
 clear q2
 obtain ⟨W0, hW0⟩ : ∃ W0, W0 = ((w.alloc (.cells #[.bool b1, .slice a1 n1 c1, .slice d1 m1 o1, .bool bb1, .slice aa1 nn1 cc1, .slice dd1 mm1 oo1] 29)).alloc (.cells #[.bool b2, .slice a2 n2 c2, .slice d2 m2 o2, .bool bb2, .slice aa2 nn2 cc2, .slice dd2 mm2 oo2] 29)) := ⟨_, rfl⟩
 have E0 : Ext w W0 := by rw [hW0]; exact ((Ext.alloc1 w (.cells #[.bool b1, .slice a1 n1 c1, .slice d1 m1 o1, .bool bb1, .slice aa1 nn1 cc1, .slice dd1 mm1 oo1] 29)).alloc (.cells #[.bool b2, .slice a2 n2 c2, .slice d2 m2 o2, .bool bb2, .slice aa2 nn2 cc2, .slice dd2 mm2 oo2] 29))
 replace h1 : Sw W0 (.agg #[.bool b1, .slice a1 n1 c1, .slice d1 m1 o1, .bool bb1, .slice aa1 nn1 cc1, .slice dd1 mm1 oo1]) p := h1.ext E0
 replace h2 : Sw W0 (.agg #[.bool b2, .slice a2 n2 c2, .slice d2 m2 o2, .bool bb2, .slice aa2 nn2 cc2, .slice dd2 mm2 oo2]) p := h2.ext E0
 have p2 : Bx6 W0 w.heap.size 29 (.bool b1) (.slice a1 n1 c1) (.slice d1 m1 o1) (.bool bb1) (.slice aa1 nn1 cc1) (.slice dd1 mm1 oo1) := by rw [hW0]; exact (Bx6.new w 29 (.bool b1) (.slice a1 n1 c1) (.slice d1 m1 o1) (.bool bb1) (.slice aa1 nn1 cc1) (.slice dd1 mm1 oo1)).ext (Ext.alloc1 (w.alloc (.cells #[.bool b1, .slice a1 n1 c1, .slice d1 m1 o1, .bool bb1, .slice aa1 nn1 cc1, .slice dd1 mm1 oo1] 29)) (.cells #[.bool b2, .slice a2 n2 c2, .slice d2 m2 o2, .bool bb2, .slice aa2 nn2 cc2, .slice dd2 mm2 oo2] 29))
 have p3 : Bx6 W0 (w.heap.size + 1) 29 (.bool b2) (.slice a2 n2 c2) (.slice d2 m2 o2) (.bool bb2) (.slice aa2 nn2 cc2) (.slice dd2 mm2 oo2) := by rw [hW0]; simpa using (Bx6.new (w.alloc (.cells #[.bool b1, .slice a1 n1 c1, .slice d1 m1 o1, .bool bb1, .slice aa1 nn1 cc1, .slice dd1 mm1 oo1] 29)) 29 (.bool b2) (.slice a2 n2 c2) (.slice d2 m2 o2) (.bool bb2) (.slice aa2 nn2 cc2) (.slice dd2 mm2 oo2))
 go_enter Tryz.func14, Tryz.ntmps14
 obtain ⟨kp2_0, kp2_1, kp2_2, kp2_3, kp2_4, kp2_5⟩ := p2.c6
 obtain ⟨kp3_0, kp3_1, kp3_2, kp3_3, kp3_4, kp3_5⟩ := p3.c6
 go_wp2_with fail
 rw [← hW0]
 clear hW0; clear kp2_0 kp2_1 kp2_2 kp2_3 kp2_4 kp2_5 kp3_0 kp3_1 kp3_2 kp3_3 kp3_4 kp3_5
 refine (Tryz.refRSameT h1.lo h2.lo rfl).mono ?_
 rintro e W1 ⟨rfl, hE⟩
 replace E0 := (Ext.trans E0 hE); replace h1 := (h1.ext hE); replace h2 := (h2.ext hE); replace p2 := (p2.ext hE); replace p3 := (p3.ext hE); clear hE
 obtain ⟨kp2_0, kp2_1, kp2_2, kp2_3, kp2_4, kp2_5⟩ := p2.c6
 obtain ⟨kp3_0, kp3_1, kp3_2, kp3_3, kp3_4, kp3_5⟩ := p3.c6
 go_wp2_with fail
 clear kp2_0 kp2_1 kp2_2 kp2_3 kp2_4 kp2_5 kp3_0 kp3_1 kp3_2 kp3_3 kp3_4 kp3_5
 refine (Tryz.refRSameT h1.hi h2.hi rfl).mono ?_
 rintro e W2 ⟨rfl, hE⟩
 replace E0 := (Ext.trans E0 hE); replace h1 := (h1.ext hE); replace h2 := (h2.ext hE); replace p2 := (p2.ext hE); replace p3 := (p3.ext hE); clear hE
 obtain ⟨kp2_0, kp2_1, kp2_2, kp2_3, kp2_4, kp2_5⟩ := p2.c6
 obtain ⟨kp3_0, kp3_1, kp3_2, kp3_3, kp3_4, kp3_5⟩ := p3.c6
 clear h1 h2; go_wp2; go_ret
 exact ⟨rfl, E0⟩

set_option maxRecDepth 100000 in
set_option maxHeartbeats 8000000 in
theorem Tryz.ivAdd {v1 v2 : Value} {p q : Rat × Rat} {L : Nat} {w : World} (h1 : Sw w v1 p) (h2 : Sw w v2 q) (s1 : SmS L p) (s2 : SmS L q) (hL : L ≤ 60) :
  Calls Tryz.prog 31 #[v1, v2] w fun e w' => ∃ v', e = .returned v' ∧ Sw w' v' (p.1 + q.1, p.2 + q.2) ∧ Ext w w' := by
 obtain ⟨b1, a1, n1, c1, d1, m1, o1, bb1, aa1, nn1, cc1, dd1, mm1, oo1, rfl, q1⟩ : ∃ b1 a1 n1 c1 d1 m1 o1 bb1 aa1 nn1 cc1 dd1 mm1 oo1, v1 = .agg #[.bool b1, .slice a1 n1 c1, .slice d1 m1 o1, .bool bb1, .slice aa1 nn1 cc1, .slice dd1 mm1 oo1] ∧ True := let ⟨b1, a1, n1, c1, d1, m1, o1, bb1, aa1, nn1, cc1, dd1, mm1, oo1, e, _⟩ := h1; ⟨b1, a1, n1, c1, d1, m1, o1, bb1, aa1, nn1, cc1, dd1, mm1, oo1, e, trivial⟩
 clear q1
 obtain ⟨b2, a2, n2, c2, d2, m2, o2, bb2, aa2, nn2, cc2, dd2, mm2, oo2, rfl, q2⟩ : ∃ b2 a2 n2 c2 d2 m2 o2 bb2 aa2 nn2 cc2 dd2 mm2 oo2, v2 = .agg #[.bool b2, .slice a2 n2 c2, .slice d2 m2 o2, .bool bb2, .slice aa2 nn2 cc2, .slice dd2 mm2 oo2] ∧ True := let ⟨b2, a2, n2, c2, d2, m2, o2, bb2, aa2, nn2, cc2, dd2, mm2, oo2, e, _⟩ := h2; ⟨b2, a2, n2, c2, d2, m2, o2, bb2, aa2, nn2, cc2, dd2, mm2, oo2, e, trivial⟩
 clear q2
 obtain ⟨W0, hW0⟩ : ∃ W0, W0 = (((w.alloc (.cells #[.bool b1, .slice a1 n1 c1, .slice d1 m1 o1, .bool bb1, .slice aa1 nn1 cc1, .slice dd1 mm1 oo1] 29)).alloc (.cells #[.bool b2, .slice a2 n2 c2, .slice d2 m2 o2, .bool bb2, .slice aa2 nn2 cc2, .slice dd2 mm2 oo2] 29)).alloc (.cells #[.bool false, .slice none 0 0, .slice none 0 0, .bool false, .slice none 0 0, .slice none 0 0] 29)) := ⟨_, rfl⟩
 have E0 : Ext w W0 := by rw [hW0]; exact (((Ext.alloc1 w (.cells #[.bool b1, .slice a1 n1 c1, .slice d1 m1 o1, .bool bb1, .slice aa1 nn1 cc1, .slice dd1 mm1 oo1] 29)).alloc (.cells #[.bool b2, .slice a2 n2 c2, .slice d2 m2 o2, .bool bb2, .slice aa2 nn2 cc2, .slice dd2 mm2 oo2] 29)).alloc (.cells #[.bool false, .slice none 0 0, .slice none 0 0, .bool false, .slice none 0 0, .slice none 0 0] 29))
 replace h1 : Sw W0 (.agg #[.bool b1, .slice a1 n1 c1, .slice d1 m1 o1, .bool bb1, .slice aa1 nn1 cc1, .slice dd1 mm1 oo1]) p := h1.ext E0
 replace h2 : Sw W0 (.agg #[.bool b2, .slice a2 n2 c2, .slice d2 m2 o2, .bool bb2, .slice aa2 nn2 cc2, .slice dd2 mm2 oo2]) q := h2.ext E0
 have p2 : Bx6 W0 w.heap.size 29 (.bool b1) (.slice a1 n1 c1) (.slice d1 m1 o1) (.bool bb1) (.slice aa1 nn1 cc1) (.slice dd1 mm1 oo1) := by rw [hW0]; exact (Bx6.new w 29 (.bool b1) (.slice a1 n1 c1) (.slice d1 m1 o1) (.bool bb1) (.slice aa1 nn1 cc1) (.slice dd1 mm1 oo1)).ext ((Ext.alloc1 (w.alloc (.cells #[.bool b1, .slice a1 n1 c1, .slice d1 m1 o1, .bool bb1, .slice aa1 nn1 cc1, .slice dd1 mm1 oo1] 29)) (.cells #[.bool b2, .slice a2 n2 c2, .slice d2 m2 o2, .bool bb2, .slice aa2 nn2 cc2, .slice dd2 mm2 oo2] 29)).alloc (.cells #[.bool false, .slice none 0 0, .slice none 0 0, .bool false, .slice none 0 0, .slice none 0 0] 29))
 have p3 : Bx6 W0 (w.heap.size + 1) 29 (.bool b2) (.slice a2 n2 c2) (.slice d2 m2 o2) (.bool bb2) (.slice aa2 nn2 cc2) (.slice dd2 mm2 oo2) := by rw [hW0]; simpa using (Bx6.new (w.alloc (.cells #[.bool b1, .slice a1 n1 c1, .slice d1 m1 o1, .bool bb1, .slice aa1 nn1 cc1, .slice dd1 mm1 oo1] 29)) 29 (.bool b2) (.slice a2 n2 c2) (.slice d2 m2 o2) (.bool bb2) (.slice aa2 nn2 cc2) (.slice dd2 mm2 oo2)).ext (Ext.alloc1 ((w.alloc (.cells #[.bool b1, .slice a1 n1 c1, .slice d1 m1 o1, .bool bb1, .slice aa1 nn1 cc1, .slice dd1 mm1 oo1] 29)).alloc (.cells #[.bool b2, .slice a2 n2 c2, .slice d2 m2 o2, .bool bb2, .slice aa2 nn2 cc2, .slice dd2 mm2 oo2] 29)) (.cells #[.bool false, .slice none 0 0, .slice none 0 0, .bool false, .slice none 0 0, .slice none 0 0] 29))
 have p4 : Bx6 W0 (w.heap.size + 1 + 1) 29 (.bool false) (.slice none 0 0) (.slice none 0 0) (.bool false) (.slice none 0 0) (.slice none 0 0) := by rw [hW0]; simpa using (Bx6.new ((w.alloc (.cells #[.bool b1, .slice a1 n1 c1, .slice d1 m1 o1, .bool bb1, .slice aa1 nn1 cc1, .slice dd1 mm1 oo1] 29)).alloc (.cells #[.bool b2, .slice a2 n2 c2, .slice d2 m2 o2, .bool bb2, .slice aa2 nn2 cc2, .slice dd2 mm2 oo2] 29)) 29 (.bool false) (.slice none 0 0) (.slice none 0 0) (.bool false) (.slice none 0 0) (.slice none 0 0))
 go_enter Tryz.func31, Tryz.ntmps31
 obtain ⟨kp2_0, kp2_1, kp2_2, kp2_3, kp2_4, kp2_5⟩ := p2.c6
 obtain ⟨kp3_0, kp3_1, kp3_2, kp3_3, kp3_4, kp3_5⟩ := p3.c6
 obtain ⟨kp4_0, kp4_1, kp4_2, kp4_3, kp4_4, kp4_5⟩ := p4.c6
 go_upto_region 1 with (fail)
 rw [← hW0]
 clear hW0; clear kp2_0 kp2_1 kp2_2 kp2_3 kp2_4 kp2_5 kp3_0 kp3_1 kp3_2 kp3_3 kp3_4 kp3_5 kp4_0 kp4_1 kp4_2 kp4_3 kp4_4 kp4_5; have fp4 := p4.form; have ltp2 := p2.lt; have ltp3 := p3.lt; have ltfp4 := fp4.lt; have szw3 := Ext.size E0
 refine region_gs [.one fun v _ => v = .pointer (some ⟨w.heap.size, 0, none⟩),
   .one fun v _ => v = .agg #[.bool b1, .slice a1 n1 c1, .slice d1 m1 o1],
   .one fun v _ => v = .pointer (some ⟨w.heap.size + 1, 0, none⟩),
   .one fun v _ => v = .agg #[.bool b2, .slice a2 n2 c2, .slice d2 m2 o2],
   .one fun v W => Rw W v (p.1 + q.1),
   .one fun v _ => v = .pointer (some ⟨w.heap.size, 3, none⟩),
   .one fun v _ => v = .agg #[.bool bb1, .slice aa1 nn1 cc1, .slice dd1 mm1 oo1],
   .one fun v _ => v = .pointer (some ⟨w.heap.size + 1, 3, none⟩),
   .one fun v _ => v = .agg #[.bool bb2, .slice aa2 nn2 cc2, .slice dd2 mm2 oo2],
   .one fun v W => Rw W v (p.2 + q.2),
   .one fun v W => Sw W v ((p.1 + q.1, p.2 + q.2)),
   .two 10 (fun r _ W => At6 (w.heap.size + 1 + 1) 29 r W)]
  (fun W => Ext w W ∧ Sw W (.agg #[.bool b1, .slice a1 n1 c1, .slice d1 m1 o1, .bool bb1, .slice aa1 nn1 cc1, .slice dd1 mm1 oo1]) p ∧ Sw W (.agg #[.bool b2, .slice a2 n2 c2, .slice d2 m2 o2, .bool bb2, .slice aa2 nn2 cc2, .slice dd2 mm2 oo2]) q ∧ Bx6 W w.heap.size 29 (.bool b1) (.slice a1 n1 c1) (.slice d1 m1 o1) (.bool bb1) (.slice aa1 nn1 cc1) (.slice dd1 mm1 oo1) ∧ Bx6 W (w.heap.size + 1) 29 (.bool b2) (.slice a2 n2 c2) (.slice d2 m2 o2) (.bool bb2) (.slice aa2 nn2 cc2) (.slice dd2 mm2 oo2) ∧ Form W (w.heap.size + 1 + 1) 29 6 ∧ W0.heap.size ≤ W.heap.size) ⟨Good.is _, Good.is _, Good.is _, Good.is _, Good.rat _, Good.is _, Good.is _, Good.is _, Good.is _, Good.rat _, Good.span _, cert_at6, trivial⟩
  ⟨E0, h1, h2, p2, p3, fp4, Nat.le_refl _⟩ (A := ?A3) ?hA3 ?howe3 ?hfin3
 case hA3 =>
  intro vs
  simp only [putAll, Act.put, sA, sZ, sS, Nat.zero_add, Nat.reduceAdd]
  exact rfl
 case howe3 =>
  clear E0 h1 h2 p2 p3 fp4
  intro hf
  refine ⟨oE 0 [] hf rfl ?_, oE 1 [0] hf rfl ?_, oE 2 [] hf rfl ?_, oE 3 [2] hf rfl ?_, oE 4 [1, 3] hf rfl ?_, oE 5 [] hf rfl ?_, oE 6 [5] hf rfl ?_, oE 7 [] hf rfl ?_, oE 8 [7] hf rfl ?_, oE 9 [6, 8] hf rfl ?_, oE 10 [4, 9] hf rfl ?_, oW 11 [10] hf rfl ?_, trivial⟩
  all_goals intro vs W hS hp hx KO hKO
  all_goals simp only [Act.put, sA, sZ, sS] at hKO
  ·go_simp; exact hKO _ W (.refl W) rfl
  ·have e0 := isOf hp.1; simp only [e0] at hKO; have fc0 := hS.2.2.2.1.cell0; have fc1 := hS.2.2.2.1.cell1; have fc2 := hS.2.2.2.1.cell2; go_simp; exact hKO _ W (.refl W) rfl
  ·go_simp; exact hKO _ W (.refl W) rfl
  ·have e2 := isOf hp.1; simp only [e2] at hKO; have fc0 := hS.2.2.2.2.1.cell0; have fc1 := hS.2.2.2.2.1.cell1; have fc2 := hS.2.2.2.2.1.cell2; go_simp; exact hKO _ W (.refl W) rfl
  ·have e1 := isOf hp.1; have e3 := isOf hp.2.1; simp only [e1, e3] at hKO; go_simp
   refine (Tryz.ratAdd (hS.2.1.lo) (hS.2.2.1.lo) s1.lo s2.lo (by omega)).mono ?_
   rintro e W1 ⟨v, rfl, hv, hE⟩
   exact hKO _ W1 hE hv
  ·go_simp; exact hKO _ W (.refl W) rfl
  ·have e5 := isOf hp.1; simp only [e5] at hKO; have fc3 := hS.2.2.2.1.cell3; have fc4 := hS.2.2.2.1.cell4; have fc5 := hS.2.2.2.1.cell5; go_simp; exact hKO _ W (.refl W) rfl
  ·go_simp; exact hKO _ W (.refl W) rfl
  ·have e7 := isOf hp.1; simp only [e7] at hKO; have fc3 := hS.2.2.2.2.1.cell3; have fc4 := hS.2.2.2.2.1.cell4; have fc5 := hS.2.2.2.2.1.cell5; go_simp; exact hKO _ W (.refl W) rfl
  ·have e6 := isOf hp.1; have e8 := isOf hp.2.1; simp only [e6, e8] at hKO; go_simp
   refine (Tryz.ratAdd (hS.2.1.hi) (hS.2.2.1.hi) s1.hi s2.hi (by omega)).mono ?_
   rintro e W1 ⟨v, rfl, hv, hE⟩
   exact hKO _ W1 hE hv
  ·have q4 := hp.1; have q9 := hp.2.1
   have qr := q4
   obtain ⟨b4, a4, n4, c4, d4, m4, o4, ev4, -, -, -⟩ := qr
   replace q4 : Rw W (vs 4) (p.1 + q.1) := q4
   rw [ev4] at q4
   replace ev4 : vs 4 = _ := ev4
   have qr := q9
   obtain ⟨b9, a9, n9, c9, d9, m9, o9, ev9, -, -, -⟩ := qr
   replace q9 : Rw W (vs 9) (p.2 + q.2) := q9
   rw [ev9] at q9
   replace ev9 : vs 9 = _ := ev9; simp only [ev4, ev9] at hKO; go_simp; exact hKO _ W (Ext.refl W) (Sw.mk q4 q9)
  ·have q10 := hp.1
   have hf := hS.2.2.2.2.2.1
   obtain ⟨x0_0, x0_1, x0_2, x0_3, x0_4, x0_5, hx, hno⟩ := hf.bx6
   have qr := q10
   obtain ⟨b3, a3, n3, c3, d3, m3, o3, bb3, aa3, nn3, cc3, dd3, mm3, oo3, er, -, -⟩ := qr
   replace er : vs 10 = _ := er
   have r0 := hx.froz0
   have t0 := hx.cell0
   have r1 := hx.froz1
   have t1 := hx.cell1
   have r2 := hx.froz2
   have t2 := hx.cell2
   have r3 := hx.froz3
   have t3 := hx.cell3
   have r4 := hx.froz4
   have t4 := hx.cell4
   have r5 := hx.froz5
   have t5 := hx.cell5
   have hw := Wr.set6 hx hno b3 a3 n3 c3 d3 m3 o3 bb3 aa3 nn3 cc3 dd3 mm3 oo3
   have hq := hx.set (.bool b3) (.slice a3 n3 c3) (.slice d3 m3 o3) (.bool bb3) (.slice aa3 nn3 cc3) (.slice dd3 mm3 oo3)
   have hg : (w.heap.size + 1 + 1) ≤ (w.heap.size + 1 + 1) := Nat.le_refl _
   simp only [er] at hKO; go_simp
   exact hKO _ _ hw ⟨(Ext.wr hS.1 hw (by omega)), (hS.2.1.wr hw), (hS.2.2.1.wr hw), (hS.2.2.2.1.wr hw (by omega)), (hS.2.2.2.2.1.wr hw (by omega)), (hS.2.2.2.2.2.1.wr hw), (Nat.le_trans hS.2.2.2.2.2.2 hw.apart.size)⟩ ⟨b3, a3, n3, c3, d3, m3, o3, bb3, aa3, nn3, cc3, dd3, mm3, oo3, er, hq⟩
 intro vs W3 hS hp
 clear szw3 E0 h1 h2 p2 p3 fp4
 obtain ⟨E0, h1, h2, p2, p3, fp4, sz3⟩ := hS
 obtain ⟨h3_0, h3_1, h3_2, h3_3, h3_4, h3_5, h3_6, h3_7, h3_8, h3_9, h3_10, h3_11, -⟩ := hp
 obtain ⟨b3_11, a3_11, n3_11, c3_11, d3_11, m3_11, o3_11, bb3_11, aa3_11, nn3_11, cc3_11, dd3_11, mm3_11, oo3_11, er3_11, p3_11⟩ := h3_11
 replace er3_11 : vs 10 = _ := er3_11; replace h3_10 := (show Sw W3 (vs 10) ((p.1 + q.1, p.2 + q.2)) from h3_10)
 rw [er3_11] at h3_10
 replace h3_0 : vs 0 = .pointer (some ⟨w.heap.size, 0, none⟩) := h3_0
 replace h3_1 : vs 1 = .agg #[.bool b1, .slice a1 n1 c1, .slice d1 m1 o1] := h3_1
 replace h3_2 : vs 2 = .pointer (some ⟨w.heap.size + 1, 0, none⟩) := h3_2
 replace h3_3 : vs 3 = .agg #[.bool b2, .slice a2 n2 c2, .slice d2 m2 o2] := h3_3
 replace h3_5 : vs 5 = .pointer (some ⟨w.heap.size, 3, none⟩) := h3_5
 replace h3_6 : vs 6 = .agg #[.bool bb1, .slice aa1 nn1 cc1, .slice dd1 mm1 oo1] := h3_6
 replace h3_7 : vs 7 = .pointer (some ⟨w.heap.size + 1, 3, none⟩) := h3_7
 replace h3_8 : vs 8 = .agg #[.bool bb2, .slice aa2 nn2 cc2, .slice dd2 mm2 oo2] := h3_8
 simp only [er3_11, h3_0, h3_1, h3_2, h3_3, h3_5, h3_6, h3_7, h3_8]
 replace h3_4 : Rw W3 (vs 4) (p.1 + q.1) := h3_4
 generalize vs 4 = u3_4 at h3_4 ⊢
 replace h3_9 : Rw W3 (vs 9) (p.2 + q.2) := h3_9
 generalize vs 9 = u3_9 at h3_9 ⊢
 clear er3_11 h3_0 h3_1 h3_2 h3_3 h3_5 h3_6 h3_7 h3_8
 obtain ⟨kp2_0, kp2_1, kp2_2, kp2_3, kp2_4, kp2_5⟩ := p2.c6
 obtain ⟨kp3_0, kp3_1, kp3_2, kp3_3, kp3_4, kp3_5⟩ := p3.c6
 obtain ⟨kp3_11_0, kp3_11_1, kp3_11_2, kp3_11_3, kp3_11_4, kp3_11_5⟩ := p3_11.c6
 go_wp2
 exact bodyPost_ret (v := .agg #[.bool b3_11, .slice a3_11 n3_11 c3_11, .slice d3_11 m3_11 o3_11, .bool bb3_11, .slice aa3_11 nn3_11 cc3_11, .slice dd3_11 mm3_11 oo3_11]) (by simp [results, Tryz.results31, go_sem, kp3_11_0, kp3_11_1, kp3_11_2, kp3_11_3, kp3_11_4, kp3_11_5]) rfl ⟨_, rfl, h3_10, E0⟩

end Go.Rt
