/-
 The laws of chapter 15 (schedules): Ends: its walk.
-/
import Derived.Test.YtnldjpnjifnbeaaSchedC
namespace Go.Rt
open Go Go.RowKit Go.Proofs

set_option maxRecDepth 100000 in
set_option maxHeartbeats 8000000 in
theorem Try.endsDrop011 (B R Wm V T U K n m : Nat) (ee ll pp Y : Int) (w : World) (HR0 : Hid (rightS 2 (B : Int) (R : Int) ee (Wm : Int) (V : Int) ll pp (K : Int) = true)) (hB : B < 9223372036854775808) (HTT : Hid ((1 ≤ T ∧ T ≤ 1000000) ∧ (1 ≤ U ∧ U ≤ 1000000))) (hV : 1 ≤ V) (hWm : Wm ≤ 1000000) (hT : Wm < T) (hU : Wm < U) (hn : n = (T - Wm) / V) (hm : m = (U - Wm) / V)
  (HX : Hid (rateV 2 (B : Int) (R : Int) ee (Wm : Int) (V : Int) ll pp T K = (B : Int))) (HY : Hid (rateV 2 (B : Int) (R : Int) ee (Wm : Int) (V : Int) ll pp U K = Y)) (hem : n ≠ m) (hzn : n = 0) (hrp : R = 2 ^ K) :
  Calls Try.prog 12 #[.agg #[.int .i64 2, .int .i64 (B : Int), .int .i64 (R : Int), .int .i64 ee, .int .i64 (Wm : Int), .int .i64 (V : Int), .int .i64 ll, .int .i64 pp], .agg #[.int .i64 (T : Int), .int .i64 (U : Int)], .int .i64 (K : Int)] w fun e w' => e = .returned (.bool true) ∧ Ext w w' := by
 obtain ⟨P, hP⟩ : ∃ P, P = 2 ^ K := ⟨_, rfl⟩
 have hKb : K ≤ 40 := by have := rightS_iff.1 HR0.out; omega
 have hPb : P ≤ 1099511627776 := by rw [hP]; exact Nat.le_trans (Nat.pow_le_pow_right (by omega) hKb) (by decide)
 have hT2 := HTT.out
 rw [← hP] at hrp
 have hsh : IntKind.i64.wrap (2 ^ K) = (P : Int) := by rw [show ((2 : Int) ^ K) = ((2 ^ K : Nat) : Int) by simp, ← hP, IntKind.wrap_i64]; omega
 have hv0 : ((V : Int) == 0) = false := beq_eq_false_iff_ne.2 (by omega)
 have hv0a : ¬ ((V : Int) = 0) := by omega
 have hv0b : ¬ (V = 0) := by omega
 have hA1 : ¬ ((T : Int) ≤ (Wm : Int)) := by omega
 have hA1d := decide_eq_false hA1
 have hA2 : ¬ ((U : Int) ≤ (Wm : Int)) := by omega
 have hA2d := decide_eq_false hA2
 have hA3 : ¬ ((T : Int) < 1) := by omega
 have hA3d := decide_eq_false hA3
 have hA4 : ¬ ((U : Int) < 1) := by omega
 have hA4d := decide_eq_false hA4
 have hA5 : ¬ ((1000000 : Int) < (T : Int)) := by omega
 have hA5d := decide_eq_false hA5
 have hA6 : ¬ ((1000000 : Int) < (U : Int)) := by omega
 have hA6d := decide_eq_false hA6
 have hqTb : n ≤ 1000000 := by rw [hn]; exact Nat.le_trans (Nat.div_le_self _ _) (by omega)
 have hsT : IntKind.i64.wrap ((T : Int) - (Wm : Int)) = ((T - Wm : Nat) : Int) := by rw [IntKind.wrap_i64]; omega
 have hdT : (((T - Wm : Nat) : Int)).tdiv (V : Int) = (n : Int) := by rw [Int.tdiv_eq_ediv_of_nonneg (by omega), hn]; rfl
 have hdT2 : (((T - Wm : Nat) : Int)) / (V : Int) = (n : Int) := by rw [hn]; rfl
 have hdT3 : IntKind.i64.wrap ((((T - Wm : Nat) : Int)).tdiv (V : Int)) = (n : Int) := by rw [hdT, IntKind.wrap_i64]; omega
 have hdT4 : IntKind.i64.wrap (n : Int) = (n : Int) := by rw [IntKind.wrap_i64]; omega
 have hqUb : m ≤ 1000000 := by rw [hm]; exact Nat.le_trans (Nat.div_le_self _ _) (by omega)
 have hsU : IntKind.i64.wrap ((U : Int) - (Wm : Int)) = ((U - Wm : Nat) : Int) := by rw [IntKind.wrap_i64]; omega
 have hdU : (((U - Wm : Nat) : Int)).tdiv (V : Int) = (m : Int) := by rw [Int.tdiv_eq_ediv_of_nonneg (by omega), hm]; rfl
 have hdU2 : (((U - Wm : Nat) : Int)) / (V : Int) = (m : Int) := by rw [hm]; rfl
 have hdU3 : IntKind.i64.wrap ((((U - Wm : Nat) : Int)).tdiv (V : Int)) = (m : Int) := by rw [hdU, IntKind.wrap_i64]; omega
 have hdU4 : IntKind.i64.wrap (m : Int) = (m : Int) := by rw [IntKind.wrap_i64]; omega
 have g1 : ((n : Int) != (m : Int)) = true := by simp; omega
 have g1b : ((n : Int) == (m : Int)) = false := beq_eq_false_iff_ne.2 (by omega)
 have g2 : ¬ (0 : Int) < (n : Int) := by omega
 have g2d := decide_eq_false g2
 have g2n : ¬ 0 < n := by omega
 have g2nd := decide_eq_false g2n
 have HRP := Lib.hid hrp
 have HBB : Hid (B < 9223372036854775808) := Lib.hid hB
 clear hB hP hPb hT2 hn hm hV hWm hT hU hzn hqTb hqUb hrp hem
 obtain rfl : R = P := HRP.out
 clear HRP
 obtain ⟨W0, hW0⟩ : ∃ W0, W0 = ((w.alloc (.cells #[.int .i64 2, .int .i64 (B : Int), .int .i64 (R : Int), .int .i64 ee, .int .i64 (Wm : Int), .int .i64 (V : Int), .int .i64 ll, .int .i64 pp] 64)).alloc (.cells #[.int .i64 (T : Int), .int .i64 (U : Int)] 65)) := ⟨_, rfl⟩
 have E0 : Ext w W0 := by rw [hW0]; exact ((Ext.alloc1 w (.cells #[.int .i64 2, .int .i64 (B : Int), .int .i64 (R : Int), .int .i64 ee, .int .i64 (Wm : Int), .int .i64 (V : Int), .int .i64 ll, .int .i64 pp] 64)).alloc (.cells #[.int .i64 (T : Int), .int .i64 (U : Int)] 65))
 have p3 : BxA W0 w.heap.size 64 #[.int .i64 2, .int .i64 (B : Int), .int .i64 (R : Int), .int .i64 ee, .int .i64 (Wm : Int), .int .i64 (V : Int), .int .i64 ll, .int .i64 pp] := by rw [hW0]; exact (BxA.new w 64 #[.int .i64 2, .int .i64 (B : Int), .int .i64 (R : Int), .int .i64 ee, .int .i64 (Wm : Int), .int .i64 (V : Int), .int .i64 ll, .int .i64 pp]).ext (Ext.alloc1 (w.alloc (.cells #[.int .i64 2, .int .i64 (B : Int), .int .i64 (R : Int), .int .i64 ee, .int .i64 (Wm : Int), .int .i64 (V : Int), .int .i64 ll, .int .i64 pp] 64)) (.cells #[.int .i64 (T : Int), .int .i64 (U : Int)] 65))
 have p4 : Bx2 W0 (w.heap.size + 1) 65 (.int .i64 (T : Int)) (.int .i64 (U : Int)) := by rw [hW0]; simpa using (Bx2.new (w.alloc (.cells #[.int .i64 2, .int .i64 (B : Int), .int .i64 (R : Int), .int .i64 ee, .int .i64 (Wm : Int), .int .i64 (V : Int), .int .i64 ll, .int .i64 pp] 64)) 65 (.int .i64 (T : Int)) (.int .i64 (U : Int)))
 go_enter Try.func12, Try.ntmps12
 obtain ⟨kp3_0, kp3_1, kp3_2, kp3_3, kp3_4, kp3_5, kp3_6, kp3_7⟩ := p3.cells8
 have kp4_0 := p4.cell0
 have kp4_1 := p4.cell1
 go_wp2_with fail
 rw [← hW0]
 clear hW0
 clear kp3_0 kp3_1 kp3_2 kp3_3 kp3_4 kp3_5 kp3_6 kp3_7 kp4_0 kp4_1
 refine (Try.refRight15 2 (B : Int) (R : Int) ee (Wm : Int) (V : Int) ll pp (K : Int) _).mono ?_
 rintro e V71 ⟨rfl, hE⟩
 rw [HR0.out]
 replace E0 := (Ext.trans E0 hE)
 replace p3 := (p3.ext hE)
 replace p4 := (p4.ext hE)
 clear hE
 obtain ⟨kp3_0, kp3_1, kp3_2, kp3_3, kp3_4, kp3_5, kp3_6, kp3_7⟩ := p3.cells8
 have kp4_0 := p4.cell0
 have kp4_1 := p4.cell1
 go_wp2_with fail
 clear kp3_0 kp3_1 kp3_2 kp3_3 kp3_4 kp3_5 kp3_6 kp3_7 kp4_0 kp4_1
 refine (Try.schedRate 2 (B : Int) (R : Int) ee (Wm : Int) (V : Int) ll pp T K _ HR0.out (by have := HBB.out; omega) HTT.out.1.1 HTT.out.1.2 HX.out).mono ?_
 rintro e V72 ⟨rfl, hE⟩
 replace E0 := (Ext.trans E0 hE)
 replace p3 := (p3.ext hE)
 replace p4 := (p4.ext hE)
 clear hE
 obtain ⟨kp3_0, kp3_1, kp3_2, kp3_3, kp3_4, kp3_5, kp3_6, kp3_7⟩ := p3.cells8
 have kp4_0 := p4.cell0
 have kp4_1 := p4.cell1
 go_wp2_with fail
 clear kp3_0 kp3_1 kp3_2 kp3_3 kp3_4 kp3_5 kp3_6 kp3_7 kp4_0 kp4_1
 refine (Try.schedRate 2 (B : Int) (R : Int) ee (Wm : Int) (V : Int) ll pp U K _ HR0.out (by have := HBB.out; omega) HTT.out.2.1 HTT.out.2.2 HY.out).mono ?_
 rintro e V73 ⟨rfl, hE⟩
 replace E0 := (Ext.trans E0 hE)
 replace p3 := (p3.ext hE)
 replace p4 := (p4.ext hE)
 clear hE
 obtain ⟨kp3_0, kp3_1, kp3_2, kp3_3, kp3_4, kp3_5, kp3_6, kp3_7⟩ := p3.cells8
 have kp4_0 := p4.cell0
 have kp4_1 := p4.cell1
 go_upto_region 11 with (fail)
 clear kp3_0 kp3_1 kp3_2 kp3_3 kp3_4 kp3_5 kp3_6 kp3_7 kp4_0 kp4_1
 try clear hA1d
 try clear hA1
 try clear hA2d
 try clear hA2
 try clear hA3d
 try clear hA3
 try clear hA4d
 try clear hA4
 try clear hA5d
 try clear hA5
 try clear hA6d
 try clear hA6
 have ltp3 := p3.lt
 have ltp4 := p4.lt
 have szw17 := Ext.size E0
 refine region_go [.one fun v _ => v = .pointer (some ⟨w.heap.size + 1, 0, none⟩),
   .one fun v _ => v = .int .i64 (T : Int),
   .one fun v _ => v = .pointer (some ⟨w.heap.size, 4, none⟩),
   .one fun v _ => v = .int .i64 (Wm : Int),
   .one fun v _ => v = .int .i64 ((T - Wm : Nat) : Int),
   .one fun v _ => v = .pointer (some ⟨w.heap.size, 5, none⟩),
   .one fun v _ => v = .int .i64 (V : Int),
   .one fun v _ => v = .int .i64 (n : Int),
   .one fun v _ => v = .pointer (some ⟨w.heap.size + 1, 1, none⟩),
   .one fun v _ => v = .int .i64 (U : Int),
   .one fun v _ => v = .pointer (some ⟨w.heap.size, 4, none⟩),
   .one fun v _ => v = .int .i64 (Wm : Int),
   .one fun v _ => v = .int .i64 ((U - Wm : Nat) : Int),
   .one fun v _ => v = .pointer (some ⟨w.heap.size, 5, none⟩),
   .one fun v _ => v = .int .i64 (V : Int),
   .one fun v _ => v = .int .i64 (m : Int),
   .one fun v _ => v = .int .i64 (n : Int),
   .one fun v _ => v = .int .i64 (m : Int)]
  (fun W => Ext w W ∧ BxA W w.heap.size 64 #[.int .i64 2, .int .i64 (B : Int), .int .i64 (R : Int), .int .i64 ee, .int .i64 (Wm : Int), .int .i64 (V : Int), .int .i64 ll, .int .i64 pp] ∧ Bx2 W (w.heap.size + 1) 65 (.int .i64 (T : Int)) (.int .i64 (U : Int)) ∧ V73.heap.size ≤ W.heap.size) ⟨Good.is _, Good.is _, Good.is _, Good.is _, Good.is _, Good.is _, Good.is _, Good.is _, Good.is _, Good.is _, Good.is _, Good.is _, Good.is _, Good.is _, Good.is _, Good.is _, Good.is _, Good.is _, trivial⟩
  (fun W W1 hS hE => ⟨(Ext.trans hS.1 hE), (hS.2.1.ext hE), (hS.2.2.1.ext hE), (Nat.le_trans hS.2.2.2 (Ext.size hE))⟩) ⟨E0, p3, p4, Nat.le_refl _⟩ (by kernel_rfl) (by kernel_rfl) (by kernel_rfl) (by kernel_rfl) (A := ?A17) ?hA17 ?howe17 ?hfin17
 case hA17 =>
  intro vs
  simp only [putAll, Act.put, List.setIfInBounds_toArray, List.set_cons_zero, List.set_cons_succ, Nat.zero_add, Nat.reduceAdd]
  exact rfl
 case howe17 =>
  clear E0 p3 p4
  intro hf
  refine ⟨owesE 0 [] hf rfl (by kernel_rfl) ?_, owesE 1 [0] hf rfl (by kernel_rfl) ?_, owesE 2 [] hf rfl (by kernel_rfl) ?_, owesE 3 [2] hf rfl (by kernel_rfl) ?_, owesE 4 [1, 3] hf rfl (by kernel_rfl) ?_, owesE 5 [] hf rfl (by kernel_rfl) ?_, owesE 6 [5] hf rfl (by kernel_rfl) ?_, owesE 7 [4, 6] hf rfl (by kernel_rfl) ?_, owesE 8 [] hf rfl (by kernel_rfl) ?_, owesE 9 [8] hf rfl (by kernel_rfl) ?_, owesE 10 [] hf rfl (by kernel_rfl) ?_, owesE 11 [10] hf rfl (by kernel_rfl) ?_, owesE 12 [9, 11] hf rfl (by kernel_rfl) ?_, owesE 13 [] hf rfl (by kernel_rfl) ?_, owesE 14 [13] hf rfl (by kernel_rfl) ?_, owesE 15 [12, 14] hf rfl (by kernel_rfl) ?_, owesE 16 [7] hf rfl (by kernel_rfl) ?_, owesE 17 [15] hf rfl (by kernel_rfl) ?_, trivial⟩
  all_goals intro vs W hS hp hx KO hKO
  all_goals simp only [Act.put, List.setIfInBounds_toArray, List.set_cons_zero, List.set_cons_succ] at hKO
  ·go_simp
   exact hKO _ W (Ext.refl W) rfl
  ·have e0 := isOf hp.1
   simp only [e0] at hKO
   have fc0 := hS.2.2.1.cell0
   go_simp
   exact hKO _ W (Ext.refl W) rfl
  ·go_simp
   exact hKO _ W (Ext.refl W) rfl
  ·have e2 := isOf hp.1
   simp only [e2] at hKO
   have fc4 := BxA.cell (hS.2.1) 4 (v := .int .i64 (Wm : Int)) rfl
   go_simp
   exact hKO _ W (Ext.refl W) rfl
  ·have e1 := isOf hp.1
   have e3 := isOf hp.2.1
   simp only [e1, e3] at hKO
   go_simp
   exact hKO _ W (Ext.refl W) rfl
  ·go_simp
   exact hKO _ W (Ext.refl W) rfl
  ·have e5 := isOf hp.1
   simp only [e5] at hKO
   have fc5 := BxA.cell (hS.2.1) 5 (v := .int .i64 (V : Int)) rfl
   go_simp
   exact hKO _ W (Ext.refl W) rfl
  ·have e4 := isOf hp.1
   have e6 := isOf hp.2.1
   simp only [e4, e6] at hKO
   go_simp
   exact hKO _ W (Ext.refl W) rfl
  ·go_simp
   exact hKO _ W (Ext.refl W) rfl
  ·have e8 := isOf hp.1
   simp only [e8] at hKO
   have fc1 := hS.2.2.1.cell1
   go_simp
   exact hKO _ W (Ext.refl W) rfl
  ·go_simp
   exact hKO _ W (Ext.refl W) rfl
  ·have e10 := isOf hp.1
   simp only [e10] at hKO
   have fc4 := BxA.cell (hS.2.1) 4 (v := .int .i64 (Wm : Int)) rfl
   go_simp
   exact hKO _ W (Ext.refl W) rfl
  ·have e9 := isOf hp.1
   have e11 := isOf hp.2.1
   simp only [e9, e11] at hKO
   go_simp
   exact hKO _ W (Ext.refl W) rfl
  ·go_simp
   exact hKO _ W (Ext.refl W) rfl
  ·have e13 := isOf hp.1
   simp only [e13] at hKO
   have fc5 := BxA.cell (hS.2.1) 5 (v := .int .i64 (V : Int)) rfl
   go_simp
   exact hKO _ W (Ext.refl W) rfl
  ·have e12 := isOf hp.1
   have e14 := isOf hp.2.1
   simp only [e12, e14] at hKO
   go_simp
   exact hKO _ W (Ext.refl W) rfl
  ·have e7 := isOf hp.1
   simp only [e7] at hKO
   go_simp
   exact hKO _ W (Ext.refl W) rfl
  ·have e15 := isOf hp.1
   simp only [e15] at hKO
   go_simp
   exact hKO _ W (Ext.refl W) rfl
 intro vs W17 hS hp
 clear szw17 E0 p3 p4
 obtain ⟨E0, p3, p4, sz17⟩ := hS
 obtain ⟨h17_0, h17_1, h17_2, h17_3, h17_4, h17_5, h17_6, h17_7, h17_8, h17_9, h17_10, h17_11, h17_12, h17_13, h17_14, h17_15, h17_16, h17_17, -⟩ := hp
 replace h17_0 : vs 0 = .pointer (some ⟨w.heap.size + 1, 0, none⟩) := h17_0
 replace h17_1 : vs 1 = .int .i64 (T : Int) := h17_1
 replace h17_2 : vs 2 = .pointer (some ⟨w.heap.size, 4, none⟩) := h17_2
 replace h17_3 : vs 3 = .int .i64 (Wm : Int) := h17_3
 replace h17_4 : vs 4 = .int .i64 ((T - Wm : Nat) : Int) := h17_4
 replace h17_5 : vs 5 = .pointer (some ⟨w.heap.size, 5, none⟩) := h17_5
 replace h17_6 : vs 6 = .int .i64 (V : Int) := h17_6
 replace h17_7 : vs 7 = .int .i64 (n : Int) := h17_7
 replace h17_8 : vs 8 = .pointer (some ⟨w.heap.size + 1, 1, none⟩) := h17_8
 replace h17_9 : vs 9 = .int .i64 (U : Int) := h17_9
 replace h17_10 : vs 10 = .pointer (some ⟨w.heap.size, 4, none⟩) := h17_10
 replace h17_11 : vs 11 = .int .i64 (Wm : Int) := h17_11
 replace h17_12 : vs 12 = .int .i64 ((U - Wm : Nat) : Int) := h17_12
 replace h17_13 : vs 13 = .pointer (some ⟨w.heap.size, 5, none⟩) := h17_13
 replace h17_14 : vs 14 = .int .i64 (V : Int) := h17_14
 replace h17_15 : vs 15 = .int .i64 (m : Int) := h17_15
 replace h17_16 : vs 16 = .int .i64 (n : Int) := h17_16
 replace h17_17 : vs 17 = .int .i64 (m : Int) := h17_17
 simp only [h17_0, h17_1, h17_2, h17_3, h17_4, h17_5, h17_6, h17_7, h17_8, h17_9, h17_10, h17_11, h17_12, h17_13, h17_14, h17_15, h17_16, h17_17]
 clear h17_0 h17_1 h17_2 h17_3 h17_4 h17_5 h17_6 h17_7 h17_8 h17_9 h17_10 h17_11 h17_12 h17_13 h17_14 h17_15 h17_16 h17_17
 obtain ⟨kp3_0, kp3_1, kp3_2, kp3_3, kp3_4, kp3_5, kp3_6, kp3_7⟩ := p3.cells8
 have kp4_0 := p4.cell0
 have kp4_1 := p4.cell1
 go_upto_region 12 with (fail)
 clear kp3_0 kp3_1 kp3_2 kp3_3 kp3_4 kp3_5 kp3_6 kp3_7 kp4_0 kp4_1
 try clear hsT
 try clear hsU
 try clear hdT
 try clear hdT2
 try clear hdT3
 try clear hdT4
 try clear hdU
 try clear hdU2
 try clear hdU3
 try clear hdU4
 try clear hv0
 try clear hv0a
 try clear hv0b
 have szw18 := Ext.size E0
 refine region_go [.one fun v _ => v = .bool true,
   .one fun v _ => v = .bool true,
   .one fun v _ => v = .int .i64 (n : Int),
   .one fun v _ => v = .int .i64 (m : Int),
   .one fun v _ => v = .bool true,
   .one fun v _ => v = .bool true,
   .one fun v _ => v = undef,
   .one fun v _ => v = undef,
   .one fun v _ => v = undef,
   .one fun v _ => v = .bool true,
   .one fun v _ => v = .bool true,
   .one fun v _ => v = .bool true,
   .one fun v _ => v = .int .i64 (n : Int),
   .one fun v _ => v = .bool false,
   .one fun v _ => v = .bool false,
   .one fun v _ => v = .int .i64 (B : Int),
   .one fun v _ => v = .pointer (some ⟨w.heap.size, 1, none⟩),
   .one fun v _ => v = .int .i64 (B : Int),
   .one fun v _ => v = .bool true,
   .one fun v _ => v = .bool true,
   .one fun v _ => v = .bool true,
   .one fun v _ => v = .bool true,
   .one fun v _ => v = .pointer (some ⟨w.heap.size, 2, none⟩),
   .one fun v _ => v = .int .i64 (R : Int),
   .one fun v _ => v = .int .i64 (K : Int),
   .one fun v _ => v = .int .i64 (R : Int),
   .one fun v _ => v = .bool false,
   .one fun v _ => v = .bool false,
   .one fun v _ => v = .int .i64 (B : Int),
   .one fun v _ => v = .pointer (some ⟨w.heap.size, 1, none⟩),
   .one fun v _ => v = .int .i64 (B : Int),
   .one fun v _ => v = .bool true,
   .one fun v _ => v = .bool true,
   .one fun v _ => v = .bool true,
   .one fun v _ => v = .bool true]
  (fun W => Ext w W ∧ BxA W w.heap.size 64 #[.int .i64 2, .int .i64 (B : Int), .int .i64 (R : Int), .int .i64 ee, .int .i64 (Wm : Int), .int .i64 (V : Int), .int .i64 ll, .int .i64 pp] ∧ Bx2 W (w.heap.size + 1) 65 (.int .i64 (T : Int)) (.int .i64 (U : Int)) ∧ W17.heap.size ≤ W.heap.size) ⟨Good.is _, Good.is _, Good.is _, Good.is _, Good.is _, Good.is _, Good.is _, Good.is _, Good.is _, Good.is _, Good.is _, Good.is _, Good.is _, Good.is _, Good.is _, Good.is _, Good.is _, Good.is _, Good.is _, Good.is _, Good.is _, Good.is _, Good.is _, Good.is _, Good.is _, Good.is _, Good.is _, Good.is _, Good.is _, Good.is _, Good.is _, Good.is _, Good.is _, Good.is _, Good.is _, trivial⟩
  (fun W W1 hS hE => ⟨(Ext.trans hS.1 hE), (hS.2.1.ext hE), (hS.2.2.1.ext hE), (Nat.le_trans hS.2.2.2 (Ext.size hE))⟩) ⟨E0, p3, p4, Nat.le_refl _⟩ (by kernel_rfl) (by kernel_rfl) (by kernel_rfl) (by kernel_rfl) (A := ?A18) ?hA18 ?howe18 ?hfin18
 case hA18 =>
  intro vs
  simp only [putAll, Act.put, List.setIfInBounds_toArray, List.set_cons_zero, List.set_cons_succ, Nat.zero_add, Nat.reduceAdd]
  exact rfl
 case howe18 =>
  clear E0 p3 p4
  intro hf
  refine ⟨owesE 0 [] hf rfl (by kernel_rfl) ?_, owesE 1 [0] hf rfl (by kernel_rfl) ?_, owesE 2 [1] hf rfl (by kernel_rfl) ?_, owesE 3 [1] hf rfl (by kernel_rfl) ?_, owesE 4 [1, 2, 3] hf rfl (by kernel_rfl) ?_, owesE 5 [1, 4] hf rfl (by kernel_rfl) ?_, owesE 6 [5] hf rfl (by kernel_rfl) ?_, owesE 7 [5] hf rfl (by kernel_rfl) ?_, owesE 8 [5] hf rfl (by kernel_rfl) ?_, owesE 9 [1, 5, 8] hf rfl (by kernel_rfl) ?_, owesE 10 [1, 9] hf rfl (by kernel_rfl) ?_, owesE 11 [10] hf rfl (by kernel_rfl) ?_, owesE 12 [11] hf rfl (by kernel_rfl) ?_, owesE 13 [11, 12] hf rfl (by kernel_rfl) ?_, owesE 14 [11, 13] hf rfl (by kernel_rfl) ?_, owesE 15 [14] hf rfl (by kernel_rfl) ?_, owesE 16 [14] hf rfl (by kernel_rfl) ?_, owesE 17 [14, 16] hf rfl (by kernel_rfl) ?_, owesE 18 [14, 15, 17] hf rfl (by kernel_rfl) ?_, owesE 19 [11, 14, 18] hf rfl (by kernel_rfl) ?_, owesE 20 [11, 19] hf rfl (by kernel_rfl) ?_, owesE 21 [20] hf rfl (by kernel_rfl) ?_, owesE 22 [21] hf rfl (by kernel_rfl) ?_, owesE 23 [21, 22] hf rfl (by kernel_rfl) ?_, owesE 24 [21] hf rfl (by kernel_rfl) ?_, owesE 25 [21, 24] hf rfl (by kernel_rfl) ?_, owesE 26 [21, 23, 25] hf rfl (by kernel_rfl) ?_, owesE 27 [21, 26] hf rfl (by kernel_rfl) ?_, owesE 28 [27] hf rfl (by kernel_rfl) ?_, owesE 29 [27] hf rfl (by kernel_rfl) ?_, owesE 30 [27, 29] hf rfl (by kernel_rfl) ?_, owesE 31 [27, 28, 30] hf rfl (by kernel_rfl) ?_, owesE 32 [21, 27, 31] hf rfl (by kernel_rfl) ?_, owesE 33 [21, 32] hf rfl (by kernel_rfl) ?_, owesE 34 [33] hf rfl (by kernel_rfl) ?_, trivial⟩
  all_goals intro vs W hS hp hx KO hKO
  all_goals simp only [Act.put, List.setIfInBounds_toArray, List.set_cons_zero, List.set_cons_succ] at hKO
  ·go_simp
   refine (Try.alive15 _).mono ?_
   rintro e W1 ⟨rfl, hE⟩
   exact hKO _ W1 hE rfl
  ·have e0 := isOf hp.1
   simp only [e0] at hKO
   go_simp
   exact hKO _ W (Ext.refl W) rfl
  ·have e1 := isOf hp.1
   simp only [e1] at hKO
   go_simp
   exact hKO _ W (Ext.refl W) rfl
  ·have e1 := isOf hp.1
   simp only [e1] at hKO
   go_simp
   exact hKO _ W (Ext.refl W) rfl
  ·have e1 := isOf hp.1
   have e2 := isOf hp.2.1
   have e3 := isOf hp.2.2.1
   simp only [e1, e2, e3] at hKO
   go_simp
   exact hKO _ W (Ext.refl W) rfl
  ·have e1 := isOf hp.1
   have e4 := isOf hp.2.1
   simp only [e1, e4] at hKO
   go_simp
   exact hKO _ W (Ext.refl W) rfl
  ·have e5 := isOf hp.1
   simp only [e5] at hKO
   go_simp
   exact hKO _ W (Ext.refl W) rfl
  ·have e5 := isOf hp.1
   simp only [e5] at hKO
   go_simp
   exact hKO _ W (Ext.refl W) rfl
  ·have e5 := isOf hp.1
   simp only [e5] at hKO
   go_simp
   exact hKO _ W (Ext.refl W) rfl
  ·have e1 := isOf hp.1
   have e5 := isOf hp.2.1
   have e8 := isOf hp.2.2.1
   simp only [e1, e5, e8] at hKO
   go_simp
   exact hKO _ W (Ext.refl W) rfl
  ·have e1 := isOf hp.1
   have e9 := isOf hp.2.1
   simp only [e1, e9] at hKO
   go_simp
   exact hKO _ W (Ext.refl W) rfl
  ·have e10 := isOf hp.1
   simp only [e10] at hKO
   go_simp
   exact hKO _ W (Ext.refl W) rfl
  ·have e11 := isOf hp.1
   simp only [e11] at hKO
   go_simp
   exact hKO _ W (Ext.refl W) rfl
  ·have e11 := isOf hp.1
   have e12 := isOf hp.2.1
   simp only [e11, e12] at hKO
   go_simp
   exact hKO _ W (Ext.refl W) rfl
  ·have e11 := isOf hp.1
   have e13 := isOf hp.2.1
   simp only [e11, e13] at hKO
   go_simp
   exact hKO _ W (Ext.refl W) rfl
  ·have e14 := isOf hp.1
   simp only [e14] at hKO
   go_simp
   exact hKO _ W (Ext.refl W) rfl
  ·have e14 := isOf hp.1
   simp only [e14] at hKO
   go_simp
   exact hKO _ W (Ext.refl W) rfl
  ·have e14 := isOf hp.1
   have e16 := isOf hp.2.1
   simp only [e14, e16] at hKO
   have fc1 := BxA.cell (hS.2.1) 1 (v := .int .i64 (B : Int)) rfl
   go_simp
   exact hKO _ W (Ext.refl W) rfl
  ·have e14 := isOf hp.1
   have e15 := isOf hp.2.1
   have e17 := isOf hp.2.2.1
   simp only [e14, e15, e17] at hKO
   go_simp
   exact hKO _ W (Ext.refl W) rfl
  ·have e11 := isOf hp.1
   have e14 := isOf hp.2.1
   have e18 := isOf hp.2.2.1
   simp only [e11, e14, e18] at hKO
   go_simp
   exact hKO _ W (Ext.refl W) rfl
  ·have e11 := isOf hp.1
   have e19 := isOf hp.2.1
   simp only [e11, e19] at hKO
   go_simp
   exact hKO _ W (Ext.refl W) rfl
  ·have e20 := isOf hp.1
   simp only [e20] at hKO
   go_simp
   exact hKO _ W (Ext.refl W) rfl
  ·have e21 := isOf hp.1
   simp only [e21] at hKO
   go_simp
   exact hKO _ W (Ext.refl W) rfl
  ·have e21 := isOf hp.1
   have e22 := isOf hp.2.1
   simp only [e21, e22] at hKO
   have fc2 := BxA.cell (hS.2.1) 2 (v := .int .i64 (R : Int)) rfl
   go_simp
   exact hKO _ W (Ext.refl W) rfl
  ·have e21 := isOf hp.1
   simp only [e21] at hKO
   go_simp
   exact hKO _ W (Ext.refl W) rfl
  ·have e21 := isOf hp.1
   have e24 := isOf hp.2.1
   simp only [e21, e24] at hKO
   go_simp
   exact hKO _ W (Ext.refl W) rfl
  ·have e21 := isOf hp.1
   have e23 := isOf hp.2.1
   have e25 := isOf hp.2.2.1
   simp only [e21, e23, e25] at hKO
   go_simp
   exact hKO _ W (Ext.refl W) rfl
  ·have e21 := isOf hp.1
   have e26 := isOf hp.2.1
   simp only [e21, e26] at hKO
   go_simp
   exact hKO _ W (Ext.refl W) rfl
  ·have e27 := isOf hp.1
   simp only [e27] at hKO
   go_simp
   exact hKO _ W (Ext.refl W) rfl
  ·have e27 := isOf hp.1
   simp only [e27] at hKO
   go_simp
   exact hKO _ W (Ext.refl W) rfl
  ·have e27 := isOf hp.1
   have e29 := isOf hp.2.1
   simp only [e27, e29] at hKO
   have fc1 := BxA.cell (hS.2.1) 1 (v := .int .i64 (B : Int)) rfl
   go_simp
   exact hKO _ W (Ext.refl W) rfl
  ·have e27 := isOf hp.1
   have e28 := isOf hp.2.1
   have e30 := isOf hp.2.2.1
   simp only [e27, e28, e30] at hKO
   go_simp
   exact hKO _ W (Ext.refl W) rfl
  ·have e21 := isOf hp.1
   have e27 := isOf hp.2.1
   have e31 := isOf hp.2.2.1
   simp only [e21, e27, e31] at hKO
   go_simp
   exact hKO _ W (Ext.refl W) rfl
  ·have e21 := isOf hp.1
   have e32 := isOf hp.2.1
   simp only [e21, e32] at hKO
   go_simp
   exact hKO _ W (Ext.refl W) rfl
  ·have e33 := isOf hp.1
   simp only [e33] at hKO
   go_simp
   exact hKO _ W (Ext.refl W) rfl
 intro vs W18 hS hp
 clear szw18 E0 p3 p4
 obtain ⟨E0, p3, p4, sz18⟩ := hS
 obtain ⟨h18_0, h18_1, h18_2, h18_3, h18_4, h18_5, h18_6, h18_7, h18_8, h18_9, h18_10, h18_11, h18_12, h18_13, h18_14, h18_15, h18_16, h18_17, h18_18, h18_19, h18_20, h18_21, h18_22, h18_23, h18_24, h18_25, h18_26, h18_27, h18_28, h18_29, h18_30, h18_31, h18_32, h18_33, h18_34, -⟩ := hp
 replace h18_0 : vs 0 = .bool true := h18_0
 replace h18_1 : vs 1 = .bool true := h18_1
 replace h18_2 : vs 2 = .int .i64 (n : Int) := h18_2
 replace h18_3 : vs 3 = .int .i64 (m : Int) := h18_3
 replace h18_4 : vs 4 = .bool true := h18_4
 replace h18_5 : vs 5 = .bool true := h18_5
 replace h18_6 : vs 6 = undef := h18_6
 replace h18_7 : vs 7 = undef := h18_7
 replace h18_8 : vs 8 = undef := h18_8
 replace h18_9 : vs 9 = .bool true := h18_9
 replace h18_10 : vs 10 = .bool true := h18_10
 replace h18_11 : vs 11 = .bool true := h18_11
 replace h18_12 : vs 12 = .int .i64 (n : Int) := h18_12
 replace h18_13 : vs 13 = .bool false := h18_13
 replace h18_14 : vs 14 = .bool false := h18_14
 replace h18_15 : vs 15 = .int .i64 (B : Int) := h18_15
 replace h18_16 : vs 16 = .pointer (some ⟨w.heap.size, 1, none⟩) := h18_16
 replace h18_17 : vs 17 = .int .i64 (B : Int) := h18_17
 replace h18_18 : vs 18 = .bool true := h18_18
 replace h18_19 : vs 19 = .bool true := h18_19
 replace h18_20 : vs 20 = .bool true := h18_20
 replace h18_21 : vs 21 = .bool true := h18_21
 replace h18_22 : vs 22 = .pointer (some ⟨w.heap.size, 2, none⟩) := h18_22
 replace h18_23 : vs 23 = .int .i64 (R : Int) := h18_23
 replace h18_24 : vs 24 = .int .i64 (K : Int) := h18_24
 replace h18_25 : vs 25 = .int .i64 (R : Int) := h18_25
 replace h18_26 : vs 26 = .bool false := h18_26
 replace h18_27 : vs 27 = .bool false := h18_27
 replace h18_28 : vs 28 = .int .i64 (B : Int) := h18_28
 replace h18_29 : vs 29 = .pointer (some ⟨w.heap.size, 1, none⟩) := h18_29
 replace h18_30 : vs 30 = .int .i64 (B : Int) := h18_30
 replace h18_31 : vs 31 = .bool true := h18_31
 replace h18_32 : vs 32 = .bool true := h18_32
 replace h18_33 : vs 33 = .bool true := h18_33
 replace h18_34 : vs 34 = .bool true := h18_34
 simp only [h18_0, h18_1, h18_2, h18_3, h18_4, h18_5, h18_6, h18_7, h18_8, h18_9, h18_10, h18_11, h18_12, h18_13, h18_14, h18_15, h18_16, h18_17, h18_18, h18_19, h18_20, h18_21, h18_22, h18_23, h18_24, h18_25, h18_26, h18_27, h18_28, h18_29, h18_30, h18_31, h18_32, h18_33, h18_34]
 clear h18_0 h18_1 h18_2 h18_3 h18_4 h18_5 h18_6 h18_7 h18_8 h18_9 h18_10 h18_11 h18_12 h18_13 h18_14 h18_15 h18_16 h18_17 h18_18 h18_19 h18_20 h18_21 h18_22 h18_23 h18_24 h18_25 h18_26 h18_27 h18_28 h18_29 h18_30 h18_31 h18_32 h18_33 h18_34
 obtain ⟨kp3_0, kp3_1, kp3_2, kp3_3, kp3_4, kp3_5, kp3_6, kp3_7⟩ := p3.cells8
 have kp4_0 := p4.cell0
 have kp4_1 := p4.cell1
 go_wp2
 go_ret
 exact ⟨rfl, E0⟩

set_option maxRecDepth 100000 in
set_option maxHeartbeats 8000000 in
theorem Try.endsDrop010 (B R Wm V T U K n m : Nat) (ee ll pp Y : Int) (w : World) (HR0 : Hid (rightS 2 (B : Int) (R : Int) ee (Wm : Int) (V : Int) ll pp (K : Int) = true)) (hB : B < 9223372036854775808) (HTT : Hid ((1 ≤ T ∧ T ≤ 1000000) ∧ (1 ≤ U ∧ U ≤ 1000000))) (hV : 1 ≤ V) (hWm : Wm ≤ 1000000) (hT : Wm < T) (hU : Wm < U) (hn : n = (T - Wm) / V) (hm : m = (U - Wm) / V)
  (HX : Hid (rateV 2 (B : Int) (R : Int) ee (Wm : Int) (V : Int) ll pp T K = (B : Int))) (HY : Hid (rateV 2 (B : Int) (R : Int) ee (Wm : Int) (V : Int) ll pp U K = Y)) (hem : n ≠ m) (hzn : n = 0) (hrp : R ≠ 2 ^ K) :
  Calls Try.prog 12 #[.agg #[.int .i64 2, .int .i64 (B : Int), .int .i64 (R : Int), .int .i64 ee, .int .i64 (Wm : Int), .int .i64 (V : Int), .int .i64 ll, .int .i64 pp], .agg #[.int .i64 (T : Int), .int .i64 (U : Int)], .int .i64 (K : Int)] w fun e w' => e = .returned (.bool true) ∧ Ext w w' := by
 obtain ⟨P, hP⟩ : ∃ P, P = 2 ^ K := ⟨_, rfl⟩
 have hKb : K ≤ 40 := by have := rightS_iff.1 HR0.out; omega
 have hPb : P ≤ 1099511627776 := by rw [hP]; exact Nat.le_trans (Nat.pow_le_pow_right (by omega) hKb) (by decide)
 have hT2 := HTT.out
 rw [← hP] at hrp
 have hsh : IntKind.i64.wrap (2 ^ K) = (P : Int) := by rw [show ((2 : Int) ^ K) = ((2 ^ K : Nat) : Int) by simp, ← hP, IntKind.wrap_i64]; omega
 have hv0 : ((V : Int) == 0) = false := beq_eq_false_iff_ne.2 (by omega)
 have hv0a : ¬ ((V : Int) = 0) := by omega
 have hv0b : ¬ (V = 0) := by omega
 have hA1 : ¬ ((T : Int) ≤ (Wm : Int)) := by omega
 have hA1d := decide_eq_false hA1
 have hA2 : ¬ ((U : Int) ≤ (Wm : Int)) := by omega
 have hA2d := decide_eq_false hA2
 have hA3 : ¬ ((T : Int) < 1) := by omega
 have hA3d := decide_eq_false hA3
 have hA4 : ¬ ((U : Int) < 1) := by omega
 have hA4d := decide_eq_false hA4
 have hA5 : ¬ ((1000000 : Int) < (T : Int)) := by omega
 have hA5d := decide_eq_false hA5
 have hA6 : ¬ ((1000000 : Int) < (U : Int)) := by omega
 have hA6d := decide_eq_false hA6
 have hqTb : n ≤ 1000000 := by rw [hn]; exact Nat.le_trans (Nat.div_le_self _ _) (by omega)
 have hsT : IntKind.i64.wrap ((T : Int) - (Wm : Int)) = ((T - Wm : Nat) : Int) := by rw [IntKind.wrap_i64]; omega
 have hdT : (((T - Wm : Nat) : Int)).tdiv (V : Int) = (n : Int) := by rw [Int.tdiv_eq_ediv_of_nonneg (by omega), hn]; rfl
 have hdT2 : (((T - Wm : Nat) : Int)) / (V : Int) = (n : Int) := by rw [hn]; rfl
 have hdT3 : IntKind.i64.wrap ((((T - Wm : Nat) : Int)).tdiv (V : Int)) = (n : Int) := by rw [hdT, IntKind.wrap_i64]; omega
 have hdT4 : IntKind.i64.wrap (n : Int) = (n : Int) := by rw [IntKind.wrap_i64]; omega
 have hqUb : m ≤ 1000000 := by rw [hm]; exact Nat.le_trans (Nat.div_le_self _ _) (by omega)
 have hsU : IntKind.i64.wrap ((U : Int) - (Wm : Int)) = ((U - Wm : Nat) : Int) := by rw [IntKind.wrap_i64]; omega
 have hdU : (((U - Wm : Nat) : Int)).tdiv (V : Int) = (m : Int) := by rw [Int.tdiv_eq_ediv_of_nonneg (by omega), hm]; rfl
 have hdU2 : (((U - Wm : Nat) : Int)) / (V : Int) = (m : Int) := by rw [hm]; rfl
 have hdU3 : IntKind.i64.wrap ((((U - Wm : Nat) : Int)).tdiv (V : Int)) = (m : Int) := by rw [hdU, IntKind.wrap_i64]; omega
 have hdU4 : IntKind.i64.wrap (m : Int) = (m : Int) := by rw [IntKind.wrap_i64]; omega
 have g1 : ((n : Int) != (m : Int)) = true := by simp; omega
 have g1b : ((n : Int) == (m : Int)) = false := beq_eq_false_iff_ne.2 (by omega)
 have g2 : ¬ (0 : Int) < (n : Int) := by omega
 have g2d := decide_eq_false g2
 have g2n : ¬ 0 < n := by omega
 have g2nd := decide_eq_false g2n
 have g3 : ((R : Int) != (P : Int)) = true := by simp; omega
 have g3b : ((R : Int) == (P : Int)) = false := beq_eq_false_iff_ne.2 (by omega)
 have g3c : (R != P) = true := by simp; omega
 have g3d : (R == P) = false := beq_eq_false_iff_ne.2 (by omega)
 have g3e : ¬ (R = P) := by omega
 have g3f := decide_eq_false g3e
 have HBB : Hid (B < 9223372036854775808) := Lib.hid hB
 clear hB hP hPb hT2 hn hm hV hWm hT hU hzn hqTb hqUb hrp hem
 obtain ⟨W0, hW0⟩ : ∃ W0, W0 = ((w.alloc (.cells #[.int .i64 2, .int .i64 (B : Int), .int .i64 (R : Int), .int .i64 ee, .int .i64 (Wm : Int), .int .i64 (V : Int), .int .i64 ll, .int .i64 pp] 64)).alloc (.cells #[.int .i64 (T : Int), .int .i64 (U : Int)] 65)) := ⟨_, rfl⟩
 have E0 : Ext w W0 := by rw [hW0]; exact ((Ext.alloc1 w (.cells #[.int .i64 2, .int .i64 (B : Int), .int .i64 (R : Int), .int .i64 ee, .int .i64 (Wm : Int), .int .i64 (V : Int), .int .i64 ll, .int .i64 pp] 64)).alloc (.cells #[.int .i64 (T : Int), .int .i64 (U : Int)] 65))
 have p3 : BxA W0 w.heap.size 64 #[.int .i64 2, .int .i64 (B : Int), .int .i64 (R : Int), .int .i64 ee, .int .i64 (Wm : Int), .int .i64 (V : Int), .int .i64 ll, .int .i64 pp] := by rw [hW0]; exact (BxA.new w 64 #[.int .i64 2, .int .i64 (B : Int), .int .i64 (R : Int), .int .i64 ee, .int .i64 (Wm : Int), .int .i64 (V : Int), .int .i64 ll, .int .i64 pp]).ext (Ext.alloc1 (w.alloc (.cells #[.int .i64 2, .int .i64 (B : Int), .int .i64 (R : Int), .int .i64 ee, .int .i64 (Wm : Int), .int .i64 (V : Int), .int .i64 ll, .int .i64 pp] 64)) (.cells #[.int .i64 (T : Int), .int .i64 (U : Int)] 65))
 have p4 : Bx2 W0 (w.heap.size + 1) 65 (.int .i64 (T : Int)) (.int .i64 (U : Int)) := by rw [hW0]; simpa using (Bx2.new (w.alloc (.cells #[.int .i64 2, .int .i64 (B : Int), .int .i64 (R : Int), .int .i64 ee, .int .i64 (Wm : Int), .int .i64 (V : Int), .int .i64 ll, .int .i64 pp] 64)) 65 (.int .i64 (T : Int)) (.int .i64 (U : Int)))
 go_enter Try.func12, Try.ntmps12
 obtain ⟨kp3_0, kp3_1, kp3_2, kp3_3, kp3_4, kp3_5, kp3_6, kp3_7⟩ := p3.cells8
 have kp4_0 := p4.cell0
 have kp4_1 := p4.cell1
 go_wp2_with fail
 rw [← hW0]
 clear hW0
 clear kp3_0 kp3_1 kp3_2 kp3_3 kp3_4 kp3_5 kp3_6 kp3_7 kp4_0 kp4_1
 refine (Try.refRight15 2 (B : Int) (R : Int) ee (Wm : Int) (V : Int) ll pp (K : Int) _).mono ?_
 rintro e V74 ⟨rfl, hE⟩
 rw [HR0.out]
 replace E0 := (Ext.trans E0 hE)
 replace p3 := (p3.ext hE)
 replace p4 := (p4.ext hE)
 clear hE
 obtain ⟨kp3_0, kp3_1, kp3_2, kp3_3, kp3_4, kp3_5, kp3_6, kp3_7⟩ := p3.cells8
 have kp4_0 := p4.cell0
 have kp4_1 := p4.cell1
 go_wp2_with fail
 clear kp3_0 kp3_1 kp3_2 kp3_3 kp3_4 kp3_5 kp3_6 kp3_7 kp4_0 kp4_1
 refine (Try.schedRate 2 (B : Int) (R : Int) ee (Wm : Int) (V : Int) ll pp T K _ HR0.out (by have := HBB.out; omega) HTT.out.1.1 HTT.out.1.2 HX.out).mono ?_
 rintro e V75 ⟨rfl, hE⟩
 replace E0 := (Ext.trans E0 hE)
 replace p3 := (p3.ext hE)
 replace p4 := (p4.ext hE)
 clear hE
 obtain ⟨kp3_0, kp3_1, kp3_2, kp3_3, kp3_4, kp3_5, kp3_6, kp3_7⟩ := p3.cells8
 have kp4_0 := p4.cell0
 have kp4_1 := p4.cell1
 go_wp2_with fail
 clear kp3_0 kp3_1 kp3_2 kp3_3 kp3_4 kp3_5 kp3_6 kp3_7 kp4_0 kp4_1
 refine (Try.schedRate 2 (B : Int) (R : Int) ee (Wm : Int) (V : Int) ll pp U K _ HR0.out (by have := HBB.out; omega) HTT.out.2.1 HTT.out.2.2 HY.out).mono ?_
 rintro e V76 ⟨rfl, hE⟩
 replace E0 := (Ext.trans E0 hE)
 replace p3 := (p3.ext hE)
 replace p4 := (p4.ext hE)
 clear hE
 obtain ⟨kp3_0, kp3_1, kp3_2, kp3_3, kp3_4, kp3_5, kp3_6, kp3_7⟩ := p3.cells8
 have kp4_0 := p4.cell0
 have kp4_1 := p4.cell1
 go_upto_region 11 with (fail)
 clear kp3_0 kp3_1 kp3_2 kp3_3 kp3_4 kp3_5 kp3_6 kp3_7 kp4_0 kp4_1
 try clear hA1d
 try clear hA1
 try clear hA2d
 try clear hA2
 try clear hA3d
 try clear hA3
 try clear hA4d
 try clear hA4
 try clear hA5d
 try clear hA5
 try clear hA6d
 try clear hA6
 have ltp3 := p3.lt
 have ltp4 := p4.lt
 have szw19 := Ext.size E0
 refine region_go [.one fun v _ => v = .pointer (some ⟨w.heap.size + 1, 0, none⟩),
   .one fun v _ => v = .int .i64 (T : Int),
   .one fun v _ => v = .pointer (some ⟨w.heap.size, 4, none⟩),
   .one fun v _ => v = .int .i64 (Wm : Int),
   .one fun v _ => v = .int .i64 ((T - Wm : Nat) : Int),
   .one fun v _ => v = .pointer (some ⟨w.heap.size, 5, none⟩),
   .one fun v _ => v = .int .i64 (V : Int),
   .one fun v _ => v = .int .i64 (n : Int),
   .one fun v _ => v = .pointer (some ⟨w.heap.size + 1, 1, none⟩),
   .one fun v _ => v = .int .i64 (U : Int),
   .one fun v _ => v = .pointer (some ⟨w.heap.size, 4, none⟩),
   .one fun v _ => v = .int .i64 (Wm : Int),
   .one fun v _ => v = .int .i64 ((U - Wm : Nat) : Int),
   .one fun v _ => v = .pointer (some ⟨w.heap.size, 5, none⟩),
   .one fun v _ => v = .int .i64 (V : Int),
   .one fun v _ => v = .int .i64 (m : Int),
   .one fun v _ => v = .int .i64 (n : Int),
   .one fun v _ => v = .int .i64 (m : Int)]
  (fun W => Ext w W ∧ BxA W w.heap.size 64 #[.int .i64 2, .int .i64 (B : Int), .int .i64 (R : Int), .int .i64 ee, .int .i64 (Wm : Int), .int .i64 (V : Int), .int .i64 ll, .int .i64 pp] ∧ Bx2 W (w.heap.size + 1) 65 (.int .i64 (T : Int)) (.int .i64 (U : Int)) ∧ V76.heap.size ≤ W.heap.size) ⟨Good.is _, Good.is _, Good.is _, Good.is _, Good.is _, Good.is _, Good.is _, Good.is _, Good.is _, Good.is _, Good.is _, Good.is _, Good.is _, Good.is _, Good.is _, Good.is _, Good.is _, Good.is _, trivial⟩
  (fun W W1 hS hE => ⟨(Ext.trans hS.1 hE), (hS.2.1.ext hE), (hS.2.2.1.ext hE), (Nat.le_trans hS.2.2.2 (Ext.size hE))⟩) ⟨E0, p3, p4, Nat.le_refl _⟩ (by kernel_rfl) (by kernel_rfl) (by kernel_rfl) (by kernel_rfl) (A := ?A19) ?hA19 ?howe19 ?hfin19
 case hA19 =>
  intro vs
  simp only [putAll, Act.put, List.setIfInBounds_toArray, List.set_cons_zero, List.set_cons_succ, Nat.zero_add, Nat.reduceAdd]
  exact rfl
 case howe19 =>
  clear E0 p3 p4
  intro hf
  refine ⟨owesE 0 [] hf rfl (by kernel_rfl) ?_, owesE 1 [0] hf rfl (by kernel_rfl) ?_, owesE 2 [] hf rfl (by kernel_rfl) ?_, owesE 3 [2] hf rfl (by kernel_rfl) ?_, owesE 4 [1, 3] hf rfl (by kernel_rfl) ?_, owesE 5 [] hf rfl (by kernel_rfl) ?_, owesE 6 [5] hf rfl (by kernel_rfl) ?_, owesE 7 [4, 6] hf rfl (by kernel_rfl) ?_, owesE 8 [] hf rfl (by kernel_rfl) ?_, owesE 9 [8] hf rfl (by kernel_rfl) ?_, owesE 10 [] hf rfl (by kernel_rfl) ?_, owesE 11 [10] hf rfl (by kernel_rfl) ?_, owesE 12 [9, 11] hf rfl (by kernel_rfl) ?_, owesE 13 [] hf rfl (by kernel_rfl) ?_, owesE 14 [13] hf rfl (by kernel_rfl) ?_, owesE 15 [12, 14] hf rfl (by kernel_rfl) ?_, owesE 16 [7] hf rfl (by kernel_rfl) ?_, owesE 17 [15] hf rfl (by kernel_rfl) ?_, trivial⟩
  all_goals intro vs W hS hp hx KO hKO
  all_goals simp only [Act.put, List.setIfInBounds_toArray, List.set_cons_zero, List.set_cons_succ] at hKO
  ·go_simp
   exact hKO _ W (Ext.refl W) rfl
  ·have e0 := isOf hp.1
   simp only [e0] at hKO
   have fc0 := hS.2.2.1.cell0
   go_simp
   exact hKO _ W (Ext.refl W) rfl
  ·go_simp
   exact hKO _ W (Ext.refl W) rfl
  ·have e2 := isOf hp.1
   simp only [e2] at hKO
   have fc4 := BxA.cell (hS.2.1) 4 (v := .int .i64 (Wm : Int)) rfl
   go_simp
   exact hKO _ W (Ext.refl W) rfl
  ·have e1 := isOf hp.1
   have e3 := isOf hp.2.1
   simp only [e1, e3] at hKO
   go_simp
   exact hKO _ W (Ext.refl W) rfl
  ·go_simp
   exact hKO _ W (Ext.refl W) rfl
  ·have e5 := isOf hp.1
   simp only [e5] at hKO
   have fc5 := BxA.cell (hS.2.1) 5 (v := .int .i64 (V : Int)) rfl
   go_simp
   exact hKO _ W (Ext.refl W) rfl
  ·have e4 := isOf hp.1
   have e6 := isOf hp.2.1
   simp only [e4, e6] at hKO
   go_simp
   exact hKO _ W (Ext.refl W) rfl
  ·go_simp
   exact hKO _ W (Ext.refl W) rfl
  ·have e8 := isOf hp.1
   simp only [e8] at hKO
   have fc1 := hS.2.2.1.cell1
   go_simp
   exact hKO _ W (Ext.refl W) rfl
  ·go_simp
   exact hKO _ W (Ext.refl W) rfl
  ·have e10 := isOf hp.1
   simp only [e10] at hKO
   have fc4 := BxA.cell (hS.2.1) 4 (v := .int .i64 (Wm : Int)) rfl
   go_simp
   exact hKO _ W (Ext.refl W) rfl
  ·have e9 := isOf hp.1
   have e11 := isOf hp.2.1
   simp only [e9, e11] at hKO
   go_simp
   exact hKO _ W (Ext.refl W) rfl
  ·go_simp
   exact hKO _ W (Ext.refl W) rfl
  ·have e13 := isOf hp.1
   simp only [e13] at hKO
   have fc5 := BxA.cell (hS.2.1) 5 (v := .int .i64 (V : Int)) rfl
   go_simp
   exact hKO _ W (Ext.refl W) rfl
  ·have e12 := isOf hp.1
   have e14 := isOf hp.2.1
   simp only [e12, e14] at hKO
   go_simp
   exact hKO _ W (Ext.refl W) rfl
  ·have e7 := isOf hp.1
   simp only [e7] at hKO
   go_simp
   exact hKO _ W (Ext.refl W) rfl
  ·have e15 := isOf hp.1
   simp only [e15] at hKO
   go_simp
   exact hKO _ W (Ext.refl W) rfl
 intro vs W19 hS hp
 clear szw19 E0 p3 p4
 obtain ⟨E0, p3, p4, sz19⟩ := hS
 obtain ⟨h19_0, h19_1, h19_2, h19_3, h19_4, h19_5, h19_6, h19_7, h19_8, h19_9, h19_10, h19_11, h19_12, h19_13, h19_14, h19_15, h19_16, h19_17, -⟩ := hp
 replace h19_0 : vs 0 = .pointer (some ⟨w.heap.size + 1, 0, none⟩) := h19_0
 replace h19_1 : vs 1 = .int .i64 (T : Int) := h19_1
 replace h19_2 : vs 2 = .pointer (some ⟨w.heap.size, 4, none⟩) := h19_2
 replace h19_3 : vs 3 = .int .i64 (Wm : Int) := h19_3
 replace h19_4 : vs 4 = .int .i64 ((T - Wm : Nat) : Int) := h19_4
 replace h19_5 : vs 5 = .pointer (some ⟨w.heap.size, 5, none⟩) := h19_5
 replace h19_6 : vs 6 = .int .i64 (V : Int) := h19_6
 replace h19_7 : vs 7 = .int .i64 (n : Int) := h19_7
 replace h19_8 : vs 8 = .pointer (some ⟨w.heap.size + 1, 1, none⟩) := h19_8
 replace h19_9 : vs 9 = .int .i64 (U : Int) := h19_9
 replace h19_10 : vs 10 = .pointer (some ⟨w.heap.size, 4, none⟩) := h19_10
 replace h19_11 : vs 11 = .int .i64 (Wm : Int) := h19_11
 replace h19_12 : vs 12 = .int .i64 ((U - Wm : Nat) : Int) := h19_12
 replace h19_13 : vs 13 = .pointer (some ⟨w.heap.size, 5, none⟩) := h19_13
 replace h19_14 : vs 14 = .int .i64 (V : Int) := h19_14
 replace h19_15 : vs 15 = .int .i64 (m : Int) := h19_15
 replace h19_16 : vs 16 = .int .i64 (n : Int) := h19_16
 replace h19_17 : vs 17 = .int .i64 (m : Int) := h19_17
 simp only [h19_0, h19_1, h19_2, h19_3, h19_4, h19_5, h19_6, h19_7, h19_8, h19_9, h19_10, h19_11, h19_12, h19_13, h19_14, h19_15, h19_16, h19_17]
 clear h19_0 h19_1 h19_2 h19_3 h19_4 h19_5 h19_6 h19_7 h19_8 h19_9 h19_10 h19_11 h19_12 h19_13 h19_14 h19_15 h19_16 h19_17
 obtain ⟨kp3_0, kp3_1, kp3_2, kp3_3, kp3_4, kp3_5, kp3_6, kp3_7⟩ := p3.cells8
 have kp4_0 := p4.cell0
 have kp4_1 := p4.cell1
 go_upto_region 12 with (fail)
 clear kp3_0 kp3_1 kp3_2 kp3_3 kp3_4 kp3_5 kp3_6 kp3_7 kp4_0 kp4_1
 try clear hsT
 try clear hsU
 try clear hdT
 try clear hdT2
 try clear hdT3
 try clear hdT4
 try clear hdU
 try clear hdU2
 try clear hdU3
 try clear hdU4
 try clear hv0
 try clear hv0a
 try clear hv0b
 have szw20 := Ext.size E0
 refine region_go [.one fun v _ => v = .bool true,
   .one fun v _ => v = .bool true,
   .one fun v _ => v = .int .i64 (n : Int),
   .one fun v _ => v = .int .i64 (m : Int),
   .one fun v _ => v = .bool true,
   .one fun v _ => v = .bool true,
   .one fun v _ => v = undef,
   .one fun v _ => v = undef,
   .one fun v _ => v = undef,
   .one fun v _ => v = .bool true,
   .one fun v _ => v = .bool true,
   .one fun v _ => v = .bool true,
   .one fun v _ => v = .int .i64 (n : Int),
   .one fun v _ => v = .bool false,
   .one fun v _ => v = .bool false,
   .one fun v _ => v = .int .i64 (B : Int),
   .one fun v _ => v = .pointer (some ⟨w.heap.size, 1, none⟩),
   .one fun v _ => v = .int .i64 (B : Int),
   .one fun v _ => v = .bool true,
   .one fun v _ => v = .bool true,
   .one fun v _ => v = .bool true,
   .one fun v _ => v = .bool true,
   .one fun v _ => v = .pointer (some ⟨w.heap.size, 2, none⟩),
   .one fun v _ => v = .int .i64 (R : Int),
   .one fun v _ => v = .int .i64 (K : Int),
   .one fun v _ => v = .int .i64 (P : Int),
   .one fun v _ => v = .bool true,
   .one fun v _ => v = .bool true,
   .one fun v _ => v = undef,
   .one fun v _ => v = undef,
   .one fun v _ => v = undef,
   .one fun v _ => v = undef,
   .one fun v _ => v = .bool true,
   .one fun v _ => v = .bool true,
   .one fun v _ => v = .bool true]
  (fun W => Ext w W ∧ BxA W w.heap.size 64 #[.int .i64 2, .int .i64 (B : Int), .int .i64 (R : Int), .int .i64 ee, .int .i64 (Wm : Int), .int .i64 (V : Int), .int .i64 ll, .int .i64 pp] ∧ Bx2 W (w.heap.size + 1) 65 (.int .i64 (T : Int)) (.int .i64 (U : Int)) ∧ W19.heap.size ≤ W.heap.size) ⟨Good.is _, Good.is _, Good.is _, Good.is _, Good.is _, Good.is _, Good.is _, Good.is _, Good.is _, Good.is _, Good.is _, Good.is _, Good.is _, Good.is _, Good.is _, Good.is _, Good.is _, Good.is _, Good.is _, Good.is _, Good.is _, Good.is _, Good.is _, Good.is _, Good.is _, Good.is _, Good.is _, Good.is _, Good.is _, Good.is _, Good.is _, Good.is _, Good.is _, Good.is _, Good.is _, trivial⟩
  (fun W W1 hS hE => ⟨(Ext.trans hS.1 hE), (hS.2.1.ext hE), (hS.2.2.1.ext hE), (Nat.le_trans hS.2.2.2 (Ext.size hE))⟩) ⟨E0, p3, p4, Nat.le_refl _⟩ (by kernel_rfl) (by kernel_rfl) (by kernel_rfl) (by kernel_rfl) (A := ?A20) ?hA20 ?howe20 ?hfin20
 case hA20 =>
  intro vs
  simp only [putAll, Act.put, List.setIfInBounds_toArray, List.set_cons_zero, List.set_cons_succ, Nat.zero_add, Nat.reduceAdd]
  exact rfl
 case howe20 =>
  clear E0 p3 p4
  intro hf
  refine ⟨owesE 0 [] hf rfl (by kernel_rfl) ?_, owesE 1 [0] hf rfl (by kernel_rfl) ?_, owesE 2 [1] hf rfl (by kernel_rfl) ?_, owesE 3 [1] hf rfl (by kernel_rfl) ?_, owesE 4 [1, 2, 3] hf rfl (by kernel_rfl) ?_, owesE 5 [1, 4] hf rfl (by kernel_rfl) ?_, owesE 6 [5] hf rfl (by kernel_rfl) ?_, owesE 7 [5] hf rfl (by kernel_rfl) ?_, owesE 8 [5] hf rfl (by kernel_rfl) ?_, owesE 9 [1, 5, 8] hf rfl (by kernel_rfl) ?_, owesE 10 [1, 9] hf rfl (by kernel_rfl) ?_, owesE 11 [10] hf rfl (by kernel_rfl) ?_, owesE 12 [11] hf rfl (by kernel_rfl) ?_, owesE 13 [11, 12] hf rfl (by kernel_rfl) ?_, owesE 14 [11, 13] hf rfl (by kernel_rfl) ?_, owesE 15 [14] hf rfl (by kernel_rfl) ?_, owesE 16 [14] hf rfl (by kernel_rfl) ?_, owesE 17 [14, 16] hf rfl (by kernel_rfl) ?_, owesE 18 [14, 15, 17] hf rfl (by kernel_rfl) ?_, owesE 19 [11, 14, 18] hf rfl (by kernel_rfl) ?_, owesE 20 [11, 19] hf rfl (by kernel_rfl) ?_, owesE 21 [20] hf rfl (by kernel_rfl) ?_, owesE 22 [21] hf rfl (by kernel_rfl) ?_, owesE 23 [21, 22] hf rfl (by kernel_rfl) ?_, owesE 24 [21] hf rfl (by kernel_rfl) ?_, owesE 25 [21, 24] hf rfl (by kernel_rfl) ?_, owesE 26 [21, 23, 25] hf rfl (by kernel_rfl) ?_, owesE 27 [21, 26] hf rfl (by kernel_rfl) ?_, owesE 28 [27] hf rfl (by kernel_rfl) ?_, owesE 29 [27] hf rfl (by kernel_rfl) ?_, owesE 30 [27] hf rfl (by kernel_rfl) ?_, owesE 31 [27] hf rfl (by kernel_rfl) ?_, owesE 32 [21, 27, 31] hf rfl (by kernel_rfl) ?_, owesE 33 [21, 32] hf rfl (by kernel_rfl) ?_, owesE 34 [33] hf rfl (by kernel_rfl) ?_, trivial⟩
  all_goals intro vs W hS hp hx KO hKO
  all_goals simp only [Act.put, List.setIfInBounds_toArray, List.set_cons_zero, List.set_cons_succ] at hKO
  ·go_simp
   refine (Try.alive15 _).mono ?_
   rintro e W1 ⟨rfl, hE⟩
   exact hKO _ W1 hE rfl
  ·have e0 := isOf hp.1
   simp only [e0] at hKO
   go_simp
   exact hKO _ W (Ext.refl W) rfl
  ·have e1 := isOf hp.1
   simp only [e1] at hKO
   go_simp
   exact hKO _ W (Ext.refl W) rfl
  ·have e1 := isOf hp.1
   simp only [e1] at hKO
   go_simp
   exact hKO _ W (Ext.refl W) rfl
  ·have e1 := isOf hp.1
   have e2 := isOf hp.2.1
   have e3 := isOf hp.2.2.1
   simp only [e1, e2, e3] at hKO
   go_simp
   exact hKO _ W (Ext.refl W) rfl
  ·have e1 := isOf hp.1
   have e4 := isOf hp.2.1
   simp only [e1, e4] at hKO
   go_simp
   exact hKO _ W (Ext.refl W) rfl
  ·have e5 := isOf hp.1
   simp only [e5] at hKO
   go_simp
   exact hKO _ W (Ext.refl W) rfl
  ·have e5 := isOf hp.1
   simp only [e5] at hKO
   go_simp
   exact hKO _ W (Ext.refl W) rfl
  ·have e5 := isOf hp.1
   simp only [e5] at hKO
   go_simp
   exact hKO _ W (Ext.refl W) rfl
  ·have e1 := isOf hp.1
   have e5 := isOf hp.2.1
   have e8 := isOf hp.2.2.1
   simp only [e1, e5, e8] at hKO
   go_simp
   exact hKO _ W (Ext.refl W) rfl
  ·have e1 := isOf hp.1
   have e9 := isOf hp.2.1
   simp only [e1, e9] at hKO
   go_simp
   exact hKO _ W (Ext.refl W) rfl
  ·have e10 := isOf hp.1
   simp only [e10] at hKO
   go_simp
   exact hKO _ W (Ext.refl W) rfl
  ·have e11 := isOf hp.1
   simp only [e11] at hKO
   go_simp
   exact hKO _ W (Ext.refl W) rfl
  ·have e11 := isOf hp.1
   have e12 := isOf hp.2.1
   simp only [e11, e12] at hKO
   go_simp
   exact hKO _ W (Ext.refl W) rfl
  ·have e11 := isOf hp.1
   have e13 := isOf hp.2.1
   simp only [e11, e13] at hKO
   go_simp
   exact hKO _ W (Ext.refl W) rfl
  ·have e14 := isOf hp.1
   simp only [e14] at hKO
   go_simp
   exact hKO _ W (Ext.refl W) rfl
  ·have e14 := isOf hp.1
   simp only [e14] at hKO
   go_simp
   exact hKO _ W (Ext.refl W) rfl
  ·have e14 := isOf hp.1
   have e16 := isOf hp.2.1
   simp only [e14, e16] at hKO
   have fc1 := BxA.cell (hS.2.1) 1 (v := .int .i64 (B : Int)) rfl
   go_simp
   exact hKO _ W (Ext.refl W) rfl
  ·have e14 := isOf hp.1
   have e15 := isOf hp.2.1
   have e17 := isOf hp.2.2.1
   simp only [e14, e15, e17] at hKO
   go_simp
   exact hKO _ W (Ext.refl W) rfl
  ·have e11 := isOf hp.1
   have e14 := isOf hp.2.1
   have e18 := isOf hp.2.2.1
   simp only [e11, e14, e18] at hKO
   go_simp
   exact hKO _ W (Ext.refl W) rfl
  ·have e11 := isOf hp.1
   have e19 := isOf hp.2.1
   simp only [e11, e19] at hKO
   go_simp
   exact hKO _ W (Ext.refl W) rfl
  ·have e20 := isOf hp.1
   simp only [e20] at hKO
   go_simp
   exact hKO _ W (Ext.refl W) rfl
  ·have e21 := isOf hp.1
   simp only [e21] at hKO
   go_simp
   exact hKO _ W (Ext.refl W) rfl
  ·have e21 := isOf hp.1
   have e22 := isOf hp.2.1
   simp only [e21, e22] at hKO
   have fc2 := BxA.cell (hS.2.1) 2 (v := .int .i64 (R : Int)) rfl
   go_simp
   exact hKO _ W (Ext.refl W) rfl
  ·have e21 := isOf hp.1
   simp only [e21] at hKO
   go_simp
   exact hKO _ W (Ext.refl W) rfl
  ·have e21 := isOf hp.1
   have e24 := isOf hp.2.1
   simp only [e21, e24] at hKO
   go_simp
   exact hKO _ W (Ext.refl W) rfl
  ·have e21 := isOf hp.1
   have e23 := isOf hp.2.1
   have e25 := isOf hp.2.2.1
   simp only [e21, e23, e25] at hKO
   go_simp
   exact hKO _ W (Ext.refl W) rfl
  ·have e21 := isOf hp.1
   have e26 := isOf hp.2.1
   simp only [e21, e26] at hKO
   go_simp
   exact hKO _ W (Ext.refl W) rfl
  ·have e27 := isOf hp.1
   simp only [e27] at hKO
   go_simp
   exact hKO _ W (Ext.refl W) rfl
  ·have e27 := isOf hp.1
   simp only [e27] at hKO
   go_simp
   exact hKO _ W (Ext.refl W) rfl
  ·have e27 := isOf hp.1
   simp only [e27] at hKO
   go_simp
   exact hKO _ W (Ext.refl W) rfl
  ·have e27 := isOf hp.1
   simp only [e27] at hKO
   go_simp
   exact hKO _ W (Ext.refl W) rfl
  ·have e21 := isOf hp.1
   have e27 := isOf hp.2.1
   have e31 := isOf hp.2.2.1
   simp only [e21, e27, e31] at hKO
   go_simp
   exact hKO _ W (Ext.refl W) rfl
  ·have e21 := isOf hp.1
   have e32 := isOf hp.2.1
   simp only [e21, e32] at hKO
   go_simp
   exact hKO _ W (Ext.refl W) rfl
  ·have e33 := isOf hp.1
   simp only [e33] at hKO
   go_simp
   exact hKO _ W (Ext.refl W) rfl
 intro vs W20 hS hp
 clear szw20 E0 p3 p4
 obtain ⟨E0, p3, p4, sz20⟩ := hS
 obtain ⟨h20_0, h20_1, h20_2, h20_3, h20_4, h20_5, h20_6, h20_7, h20_8, h20_9, h20_10, h20_11, h20_12, h20_13, h20_14, h20_15, h20_16, h20_17, h20_18, h20_19, h20_20, h20_21, h20_22, h20_23, h20_24, h20_25, h20_26, h20_27, h20_28, h20_29, h20_30, h20_31, h20_32, h20_33, h20_34, -⟩ := hp
 replace h20_0 : vs 0 = .bool true := h20_0
 replace h20_1 : vs 1 = .bool true := h20_1
 replace h20_2 : vs 2 = .int .i64 (n : Int) := h20_2
 replace h20_3 : vs 3 = .int .i64 (m : Int) := h20_3
 replace h20_4 : vs 4 = .bool true := h20_4
 replace h20_5 : vs 5 = .bool true := h20_5
 replace h20_6 : vs 6 = undef := h20_6
 replace h20_7 : vs 7 = undef := h20_7
 replace h20_8 : vs 8 = undef := h20_8
 replace h20_9 : vs 9 = .bool true := h20_9
 replace h20_10 : vs 10 = .bool true := h20_10
 replace h20_11 : vs 11 = .bool true := h20_11
 replace h20_12 : vs 12 = .int .i64 (n : Int) := h20_12
 replace h20_13 : vs 13 = .bool false := h20_13
 replace h20_14 : vs 14 = .bool false := h20_14
 replace h20_15 : vs 15 = .int .i64 (B : Int) := h20_15
 replace h20_16 : vs 16 = .pointer (some ⟨w.heap.size, 1, none⟩) := h20_16
 replace h20_17 : vs 17 = .int .i64 (B : Int) := h20_17
 replace h20_18 : vs 18 = .bool true := h20_18
 replace h20_19 : vs 19 = .bool true := h20_19
 replace h20_20 : vs 20 = .bool true := h20_20
 replace h20_21 : vs 21 = .bool true := h20_21
 replace h20_22 : vs 22 = .pointer (some ⟨w.heap.size, 2, none⟩) := h20_22
 replace h20_23 : vs 23 = .int .i64 (R : Int) := h20_23
 replace h20_24 : vs 24 = .int .i64 (K : Int) := h20_24
 replace h20_25 : vs 25 = .int .i64 (P : Int) := h20_25
 replace h20_26 : vs 26 = .bool true := h20_26
 replace h20_27 : vs 27 = .bool true := h20_27
 replace h20_28 : vs 28 = undef := h20_28
 replace h20_29 : vs 29 = undef := h20_29
 replace h20_30 : vs 30 = undef := h20_30
 replace h20_31 : vs 31 = undef := h20_31
 replace h20_32 : vs 32 = .bool true := h20_32
 replace h20_33 : vs 33 = .bool true := h20_33
 replace h20_34 : vs 34 = .bool true := h20_34
 simp only [h20_0, h20_1, h20_2, h20_3, h20_4, h20_5, h20_6, h20_7, h20_8, h20_9, h20_10, h20_11, h20_12, h20_13, h20_14, h20_15, h20_16, h20_17, h20_18, h20_19, h20_20, h20_21, h20_22, h20_23, h20_24, h20_25, h20_26, h20_27, h20_28, h20_29, h20_30, h20_31, h20_32, h20_33, h20_34]
 clear h20_0 h20_1 h20_2 h20_3 h20_4 h20_5 h20_6 h20_7 h20_8 h20_9 h20_10 h20_11 h20_12 h20_13 h20_14 h20_15 h20_16 h20_17 h20_18 h20_19 h20_20 h20_21 h20_22 h20_23 h20_24 h20_25 h20_26 h20_27 h20_28 h20_29 h20_30 h20_31 h20_32 h20_33 h20_34
 obtain ⟨kp3_0, kp3_1, kp3_2, kp3_3, kp3_4, kp3_5, kp3_6, kp3_7⟩ := p3.cells8
 have kp4_0 := p4.cell0
 have kp4_1 := p4.cell1
 go_wp2
 go_ret
 exact ⟨rfl, E0⟩

set_option maxRecDepth 100000 in
set_option maxHeartbeats 8000000 in
theorem Try.endsDrop001 (B R Wm V T U K n m : Nat) (ee ll pp Y : Int) (w : World) (HR0 : Hid (rightS 2 (B : Int) (R : Int) ee (Wm : Int) (V : Int) ll pp (K : Int) = true)) (hB : B < 9223372036854775808) (HTT : Hid ((1 ≤ T ∧ T ≤ 1000000) ∧ (1 ≤ U ∧ U ≤ 1000000))) (hV : 1 ≤ V) (hWm : Wm ≤ 1000000) (hT : Wm < T) (hU : Wm < U) (hn : n = (T - Wm) / V) (hm : m = (U - Wm) / V)
  (HX : Hid (rateV 2 (B : Int) (R : Int) ee (Wm : Int) (V : Int) ll pp T K = (B : Int))) (HY : Hid (rateV 2 (B : Int) (R : Int) ee (Wm : Int) (V : Int) ll pp U K = Y)) (hem : n ≠ m) (hzn : n ≠ 0) (hrp : R = 2 ^ K) :
  Calls Try.prog 12 #[.agg #[.int .i64 2, .int .i64 (B : Int), .int .i64 (R : Int), .int .i64 ee, .int .i64 (Wm : Int), .int .i64 (V : Int), .int .i64 ll, .int .i64 pp], .agg #[.int .i64 (T : Int), .int .i64 (U : Int)], .int .i64 (K : Int)] w fun e w' => e = .returned (.bool true) ∧ Ext w w' := by
 obtain ⟨P, hP⟩ : ∃ P, P = 2 ^ K := ⟨_, rfl⟩
 have hKb : K ≤ 40 := by have := rightS_iff.1 HR0.out; omega
 have hPb : P ≤ 1099511627776 := by rw [hP]; exact Nat.le_trans (Nat.pow_le_pow_right (by omega) hKb) (by decide)
 have hT2 := HTT.out
 rw [← hP] at hrp
 have hsh : IntKind.i64.wrap (2 ^ K) = (P : Int) := by rw [show ((2 : Int) ^ K) = ((2 ^ K : Nat) : Int) by simp, ← hP, IntKind.wrap_i64]; omega
 have hv0 : ((V : Int) == 0) = false := beq_eq_false_iff_ne.2 (by omega)
 have hv0a : ¬ ((V : Int) = 0) := by omega
 have hv0b : ¬ (V = 0) := by omega
 have hA1 : ¬ ((T : Int) ≤ (Wm : Int)) := by omega
 have hA1d := decide_eq_false hA1
 have hA2 : ¬ ((U : Int) ≤ (Wm : Int)) := by omega
 have hA2d := decide_eq_false hA2
 have hA3 : ¬ ((T : Int) < 1) := by omega
 have hA3d := decide_eq_false hA3
 have hA4 : ¬ ((U : Int) < 1) := by omega
 have hA4d := decide_eq_false hA4
 have hA5 : ¬ ((1000000 : Int) < (T : Int)) := by omega
 have hA5d := decide_eq_false hA5
 have hA6 : ¬ ((1000000 : Int) < (U : Int)) := by omega
 have hA6d := decide_eq_false hA6
 have hqTb : n ≤ 1000000 := by rw [hn]; exact Nat.le_trans (Nat.div_le_self _ _) (by omega)
 have hsT : IntKind.i64.wrap ((T : Int) - (Wm : Int)) = ((T - Wm : Nat) : Int) := by rw [IntKind.wrap_i64]; omega
 have hdT : (((T - Wm : Nat) : Int)).tdiv (V : Int) = (n : Int) := by rw [Int.tdiv_eq_ediv_of_nonneg (by omega), hn]; rfl
 have hdT2 : (((T - Wm : Nat) : Int)) / (V : Int) = (n : Int) := by rw [hn]; rfl
 have hdT3 : IntKind.i64.wrap ((((T - Wm : Nat) : Int)).tdiv (V : Int)) = (n : Int) := by rw [hdT, IntKind.wrap_i64]; omega
 have hdT4 : IntKind.i64.wrap (n : Int) = (n : Int) := by rw [IntKind.wrap_i64]; omega
 have hqUb : m ≤ 1000000 := by rw [hm]; exact Nat.le_trans (Nat.div_le_self _ _) (by omega)
 have hsU : IntKind.i64.wrap ((U : Int) - (Wm : Int)) = ((U - Wm : Nat) : Int) := by rw [IntKind.wrap_i64]; omega
 have hdU : (((U - Wm : Nat) : Int)).tdiv (V : Int) = (m : Int) := by rw [Int.tdiv_eq_ediv_of_nonneg (by omega), hm]; rfl
 have hdU2 : (((U - Wm : Nat) : Int)) / (V : Int) = (m : Int) := by rw [hm]; rfl
 have hdU3 : IntKind.i64.wrap ((((U - Wm : Nat) : Int)).tdiv (V : Int)) = (m : Int) := by rw [hdU, IntKind.wrap_i64]; omega
 have hdU4 : IntKind.i64.wrap (m : Int) = (m : Int) := by rw [IntKind.wrap_i64]; omega
 have g1 : ((n : Int) != (m : Int)) = true := by simp; omega
 have g1b : ((n : Int) == (m : Int)) = false := beq_eq_false_iff_ne.2 (by omega)
 have g2 : (0 : Int) < (n : Int) := by omega
 have g2d := decide_eq_true g2
 have g2n : 0 < n := by omega
 have g2nd := decide_eq_true g2n
 have HRP := Lib.hid hrp
 have HBB : Hid (B < 9223372036854775808) := Lib.hid hB
 clear hB hP hPb hT2 hn hm hV hWm hT hU hzn hqTb hqUb hrp hem
 obtain rfl : R = P := HRP.out
 clear HRP
 obtain ⟨W0, hW0⟩ : ∃ W0, W0 = ((w.alloc (.cells #[.int .i64 2, .int .i64 (B : Int), .int .i64 (R : Int), .int .i64 ee, .int .i64 (Wm : Int), .int .i64 (V : Int), .int .i64 ll, .int .i64 pp] 64)).alloc (.cells #[.int .i64 (T : Int), .int .i64 (U : Int)] 65)) := ⟨_, rfl⟩
 have E0 : Ext w W0 := by rw [hW0]; exact ((Ext.alloc1 w (.cells #[.int .i64 2, .int .i64 (B : Int), .int .i64 (R : Int), .int .i64 ee, .int .i64 (Wm : Int), .int .i64 (V : Int), .int .i64 ll, .int .i64 pp] 64)).alloc (.cells #[.int .i64 (T : Int), .int .i64 (U : Int)] 65))
 have p3 : BxA W0 w.heap.size 64 #[.int .i64 2, .int .i64 (B : Int), .int .i64 (R : Int), .int .i64 ee, .int .i64 (Wm : Int), .int .i64 (V : Int), .int .i64 ll, .int .i64 pp] := by rw [hW0]; exact (BxA.new w 64 #[.int .i64 2, .int .i64 (B : Int), .int .i64 (R : Int), .int .i64 ee, .int .i64 (Wm : Int), .int .i64 (V : Int), .int .i64 ll, .int .i64 pp]).ext (Ext.alloc1 (w.alloc (.cells #[.int .i64 2, .int .i64 (B : Int), .int .i64 (R : Int), .int .i64 ee, .int .i64 (Wm : Int), .int .i64 (V : Int), .int .i64 ll, .int .i64 pp] 64)) (.cells #[.int .i64 (T : Int), .int .i64 (U : Int)] 65))
 have p4 : Bx2 W0 (w.heap.size + 1) 65 (.int .i64 (T : Int)) (.int .i64 (U : Int)) := by rw [hW0]; simpa using (Bx2.new (w.alloc (.cells #[.int .i64 2, .int .i64 (B : Int), .int .i64 (R : Int), .int .i64 ee, .int .i64 (Wm : Int), .int .i64 (V : Int), .int .i64 ll, .int .i64 pp] 64)) 65 (.int .i64 (T : Int)) (.int .i64 (U : Int)))
 go_enter Try.func12, Try.ntmps12
 obtain ⟨kp3_0, kp3_1, kp3_2, kp3_3, kp3_4, kp3_5, kp3_6, kp3_7⟩ := p3.cells8
 have kp4_0 := p4.cell0
 have kp4_1 := p4.cell1
 go_wp2_with fail
 rw [← hW0]
 clear hW0
 clear kp3_0 kp3_1 kp3_2 kp3_3 kp3_4 kp3_5 kp3_6 kp3_7 kp4_0 kp4_1
 refine (Try.refRight15 2 (B : Int) (R : Int) ee (Wm : Int) (V : Int) ll pp (K : Int) _).mono ?_
 rintro e V77 ⟨rfl, hE⟩
 rw [HR0.out]
 replace E0 := (Ext.trans E0 hE)
 replace p3 := (p3.ext hE)
 replace p4 := (p4.ext hE)
 clear hE
 obtain ⟨kp3_0, kp3_1, kp3_2, kp3_3, kp3_4, kp3_5, kp3_6, kp3_7⟩ := p3.cells8
 have kp4_0 := p4.cell0
 have kp4_1 := p4.cell1
 go_wp2_with fail
 clear kp3_0 kp3_1 kp3_2 kp3_3 kp3_4 kp3_5 kp3_6 kp3_7 kp4_0 kp4_1
 refine (Try.schedRate 2 (B : Int) (R : Int) ee (Wm : Int) (V : Int) ll pp T K _ HR0.out (by have := HBB.out; omega) HTT.out.1.1 HTT.out.1.2 HX.out).mono ?_
 rintro e V78 ⟨rfl, hE⟩
 replace E0 := (Ext.trans E0 hE)
 replace p3 := (p3.ext hE)
 replace p4 := (p4.ext hE)
 clear hE
 obtain ⟨kp3_0, kp3_1, kp3_2, kp3_3, kp3_4, kp3_5, kp3_6, kp3_7⟩ := p3.cells8
 have kp4_0 := p4.cell0
 have kp4_1 := p4.cell1
 go_wp2_with fail
 clear kp3_0 kp3_1 kp3_2 kp3_3 kp3_4 kp3_5 kp3_6 kp3_7 kp4_0 kp4_1
 refine (Try.schedRate 2 (B : Int) (R : Int) ee (Wm : Int) (V : Int) ll pp U K _ HR0.out (by have := HBB.out; omega) HTT.out.2.1 HTT.out.2.2 HY.out).mono ?_
 rintro e V79 ⟨rfl, hE⟩
 replace E0 := (Ext.trans E0 hE)
 replace p3 := (p3.ext hE)
 replace p4 := (p4.ext hE)
 clear hE
 obtain ⟨kp3_0, kp3_1, kp3_2, kp3_3, kp3_4, kp3_5, kp3_6, kp3_7⟩ := p3.cells8
 have kp4_0 := p4.cell0
 have kp4_1 := p4.cell1
 go_upto_region 11 with (fail)
 clear kp3_0 kp3_1 kp3_2 kp3_3 kp3_4 kp3_5 kp3_6 kp3_7 kp4_0 kp4_1
 try clear hA1d
 try clear hA1
 try clear hA2d
 try clear hA2
 try clear hA3d
 try clear hA3
 try clear hA4d
 try clear hA4
 try clear hA5d
 try clear hA5
 try clear hA6d
 try clear hA6
 have ltp3 := p3.lt
 have ltp4 := p4.lt
 have szw21 := Ext.size E0
 refine region_go [.one fun v _ => v = .pointer (some ⟨w.heap.size + 1, 0, none⟩),
   .one fun v _ => v = .int .i64 (T : Int),
   .one fun v _ => v = .pointer (some ⟨w.heap.size, 4, none⟩),
   .one fun v _ => v = .int .i64 (Wm : Int),
   .one fun v _ => v = .int .i64 ((T - Wm : Nat) : Int),
   .one fun v _ => v = .pointer (some ⟨w.heap.size, 5, none⟩),
   .one fun v _ => v = .int .i64 (V : Int),
   .one fun v _ => v = .int .i64 (n : Int),
   .one fun v _ => v = .pointer (some ⟨w.heap.size + 1, 1, none⟩),
   .one fun v _ => v = .int .i64 (U : Int),
   .one fun v _ => v = .pointer (some ⟨w.heap.size, 4, none⟩),
   .one fun v _ => v = .int .i64 (Wm : Int),
   .one fun v _ => v = .int .i64 ((U - Wm : Nat) : Int),
   .one fun v _ => v = .pointer (some ⟨w.heap.size, 5, none⟩),
   .one fun v _ => v = .int .i64 (V : Int),
   .one fun v _ => v = .int .i64 (m : Int),
   .one fun v _ => v = .int .i64 (n : Int),
   .one fun v _ => v = .int .i64 (m : Int)]
  (fun W => Ext w W ∧ BxA W w.heap.size 64 #[.int .i64 2, .int .i64 (B : Int), .int .i64 (R : Int), .int .i64 ee, .int .i64 (Wm : Int), .int .i64 (V : Int), .int .i64 ll, .int .i64 pp] ∧ Bx2 W (w.heap.size + 1) 65 (.int .i64 (T : Int)) (.int .i64 (U : Int)) ∧ V79.heap.size ≤ W.heap.size) ⟨Good.is _, Good.is _, Good.is _, Good.is _, Good.is _, Good.is _, Good.is _, Good.is _, Good.is _, Good.is _, Good.is _, Good.is _, Good.is _, Good.is _, Good.is _, Good.is _, Good.is _, Good.is _, trivial⟩
  (fun W W1 hS hE => ⟨(Ext.trans hS.1 hE), (hS.2.1.ext hE), (hS.2.2.1.ext hE), (Nat.le_trans hS.2.2.2 (Ext.size hE))⟩) ⟨E0, p3, p4, Nat.le_refl _⟩ (by kernel_rfl) (by kernel_rfl) (by kernel_rfl) (by kernel_rfl) (A := ?A21) ?hA21 ?howe21 ?hfin21
 case hA21 =>
  intro vs
  simp only [putAll, Act.put, List.setIfInBounds_toArray, List.set_cons_zero, List.set_cons_succ, Nat.zero_add, Nat.reduceAdd]
  exact rfl
 case howe21 =>
  clear E0 p3 p4
  intro hf
  refine ⟨owesE 0 [] hf rfl (by kernel_rfl) ?_, owesE 1 [0] hf rfl (by kernel_rfl) ?_, owesE 2 [] hf rfl (by kernel_rfl) ?_, owesE 3 [2] hf rfl (by kernel_rfl) ?_, owesE 4 [1, 3] hf rfl (by kernel_rfl) ?_, owesE 5 [] hf rfl (by kernel_rfl) ?_, owesE 6 [5] hf rfl (by kernel_rfl) ?_, owesE 7 [4, 6] hf rfl (by kernel_rfl) ?_, owesE 8 [] hf rfl (by kernel_rfl) ?_, owesE 9 [8] hf rfl (by kernel_rfl) ?_, owesE 10 [] hf rfl (by kernel_rfl) ?_, owesE 11 [10] hf rfl (by kernel_rfl) ?_, owesE 12 [9, 11] hf rfl (by kernel_rfl) ?_, owesE 13 [] hf rfl (by kernel_rfl) ?_, owesE 14 [13] hf rfl (by kernel_rfl) ?_, owesE 15 [12, 14] hf rfl (by kernel_rfl) ?_, owesE 16 [7] hf rfl (by kernel_rfl) ?_, owesE 17 [15] hf rfl (by kernel_rfl) ?_, trivial⟩
  all_goals intro vs W hS hp hx KO hKO
  all_goals simp only [Act.put, List.setIfInBounds_toArray, List.set_cons_zero, List.set_cons_succ] at hKO
  ·go_simp
   exact hKO _ W (Ext.refl W) rfl
  ·have e0 := isOf hp.1
   simp only [e0] at hKO
   have fc0 := hS.2.2.1.cell0
   go_simp
   exact hKO _ W (Ext.refl W) rfl
  ·go_simp
   exact hKO _ W (Ext.refl W) rfl
  ·have e2 := isOf hp.1
   simp only [e2] at hKO
   have fc4 := BxA.cell (hS.2.1) 4 (v := .int .i64 (Wm : Int)) rfl
   go_simp
   exact hKO _ W (Ext.refl W) rfl
  ·have e1 := isOf hp.1
   have e3 := isOf hp.2.1
   simp only [e1, e3] at hKO
   go_simp
   exact hKO _ W (Ext.refl W) rfl
  ·go_simp
   exact hKO _ W (Ext.refl W) rfl
  ·have e5 := isOf hp.1
   simp only [e5] at hKO
   have fc5 := BxA.cell (hS.2.1) 5 (v := .int .i64 (V : Int)) rfl
   go_simp
   exact hKO _ W (Ext.refl W) rfl
  ·have e4 := isOf hp.1
   have e6 := isOf hp.2.1
   simp only [e4, e6] at hKO
   go_simp
   exact hKO _ W (Ext.refl W) rfl
  ·go_simp
   exact hKO _ W (Ext.refl W) rfl
  ·have e8 := isOf hp.1
   simp only [e8] at hKO
   have fc1 := hS.2.2.1.cell1
   go_simp
   exact hKO _ W (Ext.refl W) rfl
  ·go_simp
   exact hKO _ W (Ext.refl W) rfl
  ·have e10 := isOf hp.1
   simp only [e10] at hKO
   have fc4 := BxA.cell (hS.2.1) 4 (v := .int .i64 (Wm : Int)) rfl
   go_simp
   exact hKO _ W (Ext.refl W) rfl
  ·have e9 := isOf hp.1
   have e11 := isOf hp.2.1
   simp only [e9, e11] at hKO
   go_simp
   exact hKO _ W (Ext.refl W) rfl
  ·go_simp
   exact hKO _ W (Ext.refl W) rfl
  ·have e13 := isOf hp.1
   simp only [e13] at hKO
   have fc5 := BxA.cell (hS.2.1) 5 (v := .int .i64 (V : Int)) rfl
   go_simp
   exact hKO _ W (Ext.refl W) rfl
  ·have e12 := isOf hp.1
   have e14 := isOf hp.2.1
   simp only [e12, e14] at hKO
   go_simp
   exact hKO _ W (Ext.refl W) rfl
  ·have e7 := isOf hp.1
   simp only [e7] at hKO
   go_simp
   exact hKO _ W (Ext.refl W) rfl
  ·have e15 := isOf hp.1
   simp only [e15] at hKO
   go_simp
   exact hKO _ W (Ext.refl W) rfl
 intro vs W21 hS hp
 clear szw21 E0 p3 p4
 obtain ⟨E0, p3, p4, sz21⟩ := hS
 obtain ⟨h21_0, h21_1, h21_2, h21_3, h21_4, h21_5, h21_6, h21_7, h21_8, h21_9, h21_10, h21_11, h21_12, h21_13, h21_14, h21_15, h21_16, h21_17, -⟩ := hp
 replace h21_0 : vs 0 = .pointer (some ⟨w.heap.size + 1, 0, none⟩) := h21_0
 replace h21_1 : vs 1 = .int .i64 (T : Int) := h21_1
 replace h21_2 : vs 2 = .pointer (some ⟨w.heap.size, 4, none⟩) := h21_2
 replace h21_3 : vs 3 = .int .i64 (Wm : Int) := h21_3
 replace h21_4 : vs 4 = .int .i64 ((T - Wm : Nat) : Int) := h21_4
 replace h21_5 : vs 5 = .pointer (some ⟨w.heap.size, 5, none⟩) := h21_5
 replace h21_6 : vs 6 = .int .i64 (V : Int) := h21_6
 replace h21_7 : vs 7 = .int .i64 (n : Int) := h21_7
 replace h21_8 : vs 8 = .pointer (some ⟨w.heap.size + 1, 1, none⟩) := h21_8
 replace h21_9 : vs 9 = .int .i64 (U : Int) := h21_9
 replace h21_10 : vs 10 = .pointer (some ⟨w.heap.size, 4, none⟩) := h21_10
 replace h21_11 : vs 11 = .int .i64 (Wm : Int) := h21_11
 replace h21_12 : vs 12 = .int .i64 ((U - Wm : Nat) : Int) := h21_12
 replace h21_13 : vs 13 = .pointer (some ⟨w.heap.size, 5, none⟩) := h21_13
 replace h21_14 : vs 14 = .int .i64 (V : Int) := h21_14
 replace h21_15 : vs 15 = .int .i64 (m : Int) := h21_15
 replace h21_16 : vs 16 = .int .i64 (n : Int) := h21_16
 replace h21_17 : vs 17 = .int .i64 (m : Int) := h21_17
 simp only [h21_0, h21_1, h21_2, h21_3, h21_4, h21_5, h21_6, h21_7, h21_8, h21_9, h21_10, h21_11, h21_12, h21_13, h21_14, h21_15, h21_16, h21_17]
 clear h21_0 h21_1 h21_2 h21_3 h21_4 h21_5 h21_6 h21_7 h21_8 h21_9 h21_10 h21_11 h21_12 h21_13 h21_14 h21_15 h21_16 h21_17
 obtain ⟨kp3_0, kp3_1, kp3_2, kp3_3, kp3_4, kp3_5, kp3_6, kp3_7⟩ := p3.cells8
 have kp4_0 := p4.cell0
 have kp4_1 := p4.cell1
 go_upto_region 12 with (fail)
 clear kp3_0 kp3_1 kp3_2 kp3_3 kp3_4 kp3_5 kp3_6 kp3_7 kp4_0 kp4_1
 try clear hsT
 try clear hsU
 try clear hdT
 try clear hdT2
 try clear hdT3
 try clear hdT4
 try clear hdU
 try clear hdU2
 try clear hdU3
 try clear hdU4
 try clear hv0
 try clear hv0a
 try clear hv0b
 have szw22 := Ext.size E0
 refine region_go [.one fun v _ => v = .bool true,
   .one fun v _ => v = .bool true,
   .one fun v _ => v = .int .i64 (n : Int),
   .one fun v _ => v = .int .i64 (m : Int),
   .one fun v _ => v = .bool true,
   .one fun v _ => v = .bool true,
   .one fun v _ => v = undef,
   .one fun v _ => v = undef,
   .one fun v _ => v = undef,
   .one fun v _ => v = .bool true,
   .one fun v _ => v = .bool true,
   .one fun v _ => v = .bool true,
   .one fun v _ => v = .int .i64 (n : Int),
   .one fun v _ => v = .bool true,
   .one fun v _ => v = .bool true,
   .one fun v _ => v = undef,
   .one fun v _ => v = undef,
   .one fun v _ => v = undef,
   .one fun v _ => v = undef,
   .one fun v _ => v = .bool true,
   .one fun v _ => v = .bool true,
   .one fun v _ => v = .bool true,
   .one fun v _ => v = .pointer (some ⟨w.heap.size, 2, none⟩),
   .one fun v _ => v = .int .i64 (R : Int),
   .one fun v _ => v = .int .i64 (K : Int),
   .one fun v _ => v = .int .i64 (R : Int),
   .one fun v _ => v = .bool false,
   .one fun v _ => v = .bool false,
   .one fun v _ => v = .int .i64 (B : Int),
   .one fun v _ => v = .pointer (some ⟨w.heap.size, 1, none⟩),
   .one fun v _ => v = .int .i64 (B : Int),
   .one fun v _ => v = .bool true,
   .one fun v _ => v = .bool true,
   .one fun v _ => v = .bool true,
   .one fun v _ => v = .bool true]
  (fun W => Ext w W ∧ BxA W w.heap.size 64 #[.int .i64 2, .int .i64 (B : Int), .int .i64 (R : Int), .int .i64 ee, .int .i64 (Wm : Int), .int .i64 (V : Int), .int .i64 ll, .int .i64 pp] ∧ Bx2 W (w.heap.size + 1) 65 (.int .i64 (T : Int)) (.int .i64 (U : Int)) ∧ W21.heap.size ≤ W.heap.size) ⟨Good.is _, Good.is _, Good.is _, Good.is _, Good.is _, Good.is _, Good.is _, Good.is _, Good.is _, Good.is _, Good.is _, Good.is _, Good.is _, Good.is _, Good.is _, Good.is _, Good.is _, Good.is _, Good.is _, Good.is _, Good.is _, Good.is _, Good.is _, Good.is _, Good.is _, Good.is _, Good.is _, Good.is _, Good.is _, Good.is _, Good.is _, Good.is _, Good.is _, Good.is _, Good.is _, trivial⟩
  (fun W W1 hS hE => ⟨(Ext.trans hS.1 hE), (hS.2.1.ext hE), (hS.2.2.1.ext hE), (Nat.le_trans hS.2.2.2 (Ext.size hE))⟩) ⟨E0, p3, p4, Nat.le_refl _⟩ (by kernel_rfl) (by kernel_rfl) (by kernel_rfl) (by kernel_rfl) (A := ?A22) ?hA22 ?howe22 ?hfin22
 case hA22 =>
  intro vs
  simp only [putAll, Act.put, List.setIfInBounds_toArray, List.set_cons_zero, List.set_cons_succ, Nat.zero_add, Nat.reduceAdd]
  exact rfl
 case howe22 =>
  clear E0 p3 p4
  intro hf
  refine ⟨owesE 0 [] hf rfl (by kernel_rfl) ?_, owesE 1 [0] hf rfl (by kernel_rfl) ?_, owesE 2 [1] hf rfl (by kernel_rfl) ?_, owesE 3 [1] hf rfl (by kernel_rfl) ?_, owesE 4 [1, 2, 3] hf rfl (by kernel_rfl) ?_, owesE 5 [1, 4] hf rfl (by kernel_rfl) ?_, owesE 6 [5] hf rfl (by kernel_rfl) ?_, owesE 7 [5] hf rfl (by kernel_rfl) ?_, owesE 8 [5] hf rfl (by kernel_rfl) ?_, owesE 9 [1, 5, 8] hf rfl (by kernel_rfl) ?_, owesE 10 [1, 9] hf rfl (by kernel_rfl) ?_, owesE 11 [10] hf rfl (by kernel_rfl) ?_, owesE 12 [11] hf rfl (by kernel_rfl) ?_, owesE 13 [11, 12] hf rfl (by kernel_rfl) ?_, owesE 14 [11, 13] hf rfl (by kernel_rfl) ?_, owesE 15 [14] hf rfl (by kernel_rfl) ?_, owesE 16 [14] hf rfl (by kernel_rfl) ?_, owesE 17 [14] hf rfl (by kernel_rfl) ?_, owesE 18 [14] hf rfl (by kernel_rfl) ?_, owesE 19 [11, 14, 18] hf rfl (by kernel_rfl) ?_, owesE 20 [11, 19] hf rfl (by kernel_rfl) ?_, owesE 21 [20] hf rfl (by kernel_rfl) ?_, owesE 22 [21] hf rfl (by kernel_rfl) ?_, owesE 23 [21, 22] hf rfl (by kernel_rfl) ?_, owesE 24 [21] hf rfl (by kernel_rfl) ?_, owesE 25 [21, 24] hf rfl (by kernel_rfl) ?_, owesE 26 [21, 23, 25] hf rfl (by kernel_rfl) ?_, owesE 27 [21, 26] hf rfl (by kernel_rfl) ?_, owesE 28 [27] hf rfl (by kernel_rfl) ?_, owesE 29 [27] hf rfl (by kernel_rfl) ?_, owesE 30 [27, 29] hf rfl (by kernel_rfl) ?_, owesE 31 [27, 28, 30] hf rfl (by kernel_rfl) ?_, owesE 32 [21, 27, 31] hf rfl (by kernel_rfl) ?_, owesE 33 [21, 32] hf rfl (by kernel_rfl) ?_, owesE 34 [33] hf rfl (by kernel_rfl) ?_, trivial⟩
  all_goals intro vs W hS hp hx KO hKO
  all_goals simp only [Act.put, List.setIfInBounds_toArray, List.set_cons_zero, List.set_cons_succ] at hKO
  ·go_simp
   refine (Try.alive15 _).mono ?_
   rintro e W1 ⟨rfl, hE⟩
   exact hKO _ W1 hE rfl
  ·have e0 := isOf hp.1
   simp only [e0] at hKO
   go_simp
   exact hKO _ W (Ext.refl W) rfl
  ·have e1 := isOf hp.1
   simp only [e1] at hKO
   go_simp
   exact hKO _ W (Ext.refl W) rfl
  ·have e1 := isOf hp.1
   simp only [e1] at hKO
   go_simp
   exact hKO _ W (Ext.refl W) rfl
  ·have e1 := isOf hp.1
   have e2 := isOf hp.2.1
   have e3 := isOf hp.2.2.1
   simp only [e1, e2, e3] at hKO
   go_simp
   exact hKO _ W (Ext.refl W) rfl
  ·have e1 := isOf hp.1
   have e4 := isOf hp.2.1
   simp only [e1, e4] at hKO
   go_simp
   exact hKO _ W (Ext.refl W) rfl
  ·have e5 := isOf hp.1
   simp only [e5] at hKO
   go_simp
   exact hKO _ W (Ext.refl W) rfl
  ·have e5 := isOf hp.1
   simp only [e5] at hKO
   go_simp
   exact hKO _ W (Ext.refl W) rfl
  ·have e5 := isOf hp.1
   simp only [e5] at hKO
   go_simp
   exact hKO _ W (Ext.refl W) rfl
  ·have e1 := isOf hp.1
   have e5 := isOf hp.2.1
   have e8 := isOf hp.2.2.1
   simp only [e1, e5, e8] at hKO
   go_simp
   exact hKO _ W (Ext.refl W) rfl
  ·have e1 := isOf hp.1
   have e9 := isOf hp.2.1
   simp only [e1, e9] at hKO
   go_simp
   exact hKO _ W (Ext.refl W) rfl
  ·have e10 := isOf hp.1
   simp only [e10] at hKO
   go_simp
   exact hKO _ W (Ext.refl W) rfl
  ·have e11 := isOf hp.1
   simp only [e11] at hKO
   go_simp
   exact hKO _ W (Ext.refl W) rfl
  ·have e11 := isOf hp.1
   have e12 := isOf hp.2.1
   simp only [e11, e12] at hKO
   go_simp
   exact hKO _ W (Ext.refl W) rfl
  ·have e11 := isOf hp.1
   have e13 := isOf hp.2.1
   simp only [e11, e13] at hKO
   go_simp
   exact hKO _ W (Ext.refl W) rfl
  ·have e14 := isOf hp.1
   simp only [e14] at hKO
   go_simp
   exact hKO _ W (Ext.refl W) rfl
  ·have e14 := isOf hp.1
   simp only [e14] at hKO
   go_simp
   exact hKO _ W (Ext.refl W) rfl
  ·have e14 := isOf hp.1
   simp only [e14] at hKO
   go_simp
   exact hKO _ W (Ext.refl W) rfl
  ·have e14 := isOf hp.1
   simp only [e14] at hKO
   go_simp
   exact hKO _ W (Ext.refl W) rfl
  ·have e11 := isOf hp.1
   have e14 := isOf hp.2.1
   have e18 := isOf hp.2.2.1
   simp only [e11, e14, e18] at hKO
   go_simp
   exact hKO _ W (Ext.refl W) rfl
  ·have e11 := isOf hp.1
   have e19 := isOf hp.2.1
   simp only [e11, e19] at hKO
   go_simp
   exact hKO _ W (Ext.refl W) rfl
  ·have e20 := isOf hp.1
   simp only [e20] at hKO
   go_simp
   exact hKO _ W (Ext.refl W) rfl
  ·have e21 := isOf hp.1
   simp only [e21] at hKO
   go_simp
   exact hKO _ W (Ext.refl W) rfl
  ·have e21 := isOf hp.1
   have e22 := isOf hp.2.1
   simp only [e21, e22] at hKO
   have fc2 := BxA.cell (hS.2.1) 2 (v := .int .i64 (R : Int)) rfl
   go_simp
   exact hKO _ W (Ext.refl W) rfl
  ·have e21 := isOf hp.1
   simp only [e21] at hKO
   go_simp
   exact hKO _ W (Ext.refl W) rfl
  ·have e21 := isOf hp.1
   have e24 := isOf hp.2.1
   simp only [e21, e24] at hKO
   go_simp
   exact hKO _ W (Ext.refl W) rfl
  ·have e21 := isOf hp.1
   have e23 := isOf hp.2.1
   have e25 := isOf hp.2.2.1
   simp only [e21, e23, e25] at hKO
   go_simp
   exact hKO _ W (Ext.refl W) rfl
  ·have e21 := isOf hp.1
   have e26 := isOf hp.2.1
   simp only [e21, e26] at hKO
   go_simp
   exact hKO _ W (Ext.refl W) rfl
  ·have e27 := isOf hp.1
   simp only [e27] at hKO
   go_simp
   exact hKO _ W (Ext.refl W) rfl
  ·have e27 := isOf hp.1
   simp only [e27] at hKO
   go_simp
   exact hKO _ W (Ext.refl W) rfl
  ·have e27 := isOf hp.1
   have e29 := isOf hp.2.1
   simp only [e27, e29] at hKO
   have fc1 := BxA.cell (hS.2.1) 1 (v := .int .i64 (B : Int)) rfl
   go_simp
   exact hKO _ W (Ext.refl W) rfl
  ·have e27 := isOf hp.1
   have e28 := isOf hp.2.1
   have e30 := isOf hp.2.2.1
   simp only [e27, e28, e30] at hKO
   go_simp
   exact hKO _ W (Ext.refl W) rfl
  ·have e21 := isOf hp.1
   have e27 := isOf hp.2.1
   have e31 := isOf hp.2.2.1
   simp only [e21, e27, e31] at hKO
   go_simp
   exact hKO _ W (Ext.refl W) rfl
  ·have e21 := isOf hp.1
   have e32 := isOf hp.2.1
   simp only [e21, e32] at hKO
   go_simp
   exact hKO _ W (Ext.refl W) rfl
  ·have e33 := isOf hp.1
   simp only [e33] at hKO
   go_simp
   exact hKO _ W (Ext.refl W) rfl
 intro vs W22 hS hp
 clear szw22 E0 p3 p4
 obtain ⟨E0, p3, p4, sz22⟩ := hS
 obtain ⟨h22_0, h22_1, h22_2, h22_3, h22_4, h22_5, h22_6, h22_7, h22_8, h22_9, h22_10, h22_11, h22_12, h22_13, h22_14, h22_15, h22_16, h22_17, h22_18, h22_19, h22_20, h22_21, h22_22, h22_23, h22_24, h22_25, h22_26, h22_27, h22_28, h22_29, h22_30, h22_31, h22_32, h22_33, h22_34, -⟩ := hp
 replace h22_0 : vs 0 = .bool true := h22_0
 replace h22_1 : vs 1 = .bool true := h22_1
 replace h22_2 : vs 2 = .int .i64 (n : Int) := h22_2
 replace h22_3 : vs 3 = .int .i64 (m : Int) := h22_3
 replace h22_4 : vs 4 = .bool true := h22_4
 replace h22_5 : vs 5 = .bool true := h22_5
 replace h22_6 : vs 6 = undef := h22_6
 replace h22_7 : vs 7 = undef := h22_7
 replace h22_8 : vs 8 = undef := h22_8
 replace h22_9 : vs 9 = .bool true := h22_9
 replace h22_10 : vs 10 = .bool true := h22_10
 replace h22_11 : vs 11 = .bool true := h22_11
 replace h22_12 : vs 12 = .int .i64 (n : Int) := h22_12
 replace h22_13 : vs 13 = .bool true := h22_13
 replace h22_14 : vs 14 = .bool true := h22_14
 replace h22_15 : vs 15 = undef := h22_15
 replace h22_16 : vs 16 = undef := h22_16
 replace h22_17 : vs 17 = undef := h22_17
 replace h22_18 : vs 18 = undef := h22_18
 replace h22_19 : vs 19 = .bool true := h22_19
 replace h22_20 : vs 20 = .bool true := h22_20
 replace h22_21 : vs 21 = .bool true := h22_21
 replace h22_22 : vs 22 = .pointer (some ⟨w.heap.size, 2, none⟩) := h22_22
 replace h22_23 : vs 23 = .int .i64 (R : Int) := h22_23
 replace h22_24 : vs 24 = .int .i64 (K : Int) := h22_24
 replace h22_25 : vs 25 = .int .i64 (R : Int) := h22_25
 replace h22_26 : vs 26 = .bool false := h22_26
 replace h22_27 : vs 27 = .bool false := h22_27
 replace h22_28 : vs 28 = .int .i64 (B : Int) := h22_28
 replace h22_29 : vs 29 = .pointer (some ⟨w.heap.size, 1, none⟩) := h22_29
 replace h22_30 : vs 30 = .int .i64 (B : Int) := h22_30
 replace h22_31 : vs 31 = .bool true := h22_31
 replace h22_32 : vs 32 = .bool true := h22_32
 replace h22_33 : vs 33 = .bool true := h22_33
 replace h22_34 : vs 34 = .bool true := h22_34
 simp only [h22_0, h22_1, h22_2, h22_3, h22_4, h22_5, h22_6, h22_7, h22_8, h22_9, h22_10, h22_11, h22_12, h22_13, h22_14, h22_15, h22_16, h22_17, h22_18, h22_19, h22_20, h22_21, h22_22, h22_23, h22_24, h22_25, h22_26, h22_27, h22_28, h22_29, h22_30, h22_31, h22_32, h22_33, h22_34]
 clear h22_0 h22_1 h22_2 h22_3 h22_4 h22_5 h22_6 h22_7 h22_8 h22_9 h22_10 h22_11 h22_12 h22_13 h22_14 h22_15 h22_16 h22_17 h22_18 h22_19 h22_20 h22_21 h22_22 h22_23 h22_24 h22_25 h22_26 h22_27 h22_28 h22_29 h22_30 h22_31 h22_32 h22_33 h22_34
 obtain ⟨kp3_0, kp3_1, kp3_2, kp3_3, kp3_4, kp3_5, kp3_6, kp3_7⟩ := p3.cells8
 have kp4_0 := p4.cell0
 have kp4_1 := p4.cell1
 go_wp2
 go_ret
 exact ⟨rfl, E0⟩

set_option maxRecDepth 100000 in
set_option maxHeartbeats 8000000 in
theorem Try.endsDrop000 (B R Wm V T U K n m : Nat) (ee ll pp X Y : Int) (w : World) (HR0 : Hid (rightS 2 (B : Int) (R : Int) ee (Wm : Int) (V : Int) ll pp (K : Int) = true)) (hB : B < 9223372036854775808) (HTT : Hid ((1 ≤ T ∧ T ≤ 1000000) ∧ (1 ≤ U ∧ U ≤ 1000000))) (hV : 1 ≤ V) (hWm : Wm ≤ 1000000) (hT : Wm < T) (hU : Wm < U) (hn : n = (T - Wm) / V) (hm : m = (U - Wm) / V)
  (HX : Hid (rateV 2 (B : Int) (R : Int) ee (Wm : Int) (V : Int) ll pp T K = X)) (HY : Hid (rateV 2 (B : Int) (R : Int) ee (Wm : Int) (V : Int) ll pp U K = Y)) (hem : n ≠ m) (hzn : n ≠ 0) (hrp : R ≠ 2 ^ K) :
  Calls Try.prog 12 #[.agg #[.int .i64 2, .int .i64 (B : Int), .int .i64 (R : Int), .int .i64 ee, .int .i64 (Wm : Int), .int .i64 (V : Int), .int .i64 ll, .int .i64 pp], .agg #[.int .i64 (T : Int), .int .i64 (U : Int)], .int .i64 (K : Int)] w fun e w' => e = .returned (.bool true) ∧ Ext w w' := by
 obtain ⟨P, hP⟩ : ∃ P, P = 2 ^ K := ⟨_, rfl⟩
 have hKb : K ≤ 40 := by have := rightS_iff.1 HR0.out; omega
 have hPb : P ≤ 1099511627776 := by rw [hP]; exact Nat.le_trans (Nat.pow_le_pow_right (by omega) hKb) (by decide)
 have hT2 := HTT.out
 rw [← hP] at hrp
 have hsh : IntKind.i64.wrap (2 ^ K) = (P : Int) := by rw [show ((2 : Int) ^ K) = ((2 ^ K : Nat) : Int) by simp, ← hP, IntKind.wrap_i64]; omega
 have hv0 : ((V : Int) == 0) = false := beq_eq_false_iff_ne.2 (by omega)
 have hv0a : ¬ ((V : Int) = 0) := by omega
 have hv0b : ¬ (V = 0) := by omega
 have hA1 : ¬ ((T : Int) ≤ (Wm : Int)) := by omega
 have hA1d := decide_eq_false hA1
 have hA2 : ¬ ((U : Int) ≤ (Wm : Int)) := by omega
 have hA2d := decide_eq_false hA2
 have hA3 : ¬ ((T : Int) < 1) := by omega
 have hA3d := decide_eq_false hA3
 have hA4 : ¬ ((U : Int) < 1) := by omega
 have hA4d := decide_eq_false hA4
 have hA5 : ¬ ((1000000 : Int) < (T : Int)) := by omega
 have hA5d := decide_eq_false hA5
 have hA6 : ¬ ((1000000 : Int) < (U : Int)) := by omega
 have hA6d := decide_eq_false hA6
 have hqTb : n ≤ 1000000 := by rw [hn]; exact Nat.le_trans (Nat.div_le_self _ _) (by omega)
 have hsT : IntKind.i64.wrap ((T : Int) - (Wm : Int)) = ((T - Wm : Nat) : Int) := by rw [IntKind.wrap_i64]; omega
 have hdT : (((T - Wm : Nat) : Int)).tdiv (V : Int) = (n : Int) := by rw [Int.tdiv_eq_ediv_of_nonneg (by omega), hn]; rfl
 have hdT2 : (((T - Wm : Nat) : Int)) / (V : Int) = (n : Int) := by rw [hn]; rfl
 have hdT3 : IntKind.i64.wrap ((((T - Wm : Nat) : Int)).tdiv (V : Int)) = (n : Int) := by rw [hdT, IntKind.wrap_i64]; omega
 have hdT4 : IntKind.i64.wrap (n : Int) = (n : Int) := by rw [IntKind.wrap_i64]; omega
 have hqUb : m ≤ 1000000 := by rw [hm]; exact Nat.le_trans (Nat.div_le_self _ _) (by omega)
 have hsU : IntKind.i64.wrap ((U : Int) - (Wm : Int)) = ((U - Wm : Nat) : Int) := by rw [IntKind.wrap_i64]; omega
 have hdU : (((U - Wm : Nat) : Int)).tdiv (V : Int) = (m : Int) := by rw [Int.tdiv_eq_ediv_of_nonneg (by omega), hm]; rfl
 have hdU2 : (((U - Wm : Nat) : Int)) / (V : Int) = (m : Int) := by rw [hm]; rfl
 have hdU3 : IntKind.i64.wrap ((((U - Wm : Nat) : Int)).tdiv (V : Int)) = (m : Int) := by rw [hdU, IntKind.wrap_i64]; omega
 have hdU4 : IntKind.i64.wrap (m : Int) = (m : Int) := by rw [IntKind.wrap_i64]; omega
 have g1 : ((n : Int) != (m : Int)) = true := by simp; omega
 have g1b : ((n : Int) == (m : Int)) = false := beq_eq_false_iff_ne.2 (by omega)
 have g2 : (0 : Int) < (n : Int) := by omega
 have g2d := decide_eq_true g2
 have g2n : 0 < n := by omega
 have g2nd := decide_eq_true g2n
 have g3 : ((R : Int) != (P : Int)) = true := by simp; omega
 have g3b : ((R : Int) == (P : Int)) = false := beq_eq_false_iff_ne.2 (by omega)
 have g3c : (R != P) = true := by simp; omega
 have g3d : (R == P) = false := beq_eq_false_iff_ne.2 (by omega)
 have g3e : ¬ (R = P) := by omega
 have g3f := decide_eq_false g3e
 have HBB : Hid (B < 9223372036854775808) := Lib.hid hB
 clear hB hP hPb hT2 hn hm hV hWm hT hU hzn hqTb hqUb hrp hem
 obtain ⟨W0, hW0⟩ : ∃ W0, W0 = ((w.alloc (.cells #[.int .i64 2, .int .i64 (B : Int), .int .i64 (R : Int), .int .i64 ee, .int .i64 (Wm : Int), .int .i64 (V : Int), .int .i64 ll, .int .i64 pp] 64)).alloc (.cells #[.int .i64 (T : Int), .int .i64 (U : Int)] 65)) := ⟨_, rfl⟩
 have E0 : Ext w W0 := by rw [hW0]; exact ((Ext.alloc1 w (.cells #[.int .i64 2, .int .i64 (B : Int), .int .i64 (R : Int), .int .i64 ee, .int .i64 (Wm : Int), .int .i64 (V : Int), .int .i64 ll, .int .i64 pp] 64)).alloc (.cells #[.int .i64 (T : Int), .int .i64 (U : Int)] 65))
 have p3 : BxA W0 w.heap.size 64 #[.int .i64 2, .int .i64 (B : Int), .int .i64 (R : Int), .int .i64 ee, .int .i64 (Wm : Int), .int .i64 (V : Int), .int .i64 ll, .int .i64 pp] := by rw [hW0]; exact (BxA.new w 64 #[.int .i64 2, .int .i64 (B : Int), .int .i64 (R : Int), .int .i64 ee, .int .i64 (Wm : Int), .int .i64 (V : Int), .int .i64 ll, .int .i64 pp]).ext (Ext.alloc1 (w.alloc (.cells #[.int .i64 2, .int .i64 (B : Int), .int .i64 (R : Int), .int .i64 ee, .int .i64 (Wm : Int), .int .i64 (V : Int), .int .i64 ll, .int .i64 pp] 64)) (.cells #[.int .i64 (T : Int), .int .i64 (U : Int)] 65))
 have p4 : Bx2 W0 (w.heap.size + 1) 65 (.int .i64 (T : Int)) (.int .i64 (U : Int)) := by rw [hW0]; simpa using (Bx2.new (w.alloc (.cells #[.int .i64 2, .int .i64 (B : Int), .int .i64 (R : Int), .int .i64 ee, .int .i64 (Wm : Int), .int .i64 (V : Int), .int .i64 ll, .int .i64 pp] 64)) 65 (.int .i64 (T : Int)) (.int .i64 (U : Int)))
 go_enter Try.func12, Try.ntmps12
 obtain ⟨kp3_0, kp3_1, kp3_2, kp3_3, kp3_4, kp3_5, kp3_6, kp3_7⟩ := p3.cells8
 have kp4_0 := p4.cell0
 have kp4_1 := p4.cell1
 go_wp2_with fail
 rw [← hW0]
 clear hW0
 clear kp3_0 kp3_1 kp3_2 kp3_3 kp3_4 kp3_5 kp3_6 kp3_7 kp4_0 kp4_1
 refine (Try.refRight15 2 (B : Int) (R : Int) ee (Wm : Int) (V : Int) ll pp (K : Int) _).mono ?_
 rintro e V80 ⟨rfl, hE⟩
 rw [HR0.out]
 replace E0 := (Ext.trans E0 hE)
 replace p3 := (p3.ext hE)
 replace p4 := (p4.ext hE)
 clear hE
 obtain ⟨kp3_0, kp3_1, kp3_2, kp3_3, kp3_4, kp3_5, kp3_6, kp3_7⟩ := p3.cells8
 have kp4_0 := p4.cell0
 have kp4_1 := p4.cell1
 go_wp2_with fail
 clear kp3_0 kp3_1 kp3_2 kp3_3 kp3_4 kp3_5 kp3_6 kp3_7 kp4_0 kp4_1
 refine (Try.schedRate 2 (B : Int) (R : Int) ee (Wm : Int) (V : Int) ll pp T K _ HR0.out (by have := HBB.out; omega) HTT.out.1.1 HTT.out.1.2 HX.out).mono ?_
 rintro e V81 ⟨rfl, hE⟩
 replace E0 := (Ext.trans E0 hE)
 replace p3 := (p3.ext hE)
 replace p4 := (p4.ext hE)
 clear hE
 obtain ⟨kp3_0, kp3_1, kp3_2, kp3_3, kp3_4, kp3_5, kp3_6, kp3_7⟩ := p3.cells8
 have kp4_0 := p4.cell0
 have kp4_1 := p4.cell1
 go_wp2_with fail
 clear kp3_0 kp3_1 kp3_2 kp3_3 kp3_4 kp3_5 kp3_6 kp3_7 kp4_0 kp4_1
 refine (Try.schedRate 2 (B : Int) (R : Int) ee (Wm : Int) (V : Int) ll pp U K _ HR0.out (by have := HBB.out; omega) HTT.out.2.1 HTT.out.2.2 HY.out).mono ?_
 rintro e V82 ⟨rfl, hE⟩
 replace E0 := (Ext.trans E0 hE)
 replace p3 := (p3.ext hE)
 replace p4 := (p4.ext hE)
 clear hE
 obtain ⟨kp3_0, kp3_1, kp3_2, kp3_3, kp3_4, kp3_5, kp3_6, kp3_7⟩ := p3.cells8
 have kp4_0 := p4.cell0
 have kp4_1 := p4.cell1
 go_upto_region 11 with (fail)
 clear kp3_0 kp3_1 kp3_2 kp3_3 kp3_4 kp3_5 kp3_6 kp3_7 kp4_0 kp4_1
 try clear hA1d
 try clear hA1
 try clear hA2d
 try clear hA2
 try clear hA3d
 try clear hA3
 try clear hA4d
 try clear hA4
 try clear hA5d
 try clear hA5
 try clear hA6d
 try clear hA6
 have ltp3 := p3.lt
 have ltp4 := p4.lt
 have szw23 := Ext.size E0
 refine region_go [.one fun v _ => v = .pointer (some ⟨w.heap.size + 1, 0, none⟩),
   .one fun v _ => v = .int .i64 (T : Int),
   .one fun v _ => v = .pointer (some ⟨w.heap.size, 4, none⟩),
   .one fun v _ => v = .int .i64 (Wm : Int),
   .one fun v _ => v = .int .i64 ((T - Wm : Nat) : Int),
   .one fun v _ => v = .pointer (some ⟨w.heap.size, 5, none⟩),
   .one fun v _ => v = .int .i64 (V : Int),
   .one fun v _ => v = .int .i64 (n : Int),
   .one fun v _ => v = .pointer (some ⟨w.heap.size + 1, 1, none⟩),
   .one fun v _ => v = .int .i64 (U : Int),
   .one fun v _ => v = .pointer (some ⟨w.heap.size, 4, none⟩),
   .one fun v _ => v = .int .i64 (Wm : Int),
   .one fun v _ => v = .int .i64 ((U - Wm : Nat) : Int),
   .one fun v _ => v = .pointer (some ⟨w.heap.size, 5, none⟩),
   .one fun v _ => v = .int .i64 (V : Int),
   .one fun v _ => v = .int .i64 (m : Int),
   .one fun v _ => v = .int .i64 (n : Int),
   .one fun v _ => v = .int .i64 (m : Int)]
  (fun W => Ext w W ∧ BxA W w.heap.size 64 #[.int .i64 2, .int .i64 (B : Int), .int .i64 (R : Int), .int .i64 ee, .int .i64 (Wm : Int), .int .i64 (V : Int), .int .i64 ll, .int .i64 pp] ∧ Bx2 W (w.heap.size + 1) 65 (.int .i64 (T : Int)) (.int .i64 (U : Int)) ∧ V82.heap.size ≤ W.heap.size) ⟨Good.is _, Good.is _, Good.is _, Good.is _, Good.is _, Good.is _, Good.is _, Good.is _, Good.is _, Good.is _, Good.is _, Good.is _, Good.is _, Good.is _, Good.is _, Good.is _, Good.is _, Good.is _, trivial⟩
  (fun W W1 hS hE => ⟨(Ext.trans hS.1 hE), (hS.2.1.ext hE), (hS.2.2.1.ext hE), (Nat.le_trans hS.2.2.2 (Ext.size hE))⟩) ⟨E0, p3, p4, Nat.le_refl _⟩ (by kernel_rfl) (by kernel_rfl) (by kernel_rfl) (by kernel_rfl) (A := ?A23) ?hA23 ?howe23 ?hfin23
 case hA23 =>
  intro vs
  simp only [putAll, Act.put, List.setIfInBounds_toArray, List.set_cons_zero, List.set_cons_succ, Nat.zero_add, Nat.reduceAdd]
  exact rfl
 case howe23 =>
  clear E0 p3 p4
  intro hf
  refine ⟨owesE 0 [] hf rfl (by kernel_rfl) ?_, owesE 1 [0] hf rfl (by kernel_rfl) ?_, owesE 2 [] hf rfl (by kernel_rfl) ?_, owesE 3 [2] hf rfl (by kernel_rfl) ?_, owesE 4 [1, 3] hf rfl (by kernel_rfl) ?_, owesE 5 [] hf rfl (by kernel_rfl) ?_, owesE 6 [5] hf rfl (by kernel_rfl) ?_, owesE 7 [4, 6] hf rfl (by kernel_rfl) ?_, owesE 8 [] hf rfl (by kernel_rfl) ?_, owesE 9 [8] hf rfl (by kernel_rfl) ?_, owesE 10 [] hf rfl (by kernel_rfl) ?_, owesE 11 [10] hf rfl (by kernel_rfl) ?_, owesE 12 [9, 11] hf rfl (by kernel_rfl) ?_, owesE 13 [] hf rfl (by kernel_rfl) ?_, owesE 14 [13] hf rfl (by kernel_rfl) ?_, owesE 15 [12, 14] hf rfl (by kernel_rfl) ?_, owesE 16 [7] hf rfl (by kernel_rfl) ?_, owesE 17 [15] hf rfl (by kernel_rfl) ?_, trivial⟩
  all_goals intro vs W hS hp hx KO hKO
  all_goals simp only [Act.put, List.setIfInBounds_toArray, List.set_cons_zero, List.set_cons_succ] at hKO
  ·go_simp
   exact hKO _ W (Ext.refl W) rfl
  ·have e0 := isOf hp.1
   simp only [e0] at hKO
   have fc0 := hS.2.2.1.cell0
   go_simp
   exact hKO _ W (Ext.refl W) rfl
  ·go_simp
   exact hKO _ W (Ext.refl W) rfl
  ·have e2 := isOf hp.1
   simp only [e2] at hKO
   have fc4 := BxA.cell (hS.2.1) 4 (v := .int .i64 (Wm : Int)) rfl
   go_simp
   exact hKO _ W (Ext.refl W) rfl
  ·have e1 := isOf hp.1
   have e3 := isOf hp.2.1
   simp only [e1, e3] at hKO
   go_simp
   exact hKO _ W (Ext.refl W) rfl
  ·go_simp
   exact hKO _ W (Ext.refl W) rfl
  ·have e5 := isOf hp.1
   simp only [e5] at hKO
   have fc5 := BxA.cell (hS.2.1) 5 (v := .int .i64 (V : Int)) rfl
   go_simp
   exact hKO _ W (Ext.refl W) rfl
  ·have e4 := isOf hp.1
   have e6 := isOf hp.2.1
   simp only [e4, e6] at hKO
   go_simp
   exact hKO _ W (Ext.refl W) rfl
  ·go_simp
   exact hKO _ W (Ext.refl W) rfl
  ·have e8 := isOf hp.1
   simp only [e8] at hKO
   have fc1 := hS.2.2.1.cell1
   go_simp
   exact hKO _ W (Ext.refl W) rfl
  ·go_simp
   exact hKO _ W (Ext.refl W) rfl
  ·have e10 := isOf hp.1
   simp only [e10] at hKO
   have fc4 := BxA.cell (hS.2.1) 4 (v := .int .i64 (Wm : Int)) rfl
   go_simp
   exact hKO _ W (Ext.refl W) rfl
  ·have e9 := isOf hp.1
   have e11 := isOf hp.2.1
   simp only [e9, e11] at hKO
   go_simp
   exact hKO _ W (Ext.refl W) rfl
  ·go_simp
   exact hKO _ W (Ext.refl W) rfl
  ·have e13 := isOf hp.1
   simp only [e13] at hKO
   have fc5 := BxA.cell (hS.2.1) 5 (v := .int .i64 (V : Int)) rfl
   go_simp
   exact hKO _ W (Ext.refl W) rfl
  ·have e12 := isOf hp.1
   have e14 := isOf hp.2.1
   simp only [e12, e14] at hKO
   go_simp
   exact hKO _ W (Ext.refl W) rfl
  ·have e7 := isOf hp.1
   simp only [e7] at hKO
   go_simp
   exact hKO _ W (Ext.refl W) rfl
  ·have e15 := isOf hp.1
   simp only [e15] at hKO
   go_simp
   exact hKO _ W (Ext.refl W) rfl
 intro vs W23 hS hp
 clear szw23 E0 p3 p4
 obtain ⟨E0, p3, p4, sz23⟩ := hS
 obtain ⟨h23_0, h23_1, h23_2, h23_3, h23_4, h23_5, h23_6, h23_7, h23_8, h23_9, h23_10, h23_11, h23_12, h23_13, h23_14, h23_15, h23_16, h23_17, -⟩ := hp
 replace h23_0 : vs 0 = .pointer (some ⟨w.heap.size + 1, 0, none⟩) := h23_0
 replace h23_1 : vs 1 = .int .i64 (T : Int) := h23_1
 replace h23_2 : vs 2 = .pointer (some ⟨w.heap.size, 4, none⟩) := h23_2
 replace h23_3 : vs 3 = .int .i64 (Wm : Int) := h23_3
 replace h23_4 : vs 4 = .int .i64 ((T - Wm : Nat) : Int) := h23_4
 replace h23_5 : vs 5 = .pointer (some ⟨w.heap.size, 5, none⟩) := h23_5
 replace h23_6 : vs 6 = .int .i64 (V : Int) := h23_6
 replace h23_7 : vs 7 = .int .i64 (n : Int) := h23_7
 replace h23_8 : vs 8 = .pointer (some ⟨w.heap.size + 1, 1, none⟩) := h23_8
 replace h23_9 : vs 9 = .int .i64 (U : Int) := h23_9
 replace h23_10 : vs 10 = .pointer (some ⟨w.heap.size, 4, none⟩) := h23_10
 replace h23_11 : vs 11 = .int .i64 (Wm : Int) := h23_11
 replace h23_12 : vs 12 = .int .i64 ((U - Wm : Nat) : Int) := h23_12
 replace h23_13 : vs 13 = .pointer (some ⟨w.heap.size, 5, none⟩) := h23_13
 replace h23_14 : vs 14 = .int .i64 (V : Int) := h23_14
 replace h23_15 : vs 15 = .int .i64 (m : Int) := h23_15
 replace h23_16 : vs 16 = .int .i64 (n : Int) := h23_16
 replace h23_17 : vs 17 = .int .i64 (m : Int) := h23_17
 simp only [h23_0, h23_1, h23_2, h23_3, h23_4, h23_5, h23_6, h23_7, h23_8, h23_9, h23_10, h23_11, h23_12, h23_13, h23_14, h23_15, h23_16, h23_17]
 clear h23_0 h23_1 h23_2 h23_3 h23_4 h23_5 h23_6 h23_7 h23_8 h23_9 h23_10 h23_11 h23_12 h23_13 h23_14 h23_15 h23_16 h23_17
 obtain ⟨kp3_0, kp3_1, kp3_2, kp3_3, kp3_4, kp3_5, kp3_6, kp3_7⟩ := p3.cells8
 have kp4_0 := p4.cell0
 have kp4_1 := p4.cell1
 go_upto_region 12 with (fail)
 clear kp3_0 kp3_1 kp3_2 kp3_3 kp3_4 kp3_5 kp3_6 kp3_7 kp4_0 kp4_1
 try clear hsT
 try clear hsU
 try clear hdT
 try clear hdT2
 try clear hdT3
 try clear hdT4
 try clear hdU
 try clear hdU2
 try clear hdU3
 try clear hdU4
 try clear hv0
 try clear hv0a
 try clear hv0b
 have szw24 := Ext.size E0
 refine region_go [.one fun v _ => v = .bool true,
   .one fun v _ => v = .bool true,
   .one fun v _ => v = .int .i64 (n : Int),
   .one fun v _ => v = .int .i64 (m : Int),
   .one fun v _ => v = .bool true,
   .one fun v _ => v = .bool true,
   .one fun v _ => v = undef,
   .one fun v _ => v = undef,
   .one fun v _ => v = undef,
   .one fun v _ => v = .bool true,
   .one fun v _ => v = .bool true,
   .one fun v _ => v = .bool true,
   .one fun v _ => v = .int .i64 (n : Int),
   .one fun v _ => v = .bool true,
   .one fun v _ => v = .bool true,
   .one fun v _ => v = undef,
   .one fun v _ => v = undef,
   .one fun v _ => v = undef,
   .one fun v _ => v = undef,
   .one fun v _ => v = .bool true,
   .one fun v _ => v = .bool true,
   .one fun v _ => v = .bool true,
   .one fun v _ => v = .pointer (some ⟨w.heap.size, 2, none⟩),
   .one fun v _ => v = .int .i64 (R : Int),
   .one fun v _ => v = .int .i64 (K : Int),
   .one fun v _ => v = .int .i64 (P : Int),
   .one fun v _ => v = .bool true,
   .one fun v _ => v = .bool true,
   .one fun v _ => v = undef,
   .one fun v _ => v = undef,
   .one fun v _ => v = undef,
   .one fun v _ => v = undef,
   .one fun v _ => v = .bool true,
   .one fun v _ => v = .bool true,
   .one fun v _ => v = .bool true]
  (fun W => Ext w W ∧ BxA W w.heap.size 64 #[.int .i64 2, .int .i64 (B : Int), .int .i64 (R : Int), .int .i64 ee, .int .i64 (Wm : Int), .int .i64 (V : Int), .int .i64 ll, .int .i64 pp] ∧ Bx2 W (w.heap.size + 1) 65 (.int .i64 (T : Int)) (.int .i64 (U : Int)) ∧ W23.heap.size ≤ W.heap.size) ⟨Good.is _, Good.is _, Good.is _, Good.is _, Good.is _, Good.is _, Good.is _, Good.is _, Good.is _, Good.is _, Good.is _, Good.is _, Good.is _, Good.is _, Good.is _, Good.is _, Good.is _, Good.is _, Good.is _, Good.is _, Good.is _, Good.is _, Good.is _, Good.is _, Good.is _, Good.is _, Good.is _, Good.is _, Good.is _, Good.is _, Good.is _, Good.is _, Good.is _, Good.is _, Good.is _, trivial⟩
  (fun W W1 hS hE => ⟨(Ext.trans hS.1 hE), (hS.2.1.ext hE), (hS.2.2.1.ext hE), (Nat.le_trans hS.2.2.2 (Ext.size hE))⟩) ⟨E0, p3, p4, Nat.le_refl _⟩ (by kernel_rfl) (by kernel_rfl) (by kernel_rfl) (by kernel_rfl) (A := ?A24) ?hA24 ?howe24 ?hfin24
 case hA24 =>
  intro vs
  simp only [putAll, Act.put, List.setIfInBounds_toArray, List.set_cons_zero, List.set_cons_succ, Nat.zero_add, Nat.reduceAdd]
  exact rfl
 case howe24 =>
  clear E0 p3 p4
  intro hf
  refine ⟨owesE 0 [] hf rfl (by kernel_rfl) ?_, owesE 1 [0] hf rfl (by kernel_rfl) ?_, owesE 2 [1] hf rfl (by kernel_rfl) ?_, owesE 3 [1] hf rfl (by kernel_rfl) ?_, owesE 4 [1, 2, 3] hf rfl (by kernel_rfl) ?_, owesE 5 [1, 4] hf rfl (by kernel_rfl) ?_, owesE 6 [5] hf rfl (by kernel_rfl) ?_, owesE 7 [5] hf rfl (by kernel_rfl) ?_, owesE 8 [5] hf rfl (by kernel_rfl) ?_, owesE 9 [1, 5, 8] hf rfl (by kernel_rfl) ?_, owesE 10 [1, 9] hf rfl (by kernel_rfl) ?_, owesE 11 [10] hf rfl (by kernel_rfl) ?_, owesE 12 [11] hf rfl (by kernel_rfl) ?_, owesE 13 [11, 12] hf rfl (by kernel_rfl) ?_, owesE 14 [11, 13] hf rfl (by kernel_rfl) ?_, owesE 15 [14] hf rfl (by kernel_rfl) ?_, owesE 16 [14] hf rfl (by kernel_rfl) ?_, owesE 17 [14] hf rfl (by kernel_rfl) ?_, owesE 18 [14] hf rfl (by kernel_rfl) ?_, owesE 19 [11, 14, 18] hf rfl (by kernel_rfl) ?_, owesE 20 [11, 19] hf rfl (by kernel_rfl) ?_, owesE 21 [20] hf rfl (by kernel_rfl) ?_, owesE 22 [21] hf rfl (by kernel_rfl) ?_, owesE 23 [21, 22] hf rfl (by kernel_rfl) ?_, owesE 24 [21] hf rfl (by kernel_rfl) ?_, owesE 25 [21, 24] hf rfl (by kernel_rfl) ?_, owesE 26 [21, 23, 25] hf rfl (by kernel_rfl) ?_, owesE 27 [21, 26] hf rfl (by kernel_rfl) ?_, owesE 28 [27] hf rfl (by kernel_rfl) ?_, owesE 29 [27] hf rfl (by kernel_rfl) ?_, owesE 30 [27] hf rfl (by kernel_rfl) ?_, owesE 31 [27] hf rfl (by kernel_rfl) ?_, owesE 32 [21, 27, 31] hf rfl (by kernel_rfl) ?_, owesE 33 [21, 32] hf rfl (by kernel_rfl) ?_, owesE 34 [33] hf rfl (by kernel_rfl) ?_, trivial⟩
  all_goals intro vs W hS hp hx KO hKO
  all_goals simp only [Act.put, List.setIfInBounds_toArray, List.set_cons_zero, List.set_cons_succ] at hKO
  ·go_simp
   refine (Try.alive15 _).mono ?_
   rintro e W1 ⟨rfl, hE⟩
   exact hKO _ W1 hE rfl
  ·have e0 := isOf hp.1
   simp only [e0] at hKO
   go_simp
   exact hKO _ W (Ext.refl W) rfl
  ·have e1 := isOf hp.1
   simp only [e1] at hKO
   go_simp
   exact hKO _ W (Ext.refl W) rfl
  ·have e1 := isOf hp.1
   simp only [e1] at hKO
   go_simp
   exact hKO _ W (Ext.refl W) rfl
  ·have e1 := isOf hp.1
   have e2 := isOf hp.2.1
   have e3 := isOf hp.2.2.1
   simp only [e1, e2, e3] at hKO
   go_simp
   exact hKO _ W (Ext.refl W) rfl
  ·have e1 := isOf hp.1
   have e4 := isOf hp.2.1
   simp only [e1, e4] at hKO
   go_simp
   exact hKO _ W (Ext.refl W) rfl
  ·have e5 := isOf hp.1
   simp only [e5] at hKO
   go_simp
   exact hKO _ W (Ext.refl W) rfl
  ·have e5 := isOf hp.1
   simp only [e5] at hKO
   go_simp
   exact hKO _ W (Ext.refl W) rfl
  ·have e5 := isOf hp.1
   simp only [e5] at hKO
   go_simp
   exact hKO _ W (Ext.refl W) rfl
  ·have e1 := isOf hp.1
   have e5 := isOf hp.2.1
   have e8 := isOf hp.2.2.1
   simp only [e1, e5, e8] at hKO
   go_simp
   exact hKO _ W (Ext.refl W) rfl
  ·have e1 := isOf hp.1
   have e9 := isOf hp.2.1
   simp only [e1, e9] at hKO
   go_simp
   exact hKO _ W (Ext.refl W) rfl
  ·have e10 := isOf hp.1
   simp only [e10] at hKO
   go_simp
   exact hKO _ W (Ext.refl W) rfl
  ·have e11 := isOf hp.1
   simp only [e11] at hKO
   go_simp
   exact hKO _ W (Ext.refl W) rfl
  ·have e11 := isOf hp.1
   have e12 := isOf hp.2.1
   simp only [e11, e12] at hKO
   go_simp
   exact hKO _ W (Ext.refl W) rfl
  ·have e11 := isOf hp.1
   have e13 := isOf hp.2.1
   simp only [e11, e13] at hKO
   go_simp
   exact hKO _ W (Ext.refl W) rfl
  ·have e14 := isOf hp.1
   simp only [e14] at hKO
   go_simp
   exact hKO _ W (Ext.refl W) rfl
  ·have e14 := isOf hp.1
   simp only [e14] at hKO
   go_simp
   exact hKO _ W (Ext.refl W) rfl
  ·have e14 := isOf hp.1
   simp only [e14] at hKO
   go_simp
   exact hKO _ W (Ext.refl W) rfl
  ·have e14 := isOf hp.1
   simp only [e14] at hKO
   go_simp
   exact hKO _ W (Ext.refl W) rfl
  ·have e11 := isOf hp.1
   have e14 := isOf hp.2.1
   have e18 := isOf hp.2.2.1
   simp only [e11, e14, e18] at hKO
   go_simp
   exact hKO _ W (Ext.refl W) rfl
  ·have e11 := isOf hp.1
   have e19 := isOf hp.2.1
   simp only [e11, e19] at hKO
   go_simp
   exact hKO _ W (Ext.refl W) rfl
  ·have e20 := isOf hp.1
   simp only [e20] at hKO
   go_simp
   exact hKO _ W (Ext.refl W) rfl
  ·have e21 := isOf hp.1
   simp only [e21] at hKO
   go_simp
   exact hKO _ W (Ext.refl W) rfl
  ·have e21 := isOf hp.1
   have e22 := isOf hp.2.1
   simp only [e21, e22] at hKO
   have fc2 := BxA.cell (hS.2.1) 2 (v := .int .i64 (R : Int)) rfl
   go_simp
   exact hKO _ W (Ext.refl W) rfl
  ·have e21 := isOf hp.1
   simp only [e21] at hKO
   go_simp
   exact hKO _ W (Ext.refl W) rfl
  ·have e21 := isOf hp.1
   have e24 := isOf hp.2.1
   simp only [e21, e24] at hKO
   go_simp
   exact hKO _ W (Ext.refl W) rfl
  ·have e21 := isOf hp.1
   have e23 := isOf hp.2.1
   have e25 := isOf hp.2.2.1
   simp only [e21, e23, e25] at hKO
   go_simp
   exact hKO _ W (Ext.refl W) rfl
  ·have e21 := isOf hp.1
   have e26 := isOf hp.2.1
   simp only [e21, e26] at hKO
   go_simp
   exact hKO _ W (Ext.refl W) rfl
  ·have e27 := isOf hp.1
   simp only [e27] at hKO
   go_simp
   exact hKO _ W (Ext.refl W) rfl
  ·have e27 := isOf hp.1
   simp only [e27] at hKO
   go_simp
   exact hKO _ W (Ext.refl W) rfl
  ·have e27 := isOf hp.1
   simp only [e27] at hKO
   go_simp
   exact hKO _ W (Ext.refl W) rfl
  ·have e27 := isOf hp.1
   simp only [e27] at hKO
   go_simp
   exact hKO _ W (Ext.refl W) rfl
  ·have e21 := isOf hp.1
   have e27 := isOf hp.2.1
   have e31 := isOf hp.2.2.1
   simp only [e21, e27, e31] at hKO
   go_simp
   exact hKO _ W (Ext.refl W) rfl
  ·have e21 := isOf hp.1
   have e32 := isOf hp.2.1
   simp only [e21, e32] at hKO
   go_simp
   exact hKO _ W (Ext.refl W) rfl
  ·have e33 := isOf hp.1
   simp only [e33] at hKO
   go_simp
   exact hKO _ W (Ext.refl W) rfl
 intro vs W24 hS hp
 clear szw24 E0 p3 p4
 obtain ⟨E0, p3, p4, sz24⟩ := hS
 obtain ⟨h24_0, h24_1, h24_2, h24_3, h24_4, h24_5, h24_6, h24_7, h24_8, h24_9, h24_10, h24_11, h24_12, h24_13, h24_14, h24_15, h24_16, h24_17, h24_18, h24_19, h24_20, h24_21, h24_22, h24_23, h24_24, h24_25, h24_26, h24_27, h24_28, h24_29, h24_30, h24_31, h24_32, h24_33, h24_34, -⟩ := hp
 replace h24_0 : vs 0 = .bool true := h24_0
 replace h24_1 : vs 1 = .bool true := h24_1
 replace h24_2 : vs 2 = .int .i64 (n : Int) := h24_2
 replace h24_3 : vs 3 = .int .i64 (m : Int) := h24_3
 replace h24_4 : vs 4 = .bool true := h24_4
 replace h24_5 : vs 5 = .bool true := h24_5
 replace h24_6 : vs 6 = undef := h24_6
 replace h24_7 : vs 7 = undef := h24_7
 replace h24_8 : vs 8 = undef := h24_8
 replace h24_9 : vs 9 = .bool true := h24_9
 replace h24_10 : vs 10 = .bool true := h24_10
 replace h24_11 : vs 11 = .bool true := h24_11
 replace h24_12 : vs 12 = .int .i64 (n : Int) := h24_12
 replace h24_13 : vs 13 = .bool true := h24_13
 replace h24_14 : vs 14 = .bool true := h24_14
 replace h24_15 : vs 15 = undef := h24_15
 replace h24_16 : vs 16 = undef := h24_16
 replace h24_17 : vs 17 = undef := h24_17
 replace h24_18 : vs 18 = undef := h24_18
 replace h24_19 : vs 19 = .bool true := h24_19
 replace h24_20 : vs 20 = .bool true := h24_20
 replace h24_21 : vs 21 = .bool true := h24_21
 replace h24_22 : vs 22 = .pointer (some ⟨w.heap.size, 2, none⟩) := h24_22
 replace h24_23 : vs 23 = .int .i64 (R : Int) := h24_23
 replace h24_24 : vs 24 = .int .i64 (K : Int) := h24_24
 replace h24_25 : vs 25 = .int .i64 (P : Int) := h24_25
 replace h24_26 : vs 26 = .bool true := h24_26
 replace h24_27 : vs 27 = .bool true := h24_27
 replace h24_28 : vs 28 = undef := h24_28
 replace h24_29 : vs 29 = undef := h24_29
 replace h24_30 : vs 30 = undef := h24_30
 replace h24_31 : vs 31 = undef := h24_31
 replace h24_32 : vs 32 = .bool true := h24_32
 replace h24_33 : vs 33 = .bool true := h24_33
 replace h24_34 : vs 34 = .bool true := h24_34
 simp only [h24_0, h24_1, h24_2, h24_3, h24_4, h24_5, h24_6, h24_7, h24_8, h24_9, h24_10, h24_11, h24_12, h24_13, h24_14, h24_15, h24_16, h24_17, h24_18, h24_19, h24_20, h24_21, h24_22, h24_23, h24_24, h24_25, h24_26, h24_27, h24_28, h24_29, h24_30, h24_31, h24_32, h24_33, h24_34]
 clear h24_0 h24_1 h24_2 h24_3 h24_4 h24_5 h24_6 h24_7 h24_8 h24_9 h24_10 h24_11 h24_12 h24_13 h24_14 h24_15 h24_16 h24_17 h24_18 h24_19 h24_20 h24_21 h24_22 h24_23 h24_24 h24_25 h24_26 h24_27 h24_28 h24_29 h24_30 h24_31 h24_32 h24_33 h24_34
 obtain ⟨kp3_0, kp3_1, kp3_2, kp3_3, kp3_4, kp3_5, kp3_6, kp3_7⟩ := p3.cells8
 have kp4_0 := p4.cell0
 have kp4_1 := p4.cell1
 go_wp2
 go_ret
 exact ⟨rfl, E0⟩

end Go.Rt
