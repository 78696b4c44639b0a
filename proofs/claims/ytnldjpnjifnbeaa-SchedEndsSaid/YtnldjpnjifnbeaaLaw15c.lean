/-
 The laws of chapter 15 (schedules): Ends: its walk.
-/
import Derived.Test.YtnldjpnjifnbeaaSchedC
namespace Go.Rt
open Go Go.RowKit Go.Proofs

set_option maxRecDepth 100000 in
set_option maxHeartbeats 8000000 in
theorem Try.endsDrop111 (B R Wm V T U K n : Nat) (ee ll pp : Int) (w : World) (HR0 : Hid (rightS 2 (B : Int) (R : Int) ee (Wm : Int) (V : Int) ll pp (K : Int) = true)) (hB : B < 9223372036854775808) (HTT : Hid ((1 ≤ T ∧ T ≤ 1000000) ∧ (1 ≤ U ∧ U ≤ 1000000))) (hV : 1 ≤ V) (hWm : Wm ≤ 1000000) (hT : Wm < T) (hU : Wm < U) (hn : n = (T - Wm) / V) (hm : n = (U - Wm) / V)
  (HX : Hid (rateV 2 (B : Int) (R : Int) ee (Wm : Int) (V : Int) ll pp T K = (B : Int))) (HY : Hid (rateV 2 (B : Int) (R : Int) ee (Wm : Int) (V : Int) ll pp U K = (B : Int))) (hzn : n = 0) (hrp : R = 2 ^ K) :
  Calls Try.prog 12 #[.agg #[.int .i64 2, .int .i64 (B : Int), .int .i64 (R : Int), .int .i64 ee, .int .i64 (Wm : Int), .int .i64 (V : Int), .int .i64 ll, .int .i64 pp], .agg #[.int .i64 (T : Int), .int .i64 (U : Int)], .int .i64 (K : Int)] w fun e w' => e = .returned (.bool true) ∧ Ext w w' := by
 obtain ⟨P, hP⟩ : ∃ P, P = 2 ^ K := ⟨_, rfl⟩
 have hKb : K ≤ 40 := by have := rightS_iff.1 HR0.out; omega
 have hPb : P ≤ 1099511627776 := by rw [hP]; exact Nat.le_trans (Nat.pow_le_pow_right (by omega) hKb) (by decide)
 have hT2 := HTT.out
 rw [← hP] at hrp
 have hsh : IntKind.i64.wrap (2 ^ K) = (P : Int) := by rw [show ((2 : Int) ^ K) = ((2 ^ K : Nat) : Int) by simp, ← hP, IntKind.wrap_i64]; omega
 have hv0 : ((V : Int) == 0) = false := beq_eq_false_iff_ne.2 (by omega)
 have hv0a : ¬ ((V : Int) = 0) := by omega
 have hv0b : ¬ (V = 0) := by omega
 have hA1 : ¬ ((T : Int) ≤ (Wm : Int)) := by omega
 have hA1d := decide_eq_false hA1
 have hA2 : ¬ ((U : Int) ≤ (Wm : Int)) := by omega
 have hA2d := decide_eq_false hA2
 have hA3 : ¬ ((T : Int) < 1) := by omega
 have hA3d := decide_eq_false hA3
 have hA4 : ¬ ((U : Int) < 1) := by omega
 have hA4d := decide_eq_false hA4
 have hA5 : ¬ ((1000000 : Int) < (T : Int)) := by omega
 have hA5d := decide_eq_false hA5
 have hA6 : ¬ ((1000000 : Int) < (U : Int)) := by omega
 have hA6d := decide_eq_false hA6
 have hqTb : n ≤ 1000000 := by rw [hn]; exact Nat.le_trans (Nat.div_le_self _ _) (by omega)
 have hsT : IntKind.i64.wrap ((T : Int) - (Wm : Int)) = ((T - Wm : Nat) : Int) := by rw [IntKind.wrap_i64]; omega
 have hdT : (((T - Wm : Nat) : Int)).tdiv (V : Int) = (n : Int) := by rw [Int.tdiv_eq_ediv_of_nonneg (by omega), hn]; rfl
 have hdT2 : (((T - Wm : Nat) : Int)) / (V : Int) = (n : Int) := by rw [hn]; rfl
 have hdT3 : IntKind.i64.wrap ((((T - Wm : Nat) : Int)).tdiv (V : Int)) = (n : Int) := by rw [hdT, IntKind.wrap_i64]; omega
 have hdT4 : IntKind.i64.wrap (n : Int) = (n : Int) := by rw [IntKind.wrap_i64]; omega
 have hqUb : n ≤ 1000000 := by rw [hm]; exact Nat.le_trans (Nat.div_le_self _ _) (by omega)
 have hsU : IntKind.i64.wrap ((U : Int) - (Wm : Int)) = ((U - Wm : Nat) : Int) := by rw [IntKind.wrap_i64]; omega
 have hdU : (((U - Wm : Nat) : Int)).tdiv (V : Int) = (n : Int) := by rw [Int.tdiv_eq_ediv_of_nonneg (by omega), hm]; rfl
 have hdU2 : (((U - Wm : Nat) : Int)) / (V : Int) = (n : Int) := by rw [hm]; rfl
 have hdU3 : IntKind.i64.wrap ((((U - Wm : Nat) : Int)).tdiv (V : Int)) = (n : Int) := by rw [hdU, IntKind.wrap_i64]; omega
 have hdU4 : IntKind.i64.wrap (n : Int) = (n : Int) := by rw [IntKind.wrap_i64]; omega
 have g2 : ¬ (0 : Int) < (n : Int) := by omega
 have g2d := decide_eq_false g2
 have g2n : ¬ 0 < n := by omega
 have g2nd := decide_eq_false g2n
 have HRP := Lib.hid hrp
 have HBB : Hid (B < 9223372036854775808) := Lib.hid hB
 clear hB hP hPb hT2 hn hm hV hWm hT hU hzn hqTb hqUb hrp
 obtain rfl : R = P := HRP.out
 clear HRP
 obtain ⟨W0, hW0⟩ : ∃ W0, W0 = ((w.alloc (.cells #[.int .i64 2, .int .i64 (B : Int), .int .i64 (R : Int), .int .i64 ee, .int .i64 (Wm : Int), .int .i64 (V : Int), .int .i64 ll, .int .i64 pp] 64)).alloc (.cells #[.int .i64 (T : Int), .int .i64 (U : Int)] 65)) := ⟨_, rfl⟩
 have E0 : Ext w W0 := by rw [hW0]; exact ((Ext.alloc1 w (.cells #[.int .i64 2, .int .i64 (B : Int), .int .i64 (R : Int), .int .i64 ee, .int .i64 (Wm : Int), .int .i64 (V : Int), .int .i64 ll, .int .i64 pp] 64)).alloc (.cells #[.int .i64 (T : Int), .int .i64 (U : Int)] 65))
 have p3 : BxA W0 w.heap.size 64 #[.int .i64 2, .int .i64 (B : Int), .int .i64 (R : Int), .int .i64 ee, .int .i64 (Wm : Int), .int .i64 (V : Int), .int .i64 ll, .int .i64 pp] := by rw [hW0]; exact (BxA.new w 64 #[.int .i64 2, .int .i64 (B : Int), .int .i64 (R : Int), .int .i64 ee, .int .i64 (Wm : Int), .int .i64 (V : Int), .int .i64 ll, .int .i64 pp]).ext (Ext.alloc1 (w.alloc (.cells #[.int .i64 2, .int .i64 (B : Int), .int .i64 (R : Int), .int .i64 ee, .int .i64 (Wm : Int), .int .i64 (V : Int), .int .i64 ll, .int .i64 pp] 64)) (.cells #[.int .i64 (T : Int), .int .i64 (U : Int)] 65))
 have p4 : Bx2 W0 (w.heap.size + 1) 65 (.int .i64 (T : Int)) (.int .i64 (U : Int)) := by rw [hW0]; simpa using (Bx2.new (w.alloc (.cells #[.int .i64 2, .int .i64 (B : Int), .int .i64 (R : Int), .int .i64 ee, .int .i64 (Wm : Int), .int .i64 (V : Int), .int .i64 ll, .int .i64 pp] 64)) 65 (.int .i64 (T : Int)) (.int .i64 (U : Int)))
 go_enter Try.func12, Try.ntmps12
 obtain ⟨kp3_0, kp3_1, kp3_2, kp3_3, kp3_4, kp3_5, kp3_6, kp3_7⟩ := p3.cells8
 have kp4_0 := p4.cell0
 have kp4_1 := p4.cell1
 go_wp2_with fail
 rw [← hW0]
 clear hW0
 clear kp3_0 kp3_1 kp3_2 kp3_3 kp3_4 kp3_5 kp3_6 kp3_7 kp4_0 kp4_1
 refine (Try.refRight15 2 (B : Int) (R : Int) ee (Wm : Int) (V : Int) ll pp (K : Int) _).mono ?_
 rintro e V59 ⟨rfl, hE⟩
 rw [HR0.out]
 replace E0 := (Ext.trans E0 hE)
 replace p3 := (p3.ext hE)
 replace p4 := (p4.ext hE)
 clear hE
 obtain ⟨kp3_0, kp3_1, kp3_2, kp3_3, kp3_4, kp3_5, kp3_6, kp3_7⟩ := p3.cells8
 have kp4_0 := p4.cell0
 have kp4_1 := p4.cell1
 go_wp2_with fail
 clear kp3_0 kp3_1 kp3_2 kp3_3 kp3_4 kp3_5 kp3_6 kp3_7 kp4_0 kp4_1
 refine (Try.schedRate 2 (B : Int) (R : Int) ee (Wm : Int) (V : Int) ll pp T K _ HR0.out (by have := HBB.out; omega) HTT.out.1.1 HTT.out.1.2 HX.out).mono ?_
 rintro e V60 ⟨rfl, hE⟩
 replace E0 := (Ext.trans E0 hE)
 replace p3 := (p3.ext hE)
 replace p4 := (p4.ext hE)
 clear hE
 obtain ⟨kp3_0, kp3_1, kp3_2, kp3_3, kp3_4, kp3_5, kp3_6, kp3_7⟩ := p3.cells8
 have kp4_0 := p4.cell0
 have kp4_1 := p4.cell1
 go_wp2_with fail
 clear kp3_0 kp3_1 kp3_2 kp3_3 kp3_4 kp3_5 kp3_6 kp3_7 kp4_0 kp4_1
 refine (Try.schedRate 2 (B : Int) (R : Int) ee (Wm : Int) (V : Int) ll pp U K _ HR0.out (by have := HBB.out; omega) HTT.out.2.1 HTT.out.2.2 HY.out).mono ?_
 rintro e V61 ⟨rfl, hE⟩
 replace E0 := (Ext.trans E0 hE)
 replace p3 := (p3.ext hE)
 replace p4 := (p4.ext hE)
 clear hE
 obtain ⟨kp3_0, kp3_1, kp3_2, kp3_3, kp3_4, kp3_5, kp3_6, kp3_7⟩ := p3.cells8
 have kp4_0 := p4.cell0
 have kp4_1 := p4.cell1
 go_upto_region 11 with (fail)
 clear kp3_0 kp3_1 kp3_2 kp3_3 kp3_4 kp3_5 kp3_6 kp3_7 kp4_0 kp4_1
 try clear hA1d
 try clear hA1
 try clear hA2d
 try clear hA2
 try clear hA3d
 try clear hA3
 try clear hA4d
 try clear hA4
 try clear hA5d
 try clear hA5
 try clear hA6d
 try clear hA6
 have ltp3 := p3.lt
 have ltp4 := p4.lt
 have szw9 := Ext.size E0
 refine region_go [.one fun v _ => v = .pointer (some ⟨w.heap.size + 1, 0, none⟩),
   .one fun v _ => v = .int .i64 (T : Int),
   .one fun v _ => v = .pointer (some ⟨w.heap.size, 4, none⟩),
   .one fun v _ => v = .int .i64 (Wm : Int),
   .one fun v _ => v = .int .i64 ((T - Wm : Nat) : Int),
   .one fun v _ => v = .pointer (some ⟨w.heap.size, 5, none⟩),
   .one fun v _ => v = .int .i64 (V : Int),
   .one fun v _ => v = .int .i64 (n : Int),
   .one fun v _ => v = .pointer (some ⟨w.heap.size + 1, 1, none⟩),
   .one fun v _ => v = .int .i64 (U : Int),
   .one fun v _ => v = .pointer (some ⟨w.heap.size, 4, none⟩),
   .one fun v _ => v = .int .i64 (Wm : Int),
   .one fun v _ => v = .int .i64 ((U - Wm : Nat) : Int),
   .one fun v _ => v = .pointer (some ⟨w.heap.size, 5, none⟩),
   .one fun v _ => v = .int .i64 (V : Int),
   .one fun v _ => v = .int .i64 (n : Int),
   .one fun v _ => v = .int .i64 (n : Int),
   .one fun v _ => v = .int .i64 (n : Int)]
  (fun W => Ext w W ∧ BxA W w.heap.size 64 #[.int .i64 2, .int .i64 (B : Int), .int .i64 (R : Int), .int .i64 ee, .int .i64 (Wm : Int), .int .i64 (V : Int), .int .i64 ll, .int .i64 pp] ∧ Bx2 W (w.heap.size + 1) 65 (.int .i64 (T : Int)) (.int .i64 (U : Int)) ∧ V61.heap.size ≤ W.heap.size) ⟨Good.is _, Good.is _, Good.is _, Good.is _, Good.is _, Good.is _, Good.is _, Good.is _, Good.is _, Good.is _, Good.is _, Good.is _, Good.is _, Good.is _, Good.is _, Good.is _, Good.is _, Good.is _, trivial⟩
  (fun W W1 hS hE => ⟨(Ext.trans hS.1 hE), (hS.2.1.ext hE), (hS.2.2.1.ext hE), (Nat.le_trans hS.2.2.2 (Ext.size hE))⟩) ⟨E0, p3, p4, Nat.le_refl _⟩ (by kernel_rfl) (by kernel_rfl) (by kernel_rfl) (by kernel_rfl) (A := ?A9) ?hA9 ?howe9 ?hfin9
 case hA9 =>
  intro vs
  simp only [putAll, Act.put, List.setIfInBounds_toArray, List.set_cons_zero, List.set_cons_succ, Nat.zero_add, Nat.reduceAdd]
  exact rfl
 case howe9 =>
  clear E0 p3 p4
  intro hf
  refine ⟨owesE 0 [] hf rfl (by kernel_rfl) ?_, owesE 1 [0] hf rfl (by kernel_rfl) ?_, owesE 2 [] hf rfl (by kernel_rfl) ?_, owesE 3 [2] hf rfl (by kernel_rfl) ?_, owesE 4 [1, 3] hf rfl (by kernel_rfl) ?_, owesE 5 [] hf rfl (by kernel_rfl) ?_, owesE 6 [5] hf rfl (by kernel_rfl) ?_, owesE 7 [4, 6] hf rfl (by kernel_rfl) ?_, owesE 8 [] hf rfl (by kernel_rfl) ?_, owesE 9 [8] hf rfl (by kernel_rfl) ?_, owesE 10 [] hf rfl (by kernel_rfl) ?_, owesE 11 [10] hf rfl (by kernel_rfl) ?_, owesE 12 [9, 11] hf rfl (by kernel_rfl) ?_, owesE 13 [] hf rfl (by kernel_rfl) ?_, owesE 14 [13] hf rfl (by kernel_rfl) ?_, owesE 15 [12, 14] hf rfl (by kernel_rfl) ?_, owesE 16 [7] hf rfl (by kernel_rfl) ?_, owesE 17 [15] hf rfl (by kernel_rfl) ?_, trivial⟩
  all_goals intro vs W hS hp hx KO hKO
  all_goals simp only [Act.put, List.setIfInBounds_toArray, List.set_cons_zero, List.set_cons_succ] at hKO
  ·go_simp
   exact hKO _ W (Ext.refl W) rfl
  ·have e0 := isOf hp.1
   simp only [e0] at hKO
   have fc0 := hS.2.2.1.cell0
   go_simp
   exact hKO _ W (Ext.refl W) rfl
  ·go_simp
   exact hKO _ W (Ext.refl W) rfl
  ·have e2 := isOf hp.1
   simp only [e2] at hKO
   have fc4 := BxA.cell (hS.2.1) 4 (v := .int .i64 (Wm : Int)) rfl
   go_simp
   exact hKO _ W (Ext.refl W) rfl
  ·have e1 := isOf hp.1
   have e3 := isOf hp.2.1
   simp only [e1, e3] at hKO
   go_simp
   exact hKO _ W (Ext.refl W) rfl
  ·go_simp
   exact hKO _ W (Ext.refl W) rfl
  ·have e5 := isOf hp.1
   simp only [e5] at hKO
   have fc5 := BxA.cell (hS.2.1) 5 (v := .int .i64 (V : Int)) rfl
   go_simp
   exact hKO _ W (Ext.refl W) rfl
  ·have e4 := isOf hp.1
   have e6 := isOf hp.2.1
   simp only [e4, e6] at hKO
   go_simp
   exact hKO _ W (Ext.refl W) rfl
  ·go_simp
   exact hKO _ W (Ext.refl W) rfl
  ·have e8 := isOf hp.1
   simp only [e8] at hKO
   have fc1 := hS.2.2.1.cell1
   go_simp
   exact hKO _ W (Ext.refl W) rfl
  ·go_simp
   exact hKO _ W (Ext.refl W) rfl
  ·have e10 := isOf hp.1
   simp only [e10] at hKO
   have fc4 := BxA.cell (hS.2.1) 4 (v := .int .i64 (Wm : Int)) rfl
   go_simp
   exact hKO _ W (Ext.refl W) rfl
  ·have e9 := isOf hp.1
   have e11 := isOf hp.2.1
   simp only [e9, e11] at hKO
   go_simp
   exact hKO _ W (Ext.refl W) rfl
  ·go_simp
   exact hKO _ W (Ext.refl W) rfl
  ·have e13 := isOf hp.1
   simp only [e13] at hKO
   have fc5 := BxA.cell (hS.2.1) 5 (v := .int .i64 (V : Int)) rfl
   go_simp
   exact hKO _ W (Ext.refl W) rfl
  ·have e12 := isOf hp.1
   have e14 := isOf hp.2.1
   simp only [e12, e14] at hKO
   go_simp
   exact hKO _ W (Ext.refl W) rfl
  ·have e7 := isOf hp.1
   simp only [e7] at hKO
   go_simp
   exact hKO _ W (Ext.refl W) rfl
  ·have e15 := isOf hp.1
   simp only [e15] at hKO
   go_simp
   exact hKO _ W (Ext.refl W) rfl
 intro vs W9 hS hp
 clear szw9 E0 p3 p4
 obtain ⟨E0, p3, p4, sz9⟩ := hS
 obtain ⟨h9_0, h9_1, h9_2, h9_3, h9_4, h9_5, h9_6, h9_7, h9_8, h9_9, h9_10, h9_11, h9_12, h9_13, h9_14, h9_15, h9_16, h9_17, -⟩ := hp
 replace h9_0 : vs 0 = .pointer (some ⟨w.heap.size + 1, 0, none⟩) := h9_0
 replace h9_1 : vs 1 = .int .i64 (T : Int) := h9_1
 replace h9_2 : vs 2 = .pointer (some ⟨w.heap.size, 4, none⟩) := h9_2
 replace h9_3 : vs 3 = .int .i64 (Wm : Int) := h9_3
 replace h9_4 : vs 4 = .int .i64 ((T - Wm : Nat) : Int) := h9_4
 replace h9_5 : vs 5 = .pointer (some ⟨w.heap.size, 5, none⟩) := h9_5
 replace h9_6 : vs 6 = .int .i64 (V : Int) := h9_6
 replace h9_7 : vs 7 = .int .i64 (n : Int) := h9_7
 replace h9_8 : vs 8 = .pointer (some ⟨w.heap.size + 1, 1, none⟩) := h9_8
 replace h9_9 : vs 9 = .int .i64 (U : Int) := h9_9
 replace h9_10 : vs 10 = .pointer (some ⟨w.heap.size, 4, none⟩) := h9_10
 replace h9_11 : vs 11 = .int .i64 (Wm : Int) := h9_11
 replace h9_12 : vs 12 = .int .i64 ((U - Wm : Nat) : Int) := h9_12
 replace h9_13 : vs 13 = .pointer (some ⟨w.heap.size, 5, none⟩) := h9_13
 replace h9_14 : vs 14 = .int .i64 (V : Int) := h9_14
 replace h9_15 : vs 15 = .int .i64 (n : Int) := h9_15
 replace h9_16 : vs 16 = .int .i64 (n : Int) := h9_16
 replace h9_17 : vs 17 = .int .i64 (n : Int) := h9_17
 simp only [h9_0, h9_1, h9_2, h9_3, h9_4, h9_5, h9_6, h9_7, h9_8, h9_9, h9_10, h9_11, h9_12, h9_13, h9_14, h9_15, h9_16, h9_17]
 clear h9_0 h9_1 h9_2 h9_3 h9_4 h9_5 h9_6 h9_7 h9_8 h9_9 h9_10 h9_11 h9_12 h9_13 h9_14 h9_15 h9_16 h9_17
 obtain ⟨kp3_0, kp3_1, kp3_2, kp3_3, kp3_4, kp3_5, kp3_6, kp3_7⟩ := p3.cells8
 have kp4_0 := p4.cell0
 have kp4_1 := p4.cell1
 go_upto_region 12 with (fail)
 clear kp3_0 kp3_1 kp3_2 kp3_3 kp3_4 kp3_5 kp3_6 kp3_7 kp4_0 kp4_1
 try clear hsT
 try clear hsU
 try clear hdT
 try clear hdT2
 try clear hdT3
 try clear hdT4
 try clear hdU
 try clear hdU2
 try clear hdU3
 try clear hdU4
 try clear hv0
 try clear hv0a
 try clear hv0b
 have szw10 := Ext.size E0
 refine region_go [.one fun v _ => v = .bool true,
   .one fun v _ => v = .bool true,
   .one fun v _ => v = .int .i64 (n : Int),
   .one fun v _ => v = .int .i64 (n : Int),
   .one fun v _ => v = .bool false,
   .one fun v _ => v = .bool false,
   .one fun v _ => v = .int .i64 (B : Int),
   .one fun v _ => v = .int .i64 (B : Int),
   .one fun v _ => v = .bool true,
   .one fun v _ => v = .bool true,
   .one fun v _ => v = .bool true,
   .one fun v _ => v = .bool true,
   .one fun v _ => v = .int .i64 (n : Int),
   .one fun v _ => v = .bool false,
   .one fun v _ => v = .bool false,
   .one fun v _ => v = .int .i64 (B : Int),
   .one fun v _ => v = .pointer (some ⟨w.heap.size, 1, none⟩),
   .one fun v _ => v = .int .i64 (B : Int),
   .one fun v _ => v = .bool true,
   .one fun v _ => v = .bool true,
   .one fun v _ => v = .bool true,
   .one fun v _ => v = .bool true,
   .one fun v _ => v = .pointer (some ⟨w.heap.size, 2, none⟩),
   .one fun v _ => v = .int .i64 (R : Int),
   .one fun v _ => v = .int .i64 (K : Int),
   .one fun v _ => v = .int .i64 (R : Int),
   .one fun v _ => v = .bool false,
   .one fun v _ => v = .bool false,
   .one fun v _ => v = .int .i64 (B : Int),
   .one fun v _ => v = .pointer (some ⟨w.heap.size, 1, none⟩),
   .one fun v _ => v = .int .i64 (B : Int),
   .one fun v _ => v = .bool true,
   .one fun v _ => v = .bool true,
   .one fun v _ => v = .bool true,
   .one fun v _ => v = .bool true]
  (fun W => Ext w W ∧ BxA W w.heap.size 64 #[.int .i64 2, .int .i64 (B : Int), .int .i64 (R : Int), .int .i64 ee, .int .i64 (Wm : Int), .int .i64 (V : Int), .int .i64 ll, .int .i64 pp] ∧ Bx2 W (w.heap.size + 1) 65 (.int .i64 (T : Int)) (.int .i64 (U : Int)) ∧ W9.heap.size ≤ W.heap.size) ⟨Good.is _, Good.is _, Good.is _, Good.is _, Good.is _, Good.is _, Good.is _, Good.is _, Good.is _, Good.is _, Good.is _, Good.is _, Good.is _, Good.is _, Good.is _, Good.is _, Good.is _, Good.is _, Good.is _, Good.is _, Good.is _, Good.is _, Good.is _, Good.is _, Good.is _, Good.is _, Good.is _, Good.is _, Good.is _, Good.is _, Good.is _, Good.is _, Good.is _, Good.is _, Good.is _, trivial⟩
  (fun W W1 hS hE => ⟨(Ext.trans hS.1 hE), (hS.2.1.ext hE), (hS.2.2.1.ext hE), (Nat.le_trans hS.2.2.2 (Ext.size hE))⟩) ⟨E0, p3, p4, Nat.le_refl _⟩ (by kernel_rfl) (by kernel_rfl) (by kernel_rfl) (by kernel_rfl) (A := ?A10) ?hA10 ?howe10 ?hfin10
 case hA10 =>
  intro vs
  simp only [putAll, Act.put, List.setIfInBounds_toArray, List.set_cons_zero, List.set_cons_succ, Nat.zero_add, Nat.reduceAdd]
  exact rfl
 case howe10 =>
  clear E0 p3 p4
  intro hf
  refine ⟨owesE 0 [] hf rfl (by kernel_rfl) ?_, owesE 1 [0] hf rfl (by kernel_rfl) ?_, owesE 2 [1] hf rfl (by kernel_rfl) ?_, owesE 3 [1] hf rfl (by kernel_rfl) ?_, owesE 4 [1, 2, 3] hf rfl (by kernel_rfl) ?_, owesE 5 [1, 4] hf rfl (by kernel_rfl) ?_, owesE 6 [5] hf rfl (by kernel_rfl) ?_, owesE 7 [5] hf rfl (by kernel_rfl) ?_, owesE 8 [5, 6, 7] hf rfl (by kernel_rfl) ?_, owesE 9 [1, 5, 8] hf rfl (by kernel_rfl) ?_, owesE 10 [1, 9] hf rfl (by kernel_rfl) ?_, owesE 11 [10] hf rfl (by kernel_rfl) ?_, owesE 12 [11] hf rfl (by kernel_rfl) ?_, owesE 13 [11, 12] hf rfl (by kernel_rfl) ?_, owesE 14 [11, 13] hf rfl (by kernel_rfl) ?_, owesE 15 [14] hf rfl (by kernel_rfl) ?_, owesE 16 [14] hf rfl (by kernel_rfl) ?_, owesE 17 [14, 16] hf rfl (by kernel_rfl) ?_, owesE 18 [14, 15, 17] hf rfl (by kernel_rfl) ?_, owesE 19 [11, 14, 18] hf rfl (by kernel_rfl) ?_, owesE 20 [11, 19] hf rfl (by kernel_rfl) ?_, owesE 21 [20] hf rfl (by kernel_rfl) ?_, owesE 22 [21] hf rfl (by kernel_rfl) ?_, owesE 23 [21, 22] hf rfl (by kernel_rfl) ?_, owesE 24 [21] hf rfl (by kernel_rfl) ?_, owesE 25 [21, 24] hf rfl (by kernel_rfl) ?_, owesE 26 [21, 23, 25] hf rfl (by kernel_rfl) ?_, owesE 27 [21, 26] hf rfl (by kernel_rfl) ?_, owesE 28 [27] hf rfl (by kernel_rfl) ?_, owesE 29 [27] hf rfl (by kernel_rfl) ?_, owesE 30 [27, 29] hf rfl (by kernel_rfl) ?_, owesE 31 [27, 28, 30] hf rfl (by kernel_rfl) ?_, owesE 32 [21, 27, 31] hf rfl (by kernel_rfl) ?_, owesE 33 [21, 32] hf rfl (by kernel_rfl) ?_, owesE 34 [33] hf rfl (by kernel_rfl) ?_, trivial⟩
  all_goals intro vs W hS hp hx KO hKO
  all_goals simp only [Act.put, List.setIfInBounds_toArray, List.set_cons_zero, List.set_cons_succ] at hKO
  ·go_simp
   refine (Try.alive15 _).mono ?_
   rintro e W1 ⟨rfl, hE⟩
   exact hKO _ W1 hE rfl
  ·have e0 := isOf hp.1
   simp only [e0] at hKO
   go_simp
   exact hKO _ W (Ext.refl W) rfl
  ·have e1 := isOf hp.1
   simp only [e1] at hKO
   go_simp
   exact hKO _ W (Ext.refl W) rfl
  ·have e1 := isOf hp.1
   simp only [e1] at hKO
   go_simp
   exact hKO _ W (Ext.refl W) rfl
  ·have e1 := isOf hp.1
   have e2 := isOf hp.2.1
   have e3 := isOf hp.2.2.1
   simp only [e1, e2, e3] at hKO
   go_simp
   exact hKO _ W (Ext.refl W) rfl
  ·have e1 := isOf hp.1
   have e4 := isOf hp.2.1
   simp only [e1, e4] at hKO
   go_simp
   exact hKO _ W (Ext.refl W) rfl
  ·have e5 := isOf hp.1
   simp only [e5] at hKO
   go_simp
   exact hKO _ W (Ext.refl W) rfl
  ·have e5 := isOf hp.1
   simp only [e5] at hKO
   go_simp
   exact hKO _ W (Ext.refl W) rfl
  ·have e5 := isOf hp.1
   have e6 := isOf hp.2.1
   have e7 := isOf hp.2.2.1
   simp only [e5, e6, e7] at hKO
   go_simp
   exact hKO _ W (Ext.refl W) rfl
  ·have e1 := isOf hp.1
   have e5 := isOf hp.2.1
   have e8 := isOf hp.2.2.1
   simp only [e1, e5, e8] at hKO
   go_simp
   exact hKO _ W (Ext.refl W) rfl
  ·have e1 := isOf hp.1
   have e9 := isOf hp.2.1
   simp only [e1, e9] at hKO
   go_simp
   exact hKO _ W (Ext.refl W) rfl
  ·have e10 := isOf hp.1
   simp only [e10] at hKO
   go_simp
   exact hKO _ W (Ext.refl W) rfl
  ·have e11 := isOf hp.1
   simp only [e11] at hKO
   go_simp
   exact hKO _ W (Ext.refl W) rfl
  ·have e11 := isOf hp.1
   have e12 := isOf hp.2.1
   simp only [e11, e12] at hKO
   go_simp
   exact hKO _ W (Ext.refl W) rfl
  ·have e11 := isOf hp.1
   have e13 := isOf hp.2.1
   simp only [e11, e13] at hKO
   go_simp
   exact hKO _ W (Ext.refl W) rfl
  ·have e14 := isOf hp.1
   simp only [e14] at hKO
   go_simp
   exact hKO _ W (Ext.refl W) rfl
  ·have e14 := isOf hp.1
   simp only [e14] at hKO
   go_simp
   exact hKO _ W (Ext.refl W) rfl
  ·have e14 := isOf hp.1
   have e16 := isOf hp.2.1
   simp only [e14, e16] at hKO
   have fc1 := BxA.cell (hS.2.1) 1 (v := .int .i64 (B : Int)) rfl
   go_simp
   exact hKO _ W (Ext.refl W) rfl
  ·have e14 := isOf hp.1
   have e15 := isOf hp.2.1
   have e17 := isOf hp.2.2.1
   simp only [e14, e15, e17] at hKO
   go_simp
   exact hKO _ W (Ext.refl W) rfl
  ·have e11 := isOf hp.1
   have e14 := isOf hp.2.1
   have e18 := isOf hp.2.2.1
   simp only [e11, e14, e18] at hKO
   go_simp
   exact hKO _ W (Ext.refl W) rfl
  ·have e11 := isOf hp.1
   have e19 := isOf hp.2.1
   simp only [e11, e19] at hKO
   go_simp
   exact hKO _ W (Ext.refl W) rfl
  ·have e20 := isOf hp.1
   simp only [e20] at hKO
   go_simp
   exact hKO _ W (Ext.refl W) rfl
  ·have e21 := isOf hp.1
   simp only [e21] at hKO
   go_simp
   exact hKO _ W (Ext.refl W) rfl
  ·have e21 := isOf hp.1
   have e22 := isOf hp.2.1
   simp only [e21, e22] at hKO
   have fc2 := BxA.cell (hS.2.1) 2 (v := .int .i64 (R : Int)) rfl
   go_simp
   exact hKO _ W (Ext.refl W) rfl
  ·have e21 := isOf hp.1
   simp only [e21] at hKO
   go_simp
   exact hKO _ W (Ext.refl W) rfl
  ·have e21 := isOf hp.1
   have e24 := isOf hp.2.1
   simp only [e21, e24] at hKO
   go_simp
   exact hKO _ W (Ext.refl W) rfl
  ·have e21 := isOf hp.1
   have e23 := isOf hp.2.1
   have e25 := isOf hp.2.2.1
   simp only [e21, e23, e25] at hKO
   go_simp
   exact hKO _ W (Ext.refl W) rfl
  ·have e21 := isOf hp.1
   have e26 := isOf hp.2.1
   simp only [e21, e26] at hKO
   go_simp
   exact hKO _ W (Ext.refl W) rfl
  ·have e27 := isOf hp.1
   simp only [e27] at hKO
   go_simp
   exact hKO _ W (Ext.refl W) rfl
  ·have e27 := isOf hp.1
   simp only [e27] at hKO
   go_simp
   exact hKO _ W (Ext.refl W) rfl
  ·have e27 := isOf hp.1
   have e29 := isOf hp.2.1
   simp only [e27, e29] at hKO
   have fc1 := BxA.cell (hS.2.1) 1 (v := .int .i64 (B : Int)) rfl
   go_simp
   exact hKO _ W (Ext.refl W) rfl
  ·have e27 := isOf hp.1
   have e28 := isOf hp.2.1
   have e30 := isOf hp.2.2.1
   simp only [e27, e28, e30] at hKO
   go_simp
   exact hKO _ W (Ext.refl W) rfl
  ·have e21 := isOf hp.1
   have e27 := isOf hp.2.1
   have e31 := isOf hp.2.2.1
   simp only [e21, e27, e31] at hKO
   go_simp
   exact hKO _ W (Ext.refl W) rfl
  ·have e21 := isOf hp.1
   have e32 := isOf hp.2.1
   simp only [e21, e32] at hKO
   go_simp
   exact hKO _ W (Ext.refl W) rfl
  ·have e33 := isOf hp.1
   simp only [e33] at hKO
   go_simp
   exact hKO _ W (Ext.refl W) rfl
 intro vs W10 hS hp
 clear szw10 E0 p3 p4
 obtain ⟨E0, p3, p4, sz10⟩ := hS
 obtain ⟨h10_0, h10_1, h10_2, h10_3, h10_4, h10_5, h10_6, h10_7, h10_8, h10_9, h10_10, h10_11, h10_12, h10_13, h10_14, h10_15, h10_16, h10_17, h10_18, h10_19, h10_20, h10_21, h10_22, h10_23, h10_24, h10_25, h10_26, h10_27, h10_28, h10_29, h10_30, h10_31, h10_32, h10_33, h10_34, -⟩ := hp
 replace h10_0 : vs 0 = .bool true := h10_0
 replace h10_1 : vs 1 = .bool true := h10_1
 replace h10_2 : vs 2 = .int .i64 (n : Int) := h10_2
 replace h10_3 : vs 3 = .int .i64 (n : Int) := h10_3
 replace h10_4 : vs 4 = .bool false := h10_4
 replace h10_5 : vs 5 = .bool false := h10_5
 replace h10_6 : vs 6 = .int .i64 (B : Int) := h10_6
 replace h10_7 : vs 7 = .int .i64 (B : Int) := h10_7
 replace h10_8 : vs 8 = .bool true := h10_8
 replace h10_9 : vs 9 = .bool true := h10_9
 replace h10_10 : vs 10 = .bool true := h10_10
 replace h10_11 : vs 11 = .bool true := h10_11
 replace h10_12 : vs 12 = .int .i64 (n : Int) := h10_12
 replace h10_13 : vs 13 = .bool false := h10_13
 replace h10_14 : vs 14 = .bool false := h10_14
 replace h10_15 : vs 15 = .int .i64 (B : Int) := h10_15
 replace h10_16 : vs 16 = .pointer (some ⟨w.heap.size, 1, none⟩) := h10_16
 replace h10_17 : vs 17 = .int .i64 (B : Int) := h10_17
 replace h10_18 : vs 18 = .bool true := h10_18
 replace h10_19 : vs 19 = .bool true := h10_19
 replace h10_20 : vs 20 = .bool true := h10_20
 replace h10_21 : vs 21 = .bool true := h10_21
 replace h10_22 : vs 22 = .pointer (some ⟨w.heap.size, 2, none⟩) := h10_22
 replace h10_23 : vs 23 = .int .i64 (R : Int) := h10_23
 replace h10_24 : vs 24 = .int .i64 (K : Int) := h10_24
 replace h10_25 : vs 25 = .int .i64 (R : Int) := h10_25
 replace h10_26 : vs 26 = .bool false := h10_26
 replace h10_27 : vs 27 = .bool false := h10_27
 replace h10_28 : vs 28 = .int .i64 (B : Int) := h10_28
 replace h10_29 : vs 29 = .pointer (some ⟨w.heap.size, 1, none⟩) := h10_29
 replace h10_30 : vs 30 = .int .i64 (B : Int) := h10_30
 replace h10_31 : vs 31 = .bool true := h10_31
 replace h10_32 : vs 32 = .bool true := h10_32
 replace h10_33 : vs 33 = .bool true := h10_33
 replace h10_34 : vs 34 = .bool true := h10_34
 simp only [h10_0, h10_1, h10_2, h10_3, h10_4, h10_5, h10_6, h10_7, h10_8, h10_9, h10_10, h10_11, h10_12, h10_13, h10_14, h10_15, h10_16, h10_17, h10_18, h10_19, h10_20, h10_21, h10_22, h10_23, h10_24, h10_25, h10_26, h10_27, h10_28, h10_29, h10_30, h10_31, h10_32, h10_33, h10_34]
 clear h10_0 h10_1 h10_2 h10_3 h10_4 h10_5 h10_6 h10_7 h10_8 h10_9 h10_10 h10_11 h10_12 h10_13 h10_14 h10_15 h10_16 h10_17 h10_18 h10_19 h10_20 h10_21 h10_22 h10_23 h10_24 h10_25 h10_26 h10_27 h10_28 h10_29 h10_30 h10_31 h10_32 h10_33 h10_34
 obtain ⟨kp3_0, kp3_1, kp3_2, kp3_3, kp3_4, kp3_5, kp3_6, kp3_7⟩ := p3.cells8
 have kp4_0 := p4.cell0
 have kp4_1 := p4.cell1
 go_wp2
 go_ret
 exact ⟨rfl, E0⟩

set_option maxRecDepth 100000 in
set_option maxHeartbeats 8000000 in
theorem Try.endsDrop110 (B R Wm V T U K n : Nat) (ee ll pp : Int) (w : World) (HR0 : Hid (rightS 2 (B : Int) (R : Int) ee (Wm : Int) (V : Int) ll pp (K : Int) = true)) (hB : B < 9223372036854775808) (HTT : Hid ((1 ≤ T ∧ T ≤ 1000000) ∧ (1 ≤ U ∧ U ≤ 1000000))) (hV : 1 ≤ V) (hWm : Wm ≤ 1000000) (hT : Wm < T) (hU : Wm < U) (hn : n = (T - Wm) / V) (hm : n = (U - Wm) / V)
  (HX : Hid (rateV 2 (B : Int) (R : Int) ee (Wm : Int) (V : Int) ll pp T K = (B : Int))) (HY : Hid (rateV 2 (B : Int) (R : Int) ee (Wm : Int) (V : Int) ll pp U K = (B : Int))) (hzn : n = 0) (hrp : R ≠ 2 ^ K) :
  Calls Try.prog 12 #[.agg #[.int .i64 2, .int .i64 (B : Int), .int .i64 (R : Int), .int .i64 ee, .int .i64 (Wm : Int), .int .i64 (V : Int), .int .i64 ll, .int .i64 pp], .agg #[.int .i64 (T : Int), .int .i64 (U : Int)], .int .i64 (K : Int)] w fun e w' => e = .returned (.bool true) ∧ Ext w w' := by
 obtain ⟨P, hP⟩ : ∃ P, P = 2 ^ K := ⟨_, rfl⟩
 have hKb : K ≤ 40 := by have := rightS_iff.1 HR0.out; omega
 have hPb : P ≤ 1099511627776 := by rw [hP]; exact Nat.le_trans (Nat.pow_le_pow_right (by omega) hKb) (by decide)
 have hT2 := HTT.out
 rw [← hP] at hrp
 have hsh : IntKind.i64.wrap (2 ^ K) = (P : Int) := by rw [show ((2 : Int) ^ K) = ((2 ^ K : Nat) : Int) by simp, ← hP, IntKind.wrap_i64]; omega
 have hv0 : ((V : Int) == 0) = false := beq_eq_false_iff_ne.2 (by omega)
 have hv0a : ¬ ((V : Int) = 0) := by omega
 have hv0b : ¬ (V = 0) := by omega
 have hA1 : ¬ ((T : Int) ≤ (Wm : Int)) := by omega
 have hA1d := decide_eq_false hA1
 have hA2 : ¬ ((U : Int) ≤ (Wm : Int)) := by omega
 have hA2d := decide_eq_false hA2
 have hA3 : ¬ ((T : Int) < 1) := by omega
 have hA3d := decide_eq_false hA3
 have hA4 : ¬ ((U : Int) < 1) := by omega
 have hA4d := decide_eq_false hA4
 have hA5 : ¬ ((1000000 : Int) < (T : Int)) := by omega
 have hA5d := decide_eq_false hA5
 have hA6 : ¬ ((1000000 : Int) < (U : Int)) := by omega
 have hA6d := decide_eq_false hA6
 have hqTb : n ≤ 1000000 := by rw [hn]; exact Nat.le_trans (Nat.div_le_self _ _) (by omega)
 have hsT : IntKind.i64.wrap ((T : Int) - (Wm : Int)) = ((T - Wm : Nat) : Int) := by rw [IntKind.wrap_i64]; omega
 have hdT : (((T - Wm : Nat) : Int)).tdiv (V : Int) = (n : Int) := by rw [Int.tdiv_eq_ediv_of_nonneg (by omega), hn]; rfl
 have hdT2 : (((T - Wm : Nat) : Int)) / (V : Int) = (n : Int) := by rw [hn]; rfl
 have hdT3 : IntKind.i64.wrap ((((T - Wm : Nat) : Int)).tdiv (V : Int)) = (n : Int) := by rw [hdT, IntKind.wrap_i64]; omega
 have hdT4 : IntKind.i64.wrap (n : Int) = (n : Int) := by rw [IntKind.wrap_i64]; omega
 have hqUb : n ≤ 1000000 := by rw [hm]; exact Nat.le_trans (Nat.div_le_self _ _) (by omega)
 have hsU : IntKind.i64.wrap ((U : Int) - (Wm : Int)) = ((U - Wm : Nat) : Int) := by rw [IntKind.wrap_i64]; omega
 have hdU : (((U - Wm : Nat) : Int)).tdiv (V : Int) = (n : Int) := by rw [Int.tdiv_eq_ediv_of_nonneg (by omega), hm]; rfl
 have hdU2 : (((U - Wm : Nat) : Int)) / (V : Int) = (n : Int) := by rw [hm]; rfl
 have hdU3 : IntKind.i64.wrap ((((U - Wm : Nat) : Int)).tdiv (V : Int)) = (n : Int) := by rw [hdU, IntKind.wrap_i64]; omega
 have hdU4 : IntKind.i64.wrap (n : Int) = (n : Int) := by rw [IntKind.wrap_i64]; omega
 have g2 : ¬ (0 : Int) < (n : Int) := by omega
 have g2d := decide_eq_false g2
 have g2n : ¬ 0 < n := by omega
 have g2nd := decide_eq_false g2n
 have g3 : ((R : Int) != (P : Int)) = true := by simp; omega
 have g3b : ((R : Int) == (P : Int)) = false := beq_eq_false_iff_ne.2 (by omega)
 have g3c : (R != P) = true := by simp; omega
 have g3d : (R == P) = false := beq_eq_false_iff_ne.2 (by omega)
 have g3e : ¬ (R = P) := by omega
 have g3f := decide_eq_false g3e
 have HBB : Hid (B < 9223372036854775808) := Lib.hid hB
 clear hB hP hPb hT2 hn hm hV hWm hT hU hzn hqTb hqUb hrp
 obtain ⟨W0, hW0⟩ : ∃ W0, W0 = ((w.alloc (.cells #[.int .i64 2, .int .i64 (B : Int), .int .i64 (R : Int), .int .i64 ee, .int .i64 (Wm : Int), .int .i64 (V : Int), .int .i64 ll, .int .i64 pp] 64)).alloc (.cells #[.int .i64 (T : Int), .int .i64 (U : Int)] 65)) := ⟨_, rfl⟩
 have E0 : Ext w W0 := by rw [hW0]; exact ((Ext.alloc1 w (.cells #[.int .i64 2, .int .i64 (B : Int), .int .i64 (R : Int), .int .i64 ee, .int .i64 (Wm : Int), .int .i64 (V : Int), .int .i64 ll, .int .i64 pp] 64)).alloc (.cells #[.int .i64 (T : Int), .int .i64 (U : Int)] 65))
 have p3 : BxA W0 w.heap.size 64 #[.int .i64 2, .int .i64 (B : Int), .int .i64 (R : Int), .int .i64 ee, .int .i64 (Wm : Int), .int .i64 (V : Int), .int .i64 ll, .int .i64 pp] := by rw [hW0]; exact (BxA.new w 64 #[.int .i64 2, .int .i64 (B : Int), .int .i64 (R : Int), .int .i64 ee, .int .i64 (Wm : Int), .int .i64 (V : Int), .int .i64 ll, .int .i64 pp]).ext (Ext.alloc1 (w.alloc (.cells #[.int .i64 2, .int .i64 (B : Int), .int .i64 (R : Int), .int .i64 ee, .int .i64 (Wm : Int), .int .i64 (V : Int), .int .i64 ll, .int .i64 pp] 64)) (.cells #[.int .i64 (T : Int), .int .i64 (U : Int)] 65))
 have p4 : Bx2 W0 (w.heap.size + 1) 65 (.int .i64 (T : Int)) (.int .i64 (U : Int)) := by rw [hW0]; simpa using (Bx2.new (w.alloc (.cells #[.int .i64 2, .int .i64 (B : Int), .int .i64 (R : Int), .int .i64 ee, .int .i64 (Wm : Int), .int .i64 (V : Int), .int .i64 ll, .int .i64 pp] 64)) 65 (.int .i64 (T : Int)) (.int .i64 (U : Int)))
 go_enter Try.func12, Try.ntmps12
 obtain ⟨kp3_0, kp3_1, kp3_2, kp3_3, kp3_4, kp3_5, kp3_6, kp3_7⟩ := p3.cells8
 have kp4_0 := p4.cell0
 have kp4_1 := p4.cell1
 go_wp2_with fail
 rw [← hW0]
 clear hW0
 clear kp3_0 kp3_1 kp3_2 kp3_3 kp3_4 kp3_5 kp3_6 kp3_7 kp4_0 kp4_1
 refine (Try.refRight15 2 (B : Int) (R : Int) ee (Wm : Int) (V : Int) ll pp (K : Int) _).mono ?_
 rintro e V62 ⟨rfl, hE⟩
 rw [HR0.out]
 replace E0 := (Ext.trans E0 hE)
 replace p3 := (p3.ext hE)
 replace p4 := (p4.ext hE)
 clear hE
 obtain ⟨kp3_0, kp3_1, kp3_2, kp3_3, kp3_4, kp3_5, kp3_6, kp3_7⟩ := p3.cells8
 have kp4_0 := p4.cell0
 have kp4_1 := p4.cell1
 go_wp2_with fail
 clear kp3_0 kp3_1 kp3_2 kp3_3 kp3_4 kp3_5 kp3_6 kp3_7 kp4_0 kp4_1
 refine (Try.schedRate 2 (B : Int) (R : Int) ee (Wm : Int) (V : Int) ll pp T K _ HR0.out (by have := HBB.out; omega) HTT.out.1.1 HTT.out.1.2 HX.out).mono ?_
 rintro e V63 ⟨rfl, hE⟩
 replace E0 := (Ext.trans E0 hE)
 replace p3 := (p3.ext hE)
 replace p4 := (p4.ext hE)
 clear hE
 obtain ⟨kp3_0, kp3_1, kp3_2, kp3_3, kp3_4, kp3_5, kp3_6, kp3_7⟩ := p3.cells8
 have kp4_0 := p4.cell0
 have kp4_1 := p4.cell1
 go_wp2_with fail
 clear kp3_0 kp3_1 kp3_2 kp3_3 kp3_4 kp3_5 kp3_6 kp3_7 kp4_0 kp4_1
 refine (Try.schedRate 2 (B : Int) (R : Int) ee (Wm : Int) (V : Int) ll pp U K _ HR0.out (by have := HBB.out; omega) HTT.out.2.1 HTT.out.2.2 HY.out).mono ?_
 rintro e V64 ⟨rfl, hE⟩
 replace E0 := (Ext.trans E0 hE)
 replace p3 := (p3.ext hE)
 replace p4 := (p4.ext hE)
 clear hE
 obtain ⟨kp3_0, kp3_1, kp3_2, kp3_3, kp3_4, kp3_5, kp3_6, kp3_7⟩ := p3.cells8
 have kp4_0 := p4.cell0
 have kp4_1 := p4.cell1
 go_upto_region 11 with (fail)
 clear kp3_0 kp3_1 kp3_2 kp3_3 kp3_4 kp3_5 kp3_6 kp3_7 kp4_0 kp4_1
 try clear hA1d
 try clear hA1
 try clear hA2d
 try clear hA2
 try clear hA3d
 try clear hA3
 try clear hA4d
 try clear hA4
 try clear hA5d
 try clear hA5
 try clear hA6d
 try clear hA6
 have ltp3 := p3.lt
 have ltp4 := p4.lt
 have szw11 := Ext.size E0
 refine region_go [.one fun v _ => v = .pointer (some ⟨w.heap.size + 1, 0, none⟩),
   .one fun v _ => v = .int .i64 (T : Int),
   .one fun v _ => v = .pointer (some ⟨w.heap.size, 4, none⟩),
   .one fun v _ => v = .int .i64 (Wm : Int),
   .one fun v _ => v = .int .i64 ((T - Wm : Nat) : Int),
   .one fun v _ => v = .pointer (some ⟨w.heap.size, 5, none⟩),
   .one fun v _ => v = .int .i64 (V : Int),
   .one fun v _ => v = .int .i64 (n : Int),
   .one fun v _ => v = .pointer (some ⟨w.heap.size + 1, 1, none⟩),
   .one fun v _ => v = .int .i64 (U : Int),
   .one fun v _ => v = .pointer (some ⟨w.heap.size, 4, none⟩),
   .one fun v _ => v = .int .i64 (Wm : Int),
   .one fun v _ => v = .int .i64 ((U - Wm : Nat) : Int),
   .one fun v _ => v = .pointer (some ⟨w.heap.size, 5, none⟩),
   .one fun v _ => v = .int .i64 (V : Int),
   .one fun v _ => v = .int .i64 (n : Int),
   .one fun v _ => v = .int .i64 (n : Int),
   .one fun v _ => v = .int .i64 (n : Int)]
  (fun W => Ext w W ∧ BxA W w.heap.size 64 #[.int .i64 2, .int .i64 (B : Int), .int .i64 (R : Int), .int .i64 ee, .int .i64 (Wm : Int), .int .i64 (V : Int), .int .i64 ll, .int .i64 pp] ∧ Bx2 W (w.heap.size + 1) 65 (.int .i64 (T : Int)) (.int .i64 (U : Int)) ∧ V64.heap.size ≤ W.heap.size) ⟨Good.is _, Good.is _, Good.is _, Good.is _, Good.is _, Good.is _, Good.is _, Good.is _, Good.is _, Good.is _, Good.is _, Good.is _, Good.is _, Good.is _, Good.is _, Good.is _, Good.is _, Good.is _, trivial⟩
  (fun W W1 hS hE => ⟨(Ext.trans hS.1 hE), (hS.2.1.ext hE), (hS.2.2.1.ext hE), (Nat.le_trans hS.2.2.2 (Ext.size hE))⟩) ⟨E0, p3, p4, Nat.le_refl _⟩ (by kernel_rfl) (by kernel_rfl) (by kernel_rfl) (by kernel_rfl) (A := ?A11) ?hA11 ?howe11 ?hfin11
 case hA11 =>
  intro vs
  simp only [putAll, Act.put, List.setIfInBounds_toArray, List.set_cons_zero, List.set_cons_succ, Nat.zero_add, Nat.reduceAdd]
  exact rfl
 case howe11 =>
  clear E0 p3 p4
  intro hf
  refine ⟨owesE 0 [] hf rfl (by kernel_rfl) ?_, owesE 1 [0] hf rfl (by kernel_rfl) ?_, owesE 2 [] hf rfl (by kernel_rfl) ?_, owesE 3 [2] hf rfl (by kernel_rfl) ?_, owesE 4 [1, 3] hf rfl (by kernel_rfl) ?_, owesE 5 [] hf rfl (by kernel_rfl) ?_, owesE 6 [5] hf rfl (by kernel_rfl) ?_, owesE 7 [4, 6] hf rfl (by kernel_rfl) ?_, owesE 8 [] hf rfl (by kernel_rfl) ?_, owesE 9 [8] hf rfl (by kernel_rfl) ?_, owesE 10 [] hf rfl (by kernel_rfl) ?_, owesE 11 [10] hf rfl (by kernel_rfl) ?_, owesE 12 [9, 11] hf rfl (by kernel_rfl) ?_, owesE 13 [] hf rfl (by kernel_rfl) ?_, owesE 14 [13] hf rfl (by kernel_rfl) ?_, owesE 15 [12, 14] hf rfl (by kernel_rfl) ?_, owesE 16 [7] hf rfl (by kernel_rfl) ?_, owesE 17 [15] hf rfl (by kernel_rfl) ?_, trivial⟩
  all_goals intro vs W hS hp hx KO hKO
  all_goals simp only [Act.put, List.setIfInBounds_toArray, List.set_cons_zero, List.set_cons_succ] at hKO
  ·go_simp
   exact hKO _ W (Ext.refl W) rfl
  ·have e0 := isOf hp.1
   simp only [e0] at hKO
   have fc0 := hS.2.2.1.cell0
   go_simp
   exact hKO _ W (Ext.refl W) rfl
  ·go_simp
   exact hKO _ W (Ext.refl W) rfl
  ·have e2 := isOf hp.1
   simp only [e2] at hKO
   have fc4 := BxA.cell (hS.2.1) 4 (v := .int .i64 (Wm : Int)) rfl
   go_simp
   exact hKO _ W (Ext.refl W) rfl
  ·have e1 := isOf hp.1
   have e3 := isOf hp.2.1
   simp only [e1, e3] at hKO
   go_simp
   exact hKO _ W (Ext.refl W) rfl
  ·go_simp
   exact hKO _ W (Ext.refl W) rfl
  ·have e5 := isOf hp.1
   simp only [e5] at hKO
   have fc5 := BxA.cell (hS.2.1) 5 (v := .int .i64 (V : Int)) rfl
   go_simp
   exact hKO _ W (Ext.refl W) rfl
  ·have e4 := isOf hp.1
   have e6 := isOf hp.2.1
   simp only [e4, e6] at hKO
   go_simp
   exact hKO _ W (Ext.refl W) rfl
  ·go_simp
   exact hKO _ W (Ext.refl W) rfl
  ·have e8 := isOf hp.1
   simp only [e8] at hKO
   have fc1 := hS.2.2.1.cell1
   go_simp
   exact hKO _ W (Ext.refl W) rfl
  ·go_simp
   exact hKO _ W (Ext.refl W) rfl
  ·have e10 := isOf hp.1
   simp only [e10] at hKO
   have fc4 := BxA.cell (hS.2.1) 4 (v := .int .i64 (Wm : Int)) rfl
   go_simp
   exact hKO _ W (Ext.refl W) rfl
  ·have e9 := isOf hp.1
   have e11 := isOf hp.2.1
   simp only [e9, e11] at hKO
   go_simp
   exact hKO _ W (Ext.refl W) rfl
  ·go_simp
   exact hKO _ W (Ext.refl W) rfl
  ·have e13 := isOf hp.1
   simp only [e13] at hKO
   have fc5 := BxA.cell (hS.2.1) 5 (v := .int .i64 (V : Int)) rfl
   go_simp
   exact hKO _ W (Ext.refl W) rfl
  ·have e12 := isOf hp.1
   have e14 := isOf hp.2.1
   simp only [e12, e14] at hKO
   go_simp
   exact hKO _ W (Ext.refl W) rfl
  ·have e7 := isOf hp.1
   simp only [e7] at hKO
   go_simp
   exact hKO _ W (Ext.refl W) rfl
  ·have e15 := isOf hp.1
   simp only [e15] at hKO
   go_simp
   exact hKO _ W (Ext.refl W) rfl
 intro vs W11 hS hp
 clear szw11 E0 p3 p4
 obtain ⟨E0, p3, p4, sz11⟩ := hS
 obtain ⟨h11_0, h11_1, h11_2, h11_3, h11_4, h11_5, h11_6, h11_7, h11_8, h11_9, h11_10, h11_11, h11_12, h11_13, h11_14, h11_15, h11_16, h11_17, -⟩ := hp
 replace h11_0 : vs 0 = .pointer (some ⟨w.heap.size + 1, 0, none⟩) := h11_0
 replace h11_1 : vs 1 = .int .i64 (T : Int) := h11_1
 replace h11_2 : vs 2 = .pointer (some ⟨w.heap.size, 4, none⟩) := h11_2
 replace h11_3 : vs 3 = .int .i64 (Wm : Int) := h11_3
 replace h11_4 : vs 4 = .int .i64 ((T - Wm : Nat) : Int) := h11_4
 replace h11_5 : vs 5 = .pointer (some ⟨w.heap.size, 5, none⟩) := h11_5
 replace h11_6 : vs 6 = .int .i64 (V : Int) := h11_6
 replace h11_7 : vs 7 = .int .i64 (n : Int) := h11_7
 replace h11_8 : vs 8 = .pointer (some ⟨w.heap.size + 1, 1, none⟩) := h11_8
 replace h11_9 : vs 9 = .int .i64 (U : Int) := h11_9
 replace h11_10 : vs 10 = .pointer (some ⟨w.heap.size, 4, none⟩) := h11_10
 replace h11_11 : vs 11 = .int .i64 (Wm : Int) := h11_11
 replace h11_12 : vs 12 = .int .i64 ((U - Wm : Nat) : Int) := h11_12
 replace h11_13 : vs 13 = .pointer (some ⟨w.heap.size, 5, none⟩) := h11_13
 replace h11_14 : vs 14 = .int .i64 (V : Int) := h11_14
 replace h11_15 : vs 15 = .int .i64 (n : Int) := h11_15
 replace h11_16 : vs 16 = .int .i64 (n : Int) := h11_16
 replace h11_17 : vs 17 = .int .i64 (n : Int) := h11_17
 simp only [h11_0, h11_1, h11_2, h11_3, h11_4, h11_5, h11_6, h11_7, h11_8, h11_9, h11_10, h11_11, h11_12, h11_13, h11_14, h11_15, h11_16, h11_17]
 clear h11_0 h11_1 h11_2 h11_3 h11_4 h11_5 h11_6 h11_7 h11_8 h11_9 h11_10 h11_11 h11_12 h11_13 h11_14 h11_15 h11_16 h11_17
 obtain ⟨kp3_0, kp3_1, kp3_2, kp3_3, kp3_4, kp3_5, kp3_6, kp3_7⟩ := p3.cells8
 have kp4_0 := p4.cell0
 have kp4_1 := p4.cell1
 go_upto_region 12 with (fail)
 clear kp3_0 kp3_1 kp3_2 kp3_3 kp3_4 kp3_5 kp3_6 kp3_7 kp4_0 kp4_1
 try clear hsT
 try clear hsU
 try clear hdT
 try clear hdT2
 try clear hdT3
 try clear hdT4
 try clear hdU
 try clear hdU2
 try clear hdU3
 try clear hdU4
 try clear hv0
 try clear hv0a
 try clear hv0b
 have szw12 := Ext.size E0
 refine region_go [.one fun v _ => v = .bool true,
   .one fun v _ => v = .bool true,
   .one fun v _ => v = .int .i64 (n : Int),
   .one fun v _ => v = .int .i64 (n : Int),
   .one fun v _ => v = .bool false,
   .one fun v _ => v = .bool false,
   .one fun v _ => v = .int .i64 (B : Int),
   .one fun v _ => v = .int .i64 (B : Int),
   .one fun v _ => v = .bool true,
   .one fun v _ => v = .bool true,
   .one fun v _ => v = .bool true,
   .one fun v _ => v = .bool true,
   .one fun v _ => v = .int .i64 (n : Int),
   .one fun v _ => v = .bool false,
   .one fun v _ => v = .bool false,
   .one fun v _ => v = .int .i64 (B : Int),
   .one fun v _ => v = .pointer (some ⟨w.heap.size, 1, none⟩),
   .one fun v _ => v = .int .i64 (B : Int),
   .one fun v _ => v = .bool true,
   .one fun v _ => v = .bool true,
   .one fun v _ => v = .bool true,
   .one fun v _ => v = .bool true,
   .one fun v _ => v = .pointer (some ⟨w.heap.size, 2, none⟩),
   .one fun v _ => v = .int .i64 (R : Int),
   .one fun v _ => v = .int .i64 (K : Int),
   .one fun v _ => v = .int .i64 (P : Int),
   .one fun v _ => v = .bool true,
   .one fun v _ => v = .bool true,
   .one fun v _ => v = undef,
   .one fun v _ => v = undef,
   .one fun v _ => v = undef,
   .one fun v _ => v = undef,
   .one fun v _ => v = .bool true,
   .one fun v _ => v = .bool true,
   .one fun v _ => v = .bool true]
  (fun W => Ext w W ∧ BxA W w.heap.size 64 #[.int .i64 2, .int .i64 (B : Int), .int .i64 (R : Int), .int .i64 ee, .int .i64 (Wm : Int), .int .i64 (V : Int), .int .i64 ll, .int .i64 pp] ∧ Bx2 W (w.heap.size + 1) 65 (.int .i64 (T : Int)) (.int .i64 (U : Int)) ∧ W11.heap.size ≤ W.heap.size) ⟨Good.is _, Good.is _, Good.is _, Good.is _, Good.is _, Good.is _, Good.is _, Good.is _, Good.is _, Good.is _, Good.is _, Good.is _, Good.is _, Good.is _, Good.is _, Good.is _, Good.is _, Good.is _, Good.is _, Good.is _, Good.is _, Good.is _, Good.is _, Good.is _, Good.is _, Good.is _, Good.is _, Good.is _, Good.is _, Good.is _, Good.is _, Good.is _, Good.is _, Good.is _, Good.is _, trivial⟩
  (fun W W1 hS hE => ⟨(Ext.trans hS.1 hE), (hS.2.1.ext hE), (hS.2.2.1.ext hE), (Nat.le_trans hS.2.2.2 (Ext.size hE))⟩) ⟨E0, p3, p4, Nat.le_refl _⟩ (by kernel_rfl) (by kernel_rfl) (by kernel_rfl) (by kernel_rfl) (A := ?A12) ?hA12 ?howe12 ?hfin12
 case hA12 =>
  intro vs
  simp only [putAll, Act.put, List.setIfInBounds_toArray, List.set_cons_zero, List.set_cons_succ, Nat.zero_add, Nat.reduceAdd]
  exact rfl
 case howe12 =>
  clear E0 p3 p4
  intro hf
  refine ⟨owesE 0 [] hf rfl (by kernel_rfl) ?_, owesE 1 [0] hf rfl (by kernel_rfl) ?_, owesE 2 [1] hf rfl (by kernel_rfl) ?_, owesE 3 [1] hf rfl (by kernel_rfl) ?_, owesE 4 [1, 2, 3] hf rfl (by kernel_rfl) ?_, owesE 5 [1, 4] hf rfl (by kernel_rfl) ?_, owesE 6 [5] hf rfl (by kernel_rfl) ?_, owesE 7 [5] hf rfl (by kernel_rfl) ?_, owesE 8 [5, 6, 7] hf rfl (by kernel_rfl) ?_, owesE 9 [1, 5, 8] hf rfl (by kernel_rfl) ?_, owesE 10 [1, 9] hf rfl (by kernel_rfl) ?_, owesE 11 [10] hf rfl (by kernel_rfl) ?_, owesE 12 [11] hf rfl (by kernel_rfl) ?_, owesE 13 [11, 12] hf rfl (by kernel_rfl) ?_, owesE 14 [11, 13] hf rfl (by kernel_rfl) ?_, owesE 15 [14] hf rfl (by kernel_rfl) ?_, owesE 16 [14] hf rfl (by kernel_rfl) ?_, owesE 17 [14, 16] hf rfl (by kernel_rfl) ?_, owesE 18 [14, 15, 17] hf rfl (by kernel_rfl) ?_, owesE 19 [11, 14, 18] hf rfl (by kernel_rfl) ?_, owesE 20 [11, 19] hf rfl (by kernel_rfl) ?_, owesE 21 [20] hf rfl (by kernel_rfl) ?_, owesE 22 [21] hf rfl (by kernel_rfl) ?_, owesE 23 [21, 22] hf rfl (by kernel_rfl) ?_, owesE 24 [21] hf rfl (by kernel_rfl) ?_, owesE 25 [21, 24] hf rfl (by kernel_rfl) ?_, owesE 26 [21, 23, 25] hf rfl (by kernel_rfl) ?_, owesE 27 [21, 26] hf rfl (by kernel_rfl) ?_, owesE 28 [27] hf rfl (by kernel_rfl) ?_, owesE 29 [27] hf rfl (by kernel_rfl) ?_, owesE 30 [27] hf rfl (by kernel_rfl) ?_, owesE 31 [27] hf rfl (by kernel_rfl) ?_, owesE 32 [21, 27, 31] hf rfl (by kernel_rfl) ?_, owesE 33 [21, 32] hf rfl (by kernel_rfl) ?_, owesE 34 [33] hf rfl (by kernel_rfl) ?_, trivial⟩
  all_goals intro vs W hS hp hx KO hKO
  all_goals simp only [Act.put, List.setIfInBounds_toArray, List.set_cons_zero, List.set_cons_succ] at hKO
  ·go_simp
   refine (Try.alive15 _).mono ?_
   rintro e W1 ⟨rfl, hE⟩
   exact hKO _ W1 hE rfl
  ·have e0 := isOf hp.1
   simp only [e0] at hKO
   go_simp
   exact hKO _ W (Ext.refl W) rfl
  ·have e1 := isOf hp.1
   simp only [e1] at hKO
   go_simp
   exact hKO _ W (Ext.refl W) rfl
  ·have e1 := isOf hp.1
   simp only [e1] at hKO
   go_simp
   exact hKO _ W (Ext.refl W) rfl
  ·have e1 := isOf hp.1
   have e2 := isOf hp.2.1
   have e3 := isOf hp.2.2.1
   simp only [e1, e2, e3] at hKO
   go_simp
   exact hKO _ W (Ext.refl W) rfl
  ·have e1 := isOf hp.1
   have e4 := isOf hp.2.1
   simp only [e1, e4] at hKO
   go_simp
   exact hKO _ W (Ext.refl W) rfl
  ·have e5 := isOf hp.1
   simp only [e5] at hKO
   go_simp
   exact hKO _ W (Ext.refl W) rfl
  ·have e5 := isOf hp.1
   simp only [e5] at hKO
   go_simp
   exact hKO _ W (Ext.refl W) rfl
  ·have e5 := isOf hp.1
   have e6 := isOf hp.2.1
   have e7 := isOf hp.2.2.1
   simp only [e5, e6, e7] at hKO
   go_simp
   exact hKO _ W (Ext.refl W) rfl
  ·have e1 := isOf hp.1
   have e5 := isOf hp.2.1
   have e8 := isOf hp.2.2.1
   simp only [e1, e5, e8] at hKO
   go_simp
   exact hKO _ W (Ext.refl W) rfl
  ·have e1 := isOf hp.1
   have e9 := isOf hp.2.1
   simp only [e1, e9] at hKO
   go_simp
   exact hKO _ W (Ext.refl W) rfl
  ·have e10 := isOf hp.1
   simp only [e10] at hKO
   go_simp
   exact hKO _ W (Ext.refl W) rfl
  ·have e11 := isOf hp.1
   simp only [e11] at hKO
   go_simp
   exact hKO _ W (Ext.refl W) rfl
  ·have e11 := isOf hp.1
   have e12 := isOf hp.2.1
   simp only [e11, e12] at hKO
   go_simp
   exact hKO _ W (Ext.refl W) rfl
  ·have e11 := isOf hp.1
   have e13 := isOf hp.2.1
   simp only [e11, e13] at hKO
   go_simp
   exact hKO _ W (Ext.refl W) rfl
  ·have e14 := isOf hp.1
   simp only [e14] at hKO
   go_simp
   exact hKO _ W (Ext.refl W) rfl
  ·have e14 := isOf hp.1
   simp only [e14] at hKO
   go_simp
   exact hKO _ W (Ext.refl W) rfl
  ·have e14 := isOf hp.1
   have e16 := isOf hp.2.1
   simp only [e14, e16] at hKO
   have fc1 := BxA.cell (hS.2.1) 1 (v := .int .i64 (B : Int)) rfl
   go_simp
   exact hKO _ W (Ext.refl W) rfl
  ·have e14 := isOf hp.1
   have e15 := isOf hp.2.1
   have e17 := isOf hp.2.2.1
   simp only [e14, e15, e17] at hKO
   go_simp
   exact hKO _ W (Ext.refl W) rfl
  ·have e11 := isOf hp.1
   have e14 := isOf hp.2.1
   have e18 := isOf hp.2.2.1
   simp only [e11, e14, e18] at hKO
   go_simp
   exact hKO _ W (Ext.refl W) rfl
  ·have e11 := isOf hp.1
   have e19 := isOf hp.2.1
   simp only [e11, e19] at hKO
   go_simp
   exact hKO _ W (Ext.refl W) rfl
  ·have e20 := isOf hp.1
   simp only [e20] at hKO
   go_simp
   exact hKO _ W (Ext.refl W) rfl
  ·have e21 := isOf hp.1
   simp only [e21] at hKO
   go_simp
   exact hKO _ W (Ext.refl W) rfl
  ·have e21 := isOf hp.1
   have e22 := isOf hp.2.1
   simp only [e21, e22] at hKO
   have fc2 := BxA.cell (hS.2.1) 2 (v := .int .i64 (R : Int)) rfl
   go_simp
   exact hKO _ W (Ext.refl W) rfl
  ·have e21 := isOf hp.1
   simp only [e21] at hKO
   go_simp
   exact hKO _ W (Ext.refl W) rfl
  ·have e21 := isOf hp.1
   have e24 := isOf hp.2.1
   simp only [e21, e24] at hKO
   go_simp
   exact hKO _ W (Ext.refl W) rfl
  ·have e21 := isOf hp.1
   have e23 := isOf hp.2.1
   have e25 := isOf hp.2.2.1
   simp only [e21, e23, e25] at hKO
   go_simp
   exact hKO _ W (Ext.refl W) rfl
  ·have e21 := isOf hp.1
   have e26 := isOf hp.2.1
   simp only [e21, e26] at hKO
   go_simp
   exact hKO _ W (Ext.refl W) rfl
  ·have e27 := isOf hp.1
   simp only [e27] at hKO
   go_simp
   exact hKO _ W (Ext.refl W) rfl
  ·have e27 := isOf hp.1
   simp only [e27] at hKO
   go_simp
   exact hKO _ W (Ext.refl W) rfl
  ·have e27 := isOf hp.1
   simp only [e27] at hKO
   go_simp
   exact hKO _ W (Ext.refl W) rfl
  ·have e27 := isOf hp.1
   simp only [e27] at hKO
   go_simp
   exact hKO _ W (Ext.refl W) rfl
  ·have e21 := isOf hp.1
   have e27 := isOf hp.2.1
   have e31 := isOf hp.2.2.1
   simp only [e21, e27, e31] at hKO
   go_simp
   exact hKO _ W (Ext.refl W) rfl
  ·have e21 := isOf hp.1
   have e32 := isOf hp.2.1
   simp only [e21, e32] at hKO
   go_simp
   exact hKO _ W (Ext.refl W) rfl
  ·have e33 := isOf hp.1
   simp only [e33] at hKO
   go_simp
   exact hKO _ W (Ext.refl W) rfl
 intro vs W12 hS hp
 clear szw12 E0 p3 p4
 obtain ⟨E0, p3, p4, sz12⟩ := hS
 obtain ⟨h12_0, h12_1, h12_2, h12_3, h12_4, h12_5, h12_6, h12_7, h12_8, h12_9, h12_10, h12_11, h12_12, h12_13, h12_14, h12_15, h12_16, h12_17, h12_18, h12_19, h12_20, h12_21, h12_22, h12_23, h12_24, h12_25, h12_26, h12_27, h12_28, h12_29, h12_30, h12_31, h12_32, h12_33, h12_34, -⟩ := hp
 replace h12_0 : vs 0 = .bool true := h12_0
 replace h12_1 : vs 1 = .bool true := h12_1
 replace h12_2 : vs 2 = .int .i64 (n : Int) := h12_2
 replace h12_3 : vs 3 = .int .i64 (n : Int) := h12_3
 replace h12_4 : vs 4 = .bool false := h12_4
 replace h12_5 : vs 5 = .bool false := h12_5
 replace h12_6 : vs 6 = .int .i64 (B : Int) := h12_6
 replace h12_7 : vs 7 = .int .i64 (B : Int) := h12_7
 replace h12_8 : vs 8 = .bool true := h12_8
 replace h12_9 : vs 9 = .bool true := h12_9
 replace h12_10 : vs 10 = .bool true := h12_10
 replace h12_11 : vs 11 = .bool true := h12_11
 replace h12_12 : vs 12 = .int .i64 (n : Int) := h12_12
 replace h12_13 : vs 13 = .bool false := h12_13
 replace h12_14 : vs 14 = .bool false := h12_14
 replace h12_15 : vs 15 = .int .i64 (B : Int) := h12_15
 replace h12_16 : vs 16 = .pointer (some ⟨w.heap.size, 1, none⟩) := h12_16
 replace h12_17 : vs 17 = .int .i64 (B : Int) := h12_17
 replace h12_18 : vs 18 = .bool true := h12_18
 replace h12_19 : vs 19 = .bool true := h12_19
 replace h12_20 : vs 20 = .bool true := h12_20
 replace h12_21 : vs 21 = .bool true := h12_21
 replace h12_22 : vs 22 = .pointer (some ⟨w.heap.size, 2, none⟩) := h12_22
 replace h12_23 : vs 23 = .int .i64 (R : Int) := h12_23
 replace h12_24 : vs 24 = .int .i64 (K : Int) := h12_24
 replace h12_25 : vs 25 = .int .i64 (P : Int) := h12_25
 replace h12_26 : vs 26 = .bool true := h12_26
 replace h12_27 : vs 27 = .bool true := h12_27
 replace h12_28 : vs 28 = undef := h12_28
 replace h12_29 : vs 29 = undef := h12_29
 replace h12_30 : vs 30 = undef := h12_30
 replace h12_31 : vs 31 = undef := h12_31
 replace h12_32 : vs 32 = .bool true := h12_32
 replace h12_33 : vs 33 = .bool true := h12_33
 replace h12_34 : vs 34 = .bool true := h12_34
 simp only [h12_0, h12_1, h12_2, h12_3, h12_4, h12_5, h12_6, h12_7, h12_8, h12_9, h12_10, h12_11, h12_12, h12_13, h12_14, h12_15, h12_16, h12_17, h12_18, h12_19, h12_20, h12_21, h12_22, h12_23, h12_24, h12_25, h12_26, h12_27, h12_28, h12_29, h12_30, h12_31, h12_32, h12_33, h12_34]
 clear h12_0 h12_1 h12_2 h12_3 h12_4 h12_5 h12_6 h12_7 h12_8 h12_9 h12_10 h12_11 h12_12 h12_13 h12_14 h12_15 h12_16 h12_17 h12_18 h12_19 h12_20 h12_21 h12_22 h12_23 h12_24 h12_25 h12_26 h12_27 h12_28 h12_29 h12_30 h12_31 h12_32 h12_33 h12_34
 obtain ⟨kp3_0, kp3_1, kp3_2, kp3_3, kp3_4, kp3_5, kp3_6, kp3_7⟩ := p3.cells8
 have kp4_0 := p4.cell0
 have kp4_1 := p4.cell1
 go_wp2
 go_ret
 exact ⟨rfl, E0⟩

set_option maxRecDepth 100000 in
set_option maxHeartbeats 8000000 in
theorem Try.endsDrop101 (B R Wm V T U K n : Nat) (ee ll pp : Int) (w : World) (HR0 : Hid (rightS 2 (B : Int) (R : Int) ee (Wm : Int) (V : Int) ll pp (K : Int) = true)) (hB : B < 9223372036854775808) (HTT : Hid ((1 ≤ T ∧ T ≤ 1000000) ∧ (1 ≤ U ∧ U ≤ 1000000))) (hV : 1 ≤ V) (hWm : Wm ≤ 1000000) (hT : Wm < T) (hU : Wm < U) (hn : n = (T - Wm) / V) (hm : n = (U - Wm) / V)
  (HX : Hid (rateV 2 (B : Int) (R : Int) ee (Wm : Int) (V : Int) ll pp T K = (B : Int))) (HY : Hid (rateV 2 (B : Int) (R : Int) ee (Wm : Int) (V : Int) ll pp U K = (B : Int))) (hzn : n ≠ 0) (hrp : R = 2 ^ K) :
  Calls Try.prog 12 #[.agg #[.int .i64 2, .int .i64 (B : Int), .int .i64 (R : Int), .int .i64 ee, .int .i64 (Wm : Int), .int .i64 (V : Int), .int .i64 ll, .int .i64 pp], .agg #[.int .i64 (T : Int), .int .i64 (U : Int)], .int .i64 (K : Int)] w fun e w' => e = .returned (.bool true) ∧ Ext w w' := by
 obtain ⟨P, hP⟩ : ∃ P, P = 2 ^ K := ⟨_, rfl⟩
 have hKb : K ≤ 40 := by have := rightS_iff.1 HR0.out; omega
 have hPb : P ≤ 1099511627776 := by rw [hP]; exact Nat.le_trans (Nat.pow_le_pow_right (by omega) hKb) (by decide)
 have hT2 := HTT.out
 rw [← hP] at hrp
 have hsh : IntKind.i64.wrap (2 ^ K) = (P : Int) := by rw [show ((2 : Int) ^ K) = ((2 ^ K : Nat) : Int) by simp, ← hP, IntKind.wrap_i64]; omega
 have hv0 : ((V : Int) == 0) = false := beq_eq_false_iff_ne.2 (by omega)
 have hv0a : ¬ ((V : Int) = 0) := by omega
 have hv0b : ¬ (V = 0) := by omega
 have hA1 : ¬ ((T : Int) ≤ (Wm : Int)) := by omega
 have hA1d := decide_eq_false hA1
 have hA2 : ¬ ((U : Int) ≤ (Wm : Int)) := by omega
 have hA2d := decide_eq_false hA2
 have hA3 : ¬ ((T : Int) < 1) := by omega
 have hA3d := decide_eq_false hA3
 have hA4 : ¬ ((U : Int) < 1) := by omega
 have hA4d := decide_eq_false hA4
 have hA5 : ¬ ((1000000 : Int) < (T : Int)) := by omega
 have hA5d := decide_eq_false hA5
 have hA6 : ¬ ((1000000 : Int) < (U : Int)) := by omega
 have hA6d := decide_eq_false hA6
 have hqTb : n ≤ 1000000 := by rw [hn]; exact Nat.le_trans (Nat.div_le_self _ _) (by omega)
 have hsT : IntKind.i64.wrap ((T : Int) - (Wm : Int)) = ((T - Wm : Nat) : Int) := by rw [IntKind.wrap_i64]; omega
 have hdT : (((T - Wm : Nat) : Int)).tdiv (V : Int) = (n : Int) := by rw [Int.tdiv_eq_ediv_of_nonneg (by omega), hn]; rfl
 have hdT2 : (((T - Wm : Nat) : Int)) / (V : Int) = (n : Int) := by rw [hn]; rfl
 have hdT3 : IntKind.i64.wrap ((((T - Wm : Nat) : Int)).tdiv (V : Int)) = (n : Int) := by rw [hdT, IntKind.wrap_i64]; omega
 have hdT4 : IntKind.i64.wrap (n : Int) = (n : Int) := by rw [IntKind.wrap_i64]; omega
 have hqUb : n ≤ 1000000 := by rw [hm]; exact Nat.le_trans (Nat.div_le_self _ _) (by omega)
 have hsU : IntKind.i64.wrap ((U : Int) - (Wm : Int)) = ((U - Wm : Nat) : Int) := by rw [IntKind.wrap_i64]; omega
 have hdU : (((U - Wm : Nat) : Int)).tdiv (V : Int) = (n : Int) := by rw [Int.tdiv_eq_ediv_of_nonneg (by omega), hm]; rfl
 have hdU2 : (((U - Wm : Nat) : Int)) / (V : Int) = (n : Int) := by rw [hm]; rfl
 have hdU3 : IntKind.i64.wrap ((((U - Wm : Nat) : Int)).tdiv (V : Int)) = (n : Int) := by rw [hdU, IntKind.wrap_i64]; omega
 have hdU4 : IntKind.i64.wrap (n : Int) = (n : Int) := by rw [IntKind.wrap_i64]; omega
 have g2 : (0 : Int) < (n : Int) := by omega
 have g2d := decide_eq_true g2
 have g2n : 0 < n := by omega
 have g2nd := decide_eq_true g2n
 have HRP := Lib.hid hrp
 have HBB : Hid (B < 9223372036854775808) := Lib.hid hB
 clear hB hP hPb hT2 hn hm hV hWm hT hU hzn hqTb hqUb hrp
 obtain rfl : R = P := HRP.out
 clear HRP
 obtain ⟨W0, hW0⟩ : ∃ W0, W0 = ((w.alloc (.cells #[.int .i64 2, .int .i64 (B : Int), .int .i64 (R : Int), .int .i64 ee, .int .i64 (Wm : Int), .int .i64 (V : Int), .int .i64 ll, .int .i64 pp] 64)).alloc (.cells #[.int .i64 (T : Int), .int .i64 (U : Int)] 65)) := ⟨_, rfl⟩
 have E0 : Ext w W0 := by rw [hW0]; exact ((Ext.alloc1 w (.cells #[.int .i64 2, .int .i64 (B : Int), .int .i64 (R : Int), .int .i64 ee, .int .i64 (Wm : Int), .int .i64 (V : Int), .int .i64 ll, .int .i64 pp] 64)).alloc (.cells #[.int .i64 (T : Int), .int .i64 (U : Int)] 65))
 have p3 : BxA W0 w.heap.size 64 #[.int .i64 2, .int .i64 (B : Int), .int .i64 (R : Int), .int .i64 ee, .int .i64 (Wm : Int), .int .i64 (V : Int), .int .i64 ll, .int .i64 pp] := by rw [hW0]; exact (BxA.new w 64 #[.int .i64 2, .int .i64 (B : Int), .int .i64 (R : Int), .int .i64 ee, .int .i64 (Wm : Int), .int .i64 (V : Int), .int .i64 ll, .int .i64 pp]).ext (Ext.alloc1 (w.alloc (.cells #[.int .i64 2, .int .i64 (B : Int), .int .i64 (R : Int), .int .i64 ee, .int .i64 (Wm : Int), .int .i64 (V : Int), .int .i64 ll, .int .i64 pp] 64)) (.cells #[.int .i64 (T : Int), .int .i64 (U : Int)] 65))
 have p4 : Bx2 W0 (w.heap.size + 1) 65 (.int .i64 (T : Int)) (.int .i64 (U : Int)) := by rw [hW0]; simpa using (Bx2.new (w.alloc (.cells #[.int .i64 2, .int .i64 (B : Int), .int .i64 (R : Int), .int .i64 ee, .int .i64 (Wm : Int), .int .i64 (V : Int), .int .i64 ll, .int .i64 pp] 64)) 65 (.int .i64 (T : Int)) (.int .i64 (U : Int)))
 go_enter Try.func12, Try.ntmps12
 obtain ⟨kp3_0, kp3_1, kp3_2, kp3_3, kp3_4, kp3_5, kp3_6, kp3_7⟩ := p3.cells8
 have kp4_0 := p4.cell0
 have kp4_1 := p4.cell1
 go_wp2_with fail
 rw [← hW0]
 clear hW0
 clear kp3_0 kp3_1 kp3_2 kp3_3 kp3_4 kp3_5 kp3_6 kp3_7 kp4_0 kp4_1
 refine (Try.refRight15 2 (B : Int) (R : Int) ee (Wm : Int) (V : Int) ll pp (K : Int) _).mono ?_
 rintro e V65 ⟨rfl, hE⟩
 rw [HR0.out]
 replace E0 := (Ext.trans E0 hE)
 replace p3 := (p3.ext hE)
 replace p4 := (p4.ext hE)
 clear hE
 obtain ⟨kp3_0, kp3_1, kp3_2, kp3_3, kp3_4, kp3_5, kp3_6, kp3_7⟩ := p3.cells8
 have kp4_0 := p4.cell0
 have kp4_1 := p4.cell1
 go_wp2_with fail
 clear kp3_0 kp3_1 kp3_2 kp3_3 kp3_4 kp3_5 kp3_6 kp3_7 kp4_0 kp4_1
 refine (Try.schedRate 2 (B : Int) (R : Int) ee (Wm : Int) (V : Int) ll pp T K _ HR0.out (by have := HBB.out; omega) HTT.out.1.1 HTT.out.1.2 HX.out).mono ?_
 rintro e V66 ⟨rfl, hE⟩
 replace E0 := (Ext.trans E0 hE)
 replace p3 := (p3.ext hE)
 replace p4 := (p4.ext hE)
 clear hE
 obtain ⟨kp3_0, kp3_1, kp3_2, kp3_3, kp3_4, kp3_5, kp3_6, kp3_7⟩ := p3.cells8
 have kp4_0 := p4.cell0
 have kp4_1 := p4.cell1
 go_wp2_with fail
 clear kp3_0 kp3_1 kp3_2 kp3_3 kp3_4 kp3_5 kp3_6 kp3_7 kp4_0 kp4_1
 refine (Try.schedRate 2 (B : Int) (R : Int) ee (Wm : Int) (V : Int) ll pp U K _ HR0.out (by have := HBB.out; omega) HTT.out.2.1 HTT.out.2.2 HY.out).mono ?_
 rintro e V67 ⟨rfl, hE⟩
 replace E0 := (Ext.trans E0 hE)
 replace p3 := (p3.ext hE)
 replace p4 := (p4.ext hE)
 clear hE
 obtain ⟨kp3_0, kp3_1, kp3_2, kp3_3, kp3_4, kp3_5, kp3_6, kp3_7⟩ := p3.cells8
 have kp4_0 := p4.cell0
 have kp4_1 := p4.cell1
 go_upto_region 11 with (fail)
 clear kp3_0 kp3_1 kp3_2 kp3_3 kp3_4 kp3_5 kp3_6 kp3_7 kp4_0 kp4_1
 try clear hA1d
 try clear hA1
 try clear hA2d
 try clear hA2
 try clear hA3d
 try clear hA3
 try clear hA4d
 try clear hA4
 try clear hA5d
 try clear hA5
 try clear hA6d
 try clear hA6
 have ltp3 := p3.lt
 have ltp4 := p4.lt
 have szw13 := Ext.size E0
 refine region_go [.one fun v _ => v = .pointer (some ⟨w.heap.size + 1, 0, none⟩),
   .one fun v _ => v = .int .i64 (T : Int),
   .one fun v _ => v = .pointer (some ⟨w.heap.size, 4, none⟩),
   .one fun v _ => v = .int .i64 (Wm : Int),
   .one fun v _ => v = .int .i64 ((T - Wm : Nat) : Int),
   .one fun v _ => v = .pointer (some ⟨w.heap.size, 5, none⟩),
   .one fun v _ => v = .int .i64 (V : Int),
   .one fun v _ => v = .int .i64 (n : Int),
   .one fun v _ => v = .pointer (some ⟨w.heap.size + 1, 1, none⟩),
   .one fun v _ => v = .int .i64 (U : Int),
   .one fun v _ => v = .pointer (some ⟨w.heap.size, 4, none⟩),
   .one fun v _ => v = .int .i64 (Wm : Int),
   .one fun v _ => v = .int .i64 ((U - Wm : Nat) : Int),
   .one fun v _ => v = .pointer (some ⟨w.heap.size, 5, none⟩),
   .one fun v _ => v = .int .i64 (V : Int),
   .one fun v _ => v = .int .i64 (n : Int),
   .one fun v _ => v = .int .i64 (n : Int),
   .one fun v _ => v = .int .i64 (n : Int)]
  (fun W => Ext w W ∧ BxA W w.heap.size 64 #[.int .i64 2, .int .i64 (B : Int), .int .i64 (R : Int), .int .i64 ee, .int .i64 (Wm : Int), .int .i64 (V : Int), .int .i64 ll, .int .i64 pp] ∧ Bx2 W (w.heap.size + 1) 65 (.int .i64 (T : Int)) (.int .i64 (U : Int)) ∧ V67.heap.size ≤ W.heap.size) ⟨Good.is _, Good.is _, Good.is _, Good.is _, Good.is _, Good.is _, Good.is _, Good.is _, Good.is _, Good.is _, Good.is _, Good.is _, Good.is _, Good.is _, Good.is _, Good.is _, Good.is _, Good.is _, trivial⟩
  (fun W W1 hS hE => ⟨(Ext.trans hS.1 hE), (hS.2.1.ext hE), (hS.2.2.1.ext hE), (Nat.le_trans hS.2.2.2 (Ext.size hE))⟩) ⟨E0, p3, p4, Nat.le_refl _⟩ (by kernel_rfl) (by kernel_rfl) (by kernel_rfl) (by kernel_rfl) (A := ?A13) ?hA13 ?howe13 ?hfin13
 case hA13 =>
  intro vs
  simp only [putAll, Act.put, List.setIfInBounds_toArray, List.set_cons_zero, List.set_cons_succ, Nat.zero_add, Nat.reduceAdd]
  exact rfl
 case howe13 =>
  clear E0 p3 p4
  intro hf
  refine ⟨owesE 0 [] hf rfl (by kernel_rfl) ?_, owesE 1 [0] hf rfl (by kernel_rfl) ?_, owesE 2 [] hf rfl (by kernel_rfl) ?_, owesE 3 [2] hf rfl (by kernel_rfl) ?_, owesE 4 [1, 3] hf rfl (by kernel_rfl) ?_, owesE 5 [] hf rfl (by kernel_rfl) ?_, owesE 6 [5] hf rfl (by kernel_rfl) ?_, owesE 7 [4, 6] hf rfl (by kernel_rfl) ?_, owesE 8 [] hf rfl (by kernel_rfl) ?_, owesE 9 [8] hf rfl (by kernel_rfl) ?_, owesE 10 [] hf rfl (by kernel_rfl) ?_, owesE 11 [10] hf rfl (by kernel_rfl) ?_, owesE 12 [9, 11] hf rfl (by kernel_rfl) ?_, owesE 13 [] hf rfl (by kernel_rfl) ?_, owesE 14 [13] hf rfl (by kernel_rfl) ?_, owesE 15 [12, 14] hf rfl (by kernel_rfl) ?_, owesE 16 [7] hf rfl (by kernel_rfl) ?_, owesE 17 [15] hf rfl (by kernel_rfl) ?_, trivial⟩
  all_goals intro vs W hS hp hx KO hKO
  all_goals simp only [Act.put, List.setIfInBounds_toArray, List.set_cons_zero, List.set_cons_succ] at hKO
  ·go_simp
   exact hKO _ W (Ext.refl W) rfl
  ·have e0 := isOf hp.1
   simp only [e0] at hKO
   have fc0 := hS.2.2.1.cell0
   go_simp
   exact hKO _ W (Ext.refl W) rfl
  ·go_simp
   exact hKO _ W (Ext.refl W) rfl
  ·have e2 := isOf hp.1
   simp only [e2] at hKO
   have fc4 := BxA.cell (hS.2.1) 4 (v := .int .i64 (Wm : Int)) rfl
   go_simp
   exact hKO _ W (Ext.refl W) rfl
  ·have e1 := isOf hp.1
   have e3 := isOf hp.2.1
   simp only [e1, e3] at hKO
   go_simp
   exact hKO _ W (Ext.refl W) rfl
  ·go_simp
   exact hKO _ W (Ext.refl W) rfl
  ·have e5 := isOf hp.1
   simp only [e5] at hKO
   have fc5 := BxA.cell (hS.2.1) 5 (v := .int .i64 (V : Int)) rfl
   go_simp
   exact hKO _ W (Ext.refl W) rfl
  ·have e4 := isOf hp.1
   have e6 := isOf hp.2.1
   simp only [e4, e6] at hKO
   go_simp
   exact hKO _ W (Ext.refl W) rfl
  ·go_simp
   exact hKO _ W (Ext.refl W) rfl
  ·have e8 := isOf hp.1
   simp only [e8] at hKO
   have fc1 := hS.2.2.1.cell1
   go_simp
   exact hKO _ W (Ext.refl W) rfl
  ·go_simp
   exact hKO _ W (Ext.refl W) rfl
  ·have e10 := isOf hp.1
   simp only [e10] at hKO
   have fc4 := BxA.cell (hS.2.1) 4 (v := .int .i64 (Wm : Int)) rfl
   go_simp
   exact hKO _ W (Ext.refl W) rfl
  ·have e9 := isOf hp.1
   have e11 := isOf hp.2.1
   simp only [e9, e11] at hKO
   go_simp
   exact hKO _ W (Ext.refl W) rfl
  ·go_simp
   exact hKO _ W (Ext.refl W) rfl
  ·have e13 := isOf hp.1
   simp only [e13] at hKO
   have fc5 := BxA.cell (hS.2.1) 5 (v := .int .i64 (V : Int)) rfl
   go_simp
   exact hKO _ W (Ext.refl W) rfl
  ·have e12 := isOf hp.1
   have e14 := isOf hp.2.1
   simp only [e12, e14] at hKO
   go_simp
   exact hKO _ W (Ext.refl W) rfl
  ·have e7 := isOf hp.1
   simp only [e7] at hKO
   go_simp
   exact hKO _ W (Ext.refl W) rfl
  ·have e15 := isOf hp.1
   simp only [e15] at hKO
   go_simp
   exact hKO _ W (Ext.refl W) rfl
 intro vs W13 hS hp
 clear szw13 E0 p3 p4
 obtain ⟨E0, p3, p4, sz13⟩ := hS
 obtain ⟨h13_0, h13_1, h13_2, h13_3, h13_4, h13_5, h13_6, h13_7, h13_8, h13_9, h13_10, h13_11, h13_12, h13_13, h13_14, h13_15, h13_16, h13_17, -⟩ := hp
 replace h13_0 : vs 0 = .pointer (some ⟨w.heap.size + 1, 0, none⟩) := h13_0
 replace h13_1 : vs 1 = .int .i64 (T : Int) := h13_1
 replace h13_2 : vs 2 = .pointer (some ⟨w.heap.size, 4, none⟩) := h13_2
 replace h13_3 : vs 3 = .int .i64 (Wm : Int) := h13_3
 replace h13_4 : vs 4 = .int .i64 ((T - Wm : Nat) : Int) := h13_4
 replace h13_5 : vs 5 = .pointer (some ⟨w.heap.size, 5, none⟩) := h13_5
 replace h13_6 : vs 6 = .int .i64 (V : Int) := h13_6
 replace h13_7 : vs 7 = .int .i64 (n : Int) := h13_7
 replace h13_8 : vs 8 = .pointer (some ⟨w.heap.size + 1, 1, none⟩) := h13_8
 replace h13_9 : vs 9 = .int .i64 (U : Int) := h13_9
 replace h13_10 : vs 10 = .pointer (some ⟨w.heap.size, 4, none⟩) := h13_10
 replace h13_11 : vs 11 = .int .i64 (Wm : Int) := h13_11
 replace h13_12 : vs 12 = .int .i64 ((U - Wm : Nat) : Int) := h13_12
 replace h13_13 : vs 13 = .pointer (some ⟨w.heap.size, 5, none⟩) := h13_13
 replace h13_14 : vs 14 = .int .i64 (V : Int) := h13_14
 replace h13_15 : vs 15 = .int .i64 (n : Int) := h13_15
 replace h13_16 : vs 16 = .int .i64 (n : Int) := h13_16
 replace h13_17 : vs 17 = .int .i64 (n : Int) := h13_17
 simp only [h13_0, h13_1, h13_2, h13_3, h13_4, h13_5, h13_6, h13_7, h13_8, h13_9, h13_10, h13_11, h13_12, h13_13, h13_14, h13_15, h13_16, h13_17]
 clear h13_0 h13_1 h13_2 h13_3 h13_4 h13_5 h13_6 h13_7 h13_8 h13_9 h13_10 h13_11 h13_12 h13_13 h13_14 h13_15 h13_16 h13_17
 obtain ⟨kp3_0, kp3_1, kp3_2, kp3_3, kp3_4, kp3_5, kp3_6, kp3_7⟩ := p3.cells8
 have kp4_0 := p4.cell0
 have kp4_1 := p4.cell1
 go_upto_region 12 with (fail)
 clear kp3_0 kp3_1 kp3_2 kp3_3 kp3_4 kp3_5 kp3_6 kp3_7 kp4_0 kp4_1
 try clear hsT
 try clear hsU
 try clear hdT
 try clear hdT2
 try clear hdT3
 try clear hdT4
 try clear hdU
 try clear hdU2
 try clear hdU3
 try clear hdU4
 try clear hv0
 try clear hv0a
 try clear hv0b
 have szw14 := Ext.size E0
 refine region_go [.one fun v _ => v = .bool true,
   .one fun v _ => v = .bool true,
   .one fun v _ => v = .int .i64 (n : Int),
   .one fun v _ => v = .int .i64 (n : Int),
   .one fun v _ => v = .bool false,
   .one fun v _ => v = .bool false,
   .one fun v _ => v = .int .i64 (B : Int),
   .one fun v _ => v = .int .i64 (B : Int),
   .one fun v _ => v = .bool true,
   .one fun v _ => v = .bool true,
   .one fun v _ => v = .bool true,
   .one fun v _ => v = .bool true,
   .one fun v _ => v = .int .i64 (n : Int),
   .one fun v _ => v = .bool true,
   .one fun v _ => v = .bool true,
   .one fun v _ => v = undef,
   .one fun v _ => v = undef,
   .one fun v _ => v = undef,
   .one fun v _ => v = undef,
   .one fun v _ => v = .bool true,
   .one fun v _ => v = .bool true,
   .one fun v _ => v = .bool true,
   .one fun v _ => v = .pointer (some ⟨w.heap.size, 2, none⟩),
   .one fun v _ => v = .int .i64 (R : Int),
   .one fun v _ => v = .int .i64 (K : Int),
   .one fun v _ => v = .int .i64 (R : Int),
   .one fun v _ => v = .bool false,
   .one fun v _ => v = .bool false,
   .one fun v _ => v = .int .i64 (B : Int),
   .one fun v _ => v = .pointer (some ⟨w.heap.size, 1, none⟩),
   .one fun v _ => v = .int .i64 (B : Int),
   .one fun v _ => v = .bool true,
   .one fun v _ => v = .bool true,
   .one fun v _ => v = .bool true,
   .one fun v _ => v = .bool true]
  (fun W => Ext w W ∧ BxA W w.heap.size 64 #[.int .i64 2, .int .i64 (B : Int), .int .i64 (R : Int), .int .i64 ee, .int .i64 (Wm : Int), .int .i64 (V : Int), .int .i64 ll, .int .i64 pp] ∧ Bx2 W (w.heap.size + 1) 65 (.int .i64 (T : Int)) (.int .i64 (U : Int)) ∧ W13.heap.size ≤ W.heap.size) ⟨Good.is _, Good.is _, Good.is _, Good.is _, Good.is _, Good.is _, Good.is _, Good.is _, Good.is _, Good.is _, Good.is _, Good.is _, Good.is _, Good.is _, Good.is _, Good.is _, Good.is _, Good.is _, Good.is _, Good.is _, Good.is _, Good.is _, Good.is _, Good.is _, Good.is _, Good.is _, Good.is _, Good.is _, Good.is _, Good.is _, Good.is _, Good.is _, Good.is _, Good.is _, Good.is _, trivial⟩
  (fun W W1 hS hE => ⟨(Ext.trans hS.1 hE), (hS.2.1.ext hE), (hS.2.2.1.ext hE), (Nat.le_trans hS.2.2.2 (Ext.size hE))⟩) ⟨E0, p3, p4, Nat.le_refl _⟩ (by kernel_rfl) (by kernel_rfl) (by kernel_rfl) (by kernel_rfl) (A := ?A14) ?hA14 ?howe14 ?hfin14
 case hA14 =>
  intro vs
  simp only [putAll, Act.put, List.setIfInBounds_toArray, List.set_cons_zero, List.set_cons_succ, Nat.zero_add, Nat.reduceAdd]
  exact rfl
 case howe14 =>
  clear E0 p3 p4
  intro hf
  refine ⟨owesE 0 [] hf rfl (by kernel_rfl) ?_, owesE 1 [0] hf rfl (by kernel_rfl) ?_, owesE 2 [1] hf rfl (by kernel_rfl) ?_, owesE 3 [1] hf rfl (by kernel_rfl) ?_, owesE 4 [1, 2, 3] hf rfl (by kernel_rfl) ?_, owesE 5 [1, 4] hf rfl (by kernel_rfl) ?_, owesE 6 [5] hf rfl (by kernel_rfl) ?_, owesE 7 [5] hf rfl (by kernel_rfl) ?_, owesE 8 [5, 6, 7] hf rfl (by kernel_rfl) ?_, owesE 9 [1, 5, 8] hf rfl (by kernel_rfl) ?_, owesE 10 [1, 9] hf rfl (by kernel_rfl) ?_, owesE 11 [10] hf rfl (by kernel_rfl) ?_, owesE 12 [11] hf rfl (by kernel_rfl) ?_, owesE 13 [11, 12] hf rfl (by kernel_rfl) ?_, owesE 14 [11, 13] hf rfl (by kernel_rfl) ?_, owesE 15 [14] hf rfl (by kernel_rfl) ?_, owesE 16 [14] hf rfl (by kernel_rfl) ?_, owesE 17 [14] hf rfl (by kernel_rfl) ?_, owesE 18 [14] hf rfl (by kernel_rfl) ?_, owesE 19 [11, 14, 18] hf rfl (by kernel_rfl) ?_, owesE 20 [11, 19] hf rfl (by kernel_rfl) ?_, owesE 21 [20] hf rfl (by kernel_rfl) ?_, owesE 22 [21] hf rfl (by kernel_rfl) ?_, owesE 23 [21, 22] hf rfl (by kernel_rfl) ?_, owesE 24 [21] hf rfl (by kernel_rfl) ?_, owesE 25 [21, 24] hf rfl (by kernel_rfl) ?_, owesE 26 [21, 23, 25] hf rfl (by kernel_rfl) ?_, owesE 27 [21, 26] hf rfl (by kernel_rfl) ?_, owesE 28 [27] hf rfl (by kernel_rfl) ?_, owesE 29 [27] hf rfl (by kernel_rfl) ?_, owesE 30 [27, 29] hf rfl (by kernel_rfl) ?_, owesE 31 [27, 28, 30] hf rfl (by kernel_rfl) ?_, owesE 32 [21, 27, 31] hf rfl (by kernel_rfl) ?_, owesE 33 [21, 32] hf rfl (by kernel_rfl) ?_, owesE 34 [33] hf rfl (by kernel_rfl) ?_, trivial⟩
  all_goals intro vs W hS hp hx KO hKO
  all_goals simp only [Act.put, List.setIfInBounds_toArray, List.set_cons_zero, List.set_cons_succ] at hKO
  ·go_simp
   refine (Try.alive15 _).mono ?_
   rintro e W1 ⟨rfl, hE⟩
   exact hKO _ W1 hE rfl
  ·have e0 := isOf hp.1
   simp only [e0] at hKO
   go_simp
   exact hKO _ W (Ext.refl W) rfl
  ·have e1 := isOf hp.1
   simp only [e1] at hKO
   go_simp
   exact hKO _ W (Ext.refl W) rfl
  ·have e1 := isOf hp.1
   simp only [e1] at hKO
   go_simp
   exact hKO _ W (Ext.refl W) rfl
  ·have e1 := isOf hp.1
   have e2 := isOf hp.2.1
   have e3 := isOf hp.2.2.1
   simp only [e1, e2, e3] at hKO
   go_simp
   exact hKO _ W (Ext.refl W) rfl
  ·have e1 := isOf hp.1
   have e4 := isOf hp.2.1
   simp only [e1, e4] at hKO
   go_simp
   exact hKO _ W (Ext.refl W) rfl
  ·have e5 := isOf hp.1
   simp only [e5] at hKO
   go_simp
   exact hKO _ W (Ext.refl W) rfl
  ·have e5 := isOf hp.1
   simp only [e5] at hKO
   go_simp
   exact hKO _ W (Ext.refl W) rfl
  ·have e5 := isOf hp.1
   have e6 := isOf hp.2.1
   have e7 := isOf hp.2.2.1
   simp only [e5, e6, e7] at hKO
   go_simp
   exact hKO _ W (Ext.refl W) rfl
  ·have e1 := isOf hp.1
   have e5 := isOf hp.2.1
   have e8 := isOf hp.2.2.1
   simp only [e1, e5, e8] at hKO
   go_simp
   exact hKO _ W (Ext.refl W) rfl
  ·have e1 := isOf hp.1
   have e9 := isOf hp.2.1
   simp only [e1, e9] at hKO
   go_simp
   exact hKO _ W (Ext.refl W) rfl
  ·have e10 := isOf hp.1
   simp only [e10] at hKO
   go_simp
   exact hKO _ W (Ext.refl W) rfl
  ·have e11 := isOf hp.1
   simp only [e11] at hKO
   go_simp
   exact hKO _ W (Ext.refl W) rfl
  ·have e11 := isOf hp.1
   have e12 := isOf hp.2.1
   simp only [e11, e12] at hKO
   go_simp
   exact hKO _ W (Ext.refl W) rfl
  ·have e11 := isOf hp.1
   have e13 := isOf hp.2.1
   simp only [e11, e13] at hKO
   go_simp
   exact hKO _ W (Ext.refl W) rfl
  ·have e14 := isOf hp.1
   simp only [e14] at hKO
   go_simp
   exact hKO _ W (Ext.refl W) rfl
  ·have e14 := isOf hp.1
   simp only [e14] at hKO
   go_simp
   exact hKO _ W (Ext.refl W) rfl
  ·have e14 := isOf hp.1
   simp only [e14] at hKO
   go_simp
   exact hKO _ W (Ext.refl W) rfl
  ·have e14 := isOf hp.1
   simp only [e14] at hKO
   go_simp
   exact hKO _ W (Ext.refl W) rfl
  ·have e11 := isOf hp.1
   have e14 := isOf hp.2.1
   have e18 := isOf hp.2.2.1
   simp only [e11, e14, e18] at hKO
   go_simp
   exact hKO _ W (Ext.refl W) rfl
  ·have e11 := isOf hp.1
   have e19 := isOf hp.2.1
   simp only [e11, e19] at hKO
   go_simp
   exact hKO _ W (Ext.refl W) rfl
  ·have e20 := isOf hp.1
   simp only [e20] at hKO
   go_simp
   exact hKO _ W (Ext.refl W) rfl
  ·have e21 := isOf hp.1
   simp only [e21] at hKO
   go_simp
   exact hKO _ W (Ext.refl W) rfl
  ·have e21 := isOf hp.1
   have e22 := isOf hp.2.1
   simp only [e21, e22] at hKO
   have fc2 := BxA.cell (hS.2.1) 2 (v := .int .i64 (R : Int)) rfl
   go_simp
   exact hKO _ W (Ext.refl W) rfl
  ·have e21 := isOf hp.1
   simp only [e21] at hKO
   go_simp
   exact hKO _ W (Ext.refl W) rfl
  ·have e21 := isOf hp.1
   have e24 := isOf hp.2.1
   simp only [e21, e24] at hKO
   go_simp
   exact hKO _ W (Ext.refl W) rfl
  ·have e21 := isOf hp.1
   have e23 := isOf hp.2.1
   have e25 := isOf hp.2.2.1
   simp only [e21, e23, e25] at hKO
   go_simp
   exact hKO _ W (Ext.refl W) rfl
  ·have e21 := isOf hp.1
   have e26 := isOf hp.2.1
   simp only [e21, e26] at hKO
   go_simp
   exact hKO _ W (Ext.refl W) rfl
  ·have e27 := isOf hp.1
   simp only [e27] at hKO
   go_simp
   exact hKO _ W (Ext.refl W) rfl
  ·have e27 := isOf hp.1
   simp only [e27] at hKO
   go_simp
   exact hKO _ W (Ext.refl W) rfl
  ·have e27 := isOf hp.1
   have e29 := isOf hp.2.1
   simp only [e27, e29] at hKO
   have fc1 := BxA.cell (hS.2.1) 1 (v := .int .i64 (B : Int)) rfl
   go_simp
   exact hKO _ W (Ext.refl W) rfl
  ·have e27 := isOf hp.1
   have e28 := isOf hp.2.1
   have e30 := isOf hp.2.2.1
   simp only [e27, e28, e30] at hKO
   go_simp
   exact hKO _ W (Ext.refl W) rfl
  ·have e21 := isOf hp.1
   have e27 := isOf hp.2.1
   have e31 := isOf hp.2.2.1
   simp only [e21, e27, e31] at hKO
   go_simp
   exact hKO _ W (Ext.refl W) rfl
  ·have e21 := isOf hp.1
   have e32 := isOf hp.2.1
   simp only [e21, e32] at hKO
   go_simp
   exact hKO _ W (Ext.refl W) rfl
  ·have e33 := isOf hp.1
   simp only [e33] at hKO
   go_simp
   exact hKO _ W (Ext.refl W) rfl
 intro vs W14 hS hp
 clear szw14 E0 p3 p4
 obtain ⟨E0, p3, p4, sz14⟩ := hS
 obtain ⟨h14_0, h14_1, h14_2, h14_3, h14_4, h14_5, h14_6, h14_7, h14_8, h14_9, h14_10, h14_11, h14_12, h14_13, h14_14, h14_15, h14_16, h14_17, h14_18, h14_19, h14_20, h14_21, h14_22, h14_23, h14_24, h14_25, h14_26, h14_27, h14_28, h14_29, h14_30, h14_31, h14_32, h14_33, h14_34, -⟩ := hp
 replace h14_0 : vs 0 = .bool true := h14_0
 replace h14_1 : vs 1 = .bool true := h14_1
 replace h14_2 : vs 2 = .int .i64 (n : Int) := h14_2
 replace h14_3 : vs 3 = .int .i64 (n : Int) := h14_3
 replace h14_4 : vs 4 = .bool false := h14_4
 replace h14_5 : vs 5 = .bool false := h14_5
 replace h14_6 : vs 6 = .int .i64 (B : Int) := h14_6
 replace h14_7 : vs 7 = .int .i64 (B : Int) := h14_7
 replace h14_8 : vs 8 = .bool true := h14_8
 replace h14_9 : vs 9 = .bool true := h14_9
 replace h14_10 : vs 10 = .bool true := h14_10
 replace h14_11 : vs 11 = .bool true := h14_11
 replace h14_12 : vs 12 = .int .i64 (n : Int) := h14_12
 replace h14_13 : vs 13 = .bool true := h14_13
 replace h14_14 : vs 14 = .bool true := h14_14
 replace h14_15 : vs 15 = undef := h14_15
 replace h14_16 : vs 16 = undef := h14_16
 replace h14_17 : vs 17 = undef := h14_17
 replace h14_18 : vs 18 = undef := h14_18
 replace h14_19 : vs 19 = .bool true := h14_19
 replace h14_20 : vs 20 = .bool true := h14_20
 replace h14_21 : vs 21 = .bool true := h14_21
 replace h14_22 : vs 22 = .pointer (some ⟨w.heap.size, 2, none⟩) := h14_22
 replace h14_23 : vs 23 = .int .i64 (R : Int) := h14_23
 replace h14_24 : vs 24 = .int .i64 (K : Int) := h14_24
 replace h14_25 : vs 25 = .int .i64 (R : Int) := h14_25
 replace h14_26 : vs 26 = .bool false := h14_26
 replace h14_27 : vs 27 = .bool false := h14_27
 replace h14_28 : vs 28 = .int .i64 (B : Int) := h14_28
 replace h14_29 : vs 29 = .pointer (some ⟨w.heap.size, 1, none⟩) := h14_29
 replace h14_30 : vs 30 = .int .i64 (B : Int) := h14_30
 replace h14_31 : vs 31 = .bool true := h14_31
 replace h14_32 : vs 32 = .bool true := h14_32
 replace h14_33 : vs 33 = .bool true := h14_33
 replace h14_34 : vs 34 = .bool true := h14_34
 simp only [h14_0, h14_1, h14_2, h14_3, h14_4, h14_5, h14_6, h14_7, h14_8, h14_9, h14_10, h14_11, h14_12, h14_13, h14_14, h14_15, h14_16, h14_17, h14_18, h14_19, h14_20, h14_21, h14_22, h14_23, h14_24, h14_25, h14_26, h14_27, h14_28, h14_29, h14_30, h14_31, h14_32, h14_33, h14_34]
 clear h14_0 h14_1 h14_2 h14_3 h14_4 h14_5 h14_6 h14_7 h14_8 h14_9 h14_10 h14_11 h14_12 h14_13 h14_14 h14_15 h14_16 h14_17 h14_18 h14_19 h14_20 h14_21 h14_22 h14_23 h14_24 h14_25 h14_26 h14_27 h14_28 h14_29 h14_30 h14_31 h14_32 h14_33 h14_34
 obtain ⟨kp3_0, kp3_1, kp3_2, kp3_3, kp3_4, kp3_5, kp3_6, kp3_7⟩ := p3.cells8
 have kp4_0 := p4.cell0
 have kp4_1 := p4.cell1
 go_wp2
 go_ret
 exact ⟨rfl, E0⟩

set_option maxRecDepth 100000 in
set_option maxHeartbeats 8000000 in
theorem Try.endsDrop100 (B R Wm V T U K n : Nat) (ee ll pp X : Int) (w : World) (HR0 : Hid (rightS 2 (B : Int) (R : Int) ee (Wm : Int) (V : Int) ll pp (K : Int) = true)) (hB : B < 9223372036854775808) (HTT : Hid ((1 ≤ T ∧ T ≤ 1000000) ∧ (1 ≤ U ∧ U ≤ 1000000))) (hV : 1 ≤ V) (hWm : Wm ≤ 1000000) (hT : Wm < T) (hU : Wm < U) (hn : n = (T - Wm) / V) (hm : n = (U - Wm) / V)
  (HX : Hid (rateV 2 (B : Int) (R : Int) ee (Wm : Int) (V : Int) ll pp T K = X)) (HY : Hid (rateV 2 (B : Int) (R : Int) ee (Wm : Int) (V : Int) ll pp U K = X)) (hzn : n ≠ 0) (hrp : R ≠ 2 ^ K) :
  Calls Try.prog 12 #[.agg #[.int .i64 2, .int .i64 (B : Int), .int .i64 (R : Int), .int .i64 ee, .int .i64 (Wm : Int), .int .i64 (V : Int), .int .i64 ll, .int .i64 pp], .agg #[.int .i64 (T : Int), .int .i64 (U : Int)], .int .i64 (K : Int)] w fun e w' => e = .returned (.bool true) ∧ Ext w w' := by
 obtain ⟨P, hP⟩ : ∃ P, P = 2 ^ K := ⟨_, rfl⟩
 have hKb : K ≤ 40 := by have := rightS_iff.1 HR0.out; omega
 have hPb : P ≤ 1099511627776 := by rw [hP]; exact Nat.le_trans (Nat.pow_le_pow_right (by omega) hKb) (by decide)
 have hT2 := HTT.out
 rw [← hP] at hrp
 have hsh : IntKind.i64.wrap (2 ^ K) = (P : Int) := by rw [show ((2 : Int) ^ K) = ((2 ^ K : Nat) : Int) by simp, ← hP, IntKind.wrap_i64]; omega
 have hv0 : ((V : Int) == 0) = false := beq_eq_false_iff_ne.2 (by omega)
 have hv0a : ¬ ((V : Int) = 0) := by omega
 have hv0b : ¬ (V = 0) := by omega
 have hA1 : ¬ ((T : Int) ≤ (Wm : Int)) := by omega
 have hA1d := decide_eq_false hA1
 have hA2 : ¬ ((U : Int) ≤ (Wm : Int)) := by omega
 have hA2d := decide_eq_false hA2
 have hA3 : ¬ ((T : Int) < 1) := by omega
 have hA3d := decide_eq_false hA3
 have hA4 : ¬ ((U : Int) < 1) := by omega
 have hA4d := decide_eq_false hA4
 have hA5 : ¬ ((1000000 : Int) < (T : Int)) := by omega
 have hA5d := decide_eq_false hA5
 have hA6 : ¬ ((1000000 : Int) < (U : Int)) := by omega
 have hA6d := decide_eq_false hA6
 have hqTb : n ≤ 1000000 := by rw [hn]; exact Nat.le_trans (Nat.div_le_self _ _) (by omega)
 have hsT : IntKind.i64.wrap ((T : Int) - (Wm : Int)) = ((T - Wm : Nat) : Int) := by rw [IntKind.wrap_i64]; omega
 have hdT : (((T - Wm : Nat) : Int)).tdiv (V : Int) = (n : Int) := by rw [Int.tdiv_eq_ediv_of_nonneg (by omega), hn]; rfl
 have hdT2 : (((T - Wm : Nat) : Int)) / (V : Int) = (n : Int) := by rw [hn]; rfl
 have hdT3 : IntKind.i64.wrap ((((T - Wm : Nat) : Int)).tdiv (V : Int)) = (n : Int) := by rw [hdT, IntKind.wrap_i64]; omega
 have hdT4 : IntKind.i64.wrap (n : Int) = (n : Int) := by rw [IntKind.wrap_i64]; omega
 have hqUb : n ≤ 1000000 := by rw [hm]; exact Nat.le_trans (Nat.div_le_self _ _) (by omega)
 have hsU : IntKind.i64.wrap ((U : Int) - (Wm : Int)) = ((U - Wm : Nat) : Int) := by rw [IntKind.wrap_i64]; omega
 have hdU : (((U - Wm : Nat) : Int)).tdiv (V : Int) = (n : Int) := by rw [Int.tdiv_eq_ediv_of_nonneg (by omega), hm]; rfl
 have hdU2 : (((U - Wm : Nat) : Int)) / (V : Int) = (n : Int) := by rw [hm]; rfl
 have hdU3 : IntKind.i64.wrap ((((U - Wm : Nat) : Int)).tdiv (V : Int)) = (n : Int) := by rw [hdU, IntKind.wrap_i64]; omega
 have hdU4 : IntKind.i64.wrap (n : Int) = (n : Int) := by rw [IntKind.wrap_i64]; omega
 have g2 : (0 : Int) < (n : Int) := by omega
 have g2d := decide_eq_true g2
 have g2n : 0 < n := by omega
 have g2nd := decide_eq_true g2n
 have g3 : ((R : Int) != (P : Int)) = true := by simp; omega
 have g3b : ((R : Int) == (P : Int)) = false := beq_eq_false_iff_ne.2 (by omega)
 have g3c : (R != P) = true := by simp; omega
 have g3d : (R == P) = false := beq_eq_false_iff_ne.2 (by omega)
 have g3e : ¬ (R = P) := by omega
 have g3f := decide_eq_false g3e
 have HBB : Hid (B < 9223372036854775808) := Lib.hid hB
 clear hB hP hPb hT2 hn hm hV hWm hT hU hzn hqTb hqUb hrp
 obtain ⟨W0, hW0⟩ : ∃ W0, W0 = ((w.alloc (.cells #[.int .i64 2, .int .i64 (B : Int), .int .i64 (R : Int), .int .i64 ee, .int .i64 (Wm : Int), .int .i64 (V : Int), .int .i64 ll, .int .i64 pp] 64)).alloc (.cells #[.int .i64 (T : Int), .int .i64 (U : Int)] 65)) := ⟨_, rfl⟩
 have E0 : Ext w W0 := by rw [hW0]; exact ((Ext.alloc1 w (.cells #[.int .i64 2, .int .i64 (B : Int), .int .i64 (R : Int), .int .i64 ee, .int .i64 (Wm : Int), .int .i64 (V : Int), .int .i64 ll, .int .i64 pp] 64)).alloc (.cells #[.int .i64 (T : Int), .int .i64 (U : Int)] 65))
 have p3 : BxA W0 w.heap.size 64 #[.int .i64 2, .int .i64 (B : Int), .int .i64 (R : Int), .int .i64 ee, .int .i64 (Wm : Int), .int .i64 (V : Int), .int .i64 ll, .int .i64 pp] := by rw [hW0]; exact (BxA.new w 64 #[.int .i64 2, .int .i64 (B : Int), .int .i64 (R : Int), .int .i64 ee, .int .i64 (Wm : Int), .int .i64 (V : Int), .int .i64 ll, .int .i64 pp]).ext (Ext.alloc1 (w.alloc (.cells #[.int .i64 2, .int .i64 (B : Int), .int .i64 (R : Int), .int .i64 ee, .int .i64 (Wm : Int), .int .i64 (V : Int), .int .i64 ll, .int .i64 pp] 64)) (.cells #[.int .i64 (T : Int), .int .i64 (U : Int)] 65))
 have p4 : Bx2 W0 (w.heap.size + 1) 65 (.int .i64 (T : Int)) (.int .i64 (U : Int)) := by rw [hW0]; simpa using (Bx2.new (w.alloc (.cells #[.int .i64 2, .int .i64 (B : Int), .int .i64 (R : Int), .int .i64 ee, .int .i64 (Wm : Int), .int .i64 (V : Int), .int .i64 ll, .int .i64 pp] 64)) 65 (.int .i64 (T : Int)) (.int .i64 (U : Int)))
 go_enter Try.func12, Try.ntmps12
 obtain ⟨kp3_0, kp3_1, kp3_2, kp3_3, kp3_4, kp3_5, kp3_6, kp3_7⟩ := p3.cells8
 have kp4_0 := p4.cell0
 have kp4_1 := p4.cell1
 go_wp2_with fail
 rw [← hW0]
 clear hW0
 clear kp3_0 kp3_1 kp3_2 kp3_3 kp3_4 kp3_5 kp3_6 kp3_7 kp4_0 kp4_1
 refine (Try.refRight15 2 (B : Int) (R : Int) ee (Wm : Int) (V : Int) ll pp (K : Int) _).mono ?_
 rintro e V68 ⟨rfl, hE⟩
 rw [HR0.out]
 replace E0 := (Ext.trans E0 hE)
 replace p3 := (p3.ext hE)
 replace p4 := (p4.ext hE)
 clear hE
 obtain ⟨kp3_0, kp3_1, kp3_2, kp3_3, kp3_4, kp3_5, kp3_6, kp3_7⟩ := p3.cells8
 have kp4_0 := p4.cell0
 have kp4_1 := p4.cell1
 go_wp2_with fail
 clear kp3_0 kp3_1 kp3_2 kp3_3 kp3_4 kp3_5 kp3_6 kp3_7 kp4_0 kp4_1
 refine (Try.schedRate 2 (B : Int) (R : Int) ee (Wm : Int) (V : Int) ll pp T K _ HR0.out (by have := HBB.out; omega) HTT.out.1.1 HTT.out.1.2 HX.out).mono ?_
 rintro e V69 ⟨rfl, hE⟩
 replace E0 := (Ext.trans E0 hE)
 replace p3 := (p3.ext hE)
 replace p4 := (p4.ext hE)
 clear hE
 obtain ⟨kp3_0, kp3_1, kp3_2, kp3_3, kp3_4, kp3_5, kp3_6, kp3_7⟩ := p3.cells8
 have kp4_0 := p4.cell0
 have kp4_1 := p4.cell1
 go_wp2_with fail
 clear kp3_0 kp3_1 kp3_2 kp3_3 kp3_4 kp3_5 kp3_6 kp3_7 kp4_0 kp4_1
 refine (Try.schedRate 2 (B : Int) (R : Int) ee (Wm : Int) (V : Int) ll pp U K _ HR0.out (by have := HBB.out; omega) HTT.out.2.1 HTT.out.2.2 HY.out).mono ?_
 rintro e V70 ⟨rfl, hE⟩
 replace E0 := (Ext.trans E0 hE)
 replace p3 := (p3.ext hE)
 replace p4 := (p4.ext hE)
 clear hE
 obtain ⟨kp3_0, kp3_1, kp3_2, kp3_3, kp3_4, kp3_5, kp3_6, kp3_7⟩ := p3.cells8
 have kp4_0 := p4.cell0
 have kp4_1 := p4.cell1
 go_upto_region 11 with (fail)
 clear kp3_0 kp3_1 kp3_2 kp3_3 kp3_4 kp3_5 kp3_6 kp3_7 kp4_0 kp4_1
 try clear hA1d
 try clear hA1
 try clear hA2d
 try clear hA2
 try clear hA3d
 try clear hA3
 try clear hA4d
 try clear hA4
 try clear hA5d
 try clear hA5
 try clear hA6d
 try clear hA6
 have ltp3 := p3.lt
 have ltp4 := p4.lt
 have szw15 := Ext.size E0
 refine region_go [.one fun v _ => v = .pointer (some ⟨w.heap.size + 1, 0, none⟩),
   .one fun v _ => v = .int .i64 (T : Int),
   .one fun v _ => v = .pointer (some ⟨w.heap.size, 4, none⟩),
   .one fun v _ => v = .int .i64 (Wm : Int),
   .one fun v _ => v = .int .i64 ((T - Wm : Nat) : Int),
   .one fun v _ => v = .pointer (some ⟨w.heap.size, 5, none⟩),
   .one fun v _ => v = .int .i64 (V : Int),
   .one fun v _ => v = .int .i64 (n : Int),
   .one fun v _ => v = .pointer (some ⟨w.heap.size + 1, 1, none⟩),
   .one fun v _ => v = .int .i64 (U : Int),
   .one fun v _ => v = .pointer (some ⟨w.heap.size, 4, none⟩),
   .one fun v _ => v = .int .i64 (Wm : Int),
   .one fun v _ => v = .int .i64 ((U - Wm : Nat) : Int),
   .one fun v _ => v = .pointer (some ⟨w.heap.size, 5, none⟩),
   .one fun v _ => v = .int .i64 (V : Int),
   .one fun v _ => v = .int .i64 (n : Int),
   .one fun v _ => v = .int .i64 (n : Int),
   .one fun v _ => v = .int .i64 (n : Int)]
  (fun W => Ext w W ∧ BxA W w.heap.size 64 #[.int .i64 2, .int .i64 (B : Int), .int .i64 (R : Int), .int .i64 ee, .int .i64 (Wm : Int), .int .i64 (V : Int), .int .i64 ll, .int .i64 pp] ∧ Bx2 W (w.heap.size + 1) 65 (.int .i64 (T : Int)) (.int .i64 (U : Int)) ∧ V70.heap.size ≤ W.heap.size) ⟨Good.is _, Good.is _, Good.is _, Good.is _, Good.is _, Good.is _, Good.is _, Good.is _, Good.is _, Good.is _, Good.is _, Good.is _, Good.is _, Good.is _, Good.is _, Good.is _, Good.is _, Good.is _, trivial⟩
  (fun W W1 hS hE => ⟨(Ext.trans hS.1 hE), (hS.2.1.ext hE), (hS.2.2.1.ext hE), (Nat.le_trans hS.2.2.2 (Ext.size hE))⟩) ⟨E0, p3, p4, Nat.le_refl _⟩ (by kernel_rfl) (by kernel_rfl) (by kernel_rfl) (by kernel_rfl) (A := ?A15) ?hA15 ?howe15 ?hfin15
 case hA15 =>
  intro vs
  simp only [putAll, Act.put, List.setIfInBounds_toArray, List.set_cons_zero, List.set_cons_succ, Nat.zero_add, Nat.reduceAdd]
  exact rfl
 case howe15 =>
  clear E0 p3 p4
  intro hf
  refine ⟨owesE 0 [] hf rfl (by kernel_rfl) ?_, owesE 1 [0] hf rfl (by kernel_rfl) ?_, owesE 2 [] hf rfl (by kernel_rfl) ?_, owesE 3 [2] hf rfl (by kernel_rfl) ?_, owesE 4 [1, 3] hf rfl (by kernel_rfl) ?_, owesE 5 [] hf rfl (by kernel_rfl) ?_, owesE 6 [5] hf rfl (by kernel_rfl) ?_, owesE 7 [4, 6] hf rfl (by kernel_rfl) ?_, owesE 8 [] hf rfl (by kernel_rfl) ?_, owesE 9 [8] hf rfl (by kernel_rfl) ?_, owesE 10 [] hf rfl (by kernel_rfl) ?_, owesE 11 [10] hf rfl (by kernel_rfl) ?_, owesE 12 [9, 11] hf rfl (by kernel_rfl) ?_, owesE 13 [] hf rfl (by kernel_rfl) ?_, owesE 14 [13] hf rfl (by kernel_rfl) ?_, owesE 15 [12, 14] hf rfl (by kernel_rfl) ?_, owesE 16 [7] hf rfl (by kernel_rfl) ?_, owesE 17 [15] hf rfl (by kernel_rfl) ?_, trivial⟩
  all_goals intro vs W hS hp hx KO hKO
  all_goals simp only [Act.put, List.setIfInBounds_toArray, List.set_cons_zero, List.set_cons_succ] at hKO
  ·go_simp
   exact hKO _ W (Ext.refl W) rfl
  ·have e0 := isOf hp.1
   simp only [e0] at hKO
   have fc0 := hS.2.2.1.cell0
   go_simp
   exact hKO _ W (Ext.refl W) rfl
  ·go_simp
   exact hKO _ W (Ext.refl W) rfl
  ·have e2 := isOf hp.1
   simp only [e2] at hKO
   have fc4 := BxA.cell (hS.2.1) 4 (v := .int .i64 (Wm : Int)) rfl
   go_simp
   exact hKO _ W (Ext.refl W) rfl
  ·have e1 := isOf hp.1
   have e3 := isOf hp.2.1
   simp only [e1, e3] at hKO
   go_simp
   exact hKO _ W (Ext.refl W) rfl
  ·go_simp
   exact hKO _ W (Ext.refl W) rfl
  ·have e5 := isOf hp.1
   simp only [e5] at hKO
   have fc5 := BxA.cell (hS.2.1) 5 (v := .int .i64 (V : Int)) rfl
   go_simp
   exact hKO _ W (Ext.refl W) rfl
  ·have e4 := isOf hp.1
   have e6 := isOf hp.2.1
   simp only [e4, e6] at hKO
   go_simp
   exact hKO _ W (Ext.refl W) rfl
  ·go_simp
   exact hKO _ W (Ext.refl W) rfl
  ·have e8 := isOf hp.1
   simp only [e8] at hKO
   have fc1 := hS.2.2.1.cell1
   go_simp
   exact hKO _ W (Ext.refl W) rfl
  ·go_simp
   exact hKO _ W (Ext.refl W) rfl
  ·have e10 := isOf hp.1
   simp only [e10] at hKO
   have fc4 := BxA.cell (hS.2.1) 4 (v := .int .i64 (Wm : Int)) rfl
   go_simp
   exact hKO _ W (Ext.refl W) rfl
  ·have e9 := isOf hp.1
   have e11 := isOf hp.2.1
   simp only [e9, e11] at hKO
   go_simp
   exact hKO _ W (Ext.refl W) rfl
  ·go_simp
   exact hKO _ W (Ext.refl W) rfl
  ·have e13 := isOf hp.1
   simp only [e13] at hKO
   have fc5 := BxA.cell (hS.2.1) 5 (v := .int .i64 (V : Int)) rfl
   go_simp
   exact hKO _ W (Ext.refl W) rfl
  ·have e12 := isOf hp.1
   have e14 := isOf hp.2.1
   simp only [e12, e14] at hKO
   go_simp
   exact hKO _ W (Ext.refl W) rfl
  ·have e7 := isOf hp.1
   simp only [e7] at hKO
   go_simp
   exact hKO _ W (Ext.refl W) rfl
  ·have e15 := isOf hp.1
   simp only [e15] at hKO
   go_simp
   exact hKO _ W (Ext.refl W) rfl
 intro vs W15 hS hp
 clear szw15 E0 p3 p4
 obtain ⟨E0, p3, p4, sz15⟩ := hS
 obtain ⟨h15_0, h15_1, h15_2, h15_3, h15_4, h15_5, h15_6, h15_7, h15_8, h15_9, h15_10, h15_11, h15_12, h15_13, h15_14, h15_15, h15_16, h15_17, -⟩ := hp
 replace h15_0 : vs 0 = .pointer (some ⟨w.heap.size + 1, 0, none⟩) := h15_0
 replace h15_1 : vs 1 = .int .i64 (T : Int) := h15_1
 replace h15_2 : vs 2 = .pointer (some ⟨w.heap.size, 4, none⟩) := h15_2
 replace h15_3 : vs 3 = .int .i64 (Wm : Int) := h15_3
 replace h15_4 : vs 4 = .int .i64 ((T - Wm : Nat) : Int) := h15_4
 replace h15_5 : vs 5 = .pointer (some ⟨w.heap.size, 5, none⟩) := h15_5
 replace h15_6 : vs 6 = .int .i64 (V : Int) := h15_6
 replace h15_7 : vs 7 = .int .i64 (n : Int) := h15_7
 replace h15_8 : vs 8 = .pointer (some ⟨w.heap.size + 1, 1, none⟩) := h15_8
 replace h15_9 : vs 9 = .int .i64 (U : Int) := h15_9
 replace h15_10 : vs 10 = .pointer (some ⟨w.heap.size, 4, none⟩) := h15_10
 replace h15_11 : vs 11 = .int .i64 (Wm : Int) := h15_11
 replace h15_12 : vs 12 = .int .i64 ((U - Wm : Nat) : Int) := h15_12
 replace h15_13 : vs 13 = .pointer (some ⟨w.heap.size, 5, none⟩) := h15_13
 replace h15_14 : vs 14 = .int .i64 (V : Int) := h15_14
 replace h15_15 : vs 15 = .int .i64 (n : Int) := h15_15
 replace h15_16 : vs 16 = .int .i64 (n : Int) := h15_16
 replace h15_17 : vs 17 = .int .i64 (n : Int) := h15_17
 simp only [h15_0, h15_1, h15_2, h15_3, h15_4, h15_5, h15_6, h15_7, h15_8, h15_9, h15_10, h15_11, h15_12, h15_13, h15_14, h15_15, h15_16, h15_17]
 clear h15_0 h15_1 h15_2 h15_3 h15_4 h15_5 h15_6 h15_7 h15_8 h15_9 h15_10 h15_11 h15_12 h15_13 h15_14 h15_15 h15_16 h15_17
 obtain ⟨kp3_0, kp3_1, kp3_2, kp3_3, kp3_4, kp3_5, kp3_6, kp3_7⟩ := p3.cells8
 have kp4_0 := p4.cell0
 have kp4_1 := p4.cell1
 go_upto_region 12 with (fail)
 clear kp3_0 kp3_1 kp3_2 kp3_3 kp3_4 kp3_5 kp3_6 kp3_7 kp4_0 kp4_1
 try clear hsT
 try clear hsU
 try clear hdT
 try clear hdT2
 try clear hdT3
 try clear hdT4
 try clear hdU
 try clear hdU2
 try clear hdU3
 try clear hdU4
 try clear hv0
 try clear hv0a
 try clear hv0b
 have szw16 := Ext.size E0
 refine region_go [.one fun v _ => v = .bool true,
   .one fun v _ => v = .bool true,
   .one fun v _ => v = .int .i64 (n : Int),
   .one fun v _ => v = .int .i64 (n : Int),
   .one fun v _ => v = .bool false,
   .one fun v _ => v = .bool false,
   .one fun v _ => v = .int .i64 X,
   .one fun v _ => v = .int .i64 X,
   .one fun v _ => v = .bool true,
   .one fun v _ => v = .bool true,
   .one fun v _ => v = .bool true,
   .one fun v _ => v = .bool true,
   .one fun v _ => v = .int .i64 (n : Int),
   .one fun v _ => v = .bool true,
   .one fun v _ => v = .bool true,
   .one fun v _ => v = undef,
   .one fun v _ => v = undef,
   .one fun v _ => v = undef,
   .one fun v _ => v = undef,
   .one fun v _ => v = .bool true,
   .one fun v _ => v = .bool true,
   .one fun v _ => v = .bool true,
   .one fun v _ => v = .pointer (some ⟨w.heap.size, 2, none⟩),
   .one fun v _ => v = .int .i64 (R : Int),
   .one fun v _ => v = .int .i64 (K : Int),
   .one fun v _ => v = .int .i64 (P : Int),
   .one fun v _ => v = .bool true,
   .one fun v _ => v = .bool true,
   .one fun v _ => v = undef,
   .one fun v _ => v = undef,
   .one fun v _ => v = undef,
   .one fun v _ => v = undef,
   .one fun v _ => v = .bool true,
   .one fun v _ => v = .bool true,
   .one fun v _ => v = .bool true]
  (fun W => Ext w W ∧ BxA W w.heap.size 64 #[.int .i64 2, .int .i64 (B : Int), .int .i64 (R : Int), .int .i64 ee, .int .i64 (Wm : Int), .int .i64 (V : Int), .int .i64 ll, .int .i64 pp] ∧ Bx2 W (w.heap.size + 1) 65 (.int .i64 (T : Int)) (.int .i64 (U : Int)) ∧ W15.heap.size ≤ W.heap.size) ⟨Good.is _, Good.is _, Good.is _, Good.is _, Good.is _, Good.is _, Good.is _, Good.is _, Good.is _, Good.is _, Good.is _, Good.is _, Good.is _, Good.is _, Good.is _, Good.is _, Good.is _, Good.is _, Good.is _, Good.is _, Good.is _, Good.is _, Good.is _, Good.is _, Good.is _, Good.is _, Good.is _, Good.is _, Good.is _, Good.is _, Good.is _, Good.is _, Good.is _, Good.is _, Good.is _, trivial⟩
  (fun W W1 hS hE => ⟨(Ext.trans hS.1 hE), (hS.2.1.ext hE), (hS.2.2.1.ext hE), (Nat.le_trans hS.2.2.2 (Ext.size hE))⟩) ⟨E0, p3, p4, Nat.le_refl _⟩ (by kernel_rfl) (by kernel_rfl) (by kernel_rfl) (by kernel_rfl) (A := ?A16) ?hA16 ?howe16 ?hfin16
 case hA16 =>
  intro vs
  simp only [putAll, Act.put, List.setIfInBounds_toArray, List.set_cons_zero, List.set_cons_succ, Nat.zero_add, Nat.reduceAdd]
  exact rfl
 case howe16 =>
  clear E0 p3 p4
  intro hf
  refine ⟨owesE 0 [] hf rfl (by kernel_rfl) ?_, owesE 1 [0] hf rfl (by kernel_rfl) ?_, owesE 2 [1] hf rfl (by kernel_rfl) ?_, owesE 3 [1] hf rfl (by kernel_rfl) ?_, owesE 4 [1, 2, 3] hf rfl (by kernel_rfl) ?_, owesE 5 [1, 4] hf rfl (by kernel_rfl) ?_, owesE 6 [5] hf rfl (by kernel_rfl) ?_, owesE 7 [5] hf rfl (by kernel_rfl) ?_, owesE 8 [5, 6, 7] hf rfl (by kernel_rfl) ?_, owesE 9 [1, 5, 8] hf rfl (by kernel_rfl) ?_, owesE 10 [1, 9] hf rfl (by kernel_rfl) ?_, owesE 11 [10] hf rfl (by kernel_rfl) ?_, owesE 12 [11] hf rfl (by kernel_rfl) ?_, owesE 13 [11, 12] hf rfl (by kernel_rfl) ?_, owesE 14 [11, 13] hf rfl (by kernel_rfl) ?_, owesE 15 [14] hf rfl (by kernel_rfl) ?_, owesE 16 [14] hf rfl (by kernel_rfl) ?_, owesE 17 [14] hf rfl (by kernel_rfl) ?_, owesE 18 [14] hf rfl (by kernel_rfl) ?_, owesE 19 [11, 14, 18] hf rfl (by kernel_rfl) ?_, owesE 20 [11, 19] hf rfl (by kernel_rfl) ?_, owesE 21 [20] hf rfl (by kernel_rfl) ?_, owesE 22 [21] hf rfl (by kernel_rfl) ?_, owesE 23 [21, 22] hf rfl (by kernel_rfl) ?_, owesE 24 [21] hf rfl (by kernel_rfl) ?_, owesE 25 [21, 24] hf rfl (by kernel_rfl) ?_, owesE 26 [21, 23, 25] hf rfl (by kernel_rfl) ?_, owesE 27 [21, 26] hf rfl (by kernel_rfl) ?_, owesE 28 [27] hf rfl (by kernel_rfl) ?_, owesE 29 [27] hf rfl (by kernel_rfl) ?_, owesE 30 [27] hf rfl (by kernel_rfl) ?_, owesE 31 [27] hf rfl (by kernel_rfl) ?_, owesE 32 [21, 27, 31] hf rfl (by kernel_rfl) ?_, owesE 33 [21, 32] hf rfl (by kernel_rfl) ?_, owesE 34 [33] hf rfl (by kernel_rfl) ?_, trivial⟩
  all_goals intro vs W hS hp hx KO hKO
  all_goals simp only [Act.put, List.setIfInBounds_toArray, List.set_cons_zero, List.set_cons_succ] at hKO
  ·go_simp
   refine (Try.alive15 _).mono ?_
   rintro e W1 ⟨rfl, hE⟩
   exact hKO _ W1 hE rfl
  ·have e0 := isOf hp.1
   simp only [e0] at hKO
   go_simp
   exact hKO _ W (Ext.refl W) rfl
  ·have e1 := isOf hp.1
   simp only [e1] at hKO
   go_simp
   exact hKO _ W (Ext.refl W) rfl
  ·have e1 := isOf hp.1
   simp only [e1] at hKO
   go_simp
   exact hKO _ W (Ext.refl W) rfl
  ·have e1 := isOf hp.1
   have e2 := isOf hp.2.1
   have e3 := isOf hp.2.2.1
   simp only [e1, e2, e3] at hKO
   go_simp
   exact hKO _ W (Ext.refl W) rfl
  ·have e1 := isOf hp.1
   have e4 := isOf hp.2.1
   simp only [e1, e4] at hKO
   go_simp
   exact hKO _ W (Ext.refl W) rfl
  ·have e5 := isOf hp.1
   simp only [e5] at hKO
   go_simp
   exact hKO _ W (Ext.refl W) rfl
  ·have e5 := isOf hp.1
   simp only [e5] at hKO
   go_simp
   exact hKO _ W (Ext.refl W) rfl
  ·have e5 := isOf hp.1
   have e6 := isOf hp.2.1
   have e7 := isOf hp.2.2.1
   simp only [e5, e6, e7] at hKO
   go_simp
   exact hKO _ W (Ext.refl W) rfl
  ·have e1 := isOf hp.1
   have e5 := isOf hp.2.1
   have e8 := isOf hp.2.2.1
   simp only [e1, e5, e8] at hKO
   go_simp
   exact hKO _ W (Ext.refl W) rfl
  ·have e1 := isOf hp.1
   have e9 := isOf hp.2.1
   simp only [e1, e9] at hKO
   go_simp
   exact hKO _ W (Ext.refl W) rfl
  ·have e10 := isOf hp.1
   simp only [e10] at hKO
   go_simp
   exact hKO _ W (Ext.refl W) rfl
  ·have e11 := isOf hp.1
   simp only [e11] at hKO
   go_simp
   exact hKO _ W (Ext.refl W) rfl
  ·have e11 := isOf hp.1
   have e12 := isOf hp.2.1
   simp only [e11, e12] at hKO
   go_simp
   exact hKO _ W (Ext.refl W) rfl
  ·have e11 := isOf hp.1
   have e13 := isOf hp.2.1
   simp only [e11, e13] at hKO
   go_simp
   exact hKO _ W (Ext.refl W) rfl
  ·have e14 := isOf hp.1
   simp only [e14] at hKO
   go_simp
   exact hKO _ W (Ext.refl W) rfl
  ·have e14 := isOf hp.1
   simp only [e14] at hKO
   go_simp
   exact hKO _ W (Ext.refl W) rfl
  ·have e14 := isOf hp.1
   simp only [e14] at hKO
   go_simp
   exact hKO _ W (Ext.refl W) rfl
  ·have e14 := isOf hp.1
   simp only [e14] at hKO
   go_simp
   exact hKO _ W (Ext.refl W) rfl
  ·have e11 := isOf hp.1
   have e14 := isOf hp.2.1
   have e18 := isOf hp.2.2.1
   simp only [e11, e14, e18] at hKO
   go_simp
   exact hKO _ W (Ext.refl W) rfl
  ·have e11 := isOf hp.1
   have e19 := isOf hp.2.1
   simp only [e11, e19] at hKO
   go_simp
   exact hKO _ W (Ext.refl W) rfl
  ·have e20 := isOf hp.1
   simp only [e20] at hKO
   go_simp
   exact hKO _ W (Ext.refl W) rfl
  ·have e21 := isOf hp.1
   simp only [e21] at hKO
   go_simp
   exact hKO _ W (Ext.refl W) rfl
  ·have e21 := isOf hp.1
   have e22 := isOf hp.2.1
   simp only [e21, e22] at hKO
   have fc2 := BxA.cell (hS.2.1) 2 (v := .int .i64 (R : Int)) rfl
   go_simp
   exact hKO _ W (Ext.refl W) rfl
  ·have e21 := isOf hp.1
   simp only [e21] at hKO
   go_simp
   exact hKO _ W (Ext.refl W) rfl
  ·have e21 := isOf hp.1
   have e24 := isOf hp.2.1
   simp only [e21, e24] at hKO
   go_simp
   exact hKO _ W (Ext.refl W) rfl
  ·have e21 := isOf hp.1
   have e23 := isOf hp.2.1
   have e25 := isOf hp.2.2.1
   simp only [e21, e23, e25] at hKO
   go_simp
   exact hKO _ W (Ext.refl W) rfl
  ·have e21 := isOf hp.1
   have e26 := isOf hp.2.1
   simp only [e21, e26] at hKO
   go_simp
   exact hKO _ W (Ext.refl W) rfl
  ·have e27 := isOf hp.1
   simp only [e27] at hKO
   go_simp
   exact hKO _ W (Ext.refl W) rfl
  ·have e27 := isOf hp.1
   simp only [e27] at hKO
   go_simp
   exact hKO _ W (Ext.refl W) rfl
  ·have e27 := isOf hp.1
   simp only [e27] at hKO
   go_simp
   exact hKO _ W (Ext.refl W) rfl
  ·have e27 := isOf hp.1
   simp only [e27] at hKO
   go_simp
   exact hKO _ W (Ext.refl W) rfl
  ·have e21 := isOf hp.1
   have e27 := isOf hp.2.1
   have e31 := isOf hp.2.2.1
   simp only [e21, e27, e31] at hKO
   go_simp
   exact hKO _ W (Ext.refl W) rfl
  ·have e21 := isOf hp.1
   have e32 := isOf hp.2.1
   simp only [e21, e32] at hKO
   go_simp
   exact hKO _ W (Ext.refl W) rfl
  ·have e33 := isOf hp.1
   simp only [e33] at hKO
   go_simp
   exact hKO _ W (Ext.refl W) rfl
 intro vs W16 hS hp
 clear szw16 E0 p3 p4
 obtain ⟨E0, p3, p4, sz16⟩ := hS
 obtain ⟨h16_0, h16_1, h16_2, h16_3, h16_4, h16_5, h16_6, h16_7, h16_8, h16_9, h16_10, h16_11, h16_12, h16_13, h16_14, h16_15, h16_16, h16_17, h16_18, h16_19, h16_20, h16_21, h16_22, h16_23, h16_24, h16_25, h16_26, h16_27, h16_28, h16_29, h16_30, h16_31, h16_32, h16_33, h16_34, -⟩ := hp
 replace h16_0 : vs 0 = .bool true := h16_0
 replace h16_1 : vs 1 = .bool true := h16_1
 replace h16_2 : vs 2 = .int .i64 (n : Int) := h16_2
 replace h16_3 : vs 3 = .int .i64 (n : Int) := h16_3
 replace h16_4 : vs 4 = .bool false := h16_4
 replace h16_5 : vs 5 = .bool false := h16_5
 replace h16_6 : vs 6 = .int .i64 X := h16_6
 replace h16_7 : vs 7 = .int .i64 X := h16_7
 replace h16_8 : vs 8 = .bool true := h16_8
 replace h16_9 : vs 9 = .bool true := h16_9
 replace h16_10 : vs 10 = .bool true := h16_10
 replace h16_11 : vs 11 = .bool true := h16_11
 replace h16_12 : vs 12 = .int .i64 (n : Int) := h16_12
 replace h16_13 : vs 13 = .bool true := h16_13
 replace h16_14 : vs 14 = .bool true := h16_14
 replace h16_15 : vs 15 = undef := h16_15
 replace h16_16 : vs 16 = undef := h16_16
 replace h16_17 : vs 17 = undef := h16_17
 replace h16_18 : vs 18 = undef := h16_18
 replace h16_19 : vs 19 = .bool true := h16_19
 replace h16_20 : vs 20 = .bool true := h16_20
 replace h16_21 : vs 21 = .bool true := h16_21
 replace h16_22 : vs 22 = .pointer (some ⟨w.heap.size, 2, none⟩) := h16_22
 replace h16_23 : vs 23 = .int .i64 (R : Int) := h16_23
 replace h16_24 : vs 24 = .int .i64 (K : Int) := h16_24
 replace h16_25 : vs 25 = .int .i64 (P : Int) := h16_25
 replace h16_26 : vs 26 = .bool true := h16_26
 replace h16_27 : vs 27 = .bool true := h16_27
 replace h16_28 : vs 28 = undef := h16_28
 replace h16_29 : vs 29 = undef := h16_29
 replace h16_30 : vs 30 = undef := h16_30
 replace h16_31 : vs 31 = undef := h16_31
 replace h16_32 : vs 32 = .bool true := h16_32
 replace h16_33 : vs 33 = .bool true := h16_33
 replace h16_34 : vs 34 = .bool true := h16_34
 simp only [h16_0, h16_1, h16_2, h16_3, h16_4, h16_5, h16_6, h16_7, h16_8, h16_9, h16_10, h16_11, h16_12, h16_13, h16_14, h16_15, h16_16, h16_17, h16_18, h16_19, h16_20, h16_21, h16_22, h16_23, h16_24, h16_25, h16_26, h16_27, h16_28, h16_29, h16_30, h16_31, h16_32, h16_33, h16_34]
 clear h16_0 h16_1 h16_2 h16_3 h16_4 h16_5 h16_6 h16_7 h16_8 h16_9 h16_10 h16_11 h16_12 h16_13 h16_14 h16_15 h16_16 h16_17 h16_18 h16_19 h16_20 h16_21 h16_22 h16_23 h16_24 h16_25 h16_26 h16_27 h16_28 h16_29 h16_30 h16_31 h16_32 h16_33 h16_34
 obtain ⟨kp3_0, kp3_1, kp3_2, kp3_3, kp3_4, kp3_5, kp3_6, kp3_7⟩ := p3.cells8
 have kp4_0 := p4.cell0
 have kp4_1 := p4.cell1
 go_wp2
 go_ret
 exact ⟨rfl, E0⟩

end Go.Rt
