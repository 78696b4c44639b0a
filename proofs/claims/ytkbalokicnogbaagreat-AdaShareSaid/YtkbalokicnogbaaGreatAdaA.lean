/-
  Adafactor: its reckoning by the program, where all is there.
-/
import Derived.Test.YtkbalokicnogbaaGreatAdamM
import Derived.Test.YtkbalokicnogbaaGreatAdaM
import Derived.Test.YtkbalokicnogbaaGreatFixD
import Derived.Test.YtkbalokicnogbaaGreatInv2
import Derived.Test.YtkbalokicnogbaaGreatIrow
namespace Go.Rt
open Go Go.RowKit Go.Proofs

theorem okZ_i64' {z y : Int} (h : okZ z = some y) : I64 y := okZ_fits h

set_option maxRecDepth 100000 in
set_option maxHeartbeats 4000000 in
theorem Tryz.adaHeld (n : Int) (w : World) : Calls Tryz.prog 107 #[.int .i64 n, .int .i64 0] w fun e w' => e = .returned (.int .i64 n) ∧ Ext w w' := by
  go_enter Tryz.func107, Tryz.ntmps107
  go_wp2
  go_ret
  exact ⟨rfl, Ext.refl _⟩

set_option maxRecDepth 100000 in
set_option maxHeartbeats 4000000 in
theorem Tryz.adaOne (K : Nat) (hK : K ≤ 40) (w : World) : Calls Tryz.prog 103 #[.int .i64 (K : Int)] w fun e w' => e = .returned (.int .i64 (oneZ K)) ∧ Ext w w' := by
  obtain ⟨P, hP⟩ : ∃ P, P = 2 ^ K := ⟨_, rfl⟩
  have hPb : P ≤ 1099511627776 := by rw [hP]; exact Nat.le_trans (Nat.pow_le_pow_right (by omega) hK) (by decide)
  have hsh : IntKind.i64.wrap (2 ^ K) = (P : Int) := by rw [show ((2 : Int) ^ K) = ((2 ^ K : Nat) : Int) by simp, ← hP, IntKind.wrap_i64]; omega
  unfold oneZ
  rw [← hP]
  clear hP hPb
  go_enter Tryz.func103, Tryz.ntmps103
  go_wp2
  go_ret
  exact ⟨rfl, Ext.refl _⟩

set_option maxRecDepth 100000 in
set_option maxHeartbeats 4000000 in
theorem Tryz.adaMul {a b z : Int} (lr ep d cl sh : Int) (K : Nat) (hK : K ≤ 40) (ha : I64 a) (hb : I64 b) (h : mulO K a b = some z) (w : World) :
    Calls Tryz.prog 109 #[.agg #[.int .i64 lr, .int .i64 ep, .int .i64 d, .int .i64 (K : Int), .int .i64 cl, .int .i64 sh], .int .i64 a, .int .i64 b] w fun e w' => e = .returned (.int .i64 z) ∧ Ext w w' := by
  obtain ⟨h1, h2⟩ := okZ_some h
  have HV : Hid (fitV (mulZ K a b) = z) := Lib.hid ((fitV_in h1).trans h2)
  have HE : Hid (fitE (mulZ K a b) = 0) := Lib.hid (fitE_in h1)
  have HK := Lib.hid hK
  have HA := Lib.hid ha
  have HB := Lib.hid hb
  clear h h1 h2 hK ha hb
  obtain ⟨W0, hW0⟩ : ∃ W0, W0 = (w.alloc (.cells #[.int .i64 lr, .int .i64 ep, .int .i64 d, .int .i64 (K : Int), .int .i64 cl, .int .i64 sh] 94)) := ⟨_, rfl⟩
  have E0 : Ext w W0 := by rw [hW0]; exact (Ext.alloc1 w (.cells #[.int .i64 lr, .int .i64 ep, .int .i64 d, .int .i64 (K : Int), .int .i64 cl, .int .i64 sh] 94))
  have p3 : BxA W0 w.heap.size 94 #[.int .i64 lr, .int .i64 ep, .int .i64 d, .int .i64 (K : Int), .int .i64 cl, .int .i64 sh] := by rw [hW0]; exact (BxA.new w 94 #[.int .i64 lr, .int .i64 ep, .int .i64 d, .int .i64 (K : Int), .int .i64 cl, .int .i64 sh])
  go_enter Tryz.func109, Tryz.ntmps109
  obtain ⟨kp3_0, kp3_1, kp3_2, kp3_3, kp3_4, kp3_5⟩ := p3.c6
  go_upto_region 1 with (fail)
  rw [← hW0]
  clear hW0
  clear kp3_0 kp3_1 kp3_2 kp3_3 kp3_4 kp3_5
  have ltp3 := p3.lt
  have szw1 := Ext.size E0
  refine region_go [.one fun v _ => v = .int .i64 a,
      .one fun v _ => v = .int .i64 b,
      .one fun v _ => v = .pointer (some ⟨w.heap.size, 3, none⟩),
      .one fun v _ => v = .int .i64 (K : Int),
      .one fun v _ => v = .tuple #[.int .i64 z, .int .i64 0],
      .one fun v _ => v = .int .i64 z,
      .one fun v _ => v = .int .i64 0,
      .one fun v _ => v = .int .i64 z,
      .one fun v _ => v = .int .i64 z]
    (fun W => Ext w W ∧ BxA W w.heap.size 94 #[.int .i64 lr, .int .i64 ep, .int .i64 d, .int .i64 (K : Int), .int .i64 cl, .int .i64 sh] ∧ W0.heap.size ≤ W.heap.size) ⟨Good.is _, Good.is _, Good.is _, Good.is _, Good.is _, Good.is _, Good.is _, Good.is _, Good.is _, trivial⟩
    (fun W W1 hS hE => ⟨(Ext.trans hS.1 hE), (hS.2.1.ext hE), (Nat.le_trans hS.2.2 (Ext.size hE))⟩) ⟨E0, p3, Nat.le_refl _⟩ (by kernel_rfl) (by kernel_rfl) (by kernel_rfl) (by kernel_rfl) (A := ?A1) ?hA1 ?howe1 ?hfin1
  case hA1 =>
    intro vs
    simp only [putAll, Act.put, List.setIfInBounds_toArray, List.set_cons_zero, List.set_cons_succ, Nat.zero_add, Nat.reduceAdd]
    exact rfl
  case howe1 =>
    clear E0 p3
    intro hf
    refine ⟨owesE 0 [] hf rfl (by kernel_rfl) ?_, owesE 1 [] hf rfl (by kernel_rfl) ?_, owesE 2 [] hf rfl (by kernel_rfl) ?_, owesE 3 [2] hf rfl (by kernel_rfl) ?_, owesE 4 [0, 1, 3] hf rfl (by kernel_rfl) ?_, owesE 5 [4] hf rfl (by kernel_rfl) ?_, owesE 6 [4] hf rfl (by kernel_rfl) ?_, owesE 7 [5, 6] hf rfl (by kernel_rfl) ?_, owesE 8 [7] hf rfl (by kernel_rfl) ?_, trivial⟩
    all_goals intro vs W hS hp hx KO hKO
    all_goals simp only [Act.put, List.setIfInBounds_toArray, List.set_cons_zero, List.set_cons_succ] at hKO
    · go_simp
      exact hKO _ W (Ext.refl W) rfl
    · go_simp
      exact hKO _ W (Ext.refl W) rfl
    · go_simp
      exact hKO _ W (Ext.refl W) rfl
    · have e2 := isOf hp.1
      simp only [e2] at hKO
      have fc3 := BxA.cell (hS.2.1) 3 (v := .int .i64 (K : Int)) rfl
      go_simp
      exact hKO _ W (Ext.refl W) rfl
    · have e0 := isOf hp.1
      have e1 := isOf hp.2.1
      have e3 := isOf hp.2.2.1
      simp only [e0, e1, e3] at hKO
      go_simp
      refine (Tryz.fixMulV a b K HK.out _ HA.out.1 HA.out.2 HB.out.1 HB.out.2 HV.out HE.out).mono ?_
      rintro e W1 ⟨rfl, hE⟩
      exact hKO _ W1 hE rfl
    · have e4 := isOf hp.1
      simp only [e4] at hKO
      go_simp
      exact hKO _ W (Ext.refl W) rfl
    · have e4 := isOf hp.1
      simp only [e4] at hKO
      go_simp
      exact hKO _ W (Ext.refl W) rfl
    · have e5 := isOf hp.1
      have e6 := isOf hp.2.1
      simp only [e5, e6] at hKO
      go_simp
      refine (Tryz.adaHeld z _).mono ?_
      rintro e W1 ⟨rfl, hE⟩
      exact hKO _ W1 hE rfl
    · have e7 := isOf hp.1
      simp only [e7] at hKO
      go_simp
      exact hKO _ W (Ext.refl W) rfl
  intro vs W1 hS hp
  clear szw1 E0 p3
  obtain ⟨E0, p3, sz1⟩ := hS
  obtain ⟨h1_0, h1_1, h1_2, h1_3, h1_4, h1_5, h1_6, h1_7, h1_8, -⟩ := hp
  replace h1_0 : vs 0 = .int .i64 a := h1_0
  replace h1_1 : vs 1 = .int .i64 b := h1_1
  replace h1_2 : vs 2 = .pointer (some ⟨w.heap.size, 3, none⟩) := h1_2
  replace h1_3 : vs 3 = .int .i64 (K : Int) := h1_3
  replace h1_4 : vs 4 = .tuple #[.int .i64 z, .int .i64 0] := h1_4
  replace h1_5 : vs 5 = .int .i64 z := h1_5
  replace h1_6 : vs 6 = .int .i64 0 := h1_6
  replace h1_7 : vs 7 = .int .i64 z := h1_7
  replace h1_8 : vs 8 = .int .i64 z := h1_8
  simp only [h1_0, h1_1, h1_2, h1_3, h1_4, h1_5, h1_6, h1_7, h1_8]
  clear h1_0 h1_1 h1_2 h1_3 h1_4 h1_5 h1_6 h1_7 h1_8
  go_wp2
  go_ret
  exact ⟨rfl, E0⟩

set_option maxRecDepth 100000 in
set_option maxHeartbeats 4000000 in
theorem Tryz.adaMixed {old q x y z : Int} (lr ep d cl sh : Int) (K : Nat) (hK : K ≤ 40) (h0 : 0 ≤ sh) (h1 : sh ≤ oneZ K) (ho : I64 old) (hq : I64 q) (hx : mulO K (oneZ K - sh) old = some x) (hy : mulO K sh q = some y) (hz : addO x y = some z) (w : World) :
    Calls Tryz.prog 140 #[.agg #[.int .i64 lr, .int .i64 ep, .int .i64 d, .int .i64 (K : Int), .int .i64 cl, .int .i64 sh], .int .i64 old, .int .i64 q] w fun e w' => e = .returned (.int .i64 z) ∧ Ext w w' := by
  have HK := Lib.hid hK
  have HO := Lib.hid ho
  have HQ := Lib.hid hq
  obtain ⟨dc, hd⟩ : ∃ d, d = oneZ K - sh := ⟨_, rfl⟩
  have hw : IntKind.i64.wrap (oneZ K - sh) = dc := by have := one_max hK; rw [hd, IntKind.wrap_i64]; omega
  have HD : Hid (I64 dc ∧ I64 sh) := Lib.hid (by have := one_max hK; unfold I64; omega)
  rw [← hd] at hx
  have HX := Lib.hid hx
  have HY := Lib.hid hy
  have HXY : Hid (I64 x ∧ I64 y) := Lib.hid ⟨okZ_i64' hx, okZ_i64' hy⟩
  obtain ⟨g1, g2⟩ := okZ_some hz
  have HV : Hid (fitV (x + y) = z) := Lib.hid ((fitV_in g1).trans g2)
  have HE : Hid (fitE (x + y) = 0) := Lib.hid (fitE_in g1)
  clear hd hx hy hz g1 g2 hK ho hq h0 h1
  obtain ⟨W0, hW0⟩ : ∃ W0, W0 = (w.alloc (.cells #[.int .i64 lr, .int .i64 ep, .int .i64 d, .int .i64 (K : Int), .int .i64 cl, .int .i64 sh] 94)) := ⟨_, rfl⟩
  have E0 : Ext w W0 := by rw [hW0]; exact (Ext.alloc1 w (.cells #[.int .i64 lr, .int .i64 ep, .int .i64 d, .int .i64 (K : Int), .int .i64 cl, .int .i64 sh] 94))
  have p3 : BxA W0 w.heap.size 94 #[.int .i64 lr, .int .i64 ep, .int .i64 d, .int .i64 (K : Int), .int .i64 cl, .int .i64 sh] := by rw [hW0]; exact (BxA.new w 94 #[.int .i64 lr, .int .i64 ep, .int .i64 d, .int .i64 (K : Int), .int .i64 cl, .int .i64 sh])
  go_enter Tryz.func140, Tryz.ntmps140
  obtain ⟨kp3_0, kp3_1, kp3_2, kp3_3, kp3_4, kp3_5⟩ := p3.c6
  go_upto_region 1 with (fail)
  rw [← hW0]
  clear hW0
  clear kp3_0 kp3_1 kp3_2 kp3_3 kp3_4 kp3_5
  have ltp3 := p3.lt
  have szw2 := Ext.size E0
  refine region_go [.one fun v _ => v = .agg #[.int .i64 lr, .int .i64 ep, .int .i64 d, .int .i64 (K : Int), .int .i64 cl, .int .i64 sh],
      .one fun v _ => v = .pointer (some ⟨w.heap.size, 3, none⟩),
      .one fun v _ => v = .int .i64 (K : Int),
      .one fun v _ => v = .int .i64 (oneZ K),
      .one fun v _ => v = .pointer (some ⟨w.heap.size, 5, none⟩),
      .one fun v _ => v = .int .i64 sh,
      .one fun v _ => v = .int .i64 dc,
      .one fun v _ => v = .int .i64 old,
      .one fun v _ => v = .int .i64 x,
      .one fun v _ => v = .agg #[.int .i64 lr, .int .i64 ep, .int .i64 d, .int .i64 (K : Int), .int .i64 cl, .int .i64 sh],
      .one fun v _ => v = .pointer (some ⟨w.heap.size, 5, none⟩),
      .one fun v _ => v = .int .i64 sh,
      .one fun v _ => v = .int .i64 q,
      .one fun v _ => v = .int .i64 y,
      .one fun v _ => v = .tuple #[.int .i64 z, .int .i64 0],
      .one fun v _ => v = .int .i64 z,
      .one fun v _ => v = .int .i64 0,
      .one fun v _ => v = .int .i64 z,
      .one fun v _ => v = .int .i64 z]
    (fun W => Ext w W ∧ BxA W w.heap.size 94 #[.int .i64 lr, .int .i64 ep, .int .i64 d, .int .i64 (K : Int), .int .i64 cl, .int .i64 sh] ∧ W0.heap.size ≤ W.heap.size) ⟨Good.is _, Good.is _, Good.is _, Good.is _, Good.is _, Good.is _, Good.is _, Good.is _, Good.is _, Good.is _, Good.is _, Good.is _, Good.is _, Good.is _, Good.is _, Good.is _, Good.is _, Good.is _, Good.is _, trivial⟩
    (fun W W1 hS hE => ⟨(Ext.trans hS.1 hE), (hS.2.1.ext hE), (Nat.le_trans hS.2.2 (Ext.size hE))⟩) ⟨E0, p3, Nat.le_refl _⟩ (by kernel_rfl) (by kernel_rfl) (by kernel_rfl) (by kernel_rfl) (A := ?A2) ?hA2 ?howe2 ?hfin2
  case hA2 =>
    intro vs
    simp only [putAll, Act.put, List.setIfInBounds_toArray, List.set_cons_zero, List.set_cons_succ, Nat.zero_add, Nat.reduceAdd]
    exact rfl
  case howe2 =>
    clear E0 p3
    intro hf
    refine ⟨owesE 0 [] hf rfl (by kernel_rfl) ?_, owesE 1 [] hf rfl (by kernel_rfl) ?_, owesE 2 [1] hf rfl (by kernel_rfl) ?_, owesE 3 [2] hf rfl (by kernel_rfl) ?_, owesE 4 [] hf rfl (by kernel_rfl) ?_, owesE 5 [4] hf rfl (by kernel_rfl) ?_, owesE 6 [3, 5] hf rfl (by kernel_rfl) ?_, owesE 7 [] hf rfl (by kernel_rfl) ?_, owesE 8 [0, 6, 7] hf rfl (by kernel_rfl) ?_, owesE 9 [] hf rfl (by kernel_rfl) ?_, owesE 10 [] hf rfl (by kernel_rfl) ?_, owesE 11 [10] hf rfl (by kernel_rfl) ?_, owesE 12 [] hf rfl (by kernel_rfl) ?_, owesE 13 [9, 11, 12] hf rfl (by kernel_rfl) ?_, owesE 14 [8, 13] hf rfl (by kernel_rfl) ?_, owesE 15 [14] hf rfl (by kernel_rfl) ?_, owesE 16 [14] hf rfl (by kernel_rfl) ?_, owesE 17 [15, 16] hf rfl (by kernel_rfl) ?_, owesE 18 [17] hf rfl (by kernel_rfl) ?_, trivial⟩
    all_goals intro vs W hS hp hx KO hKO
    all_goals simp only [Act.put, List.setIfInBounds_toArray, List.set_cons_zero, List.set_cons_succ] at hKO
    · have fc0 := BxA.cell (hS.2.1) 0 (v := .int .i64 lr) rfl
      have fc1 := BxA.cell (hS.2.1) 1 (v := .int .i64 ep) rfl
      have fc2 := BxA.cell (hS.2.1) 2 (v := .int .i64 d) rfl
      have fc3 := BxA.cell (hS.2.1) 3 (v := .int .i64 (K : Int)) rfl
      have fc4 := BxA.cell (hS.2.1) 4 (v := .int .i64 cl) rfl
      have fc5 := BxA.cell (hS.2.1) 5 (v := .int .i64 sh) rfl
      go_simp
      exact hKO _ W (Ext.refl W) rfl
    · go_simp
      exact hKO _ W (Ext.refl W) rfl
    · have e1 := isOf hp.1
      simp only [e1] at hKO
      have fc3 := BxA.cell (hS.2.1) 3 (v := .int .i64 (K : Int)) rfl
      go_simp
      exact hKO _ W (Ext.refl W) rfl
    · have e2 := isOf hp.1
      simp only [e2] at hKO
      go_simp
      refine (Tryz.adaOne K HK.out _).mono ?_
      rintro e W1 ⟨rfl, hE⟩
      exact hKO _ W1 hE rfl
    · go_simp
      exact hKO _ W (Ext.refl W) rfl
    · have e4 := isOf hp.1
      simp only [e4] at hKO
      have fc5 := BxA.cell (hS.2.1) 5 (v := .int .i64 sh) rfl
      go_simp
      exact hKO _ W (Ext.refl W) rfl
    · have e3 := isOf hp.1
      have e5 := isOf hp.2.1
      simp only [e3, e5] at hKO
      go_simp
      exact hKO _ W (Ext.refl W) rfl
    · go_simp
      exact hKO _ W (Ext.refl W) rfl
    · have e0 := isOf hp.1
      have e6 := isOf hp.2.1
      have e7 := isOf hp.2.2.1
      simp only [e0, e6, e7] at hKO
      go_simp
      refine (Tryz.adaMul lr ep d cl sh K HK.out HD.out.1 HO.out HX.out _).mono ?_
      rintro e W1 ⟨rfl, hE⟩
      exact hKO _ W1 hE rfl
    · have fc0 := BxA.cell (hS.2.1) 0 (v := .int .i64 lr) rfl
      have fc1 := BxA.cell (hS.2.1) 1 (v := .int .i64 ep) rfl
      have fc2 := BxA.cell (hS.2.1) 2 (v := .int .i64 d) rfl
      have fc3 := BxA.cell (hS.2.1) 3 (v := .int .i64 (K : Int)) rfl
      have fc4 := BxA.cell (hS.2.1) 4 (v := .int .i64 cl) rfl
      have fc5 := BxA.cell (hS.2.1) 5 (v := .int .i64 sh) rfl
      go_simp
      exact hKO _ W (Ext.refl W) rfl
    · go_simp
      exact hKO _ W (Ext.refl W) rfl
    · have e10 := isOf hp.1
      simp only [e10] at hKO
      have fc5 := BxA.cell (hS.2.1) 5 (v := .int .i64 sh) rfl
      go_simp
      exact hKO _ W (Ext.refl W) rfl
    · go_simp
      exact hKO _ W (Ext.refl W) rfl
    · have e9 := isOf hp.1
      have e11 := isOf hp.2.1
      have e12 := isOf hp.2.2.1
      simp only [e9, e11, e12] at hKO
      go_simp
      refine (Tryz.adaMul lr ep d cl sh K HK.out HD.out.2 HQ.out HY.out _).mono ?_
      rintro e W1 ⟨rfl, hE⟩
      exact hKO _ W1 hE rfl
    · have e8 := isOf hp.1
      have e13 := isOf hp.2.1
      simp only [e8, e13] at hKO
      go_simp
      refine (Tryz.fixAddV x y _ HXY.out.1.1 HXY.out.1.2 HXY.out.2.1 HXY.out.2.2 HV.out HE.out).mono ?_
      rintro e W1 ⟨rfl, hE⟩
      exact hKO _ W1 hE rfl
    · have e14 := isOf hp.1
      simp only [e14] at hKO
      go_simp
      exact hKO _ W (Ext.refl W) rfl
    · have e14 := isOf hp.1
      simp only [e14] at hKO
      go_simp
      exact hKO _ W (Ext.refl W) rfl
    · have e15 := isOf hp.1
      have e16 := isOf hp.2.1
      simp only [e15, e16] at hKO
      go_simp
      refine (Tryz.adaHeld z _).mono ?_
      rintro e W1 ⟨rfl, hE⟩
      exact hKO _ W1 hE rfl
    · have e17 := isOf hp.1
      simp only [e17] at hKO
      go_simp
      exact hKO _ W (Ext.refl W) rfl
  intro vs W2 hS hp
  clear szw2 E0 p3
  obtain ⟨E0, p3, sz2⟩ := hS
  obtain ⟨h2_0, h2_1, h2_2, h2_3, h2_4, h2_5, h2_6, h2_7, h2_8, h2_9, h2_10, h2_11, h2_12, h2_13, h2_14, h2_15, h2_16, h2_17, h2_18, -⟩ := hp
  replace h2_0 : vs 0 = .agg #[.int .i64 lr, .int .i64 ep, .int .i64 d, .int .i64 (K : Int), .int .i64 cl, .int .i64 sh] := h2_0
  replace h2_1 : vs 1 = .pointer (some ⟨w.heap.size, 3, none⟩) := h2_1
  replace h2_2 : vs 2 = .int .i64 (K : Int) := h2_2
  replace h2_3 : vs 3 = .int .i64 (oneZ K) := h2_3
  replace h2_4 : vs 4 = .pointer (some ⟨w.heap.size, 5, none⟩) := h2_4
  replace h2_5 : vs 5 = .int .i64 sh := h2_5
  replace h2_6 : vs 6 = .int .i64 dc := h2_6
  replace h2_7 : vs 7 = .int .i64 old := h2_7
  replace h2_8 : vs 8 = .int .i64 x := h2_8
  replace h2_9 : vs 9 = .agg #[.int .i64 lr, .int .i64 ep, .int .i64 d, .int .i64 (K : Int), .int .i64 cl, .int .i64 sh] := h2_9
  replace h2_10 : vs 10 = .pointer (some ⟨w.heap.size, 5, none⟩) := h2_10
  replace h2_11 : vs 11 = .int .i64 sh := h2_11
  replace h2_12 : vs 12 = .int .i64 q := h2_12
  replace h2_13 : vs 13 = .int .i64 y := h2_13
  replace h2_14 : vs 14 = .tuple #[.int .i64 z, .int .i64 0] := h2_14
  replace h2_15 : vs 15 = .int .i64 z := h2_15
  replace h2_16 : vs 16 = .int .i64 0 := h2_16
  replace h2_17 : vs 17 = .int .i64 z := h2_17
  replace h2_18 : vs 18 = .int .i64 z := h2_18
  simp only [h2_0, h2_1, h2_2, h2_3, h2_4, h2_5, h2_6, h2_7, h2_8, h2_9, h2_10, h2_11, h2_12, h2_13, h2_14, h2_15, h2_16, h2_17, h2_18]
  clear h2_0 h2_1 h2_2 h2_3 h2_4 h2_5 h2_6 h2_7 h2_8 h2_9 h2_10 h2_11 h2_12 h2_13 h2_14 h2_15 h2_16 h2_17 h2_18
  go_wp2
  go_ret
  exact ⟨rfl, E0⟩

set_option maxRecDepth 100000 in
set_option maxHeartbeats 4000000 in
theorem Tryz.adaWhole (lr ep d sh n : Int) (K : Nat) (w : World) :
    Calls Tryz.prog 57 #[.agg #[.int .i64 lr, .int .i64 ep, .int .i64 d, .int .i64 (K : Int), .int .i64 1, .int .i64 sh], .int .i64 n] w fun e w' => e = .returned (.bool false) ∧ Ext w w' := by
  obtain ⟨W0, hW0⟩ : ∃ W0, W0 = (w.alloc (.cells #[.int .i64 lr, .int .i64 ep, .int .i64 d, .int .i64 (K : Int), .int .i64 1, .int .i64 sh] 94)) := ⟨_, rfl⟩
  have E0 : Ext w W0 := by rw [hW0]; exact (Ext.alloc1 w (.cells #[.int .i64 lr, .int .i64 ep, .int .i64 d, .int .i64 (K : Int), .int .i64 1, .int .i64 sh] 94))
  have p2 : BxA W0 w.heap.size 94 #[.int .i64 lr, .int .i64 ep, .int .i64 d, .int .i64 (K : Int), .int .i64 1, .int .i64 sh] := by rw [hW0]; exact (BxA.new w 94 #[.int .i64 lr, .int .i64 ep, .int .i64 d, .int .i64 (K : Int), .int .i64 1, .int .i64 sh])
  go_enter Tryz.func57, Tryz.ntmps57
  obtain ⟨kp2_0, kp2_1, kp2_2, kp2_3, kp2_4, kp2_5⟩ := p2.c6
  go_upto_region 1 with (fail)
  rw [← hW0]
  clear hW0
  clear kp2_0 kp2_1 kp2_2 kp2_3 kp2_4 kp2_5
  have ltp2 := p2.lt
  have szw3 := Ext.size E0
  refine region_go [.one fun v _ => v = .pointer (some ⟨w.heap.size, 4, none⟩),
      .one fun v _ => v = .int .i64 1,
      .one fun v _ => v = .bool false,
      .one fun v _ => v = .bool false,
      .one fun v _ => v = undef,
      .one fun v _ => v = undef,
      .one fun v _ => v = undef,
      .one fun v _ => v = undef,
      .one fun v _ => v = undef,
      .one fun v _ => v = .bool false,
      .one fun v _ => v = .bool false]
    (fun W => Ext w W ∧ BxA W w.heap.size 94 #[.int .i64 lr, .int .i64 ep, .int .i64 d, .int .i64 (K : Int), .int .i64 1, .int .i64 sh] ∧ W0.heap.size ≤ W.heap.size) ⟨Good.is _, Good.is _, Good.is _, Good.is _, Good.is _, Good.is _, Good.is _, Good.is _, Good.is _, Good.is _, Good.is _, trivial⟩
    (fun W W1 hS hE => ⟨(Ext.trans hS.1 hE), (hS.2.1.ext hE), (Nat.le_trans hS.2.2 (Ext.size hE))⟩) ⟨E0, p2, Nat.le_refl _⟩ (by kernel_rfl) (by kernel_rfl) (by kernel_rfl) (by kernel_rfl) (A := ?A3) ?hA3 ?howe3 ?hfin3
  case hA3 =>
    intro vs
    simp only [putAll, Act.put, List.setIfInBounds_toArray, List.set_cons_zero, List.set_cons_succ, Nat.zero_add, Nat.reduceAdd]
    exact rfl
  case howe3 =>
    clear E0 p2
    intro hf
    refine ⟨owesE 0 [] hf rfl (by kernel_rfl) ?_, owesE 1 [0] hf rfl (by kernel_rfl) ?_, owesE 2 [1] hf rfl (by kernel_rfl) ?_, owesE 3 [2] hf rfl (by kernel_rfl) ?_, owesE 4 [3] hf rfl (by kernel_rfl) ?_, owesE 5 [3] hf rfl (by kernel_rfl) ?_, owesE 6 [3] hf rfl (by kernel_rfl) ?_, owesE 7 [3] hf rfl (by kernel_rfl) ?_, owesE 8 [3] hf rfl (by kernel_rfl) ?_, owesE 9 [3, 8] hf rfl (by kernel_rfl) ?_, owesE 10 [9] hf rfl (by kernel_rfl) ?_, trivial⟩
    all_goals intro vs W hS hp hx KO hKO
    all_goals simp only [Act.put, List.setIfInBounds_toArray, List.set_cons_zero, List.set_cons_succ] at hKO
    · go_simp
      exact hKO _ W (Ext.refl W) rfl
    · have e0 := isOf hp.1
      simp only [e0] at hKO
      have fc4 := BxA.cell (hS.2.1) 4 (v := .int .i64 1) rfl
      go_simp
      exact hKO _ W (Ext.refl W) rfl
    · have e1 := isOf hp.1
      simp only [e1] at hKO
      go_simp
      exact hKO _ W (Ext.refl W) rfl
    · have e2 := isOf hp.1
      simp only [e2] at hKO
      go_simp
      exact hKO _ W (Ext.refl W) rfl
    · have e3 := isOf hp.1
      simp only [e3] at hKO
      go_simp
      exact hKO _ W (Ext.refl W) rfl
    · have e3 := isOf hp.1
      simp only [e3] at hKO
      go_simp
      exact hKO _ W (Ext.refl W) rfl
    · have e3 := isOf hp.1
      simp only [e3] at hKO
      go_simp
      exact hKO _ W (Ext.refl W) rfl
    · have e3 := isOf hp.1
      simp only [e3] at hKO
      go_simp
      exact hKO _ W (Ext.refl W) rfl
    · have e3 := isOf hp.1
      simp only [e3] at hKO
      go_simp
      exact hKO _ W (Ext.refl W) rfl
    · have e3 := isOf hp.1
      have e8 := isOf hp.2.1
      simp only [e3, e8] at hKO
      go_simp
      exact hKO _ W (Ext.refl W) rfl
    · have e9 := isOf hp.1
      simp only [e9] at hKO
      go_simp
      exact hKO _ W (Ext.refl W) rfl
  intro vs W3 hS hp
  clear szw3 E0 p2
  obtain ⟨E0, p2, sz3⟩ := hS
  obtain ⟨h3_0, h3_1, h3_2, h3_3, h3_4, h3_5, h3_6, h3_7, h3_8, h3_9, h3_10, -⟩ := hp
  replace h3_0 : vs 0 = .pointer (some ⟨w.heap.size, 4, none⟩) := h3_0
  replace h3_1 : vs 1 = .int .i64 1 := h3_1
  replace h3_2 : vs 2 = .bool false := h3_2
  replace h3_3 : vs 3 = .bool false := h3_3
  replace h3_4 : vs 4 = undef := h3_4
  replace h3_5 : vs 5 = undef := h3_5
  replace h3_6 : vs 6 = undef := h3_6
  replace h3_7 : vs 7 = undef := h3_7
  replace h3_8 : vs 8 = undef := h3_8
  replace h3_9 : vs 9 = .bool false := h3_9
  replace h3_10 : vs 10 = .bool false := h3_10
  simp only [h3_0, h3_1, h3_2, h3_3, h3_4, h3_5, h3_6, h3_7, h3_8, h3_9, h3_10]
  clear h3_0 h3_1 h3_2 h3_3 h3_4 h3_5 h3_6 h3_7 h3_8 h3_9 h3_10
  go_wp2
  go_ret
  exact ⟨rfl, E0⟩

set_option maxRecDepth 100000 in
set_option maxHeartbeats 4000000 in
theorem Tryz.adaRight8 (w : World) :
    Calls Tryz.prog 50 #[.agg #[.int .i64 16, .int .i64 1, .int .i64 256], .int .i64 8] w fun e w' => e = .returned (.bool true) ∧ Ext w w' := by
  obtain ⟨W0, hW0⟩ : ∃ W0, W0 = (w.alloc (.cells #[.int .i64 16, .int .i64 1, .int .i64 256] 52)) := ⟨_, rfl⟩
  have E0 : Ext w W0 := by rw [hW0]; exact (Ext.alloc1 w (.cells #[.int .i64 16, .int .i64 1, .int .i64 256] 52))
  have p2 : Bx3 W0 w.heap.size 52 (.int .i64 16) (.int .i64 1) (.int .i64 256) := by rw [hW0]; exact (Bx3.new w 52 (.int .i64 16) (.int .i64 1) (.int .i64 256))
  go_enter Tryz.func50, Tryz.ntmps50
  have kp2_0 := p2.cell0
  have kp2_1 := p2.cell1
  have kp2_2 := p2.cell2
  go_upto_region 1 with (fail)
  rw [← hW0]
  clear hW0
  clear kp2_0 kp2_1 kp2_2
  have ltp2 := p2.lt
  have szw4 := Ext.size E0
  refine region_go [.one fun v _ => v = .int .i64 8,
      .one fun v _ => v = .bool true,
      .one fun v _ => v = .bool true,
      .one fun v _ => v = .int .i64 8,
      .one fun v _ => v = .bool true,
      .one fun v _ => v = .bool true,
      .one fun v _ => v = .bool true,
      .one fun v _ => v = .pointer (some ⟨w.heap.size, 0, none⟩),
      .one fun v _ => v = .int .i64 16,
      .one fun v _ => v = .bool true,
      .one fun v _ => v = .bool true,
      .one fun v _ => v = .bool true,
      .one fun v _ => v = .pointer (some ⟨w.heap.size, 1, none⟩),
      .one fun v _ => v = .int .i64 1,
      .one fun v _ => v = .bool true,
      .one fun v _ => v = .bool true,
      .one fun v _ => v = .bool true,
      .one fun v _ => v = .pointer (some ⟨w.heap.size, 2, none⟩),
      .one fun v _ => v = .int .i64 256,
      .one fun v _ => v = .int .i64 8,
      .one fun v _ => v = .int .i64 256,
      .one fun v _ => v = .bool true,
      .one fun v _ => v = .bool true,
      .one fun v _ => v = .bool true]
    (fun W => Ext w W ∧ Bx3 W w.heap.size 52 (.int .i64 16) (.int .i64 1) (.int .i64 256) ∧ W0.heap.size ≤ W.heap.size) ⟨Good.is _, Good.is _, Good.is _, Good.is _, Good.is _, Good.is _, Good.is _, Good.is _, Good.is _, Good.is _, Good.is _, Good.is _, Good.is _, Good.is _, Good.is _, Good.is _, Good.is _, Good.is _, Good.is _, Good.is _, Good.is _, Good.is _, Good.is _, Good.is _, trivial⟩
    (fun W W1 hS hE => ⟨(Ext.trans hS.1 hE), (hS.2.1.ext hE), (Nat.le_trans hS.2.2 (Ext.size hE))⟩) ⟨E0, p2, Nat.le_refl _⟩ (by kernel_rfl) (by kernel_rfl) (by kernel_rfl) (by kernel_rfl) (A := ?A4) ?hA4 ?howe4 ?hfin4
  case hA4 =>
    intro vs
    simp only [putAll, Act.put, List.setIfInBounds_toArray, List.set_cons_zero, List.set_cons_succ, Nat.zero_add, Nat.reduceAdd]
    exact rfl
  case howe4 =>
    clear E0 p2
    intro hf
    refine ⟨owesE 0 [] hf rfl (by kernel_rfl) ?_, owesE 1 [0] hf rfl (by kernel_rfl) ?_, owesE 2 [1] hf rfl (by kernel_rfl) ?_, owesE 3 [2] hf rfl (by kernel_rfl) ?_, owesE 4 [2, 3] hf rfl (by kernel_rfl) ?_, owesE 5 [2, 4] hf rfl (by kernel_rfl) ?_, owesE 6 [5] hf rfl (by kernel_rfl) ?_, owesE 7 [6] hf rfl (by kernel_rfl) ?_, owesE 8 [6, 7] hf rfl (by kernel_rfl) ?_, owesE 9 [6, 8] hf rfl (by kernel_rfl) ?_, owesE 10 [6, 9] hf rfl (by kernel_rfl) ?_, owesE 11 [10] hf rfl (by kernel_rfl) ?_, owesE 12 [11] hf rfl (by kernel_rfl) ?_, owesE 13 [11, 12] hf rfl (by kernel_rfl) ?_, owesE 14 [11, 13] hf rfl (by kernel_rfl) ?_, owesE 15 [11, 14] hf rfl (by kernel_rfl) ?_, owesE 16 [15] hf rfl (by kernel_rfl) ?_, owesE 17 [16] hf rfl (by kernel_rfl) ?_, owesE 18 [16, 17] hf rfl (by kernel_rfl) ?_, owesE 19 [16] hf rfl (by kernel_rfl) ?_, owesE 20 [16, 19] hf rfl (by kernel_rfl) ?_, owesE 21 [16, 18, 20] hf rfl (by kernel_rfl) ?_, owesE 22 [16, 21] hf rfl (by kernel_rfl) ?_, owesE 23 [22] hf rfl (by kernel_rfl) ?_, trivial⟩
    all_goals intro vs W hS hp hx KO hKO
    all_goals simp only [Act.put, List.setIfInBounds_toArray, List.set_cons_zero, List.set_cons_succ] at hKO
    · go_simp
      exact hKO _ W (Ext.refl W) rfl
    · have e0 := isOf hp.1
      simp only [e0] at hKO
      go_simp
      exact hKO _ W (Ext.refl W) rfl
    · have e1 := isOf hp.1
      simp only [e1] at hKO
      go_simp
      exact hKO _ W (Ext.refl W) rfl
    · have e2 := isOf hp.1
      simp only [e2] at hKO
      go_simp
      exact hKO _ W (Ext.refl W) rfl
    · have e2 := isOf hp.1
      have e3 := isOf hp.2.1
      simp only [e2, e3] at hKO
      go_simp
      exact hKO _ W (Ext.refl W) rfl
    · have e2 := isOf hp.1
      have e4 := isOf hp.2.1
      simp only [e2, e4] at hKO
      go_simp
      exact hKO _ W (Ext.refl W) rfl
    · have e5 := isOf hp.1
      simp only [e5] at hKO
      go_simp
      exact hKO _ W (Ext.refl W) rfl
    · have e6 := isOf hp.1
      simp only [e6] at hKO
      go_simp
      exact hKO _ W (Ext.refl W) rfl
    · have e6 := isOf hp.1
      have e7 := isOf hp.2.1
      simp only [e6, e7] at hKO
      have fc0 := hS.2.1.cell0
      go_simp
      exact hKO _ W (Ext.refl W) rfl
    · have e6 := isOf hp.1
      have e8 := isOf hp.2.1
      simp only [e6, e8] at hKO
      go_simp
      exact hKO _ W (Ext.refl W) rfl
    · have e6 := isOf hp.1
      have e9 := isOf hp.2.1
      simp only [e6, e9] at hKO
      go_simp
      exact hKO _ W (Ext.refl W) rfl
    · have e10 := isOf hp.1
      simp only [e10] at hKO
      go_simp
      exact hKO _ W (Ext.refl W) rfl
    · have e11 := isOf hp.1
      simp only [e11] at hKO
      go_simp
      exact hKO _ W (Ext.refl W) rfl
    · have e11 := isOf hp.1
      have e12 := isOf hp.2.1
      simp only [e11, e12] at hKO
      have fc1 := hS.2.1.cell1
      go_simp
      exact hKO _ W (Ext.refl W) rfl
    · have e11 := isOf hp.1
      have e13 := isOf hp.2.1
      simp only [e11, e13] at hKO
      go_simp
      exact hKO _ W (Ext.refl W) rfl
    · have e11 := isOf hp.1
      have e14 := isOf hp.2.1
      simp only [e11, e14] at hKO
      go_simp
      exact hKO _ W (Ext.refl W) rfl
    · have e15 := isOf hp.1
      simp only [e15] at hKO
      go_simp
      exact hKO _ W (Ext.refl W) rfl
    · have e16 := isOf hp.1
      simp only [e16] at hKO
      go_simp
      exact hKO _ W (Ext.refl W) rfl
    · have e16 := isOf hp.1
      have e17 := isOf hp.2.1
      simp only [e16, e17] at hKO
      have fc2 := hS.2.1.cell2
      go_simp
      exact hKO _ W (Ext.refl W) rfl
    · have e16 := isOf hp.1
      simp only [e16] at hKO
      go_simp
      exact hKO _ W (Ext.refl W) rfl
    · have e16 := isOf hp.1
      have e19 := isOf hp.2.1
      simp only [e16, e19] at hKO
      go_simp
      refine (Tryz.adaOne 8 (by omega) _).mono ?_
      rintro e W1 ⟨rfl, hE⟩
      exact hKO _ W1 hE rfl
    · have e16 := isOf hp.1
      have e18 := isOf hp.2.1
      have e20 := isOf hp.2.2.1
      simp only [e16, e18, e20] at hKO
      go_simp
      exact hKO _ W (Ext.refl W) rfl
    · have e16 := isOf hp.1
      have e21 := isOf hp.2.1
      simp only [e16, e21] at hKO
      go_simp
      exact hKO _ W (Ext.refl W) rfl
    · have e22 := isOf hp.1
      simp only [e22] at hKO
      go_simp
      exact hKO _ W (Ext.refl W) rfl
  intro vs W4 hS hp
  clear szw4 E0 p2
  obtain ⟨E0, p2, sz4⟩ := hS
  obtain ⟨h4_0, h4_1, h4_2, h4_3, h4_4, h4_5, h4_6, h4_7, h4_8, h4_9, h4_10, h4_11, h4_12, h4_13, h4_14, h4_15, h4_16, h4_17, h4_18, h4_19, h4_20, h4_21, h4_22, h4_23, -⟩ := hp
  replace h4_0 : vs 0 = .int .i64 8 := h4_0
  replace h4_1 : vs 1 = .bool true := h4_1
  replace h4_2 : vs 2 = .bool true := h4_2
  replace h4_3 : vs 3 = .int .i64 8 := h4_3
  replace h4_4 : vs 4 = .bool true := h4_4
  replace h4_5 : vs 5 = .bool true := h4_5
  replace h4_6 : vs 6 = .bool true := h4_6
  replace h4_7 : vs 7 = .pointer (some ⟨w.heap.size, 0, none⟩) := h4_7
  replace h4_8 : vs 8 = .int .i64 16 := h4_8
  replace h4_9 : vs 9 = .bool true := h4_9
  replace h4_10 : vs 10 = .bool true := h4_10
  replace h4_11 : vs 11 = .bool true := h4_11
  replace h4_12 : vs 12 = .pointer (some ⟨w.heap.size, 1, none⟩) := h4_12
  replace h4_13 : vs 13 = .int .i64 1 := h4_13
  replace h4_14 : vs 14 = .bool true := h4_14
  replace h4_15 : vs 15 = .bool true := h4_15
  replace h4_16 : vs 16 = .bool true := h4_16
  replace h4_17 : vs 17 = .pointer (some ⟨w.heap.size, 2, none⟩) := h4_17
  replace h4_18 : vs 18 = .int .i64 256 := h4_18
  replace h4_19 : vs 19 = .int .i64 8 := h4_19
  replace h4_20 : vs 20 = .int .i64 256 := h4_20
  replace h4_21 : vs 21 = .bool true := h4_21
  replace h4_22 : vs 22 = .bool true := h4_22
  replace h4_23 : vs 23 = .bool true := h4_23
  simp only [h4_0, h4_1, h4_2, h4_3, h4_4, h4_5, h4_6, h4_7, h4_8, h4_9, h4_10, h4_11, h4_12, h4_13, h4_14, h4_15, h4_16, h4_17, h4_18, h4_19, h4_20, h4_21, h4_22, h4_23]
  clear h4_0 h4_1 h4_2 h4_3 h4_4 h4_5 h4_6 h4_7 h4_8 h4_9 h4_10 h4_11 h4_12 h4_13 h4_14 h4_15 h4_16 h4_17 h4_18 h4_19 h4_20 h4_21 h4_22 h4_23
  go_wp2
  go_ret
  exact ⟨rfl, E0⟩

end Go.Rt
