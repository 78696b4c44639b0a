/-
  The laws of chapter 08 (numbers of a fixed point): Scales: its walk.
-/
import Derived.Test.YtepidkmahladpaaLaw08c
namespace Go.Rt
open Go.RowKit Go.Proofs

set_option maxRecDepth 100000 in
set_option maxHeartbeats 4000000 in
theorem Try.lawFixScales (a b d f : Int) (w : World) (ha1 : -9223372036854775808 ≤ a) (ha2 : a < 9223372036854775808) (hb1 : -9223372036854775808 ≤ b) (hb2 : b < 9223372036854775808) (hd1 : -9223372036854775808 ≤ d) (hd2 : d < 9223372036854775808) :
    Calls Try.prog 3 #[.int .i64 a, .agg #[.int .i64 b, .int .i64 d], .int .i64 f] w fun e w' => e = .returned (.bool true) ∧ Ext w w' := by
  by_cases hd0 : d < 1
  · cases hf : fracB f
    · have HF := Lib.hid hf
      clear hf
      have HB := Lib.hid (show (-9223372036854775808 ≤ a ∧ a < 9223372036854775808) ∧ (-9223372036854775808 ≤ b ∧ b < 9223372036854775808) from ⟨⟨ha1, ha2⟩, ⟨hb1, hb2⟩⟩)
      have HD := Lib.hid (show d < 1 by omega)
      clear ha1 ha2 hb1 hb2 hd1 hd2 hd0
      obtain ⟨W0, hW0⟩ : ∃ W0, W0 = (w.alloc (.cells #[.int .i64 b, .int .i64 d] 22)) := ⟨_, rfl⟩
      have E0 : Ext w W0 := by rw [hW0]; exact (Ext.alloc1 w (.cells #[.int .i64 b, .int .i64 d] 22))
      have p4 : Bx2 W0 w.heap.size 22 (.int .i64 b) (.int .i64 d) := by rw [hW0]; exact (Bx2.new w 22 (.int .i64 b) (.int .i64 d))
      go_enter Try.func3, Try.ntmps3
      have kp4_0 := p4.cell0
      have kp4_1 := p4.cell1
      go_wp2_with fail
      rw [← hW0]
      clear hW0
      clear kp4_0 kp4_1
      refine (Try.fixScaleNo a b d _ HD.out).mono ?_
      rintro e V1 ⟨rfl, rfl⟩
      have kp4_0 := p4.cell0
      have kp4_1 := p4.cell1
      go_wp2_with fail
      clear kp4_0 kp4_1
      refine (Try.ref08ScaleNo a b d HD.out _).mono ?_
      rintro e V2 ⟨rfl, hE⟩
      replace E0 : Ext w V2 := (Ext.trans E0 hE)
      replace p4 : Bx2 V2 w.heap.size 22 (.int .i64 b) (.int .i64 d) := (p4.ext hE)
      clear hE
      have kp4_0 := p4.cell0
      have kp4_1 := p4.cell1
      go_wp2_with fail
      clear kp4_0 kp4_1
      refine (Try.fixSqrtNo a f _ HF.out).mono ?_
      rintro e V3 ⟨rfl, rfl⟩
      have kp4_0 := p4.cell0
      have kp4_1 := p4.cell1
      go_wp2_with fail
      clear kp4_0 kp4_1
      refine (Try.ref08SqrtNo a f _ HF.out).mono ?_
      rintro e V4 ⟨rfl, rfl⟩
      have kp4_0 := p4.cell0
      have kp4_1 := p4.cell1
      go_wp2_with fail
      clear kp4_0 kp4_1
      refine (Try.alive08 _).mono ?_
      rintro e V5 ⟨rfl, hE⟩
      replace E0 : Ext w V5 := (Ext.trans E0 hE)
      replace p4 : Bx2 V5 w.heap.size 22 (.int .i64 b) (.int .i64 d) := (p4.ext hE)
      clear hE
      have kp4_0 := p4.cell0
      have kp4_1 := p4.cell1
      go_wp2
      go_ret
      exact ⟨rfl, E0⟩
    · by_cases ha0 : a < 0
      · have HF := Lib.hid hf
        have HN := Lib.hid ha0
        clear hf ha0
        have HB := Lib.hid (show (-9223372036854775808 ≤ a ∧ a < 9223372036854775808) ∧ (-9223372036854775808 ≤ b ∧ b < 9223372036854775808) from ⟨⟨ha1, ha2⟩, ⟨hb1, hb2⟩⟩)
        have HD := Lib.hid (show d < 1 by omega)
        clear ha1 ha2 hb1 hb2 hd1 hd2 hd0
        obtain ⟨W0, hW0⟩ : ∃ W0, W0 = (w.alloc (.cells #[.int .i64 b, .int .i64 d] 22)) := ⟨_, rfl⟩
        have E0 : Ext w W0 := by rw [hW0]; exact (Ext.alloc1 w (.cells #[.int .i64 b, .int .i64 d] 22))
        have p4 : Bx2 W0 w.heap.size 22 (.int .i64 b) (.int .i64 d) := by rw [hW0]; exact (Bx2.new w 22 (.int .i64 b) (.int .i64 d))
        go_enter Try.func3, Try.ntmps3
        have kp4_0 := p4.cell0
        have kp4_1 := p4.cell1
        go_wp2_with fail
        rw [← hW0]
        clear hW0
        clear kp4_0 kp4_1
        refine (Try.fixScaleNo a b d _ HD.out).mono ?_
        rintro e V6 ⟨rfl, rfl⟩
        have kp4_0 := p4.cell0
        have kp4_1 := p4.cell1
        go_wp2_with fail
        clear kp4_0 kp4_1
        refine (Try.ref08ScaleNo a b d HD.out _).mono ?_
        rintro e V7 ⟨rfl, hE⟩
        replace E0 : Ext w V7 := (Ext.trans E0 hE)
        replace p4 : Bx2 V7 w.heap.size 22 (.int .i64 b) (.int .i64 d) := (p4.ext hE)
        clear hE
        have kp4_0 := p4.cell0
        have kp4_1 := p4.cell1
        go_wp2_with fail
        clear kp4_0 kp4_1
        refine (Try.fixSqrtNeg a f _ HF.out HN.out).mono ?_
        rintro e V8 ⟨rfl, rfl⟩
        have kp4_0 := p4.cell0
        have kp4_1 := p4.cell1
        go_wp2_with fail
        clear kp4_0 kp4_1
        refine (Try.ref08SqrtNeg a f _ HF.out HN.out).mono ?_
        rintro e V9 ⟨rfl, rfl⟩
        have kp4_0 := p4.cell0
        have kp4_1 := p4.cell1
        go_wp2_with fail
        clear kp4_0 kp4_1
        refine (Try.alive08 _).mono ?_
        rintro e V10 ⟨rfl, hE⟩
        replace E0 : Ext w V10 := (Ext.trans E0 hE)
        replace p4 : Bx2 V10 w.heap.size 22 (.int .i64 b) (.int .i64 d) := (p4.ext hE)
        clear hE
        have kp4_0 := p4.cell0
        have kp4_1 := p4.cell1
        go_wp2
        go_ret
        exact ⟨rfl, E0⟩
      · have hf2 := of_decide_eq_true hf
        obtain ⟨K, rfl⟩ := Int.eq_ofNat_of_zero_le hf2.1
        obtain ⟨A, rfl⟩ := Int.eq_ofNat_of_zero_le (show 0 ≤ a by omega)
        have HB := Lib.hid (show (-9223372036854775808 ≤ (A : Int) ∧ (A : Int) < 9223372036854775808) ∧ (-9223372036854775808 ≤ b ∧ b < 9223372036854775808) from ⟨⟨ha1, ha2⟩, ⟨hb1, hb2⟩⟩)
        have HD := Lib.hid (show d < 1 by omega)
        have HA := Lib.hid (show A < 9223372036854775808 ∧ K ≤ 40 by omega)
        clear ha1 ha2 hb1 hb2 hd1 hd2 hd0 hf hf2 ha0
        obtain ⟨W0, hW0⟩ : ∃ W0, W0 = (w.alloc (.cells #[.int .i64 b, .int .i64 d] 22)) := ⟨_, rfl⟩
        have E0 : Ext w W0 := by rw [hW0]; exact (Ext.alloc1 w (.cells #[.int .i64 b, .int .i64 d] 22))
        have p4 : Bx2 W0 w.heap.size 22 (.int .i64 b) (.int .i64 d) := by rw [hW0]; exact (Bx2.new w 22 (.int .i64 b) (.int .i64 d))
        go_enter Try.func3, Try.ntmps3
        have kp4_0 := p4.cell0
        have kp4_1 := p4.cell1
        go_wp2_with fail
        rw [← hW0]
        clear hW0
        clear kp4_0 kp4_1
        refine (Try.fixScaleNo (A : Int) b d _ HD.out).mono ?_
        rintro e V11 ⟨rfl, rfl⟩
        have kp4_0 := p4.cell0
        have kp4_1 := p4.cell1
        go_wp2_with fail
        clear kp4_0 kp4_1
        refine (Try.ref08ScaleNo (A : Int) b d HD.out _).mono ?_
        rintro e V12 ⟨rfl, hE⟩
        replace E0 : Ext w V12 := (Ext.trans E0 hE)
        replace p4 : Bx2 V12 w.heap.size 22 (.int .i64 b) (.int .i64 d) := (p4.ext hE)
        clear hE
        have kp4_0 := p4.cell0
        have kp4_1 := p4.cell1
        go_wp2_with fail
        clear kp4_0 kp4_1
        refine (Try.fixSqrt A K _ HA.out.1 HA.out.2).mono ?_
        rintro e V13 ⟨rfl, hE⟩
        replace E0 : Ext w V13 := (Ext.trans E0 hE)
        replace p4 : Bx2 V13 w.heap.size 22 (.int .i64 b) (.int .i64 d) := (p4.ext hE)
        clear hE
        have kp4_0 := p4.cell0
        have kp4_1 := p4.cell1
        go_wp2_with fail
        clear kp4_0 kp4_1
        refine (Try.ref08Sqrt A K _ HA.out.1 HA.out.2).mono ?_
        rintro e V14 ⟨rfl, hE⟩
        replace E0 : Ext w V14 := (Ext.trans E0 hE)
        replace p4 : Bx2 V14 w.heap.size 22 (.int .i64 b) (.int .i64 d) := (p4.ext hE)
        clear hE
        have kp4_0 := p4.cell0
        have kp4_1 := p4.cell1
        go_wp2_with fail
        clear kp4_0 kp4_1
        refine (Try.alive08 _).mono ?_
        rintro e V15 ⟨rfl, hE⟩
        replace E0 : Ext w V15 := (Ext.trans E0 hE)
        replace p4 : Bx2 V15 w.heap.size 22 (.int .i64 b) (.int .i64 d) := (p4.ext hE)
        clear hE
        have kp4_0 := p4.cell0
        have kp4_1 := p4.cell1
        go_wp2
        go_ret
        exact ⟨rfl, E0⟩
  · obtain ⟨d, rfl⟩ := Int.eq_ofNat_of_zero_le (show 0 ≤ d by omega)
    cases hf : fracB f
    · have HF := Lib.hid hf
      clear hf
      have HB := Lib.hid (show (-9223372036854775808 ≤ a ∧ a < 9223372036854775808) ∧ (-9223372036854775808 ≤ b ∧ b < 9223372036854775808) from ⟨⟨ha1, ha2⟩, ⟨hb1, hb2⟩⟩)
      have HD := Lib.hid (show 0 < d ∧ d < 9223372036854775808 by omega)
      obtain ⟨V1, hV1⟩ : ∃ V, fitV (nearR (((a * b : Int) : Rat) / (d : Rat))) = V := ⟨_, rfl⟩
      obtain ⟨E1, hE1⟩ : ∃ V, fitE (nearR (((a * b : Int) : Rat) / (d : Rat))) = V := ⟨_, rfl⟩
      have HV1 := Lib.hid hV1
      have HE1 := Lib.hid hE1
      clear hV1 hE1
      clear ha1 ha2 hb1 hb2 hd1 hd2 hd0
      obtain ⟨W0, hW0⟩ : ∃ W0, W0 = (w.alloc (.cells #[.int .i64 b, .int .i64 (d : Int)] 22)) := ⟨_, rfl⟩
      have E0 : Ext w W0 := by rw [hW0]; exact (Ext.alloc1 w (.cells #[.int .i64 b, .int .i64 (d : Int)] 22))
      have p4 : Bx2 W0 w.heap.size 22 (.int .i64 b) (.int .i64 (d : Int)) := by rw [hW0]; exact (Bx2.new w 22 (.int .i64 b) (.int .i64 (d : Int)))
      go_enter Try.func3, Try.ntmps3
      have kp4_0 := p4.cell0
      have kp4_1 := p4.cell1
      go_wp2_with fail
      rw [← hW0]
      clear hW0
      clear kp4_0 kp4_1
      refine (Try.fixScaleV a b d _ HB.out.1.1 HB.out.1.2 HB.out.2.1 HB.out.2.2 HD.out.1 HD.out.2 HV1.out HE1.out).mono ?_
      rintro e V16 ⟨rfl, hE⟩
      replace E0 : Ext w V16 := (Ext.trans E0 hE)
      replace p4 : Bx2 V16 w.heap.size 22 (.int .i64 b) (.int .i64 (d : Int)) := (p4.ext hE)
      clear hE
      have kp4_0 := p4.cell0
      have kp4_1 := p4.cell1
      go_wp2_with fail
      clear kp4_0 kp4_1
      refine (Try.ref08ScaleV a b d _ HB.out.1.1 HB.out.1.2 HB.out.2.1 HB.out.2.2 HD.out.1 HD.out.2 HV1.out HE1.out).mono ?_
      rintro e V17 ⟨rfl, hE⟩
      replace E0 : Ext w V17 := (Ext.trans E0 hE)
      replace p4 : Bx2 V17 w.heap.size 22 (.int .i64 b) (.int .i64 (d : Int)) := (p4.ext hE)
      clear hE
      have kp4_0 := p4.cell0
      have kp4_1 := p4.cell1
      go_wp2_with fail
      clear kp4_0 kp4_1
      refine (Try.fixSqrtNo a f _ HF.out).mono ?_
      rintro e V18 ⟨rfl, rfl⟩
      have kp4_0 := p4.cell0
      have kp4_1 := p4.cell1
      go_wp2_with fail
      clear kp4_0 kp4_1
      refine (Try.ref08SqrtNo a f _ HF.out).mono ?_
      rintro e V19 ⟨rfl, rfl⟩
      have kp4_0 := p4.cell0
      have kp4_1 := p4.cell1
      go_wp2_with fail
      clear kp4_0 kp4_1
      refine (Try.alive08 _).mono ?_
      rintro e V20 ⟨rfl, hE⟩
      replace E0 : Ext w V20 := (Ext.trans E0 hE)
      replace p4 : Bx2 V20 w.heap.size 22 (.int .i64 b) (.int .i64 (d : Int)) := (p4.ext hE)
      clear hE
      have kp4_0 := p4.cell0
      have kp4_1 := p4.cell1
      go_wp2
      go_ret
      exact ⟨rfl, E0⟩
    · by_cases ha0 : a < 0
      · have HF := Lib.hid hf
        have HN := Lib.hid ha0
        clear hf ha0
        have HB := Lib.hid (show (-9223372036854775808 ≤ a ∧ a < 9223372036854775808) ∧ (-9223372036854775808 ≤ b ∧ b < 9223372036854775808) from ⟨⟨ha1, ha2⟩, ⟨hb1, hb2⟩⟩)
        have HD := Lib.hid (show 0 < d ∧ d < 9223372036854775808 by omega)
        obtain ⟨V1, hV1⟩ : ∃ V, fitV (nearR (((a * b : Int) : Rat) / (d : Rat))) = V := ⟨_, rfl⟩
        obtain ⟨E1, hE1⟩ : ∃ V, fitE (nearR (((a * b : Int) : Rat) / (d : Rat))) = V := ⟨_, rfl⟩
        have HV1 := Lib.hid hV1
        have HE1 := Lib.hid hE1
        clear hV1 hE1
        clear ha1 ha2 hb1 hb2 hd1 hd2 hd0
        obtain ⟨W0, hW0⟩ : ∃ W0, W0 = (w.alloc (.cells #[.int .i64 b, .int .i64 (d : Int)] 22)) := ⟨_, rfl⟩
        have E0 : Ext w W0 := by rw [hW0]; exact (Ext.alloc1 w (.cells #[.int .i64 b, .int .i64 (d : Int)] 22))
        have p4 : Bx2 W0 w.heap.size 22 (.int .i64 b) (.int .i64 (d : Int)) := by rw [hW0]; exact (Bx2.new w 22 (.int .i64 b) (.int .i64 (d : Int)))
        go_enter Try.func3, Try.ntmps3
        have kp4_0 := p4.cell0
        have kp4_1 := p4.cell1
        go_wp2_with fail
        rw [← hW0]
        clear hW0
        clear kp4_0 kp4_1
        refine (Try.fixScaleV a b d _ HB.out.1.1 HB.out.1.2 HB.out.2.1 HB.out.2.2 HD.out.1 HD.out.2 HV1.out HE1.out).mono ?_
        rintro e V21 ⟨rfl, hE⟩
        replace E0 : Ext w V21 := (Ext.trans E0 hE)
        replace p4 : Bx2 V21 w.heap.size 22 (.int .i64 b) (.int .i64 (d : Int)) := (p4.ext hE)
        clear hE
        have kp4_0 := p4.cell0
        have kp4_1 := p4.cell1
        go_wp2_with fail
        clear kp4_0 kp4_1
        refine (Try.ref08ScaleV a b d _ HB.out.1.1 HB.out.1.2 HB.out.2.1 HB.out.2.2 HD.out.1 HD.out.2 HV1.out HE1.out).mono ?_
        rintro e V22 ⟨rfl, hE⟩
        replace E0 : Ext w V22 := (Ext.trans E0 hE)
        replace p4 : Bx2 V22 w.heap.size 22 (.int .i64 b) (.int .i64 (d : Int)) := (p4.ext hE)
        clear hE
        have kp4_0 := p4.cell0
        have kp4_1 := p4.cell1
        go_wp2_with fail
        clear kp4_0 kp4_1
        refine (Try.fixSqrtNeg a f _ HF.out HN.out).mono ?_
        rintro e V23 ⟨rfl, rfl⟩
        have kp4_0 := p4.cell0
        have kp4_1 := p4.cell1
        go_wp2_with fail
        clear kp4_0 kp4_1
        refine (Try.ref08SqrtNeg a f _ HF.out HN.out).mono ?_
        rintro e V24 ⟨rfl, rfl⟩
        have kp4_0 := p4.cell0
        have kp4_1 := p4.cell1
        go_wp2_with fail
        clear kp4_0 kp4_1
        refine (Try.alive08 _).mono ?_
        rintro e V25 ⟨rfl, hE⟩
        replace E0 : Ext w V25 := (Ext.trans E0 hE)
        replace p4 : Bx2 V25 w.heap.size 22 (.int .i64 b) (.int .i64 (d : Int)) := (p4.ext hE)
        clear hE
        have kp4_0 := p4.cell0
        have kp4_1 := p4.cell1
        go_wp2
        go_ret
        exact ⟨rfl, E0⟩
      · have hf2 := of_decide_eq_true hf
        obtain ⟨K, rfl⟩ := Int.eq_ofNat_of_zero_le hf2.1
        obtain ⟨A, rfl⟩ := Int.eq_ofNat_of_zero_le (show 0 ≤ a by omega)
        have HB := Lib.hid (show (-9223372036854775808 ≤ (A : Int) ∧ (A : Int) < 9223372036854775808) ∧ (-9223372036854775808 ≤ b ∧ b < 9223372036854775808) from ⟨⟨ha1, ha2⟩, ⟨hb1, hb2⟩⟩)
        have HD := Lib.hid (show 0 < d ∧ d < 9223372036854775808 by omega)
        obtain ⟨V1, hV1⟩ : ∃ V, fitV (nearR ((((A : Int) * b : Int) : Rat) / (d : Rat))) = V := ⟨_, rfl⟩
        obtain ⟨E1, hE1⟩ : ∃ V, fitE (nearR ((((A : Int) * b : Int) : Rat) / (d : Rat))) = V := ⟨_, rfl⟩
        have HV1 := Lib.hid hV1
        have HE1 := Lib.hid hE1
        clear hV1 hE1
        have HA := Lib.hid (show A < 9223372036854775808 ∧ K ≤ 40 by omega)
        clear ha1 ha2 hb1 hb2 hd1 hd2 hd0 hf hf2 ha0
        obtain ⟨W0, hW0⟩ : ∃ W0, W0 = (w.alloc (.cells #[.int .i64 b, .int .i64 (d : Int)] 22)) := ⟨_, rfl⟩
        have E0 : Ext w W0 := by rw [hW0]; exact (Ext.alloc1 w (.cells #[.int .i64 b, .int .i64 (d : Int)] 22))
        have p4 : Bx2 W0 w.heap.size 22 (.int .i64 b) (.int .i64 (d : Int)) := by rw [hW0]; exact (Bx2.new w 22 (.int .i64 b) (.int .i64 (d : Int)))
        go_enter Try.func3, Try.ntmps3
        have kp4_0 := p4.cell0
        have kp4_1 := p4.cell1
        go_wp2_with fail
        rw [← hW0]
        clear hW0
        clear kp4_0 kp4_1
        refine (Try.fixScaleV (A : Int) b d _ HB.out.1.1 HB.out.1.2 HB.out.2.1 HB.out.2.2 HD.out.1 HD.out.2 HV1.out HE1.out).mono ?_
        rintro e V26 ⟨rfl, hE⟩
        replace E0 : Ext w V26 := (Ext.trans E0 hE)
        replace p4 : Bx2 V26 w.heap.size 22 (.int .i64 b) (.int .i64 (d : Int)) := (p4.ext hE)
        clear hE
        have kp4_0 := p4.cell0
        have kp4_1 := p4.cell1
        go_wp2_with fail
        clear kp4_0 kp4_1
        refine (Try.ref08ScaleV (A : Int) b d _ HB.out.1.1 HB.out.1.2 HB.out.2.1 HB.out.2.2 HD.out.1 HD.out.2 HV1.out HE1.out).mono ?_
        rintro e V27 ⟨rfl, hE⟩
        replace E0 : Ext w V27 := (Ext.trans E0 hE)
        replace p4 : Bx2 V27 w.heap.size 22 (.int .i64 b) (.int .i64 (d : Int)) := (p4.ext hE)
        clear hE
        have kp4_0 := p4.cell0
        have kp4_1 := p4.cell1
        go_wp2_with fail
        clear kp4_0 kp4_1
        refine (Try.fixSqrt A K _ HA.out.1 HA.out.2).mono ?_
        rintro e V28 ⟨rfl, hE⟩
        replace E0 : Ext w V28 := (Ext.trans E0 hE)
        replace p4 : Bx2 V28 w.heap.size 22 (.int .i64 b) (.int .i64 (d : Int)) := (p4.ext hE)
        clear hE
        have kp4_0 := p4.cell0
        have kp4_1 := p4.cell1
        go_wp2_with fail
        clear kp4_0 kp4_1
        refine (Try.ref08Sqrt A K _ HA.out.1 HA.out.2).mono ?_
        rintro e V29 ⟨rfl, hE⟩
        replace E0 : Ext w V29 := (Ext.trans E0 hE)
        replace p4 : Bx2 V29 w.heap.size 22 (.int .i64 b) (.int .i64 (d : Int)) := (p4.ext hE)
        clear hE
        have kp4_0 := p4.cell0
        have kp4_1 := p4.cell1
        go_wp2_with fail
        clear kp4_0 kp4_1
        refine (Try.alive08 _).mono ?_
        rintro e V30 ⟨rfl, hE⟩
        replace E0 : Ext w V30 := (Ext.trans E0 hE)
        replace p4 : Bx2 V30 w.heap.size 22 (.int .i64 b) (.int .i64 (d : Int)) := (p4.ext hE)
        clear hE
        have kp4_0 := p4.cell0
        have kp4_1 := p4.cell1
        go_wp2
        go_ret
        exact ⟨rfl, E0⟩

end Go.Rt
