/-
  The laws of chapter 08 (numbers of a fixed point): Reckons: its walk.
-/
import Derived.Test.YtepidkmahladpaaRef08b
namespace Go.Rt
open Go.RowKit Go.Proofs

theorem Try.ref08AddV (a b : Int)  (w : World) (ha1 : -9223372036854775808 ≤ a) (ha2 : a < 9223372036854775808) (hb1 : -9223372036854775808 ≤ b) (hb2 : b < 9223372036854775808) {V E : Int} (hV : fitV (a + b) = V) (hE : fitE (a + b) = E) :
    Calls Try.prog 36 #[.int .i64 a, .int .i64 b] w fun e w' => e = .returned (.tuple #[.int .i64 V, .int .i64 E]) ∧ Ext w w' := by
  subst hV
  subst hE
  exact Try.ref08Add a b w ha1 ha2 hb1 hb2
theorem Try.ref08SubV (a b : Int)  (w : World) (ha1 : -9223372036854775808 ≤ a) (ha2 : a < 9223372036854775808) (hb1 : -9223372036854775808 ≤ b) (hb2 : b < 9223372036854775808) {V E : Int} (hV : fitV (a - b) = V) (hE : fitE (a - b) = E) :
    Calls Try.prog 38 #[.int .i64 a, .int .i64 b] w fun e w' => e = .returned (.tuple #[.int .i64 V, .int .i64 E]) ∧ Ext w w' := by
  subst hV
  subst hE
  exact Try.ref08Sub a b w ha1 ha2 hb1 hb2
theorem Try.ref08MulV (a b : Int) (K : Nat) (hK : K ≤ 40) (w : World) (ha1 : -9223372036854775808 ≤ a) (ha2 : a < 9223372036854775808) (hb1 : -9223372036854775808 ≤ b) (hb2 : b < 9223372036854775808) {V E : Int} (hV : fitV (nearR (((a * b : Int) : Rat) / ((2 ^ K : Nat) : Rat))) = V) (hE : fitE (nearR (((a * b : Int) : Rat) / ((2 ^ K : Nat) : Rat))) = E) :
    Calls Try.prog 39 #[.int .i64 a, .int .i64 b, .int .i64 (K : Int)] w fun e w' => e = .returned (.tuple #[.int .i64 V, .int .i64 E]) ∧ Ext w w' := by
  subst hV
  subst hE
  exact Try.ref08Mul a b K hK w ha1 ha2 hb1 hb2
theorem Try.ref08DivV (a b : Int) (K : Nat) (hK : K ≤ 40) (w : World) (ha1 : -9223372036854775808 ≤ a) (ha2 : a < 9223372036854775808) (hb1 : -9223372036854775808 ≤ b) (hb2 : b < 9223372036854775808) (hb0 : b ≠ 0) {V E : Int} (hV : fitV (nearR (((a * ((2 ^ K : Nat) : Int) : Int) : Rat) / (b : Rat))) = V) (hE : fitE (nearR (((a * ((2 ^ K : Nat) : Int) : Int) : Rat) / (b : Rat))) = E) :
    Calls Try.prog 40 #[.int .i64 a, .int .i64 b, .int .i64 (K : Int)] w fun e w' => e = .returned (.tuple #[.int .i64 V, .int .i64 E]) ∧ Ext w w' := by
  subst hV
  subst hE
  exact Try.ref08Div a b K hK w ha1 ha2 hb1 hb2 hb0
theorem Try.ref08ScaleV (a b : Int) (d : Nat) (w : World) (ha1 : -9223372036854775808 ≤ a) (ha2 : a < 9223372036854775808) (hb1 : -9223372036854775808 ≤ b) (hb2 : b < 9223372036854775808) (hd0 : 0 < d) (hd : d < 9223372036854775808) {V E : Int} (hV : fitV (nearR (((a * b : Int) : Rat) / (d : Rat))) = V) (hE : fitE (nearR (((a * b : Int) : Rat) / (d : Rat))) = E) :
    Calls Try.prog 22 #[.int .i64 a, .int .i64 b, .int .i64 (d : Int)] w fun e w' => e = .returned (.tuple #[.int .i64 V, .int .i64 E]) ∧ Ext w w' := by
  subst hV
  subst hE
  exact Try.ref08Scale a b d w ha1 ha2 hb1 hb2 hd0 hd
set_option maxRecDepth 100000 in
set_option maxHeartbeats 4000000 in
theorem Try.lawFixReckons (a b f : Int) (w : World) (ha1 : -9223372036854775808 ≤ a) (ha2 : a < 9223372036854775808) (hb1 : -9223372036854775808 ≤ b) (hb2 : b < 9223372036854775808) :
    Calls Try.prog 7 #[.int .i64 a, .int .i64 b, .int .i64 f] w fun e w' => e = .returned (.bool true) ∧ Ext w w' := by
  obtain ⟨V1, hV1⟩ : ∃ V, fitV (a + b) = V := ⟨_, rfl⟩
  obtain ⟨E1, hE1⟩ : ∃ V, fitE (a + b) = V := ⟨_, rfl⟩
  have HV1 := Lib.hid hV1
  have HE1 := Lib.hid hE1
  clear hV1 hE1
  obtain ⟨V2, hV2⟩ : ∃ V, fitV (a - b) = V := ⟨_, rfl⟩
  obtain ⟨E2, hE2⟩ : ∃ V, fitE (a - b) = V := ⟨_, rfl⟩
  have HV2 := Lib.hid hV2
  have HE2 := Lib.hid hE2
  clear hV2 hE2
  have HB := Lib.hid (show (-9223372036854775808 ≤ a ∧ a < 9223372036854775808) ∧ (-9223372036854775808 ≤ b ∧ b < 9223372036854775808) from ⟨⟨ha1, ha2⟩, ⟨hb1, hb2⟩⟩)
  clear ha1 ha2 hb1 hb2
  cases hf : fracB f
  · have HF := Lib.hid hf
    clear hf
    obtain ⟨W0, hW0⟩ : ∃ W0, W0 = w := ⟨_, rfl⟩
    have E0 : Ext w W0 := by rw [hW0]; exact Ext.refl w
    go_enter Try.func7, Try.ntmps7
    go_wp2_with fail
    rw [← hW0]
    clear hW0
    refine (Try.fixAddV a b _ HB.out.1.1 HB.out.1.2 HB.out.2.1 HB.out.2.2 HV1.out HE1.out).mono ?_
    rintro e V1 ⟨rfl, hE⟩
    replace E0 : Ext w V1 := (Ext.trans E0 hE)
    clear hE
    go_wp2_with fail
    refine (Try.ref08AddV a b _ HB.out.1.1 HB.out.1.2 HB.out.2.1 HB.out.2.2 HV1.out HE1.out).mono ?_
    rintro e V2 ⟨rfl, hE⟩
    replace E0 : Ext w V2 := (Ext.trans E0 hE)
    clear hE
    go_wp2_with fail
    refine (Try.fixSubV a b _ HB.out.1.1 HB.out.1.2 HB.out.2.1 HB.out.2.2 HV2.out HE2.out).mono ?_
    rintro e V3 ⟨rfl, hE⟩
    replace E0 : Ext w V3 := (Ext.trans E0 hE)
    clear hE
    go_wp2_with fail
    refine (Try.ref08SubV a b _ HB.out.1.1 HB.out.1.2 HB.out.2.1 HB.out.2.2 HV2.out HE2.out).mono ?_
    rintro e V4 ⟨rfl, hE⟩
    replace E0 : Ext w V4 := (Ext.trans E0 hE)
    clear hE
    go_wp2_with fail
    refine (Try.fixMulNo a b f _ HF.out).mono ?_
    rintro e V5 ⟨rfl, rfl⟩
    go_wp2_with fail
    refine (Try.ref08MulNo a b f HF.out _).mono ?_
    rintro e V6 ⟨rfl, hE⟩
    replace E0 : Ext w V6 := (Ext.trans E0 hE)
    clear hE
    go_wp2_with fail
    refine (Try.fixDivNo a b f _ HF.out).mono ?_
    rintro e V7 ⟨rfl, rfl⟩
    go_wp2_with fail
    refine (Try.ref08DivNo a b f HF.out _).mono ?_
    rintro e V8 ⟨rfl, hE⟩
    replace E0 : Ext w V8 := (Ext.trans E0 hE)
    clear hE
    go_wp2_with fail
    refine (Try.alive08 _).mono ?_
    rintro e V9 ⟨rfl, hE⟩
    replace E0 : Ext w V9 := (Ext.trans E0 hE)
    clear hE
    go_wp2
    go_ret
    exact ⟨rfl, E0⟩
  · have hf2 := of_decide_eq_true hf
    obtain ⟨K, rfl⟩ := Int.eq_ofNat_of_zero_le hf2.1
    have HF := Lib.hid hf
    have HK : Hid (K ≤ 40) := Lib.hid (by omega)
    clear hf hf2
    obtain ⟨V3, hV3⟩ : ∃ V, fitV (nearR (((a * b : Int) : Rat) / ((2 ^ K : Nat) : Rat))) = V := ⟨_, rfl⟩
    obtain ⟨E3, hE3⟩ : ∃ V, fitE (nearR (((a * b : Int) : Rat) / ((2 ^ K : Nat) : Rat))) = V := ⟨_, rfl⟩
    have HV3 := Lib.hid hV3
    have HE3 := Lib.hid hE3
    clear hV3 hE3
    by_cases hb : b = 0
    · subst hb
      obtain ⟨W0, hW0⟩ : ∃ W0, W0 = w := ⟨_, rfl⟩
      have E0 : Ext w W0 := by rw [hW0]; exact Ext.refl w
      go_enter Try.func7, Try.ntmps7
      go_wp2_with fail
      rw [← hW0]
      clear hW0
      refine (Try.fixAddV a 0 _ HB.out.1.1 HB.out.1.2 HB.out.2.1 HB.out.2.2 HV1.out HE1.out).mono ?_
      rintro e V10 ⟨rfl, hE⟩
      replace E0 : Ext w V10 := (Ext.trans E0 hE)
      clear hE
      go_wp2_with fail
      refine (Try.ref08AddV a 0 _ HB.out.1.1 HB.out.1.2 HB.out.2.1 HB.out.2.2 HV1.out HE1.out).mono ?_
      rintro e V11 ⟨rfl, hE⟩
      replace E0 : Ext w V11 := (Ext.trans E0 hE)
      clear hE
      go_wp2_with fail
      refine (Try.fixSubV a 0 _ HB.out.1.1 HB.out.1.2 HB.out.2.1 HB.out.2.2 HV2.out HE2.out).mono ?_
      rintro e V12 ⟨rfl, hE⟩
      replace E0 : Ext w V12 := (Ext.trans E0 hE)
      clear hE
      go_wp2_with fail
      refine (Try.ref08SubV a 0 _ HB.out.1.1 HB.out.1.2 HB.out.2.1 HB.out.2.2 HV2.out HE2.out).mono ?_
      rintro e V13 ⟨rfl, hE⟩
      replace E0 : Ext w V13 := (Ext.trans E0 hE)
      clear hE
      go_wp2_with fail
      refine (Try.fixMulV a 0 K HK.out _ HB.out.1.1 HB.out.1.2 HB.out.2.1 HB.out.2.2 HV3.out HE3.out).mono ?_
      rintro e V14 ⟨rfl, hE⟩
      replace E0 : Ext w V14 := (Ext.trans E0 hE)
      clear hE
      go_wp2_with fail
      refine (Try.ref08MulV a 0 K HK.out _ HB.out.1.1 HB.out.1.2 HB.out.2.1 HB.out.2.2 HV3.out HE3.out).mono ?_
      rintro e V15 ⟨rfl, hE⟩
      replace E0 : Ext w V15 := (Ext.trans E0 hE)
      clear hE
      go_wp2_with fail
      refine (Try.fixDiv0 a (K : Int) _ HF.out).mono ?_
      rintro e V16 ⟨rfl, rfl⟩
      go_wp2_with fail
      refine (Try.ref08Div0 a (K : Int) HF.out _ HB.out.1.1 HB.out.1.2).mono ?_
      rintro e V17 ⟨rfl, hE⟩
      replace E0 : Ext w V17 := (Ext.trans E0 hE)
      clear hE
      go_wp2_with fail
      refine (Try.alive08 _).mono ?_
      rintro e V18 ⟨rfl, hE⟩
      replace E0 : Ext w V18 := (Ext.trans E0 hE)
      clear hE
      go_wp2
      go_ret
      exact ⟨rfl, E0⟩
    · have HB0 := Lib.hid hb
      clear hb
      obtain ⟨V4, hV4⟩ : ∃ V, fitV (nearR (((a * ((2 ^ K : Nat) : Int) : Int) : Rat) / (b : Rat))) = V := ⟨_, rfl⟩
      obtain ⟨E4, hE4⟩ : ∃ V, fitE (nearR (((a * ((2 ^ K : Nat) : Int) : Int) : Rat) / (b : Rat))) = V := ⟨_, rfl⟩
      have HV4 := Lib.hid hV4
      have HE4 := Lib.hid hE4
      clear hV4 hE4
      obtain ⟨W0, hW0⟩ : ∃ W0, W0 = w := ⟨_, rfl⟩
      have E0 : Ext w W0 := by rw [hW0]; exact Ext.refl w
      go_enter Try.func7, Try.ntmps7
      go_wp2_with fail
      rw [← hW0]
      clear hW0
      refine (Try.fixAddV a b _ HB.out.1.1 HB.out.1.2 HB.out.2.1 HB.out.2.2 HV1.out HE1.out).mono ?_
      rintro e V19 ⟨rfl, hE⟩
      replace E0 : Ext w V19 := (Ext.trans E0 hE)
      clear hE
      go_wp2_with fail
      refine (Try.ref08AddV a b _ HB.out.1.1 HB.out.1.2 HB.out.2.1 HB.out.2.2 HV1.out HE1.out).mono ?_
      rintro e V20 ⟨rfl, hE⟩
      replace E0 : Ext w V20 := (Ext.trans E0 hE)
      clear hE
      go_wp2_with fail
      refine (Try.fixSubV a b _ HB.out.1.1 HB.out.1.2 HB.out.2.1 HB.out.2.2 HV2.out HE2.out).mono ?_
      rintro e V21 ⟨rfl, hE⟩
      replace E0 : Ext w V21 := (Ext.trans E0 hE)
      clear hE
      go_wp2_with fail
      refine (Try.ref08SubV a b _ HB.out.1.1 HB.out.1.2 HB.out.2.1 HB.out.2.2 HV2.out HE2.out).mono ?_
      rintro e V22 ⟨rfl, hE⟩
      replace E0 : Ext w V22 := (Ext.trans E0 hE)
      clear hE
      go_wp2_with fail
      refine (Try.fixMulV a b K HK.out _ HB.out.1.1 HB.out.1.2 HB.out.2.1 HB.out.2.2 HV3.out HE3.out).mono ?_
      rintro e V23 ⟨rfl, hE⟩
      replace E0 : Ext w V23 := (Ext.trans E0 hE)
      clear hE
      go_wp2_with fail
      refine (Try.ref08MulV a b K HK.out _ HB.out.1.1 HB.out.1.2 HB.out.2.1 HB.out.2.2 HV3.out HE3.out).mono ?_
      rintro e V24 ⟨rfl, hE⟩
      replace E0 : Ext w V24 := (Ext.trans E0 hE)
      clear hE
      go_wp2_with fail
      refine (Try.fixDivV a b K HK.out _ HB.out.1.1 HB.out.1.2 HB.out.2.1 HB.out.2.2 HB0.out HV4.out HE4.out).mono ?_
      rintro e V25 ⟨rfl, hE⟩
      replace E0 : Ext w V25 := (Ext.trans E0 hE)
      clear hE
      go_wp2_with fail
      refine (Try.ref08DivV a b K HK.out _ HB.out.1.1 HB.out.1.2 HB.out.2.1 HB.out.2.2 HB0.out HV4.out HE4.out).mono ?_
      rintro e V26 ⟨rfl, hE⟩
      replace E0 : Ext w V26 := (Ext.trans E0 hE)
      clear hE
      go_wp2_with fail
      refine (Try.alive08 _).mono ?_
      rintro e V27 ⟨rfl, hE⟩
      replace E0 : Ext w V27 := (Ext.trans E0 hE)
      clear hE
      go_wp2
      go_ret
      exact ⟨rfl, E0⟩

end Go.Rt
