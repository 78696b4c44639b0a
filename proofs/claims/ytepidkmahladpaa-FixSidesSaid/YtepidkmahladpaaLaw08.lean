/-
  The laws of chapter 08 (numbers of a fixed point): Agree, Sides, Order: their walks.
-/
import Derived.Test.YtepidkmahladpaaFixD
namespace Go.Rt
open Go.RowKit Go.Proofs

theorem nearR_int (z : Int) : nearR (z : Rat) = z := by
  have := near_sgn_ratio (decide (z < 0)) z.natAbs 1 (by decide)
  rw [sgn_of] at this
  rw [show (z : Rat) = (z : Rat) / ((1 : Nat) : Rat) by rw [show ((1 : Nat) : Rat) = 1 from rfl]; grind, this]
  unfold nearN
  rw [Nat.div_one, Nat.mod_one, if_neg (by omega), sgn_of]
theorem nearR_mul_div (a : Int) {b : Nat} (hb : 0 < b) : nearR (((a * (b : Int) : Int) : Rat) / (b : Rat)) = a := by
  rw [Rat.intCast_mul, Rat.intCast_natCast, Rat.mul_div_cancel (by exact_mod_cast (show b ≠ 0 by omega)), nearR_int]
theorem fitV_ok {a : Int} (h1 : -9223372036854775808 ≤ a) (h2 : a < 9223372036854775808) : fitV a = a := fitV_in (fits_iff.2 ⟨h1, h2⟩)
theorem fitE_ok {a : Int} (h1 : -9223372036854775808 ≤ a) (h2 : a < 9223372036854775808) : fitE a = 0 := fitE_in (fits_iff.2 ⟨h1, h2⟩)
theorem fitE_0 {a : Int} (h : fitE a = 0) : fitV a = a := by
  cases hq : fits a
  · rw [fitE_out hq] at h; cases h
  · exact fitV_in hq
theorem fitE_2 {a : Int} : fitE a = 0 ∨ fitE a = 2 := by
  cases hq : fits a
  · exact Or.inr (fitE_out hq)
  · exact Or.inl (fitE_in hq)

set_option maxRecDepth 100000 in
set_option maxHeartbeats 4000000 in
theorem Try.lawFixAgree (a b f : Int) (w : World) (ha1 : -9223372036854775808 ≤ a) (ha2 : a < 9223372036854775808) (hb1 : -9223372036854775808 ≤ b) (hb2 : b < 9223372036854775808) :
    Calls Try.prog 6 #[.int .i64 a, .int .i64 b, .int .i64 f] w fun e w' => e = .returned (.bool true) ∧ Ext w w' := by
  by_cases hf1 : f < 0
  · have hf1d : decide (f < 0) = true := decide_eq_true hf1
    obtain ⟨W0, hW0⟩ : ∃ W0, W0 = w := ⟨_, rfl⟩
    have E0 : Ext w W0 := by rw [hW0]; exact Ext.refl w
    go_enter Try.func6, Try.ntmps6
    go_wp2_with fail
    rw [← hW0]
    clear hW0
    refine (Try.alive08 _).mono ?_
    rintro e V1 ⟨rfl, hE⟩
    replace E0 : Ext w V1 := (Ext.trans E0 hE)
    clear hE
    go_wp2
    go_ret
    exact ⟨rfl, E0⟩
  · by_cases hf2 : 40 < f
    · have hf1d : decide (f < 0) = false := decide_eq_false hf1
      have hf2d : decide (40 < f) = true := decide_eq_true hf2
      obtain ⟨W0, hW0⟩ : ∃ W0, W0 = w := ⟨_, rfl⟩
      have E0 : Ext w W0 := by rw [hW0]; exact Ext.refl w
      go_enter Try.func6, Try.ntmps6
      go_wp2_with fail
      rw [← hW0]
      clear hW0
      refine (Try.alive08 _).mono ?_
      rintro e V2 ⟨rfl, hE⟩
      replace E0 : Ext w V2 := (Ext.trans E0 hE)
      clear hE
      go_wp2
      go_ret
      exact ⟨rfl, E0⟩
    · obtain ⟨K, rfl⟩ := Int.eq_ofNat_of_zero_le (show 0 ≤ f by omega)
      have hK : K ≤ 40 := by omega
      have hf1d : decide ((K : Int) < 0) = false := decide_eq_false hf1
      have hf2d : decide (40 < (K : Int)) = false := decide_eq_false hf2
      have hf2n : decide (40 < K) = false := decide_eq_false (by omega)
      obtain ⟨P, hP⟩ : ∃ P, P = 2 ^ K := ⟨_, rfl⟩
      have hP0 : 0 < P := by rw [hP]; exact Nat.two_pow_pos K
      have hPb : P ≤ 1099511627776 := by rw [hP]; exact Nat.le_trans (Nat.pow_le_pow_right (by omega) hK) (by decide)
      have hsh : IntKind.i64.wrap (2 ^ K) = (P : Int) := by rw [show ((2 : Int) ^ K) = ((2 ^ K : Nat) : Int) by simp, ← hP, IntKind.wrap_i64]; omega
      obtain ⟨V, hV⟩ : ∃ V, fitV (nearR (((a * b : Int) : Rat) / ((2 ^ K : Nat) : Rat))) = V := ⟨_, rfl⟩
      obtain ⟨E, hE⟩ : ∃ V, fitE (nearR (((a * b : Int) : Rat) / ((2 ^ K : Nat) : Rat))) = V := ⟨_, rfl⟩
      have hV' : fitV (nearR (((a * b : Int) : Rat) / (P : Rat))) = V := by rw [hP]; exact hV
      have hE' : fitE (nearR (((a * b : Int) : Rat) / (P : Rat))) = E := by rw [hP]; exact hE
      have HV := Lib.hid hV
      have HEE := Lib.hid hE
      have HV' := Lib.hid hV'
      have HE' := Lib.hid hE'
      clear hV hE hV' hE'
      by_cases hb : b < 1
      · have hbd : decide (b < 1) = true := decide_eq_true hb
        clear hP
        have b1 := ha1
        have HB := Lib.hid (show (-9223372036854775808 ≤ a ∧ a < 9223372036854775808) ∧ (-9223372036854775808 ≤ b ∧ b < 9223372036854775808) ∧ (0 < P ∧ P < 9223372036854775808) by omega)
        have HK := Lib.hid hK
        clear b1 hK hP0 hPb
        clear ha1 ha2 hb1 hb2
        obtain ⟨W0, hW0⟩ : ∃ W0, W0 = w := ⟨_, rfl⟩
        have E0 : Ext w W0 := by rw [hW0]; exact Ext.refl w
        go_enter Try.func6, Try.ntmps6
        go_wp2_with fail
        rw [← hW0]
        clear hW0
        refine (Try.fixMulV a b K HK.out _ HB.out.1.1 HB.out.1.2 HB.out.2.1.1 HB.out.2.1.2 HV.out HEE.out).mono ?_
        rintro e V3 ⟨rfl, hE⟩
        replace E0 : Ext w V3 := (Ext.trans E0 hE)
        clear hE
        go_wp2_with fail
        refine (Try.fixScaleV a b P _ HB.out.1.1 HB.out.1.2 HB.out.2.1.1 HB.out.2.1.2 HB.out.2.2.1 HB.out.2.2.2 HV'.out HE'.out).mono ?_
        rintro e V4 ⟨rfl, hE⟩
        replace E0 : Ext w V4 := (Ext.trans E0 hE)
        clear hE
        go_wp2_with fail
        refine (Try.alive08 _).mono ?_
        rintro e V5 ⟨rfl, hE⟩
        replace E0 : Ext w V5 := (Ext.trans E0 hE)
        clear hE
        go_wp2
        go_ret
        exact ⟨rfl, E0⟩
      · obtain ⟨B, rfl⟩ := Int.eq_ofNat_of_zero_le (show 0 ≤ b by omega)
        have hbd : decide ((B : Int) < 1) = false := decide_eq_false hb
        have hB0 : 0 < B := by omega
        have hBne : (B : Int) ≠ 0 := by omega
        have hB63 : B < 9223372036854775808 := by omega
        obtain ⟨V2, hV2⟩ : ∃ V, fitV (nearR (((a * ((2 ^ K : Nat) : Int) : Int) : Rat) / (((B : Int)) : Rat))) = V := ⟨_, rfl⟩
        obtain ⟨E2, hE2⟩ : ∃ V, fitE (nearR (((a * ((2 ^ K : Nat) : Int) : Int) : Rat) / (((B : Int)) : Rat))) = V := ⟨_, rfl⟩
        have hV3 : fitV (nearR (((a * (P : Int) : Int) : Rat) / (B : Rat))) = V2 := by rw [hP, ← Rat.intCast_natCast B]; exact hV2
        have hE3 : fitE (nearR (((a * (P : Int) : Int) : Rat) / (B : Rat))) = E2 := by rw [hP, ← Rat.intCast_natCast B]; exact hE2
        have hV4 : fitV (nearR (((a * (B : Int) : Int) : Rat) / (B : Rat))) = a := by rw [nearR_mul_div a hB0]; exact fitV_ok ha1 ha2
        have hE4 : fitE (nearR (((a * (B : Int) : Int) : Rat) / (B : Rat))) = 0 := by rw [nearR_mul_div a hB0]; exact fitE_ok ha1 ha2
        have HV2 := Lib.hid hV2
        clear hV2
        have HE2 := Lib.hid hE2
        clear hE2
        have HV3 := Lib.hid hV3
        clear hV3
        have HE3 := Lib.hid hE3
        clear hE3
        have HV4 := Lib.hid hV4
        clear hV4
        have HE4 := Lib.hid hE4
        clear hE4
        clear hP
        have b1 := ha1
        have HB := Lib.hid (show (-9223372036854775808 ≤ a ∧ a < 9223372036854775808) ∧ (-9223372036854775808 ≤ (B : Int) ∧ (B : Int) < 9223372036854775808) ∧ (0 < P ∧ P < 9223372036854775808) by omega)
        have HK := Lib.hid hK
        clear b1 hK hP0 hPb
        have HB2 := Lib.hid (show 0 < B ∧ (B : Int) ≠ 0 ∧ B < 9223372036854775808 from ⟨hB0, hBne, hB63⟩)
        clear hB0 hBne hB63
        clear ha1 ha2 hb1 hb2
        obtain ⟨W0, hW0⟩ : ∃ W0, W0 = w := ⟨_, rfl⟩
        have E0 : Ext w W0 := by rw [hW0]; exact Ext.refl w
        go_enter Try.func6, Try.ntmps6
        go_wp2_with fail
        rw [← hW0]
        clear hW0
        refine (Try.fixMulV a (B : Int) K HK.out _ HB.out.1.1 HB.out.1.2 HB.out.2.1.1 HB.out.2.1.2 HV.out HEE.out).mono ?_
        rintro e V6 ⟨rfl, hE⟩
        replace E0 : Ext w V6 := (Ext.trans E0 hE)
        clear hE
        go_wp2_with fail
        refine (Try.fixScaleV a (B : Int) P _ HB.out.1.1 HB.out.1.2 HB.out.2.1.1 HB.out.2.1.2 HB.out.2.2.1 HB.out.2.2.2 HV'.out HE'.out).mono ?_
        rintro e V7 ⟨rfl, hE⟩
        replace E0 : Ext w V7 := (Ext.trans E0 hE)
        clear hE
        go_wp2_with fail
        refine (Try.fixDivV a (B : Int) K HK.out _ HB.out.1.1 HB.out.1.2 HB.out.2.1.1 HB.out.2.1.2 HB2.out.2.1 HV2.out HE2.out).mono ?_
        rintro e V8 ⟨rfl, hE⟩
        replace E0 : Ext w V8 := (Ext.trans E0 hE)
        clear hE
        go_wp2_with fail
        refine (Try.fixScaleV a (P : Int) B _ HB.out.1.1 HB.out.1.2 (by have := HB.out; omega) (by have := HB.out; omega) HB2.out.1 HB2.out.2.2 HV3.out HE3.out).mono ?_
        rintro e V9 ⟨rfl, hE⟩
        replace E0 : Ext w V9 := (Ext.trans E0 hE)
        clear hE
        go_wp2_with fail
        refine (Try.fixScaleV a (B : Int) B _ HB.out.1.1 HB.out.1.2 HB.out.2.1.1 HB.out.2.1.2 HB2.out.1 HB2.out.2.2 HV4.out HE4.out).mono ?_
        rintro e V10 ⟨rfl, hE⟩
        replace E0 : Ext w V10 := (Ext.trans E0 hE)
        clear hE
        go_wp2_with fail
        refine (Try.alive08 _).mono ?_
        rintro e V11 ⟨rfl, hE⟩
        replace E0 : Ext w V11 := (Ext.trans E0 hE)
        clear hE
        go_wp2
        go_ret
        exact ⟨rfl, E0⟩
set_option maxRecDepth 100000 in
set_option maxHeartbeats 4000000 in
theorem Try.lawFixSides (a b f : Int) (w : World) (ha1 : -9223372036854775808 ≤ a) (ha2 : a < 9223372036854775808) (hb1 : -9223372036854775808 ≤ b) (hb2 : b < 9223372036854775808) :
    Calls Try.prog 8 #[.int .i64 a, .int .i64 b, .int .i64 f] w fun e w' => e = .returned (.bool true) ∧ Ext w w' := by
  by_cases hf1 : f < 0
  · have hf1d : decide (f < 0) = true := decide_eq_true hf1
    obtain ⟨W0, hW0⟩ : ∃ W0, W0 = w := ⟨_, rfl⟩
    have E0 : Ext w W0 := by rw [hW0]; exact Ext.refl w
    go_enter Try.func8, Try.ntmps8
    go_wp2_with fail
    rw [← hW0]
    clear hW0
    refine (Try.alive08 _).mono ?_
    rintro e V12 ⟨rfl, hE⟩
    replace E0 : Ext w V12 := (Ext.trans E0 hE)
    clear hE
    go_wp2
    go_ret
    exact ⟨rfl, E0⟩
  · by_cases hf2 : 40 < f
    · have hf1d : decide (f < 0) = false := decide_eq_false hf1
      have hf2d : decide (40 < f) = true := decide_eq_true hf2
      obtain ⟨W0, hW0⟩ : ∃ W0, W0 = w := ⟨_, rfl⟩
      have E0 : Ext w W0 := by rw [hW0]; exact Ext.refl w
      go_enter Try.func8, Try.ntmps8
      go_wp2_with fail
      rw [← hW0]
      clear hW0
      refine (Try.alive08 _).mono ?_
      rintro e V13 ⟨rfl, hE⟩
      replace E0 : Ext w V13 := (Ext.trans E0 hE)
      clear hE
      go_wp2
      go_ret
      exact ⟨rfl, E0⟩
    · obtain ⟨K, rfl⟩ := Int.eq_ofNat_of_zero_le (show 0 ≤ f by omega)
      have hK : K ≤ 40 := by omega
      have hf1d : decide ((K : Int) < 0) = false := decide_eq_false hf1
      have hf2d : decide (40 < (K : Int)) = false := decide_eq_false hf2
      have hf2n : decide (40 < K) = false := decide_eq_false (by omega)
      by_cases hma : a = -9223372036854775808
      · subst hma
        obtain ⟨W0, hW0⟩ : ∃ W0, W0 = w := ⟨_, rfl⟩
        have E0 : Ext w W0 := by rw [hW0]; exact Ext.refl w
        go_enter Try.func8, Try.ntmps8
        go_wp2_with fail
        rw [← hW0]
        clear hW0
        refine (Try.alive08 _).mono ?_
        rintro e V14 ⟨rfl, hE⟩
        replace E0 : Ext w V14 := (Ext.trans E0 hE)
        clear hE
        go_wp2
        go_ret
        exact ⟨rfl, E0⟩
      · have hmad : (a == -9223372036854775808) = false := beq_eq_false_iff_ne.2 hma
        by_cases hmb : b = -9223372036854775808
        · subst hmb
          obtain ⟨W0, hW0⟩ : ∃ W0, W0 = w := ⟨_, rfl⟩
          have E0 : Ext w W0 := by rw [hW0]; exact Ext.refl w
          go_enter Try.func8, Try.ntmps8
          go_wp2_with fail
          rw [← hW0]
          clear hW0
          refine (Try.alive08 _).mono ?_
          rintro e V15 ⟨rfl, hE⟩
          replace E0 : Ext w V15 := (Ext.trans E0 hE)
          clear hE
          go_wp2
          go_ret
          exact ⟨rfl, E0⟩
        · have hmbd : (b == -9223372036854775808) = false := beq_eq_false_iff_ne.2 hmb
          obtain ⟨P, hP⟩ : ∃ P, P = 2 ^ K := ⟨_, rfl⟩
          have hP0 : 0 < P := by rw [hP]; exact Nat.two_pow_pos K
          have hPb : P ≤ 1099511627776 := by rw [hP]; exact Nat.le_trans (Nat.pow_le_pow_right (by omega) hK) (by decide)
          have hsh : IntKind.i64.wrap (2 ^ K) = (P : Int) := by rw [show ((2 : Int) ^ K) = ((2 ^ K : Nat) : Int) by simp, ← hP, IntKind.wrap_i64]; omega
          obtain ⟨X, hX⟩ : ∃ X, X = nearR (((a * b : Int) : Rat) / ((2 ^ K : Nat) : Rat)) := ⟨_, rfl⟩
          have hX1 : nearR (((-a * b : Int) : Rat) / ((2 ^ K : Nat) : Rat)) = -X := by rw [hX, Int.neg_mul, Rat.intCast_neg, Rat.div_def, Rat.neg_mul, ← Rat.div_def, near_neg]
          have hX2 : nearR (((b * a : Int) : Rat) / ((2 ^ K : Nat) : Rat)) = X := by rw [hX, Int.mul_comm]
          have hU1 : fitV (nearR (((a * (P : Int) : Int) : Rat) / ((2 ^ K : Nat) : Rat))) = a := by rw [← hP, nearR_mul_div a hP0]; exact fitV_ok ha1 ha2
          have hU2 : fitE (nearR (((a * (P : Int) : Int) : Rat) / ((2 ^ K : Nat) : Rat))) = 0 := by rw [← hP, nearR_mul_div a hP0]; exact fitE_ok ha1 ha2
          have hD1 : fitV (nearR (((a * ((2 ^ K : Nat) : Int) : Int) : Rat) / (((P : Int)) : Rat))) = a := by rw [← hP, Rat.intCast_natCast, nearR_mul_div a hP0]; exact fitV_ok ha1 ha2
          have hD2 : fitE (nearR (((a * ((2 ^ K : Nat) : Int) : Int) : Rat) / (((P : Int)) : Rat))) = 0 := by rw [← hP, Rat.intCast_natCast, nearR_mul_div a hP0]; exact fitE_ok ha1 ha2
          have hwn : IntKind.i64.wrap (-a) = -a := by rw [IntKind.wrap_i64]; omega
          have hPz : ((P : Int)) ≠ 0 := by omega
          have HU1 := Lib.hid hU1
          clear hU1
          have HU2 := Lib.hid hU2
          clear hU2
          have HD1 := Lib.hid hD1
          clear hD1
          have HD2 := Lib.hid hD2
          clear hD2
          have HB := Lib.hid (show (-9223372036854775808 ≤ a ∧ a < 9223372036854775808) ∧ (-9223372036854775808 ≤ b ∧ b < 9223372036854775808) ∧ (-9223372036854775808 ≤ (P : Int) ∧ (P : Int) < 9223372036854775808) ∧ (-9223372036854775808 ≤ -a ∧ -a < 9223372036854775808) ∧ (P : Int) ≠ 0 by omega)
          have HK := Lib.hid hK
          by_cases hb0 : b = 0
          · subst hb0
            have HKF : Hid (fracB (K : Int) = true) := Lib.hid (decide_eq_true (by omega))
            obtain hxe | hxe := fitE_2 (a := X)
            · obtain hxn | hxn := fitE_2 (a := -X)
              · obtain hde | hde := fitE_2 (a := a - 0)
                · obtain ⟨Vq, hVq⟩ : ∃ V, V = -X := ⟨_, rfl⟩
                  have hq1 : fitV (nearR (((-a * 0 : Int) : Rat) / ((2 ^ K : Nat) : Rat))) = Vq := by rw [hX1, hVq]; exact fitE_0 hxn
                  have hq2 : fitE (nearR (((-a * 0 : Int) : Rat) / ((2 ^ K : Nat) : Rat))) = 0 := by rw [hX1]; exact hxn
                  have hVp : fitV X = -Vq := by rw [fitE_0 hxe, hVq]; omega
                  have hVw : IntKind.i64.wrap (-Vq) = -Vq := by
                    have h1 := fitE_0 hxe
                    have h2 : fits X = true := by cases hh : fits X; rw [fitE_out hh] at hxe; cases hxe; rfl
                    have h3 := fits_iff.1 h2
                    rw [IntKind.wrap_i64]; omega
                  clear hVq
                  have hp1 : fitV (nearR (((a * 0 : Int) : Rat) / ((2 ^ K : Nat) : Rat))) = (-Vq) := by rw [← hX]; exact hVp
                  have hp2 : fitE (nearR (((a * 0 : Int) : Rat) / ((2 ^ K : Nat) : Rat))) = 0 := by rw [← hX]; exact hxe
                  have hr1 : fitV (nearR (((0 * a : Int) : Rat) / ((2 ^ K : Nat) : Rat))) = (-Vq) := by rw [hX2]; exact hVp
                  have hr2 : fitE (nearR (((0 * a : Int) : Rat) / ((2 ^ K : Nat) : Rat))) = 0 := by rw [hX2]; exact hxe
                  have Hp1 := Lib.hid hp1
                  clear hp1
                  have Hp2 := Lib.hid hp2
                  clear hp2
                  have Hq1 := Lib.hid hq1
                  clear hq1
                  have Hq2 := Lib.hid hq2
                  clear hq2
                  have Hr1 := Lib.hid hr1
                  clear hr1
                  have Hr2 := Lib.hid hr2
                  clear hr2
                  clear hVp hxe hxn
                  obtain ⟨D, hD⟩ : ∃ D, D = a - 0 := ⟨_, rfl⟩
                  have hm1 : fitV (a - 0) = D := by rw [hD]; exact fitE_0 hde
                  have hm2 : fitE (a - 0) = 0 := hde
                  have hDb : -9223372036854775808 ≤ D ∧ D < 9223372036854775808 := by
                    have h2 : fits (a - 0) = true := by cases hh : fits (a - 0); rw [fitE_out hh] at hde; cases hde; rfl
                    rw [hD]; exact fits_iff.1 h2
                  have hn1 : fitV (D + 0) = a := by rw [show D + 0 = a by omega]; exact fitV_ok ha1 ha2
                  have hn2 : fitE (D + 0) = 0 := by rw [show D + 0 = a by omega]; exact fitE_ok ha1 ha2
                  have HDb := Lib.hid hDb
                  clear hD hDb
                  have Hm1 := Lib.hid hm1
                  clear hm1
                  have Hm2 := Lib.hid hm2
                  clear hm2
                  have Hn1 := Lib.hid hn1
                  clear hn1
                  have Hn2 := Lib.hid hn2
                  clear hn2
                  clear hde
                  clear ha1 ha2 hb1 hb2 hma hmb hK hP0 hPb hX1 hX2 hX hP
                  obtain ⟨W0, hW0⟩ : ∃ W0, W0 = w := ⟨_, rfl⟩
                  have E0 : Ext w W0 := by rw [hW0]; exact Ext.refl w
                  go_enter Try.func8, Try.ntmps8
                  go_wp2_with fail
                  rw [← hW0]
                  clear hW0
                  refine (Try.fixMulV a 0 K HK.out _ HB.out.1.1 HB.out.1.2 HB.out.2.1.1 HB.out.2.1.2 Hp1.out Hp2.out).mono ?_
                  rintro e V16 ⟨rfl, hE⟩
                  replace E0 : Ext w V16 := (Ext.trans E0 hE)
                  clear hE
                  go_wp2_with fail
                  refine (Try.fixMulV (-a) 0 K HK.out _ HB.out.2.2.2.1.1 HB.out.2.2.2.1.2 HB.out.2.1.1 HB.out.2.1.2 Hq1.out Hq2.out).mono ?_
                  rintro e V17 ⟨rfl, hE⟩
                  replace E0 : Ext w V17 := (Ext.trans E0 hE)
                  clear hE
                  go_wp2_with fail
                  refine (Try.fixMulV 0 a K HK.out _ HB.out.2.1.1 HB.out.2.1.2 HB.out.1.1 HB.out.1.2 Hr1.out Hr2.out).mono ?_
                  rintro e V18 ⟨rfl, hE⟩
                  replace E0 : Ext w V18 := (Ext.trans E0 hE)
                  clear hE
                  go_wp2_with fail
                  refine (Try.fixDiv0 a (K : Int) _ HKF.out).mono ?_
                  rintro e V19 ⟨rfl, rfl⟩
                  go_wp2_with fail
                  refine (Try.fixDiv0 (-a) (K : Int) _ HKF.out).mono ?_
                  rintro e V20 ⟨rfl, rfl⟩
                  go_wp2_with fail
                  refine (Try.fixMulV a (P : Int) K HK.out _ HB.out.1.1 HB.out.1.2 HB.out.2.2.1.1 HB.out.2.2.1.2 HU1.out HU2.out).mono ?_
                  rintro e V21 ⟨rfl, hE⟩
                  replace E0 : Ext w V21 := (Ext.trans E0 hE)
                  clear hE
                  go_wp2_with fail
                  refine (Try.fixDivV a (P : Int) K HK.out _ HB.out.1.1 HB.out.1.2 HB.out.2.2.1.1 HB.out.2.2.1.2 HB.out.2.2.2.2 HD1.out HD2.out).mono ?_
                  rintro e V22 ⟨rfl, hE⟩
                  replace E0 : Ext w V22 := (Ext.trans E0 hE)
                  clear hE
                  go_wp2_with fail
                  refine (Try.fixSubV a 0 _ HB.out.1.1 HB.out.1.2 HB.out.2.1.1 HB.out.2.1.2 Hm1.out Hm2.out).mono ?_
                  rintro e V23 ⟨rfl, hE⟩
                  replace E0 : Ext w V23 := (Ext.trans E0 hE)
                  clear hE
                  go_wp2_with fail
                  refine (Try.fixAddV D 0 _ HDb.out.1 HDb.out.2 HB.out.2.1.1 HB.out.2.1.2 Hn1.out Hn2.out).mono ?_
                  rintro e V24 ⟨rfl, hE⟩
                  replace E0 : Ext w V24 := (Ext.trans E0 hE)
                  clear hE
                  go_wp2_with fail
                  refine (Try.alive08 _).mono ?_
                  rintro e V25 ⟨rfl, hE⟩
                  replace E0 : Ext w V25 := (Ext.trans E0 hE)
                  clear hE
                  go_wp2
                  go_ret
                  exact ⟨rfl, E0⟩
                · obtain ⟨Vq, hVq⟩ : ∃ V, V = -X := ⟨_, rfl⟩
                  have hq1 : fitV (nearR (((-a * 0 : Int) : Rat) / ((2 ^ K : Nat) : Rat))) = Vq := by rw [hX1, hVq]; exact fitE_0 hxn
                  have hq2 : fitE (nearR (((-a * 0 : Int) : Rat) / ((2 ^ K : Nat) : Rat))) = 0 := by rw [hX1]; exact hxn
                  have hVp : fitV X = -Vq := by rw [fitE_0 hxe, hVq]; omega
                  have hVw : IntKind.i64.wrap (-Vq) = -Vq := by
                    have h1 := fitE_0 hxe
                    have h2 : fits X = true := by cases hh : fits X; rw [fitE_out hh] at hxe; cases hxe; rfl
                    have h3 := fits_iff.1 h2
                    rw [IntKind.wrap_i64]; omega
                  clear hVq
                  have hp1 : fitV (nearR (((a * 0 : Int) : Rat) / ((2 ^ K : Nat) : Rat))) = (-Vq) := by rw [← hX]; exact hVp
                  have hp2 : fitE (nearR (((a * 0 : Int) : Rat) / ((2 ^ K : Nat) : Rat))) = 0 := by rw [← hX]; exact hxe
                  have hr1 : fitV (nearR (((0 * a : Int) : Rat) / ((2 ^ K : Nat) : Rat))) = (-Vq) := by rw [hX2]; exact hVp
                  have hr2 : fitE (nearR (((0 * a : Int) : Rat) / ((2 ^ K : Nat) : Rat))) = 0 := by rw [hX2]; exact hxe
                  have Hp1 := Lib.hid hp1
                  clear hp1
                  have Hp2 := Lib.hid hp2
                  clear hp2
                  have Hq1 := Lib.hid hq1
                  clear hq1
                  have Hq2 := Lib.hid hq2
                  clear hq2
                  have Hr1 := Lib.hid hr1
                  clear hr1
                  have Hr2 := Lib.hid hr2
                  clear hr2
                  clear hVp hxe hxn
                  have hm1 : fitV (a - 0) = 0 := by
                    have h2 : fits (a - 0) = false := by cases hh : fits (a - 0); rfl; rw [fitE_in hh] at hde; cases hde
                    exact fitV_out h2
                  have hm2 : fitE (a - 0) = 2 := hde
                  obtain ⟨Vn, hn1⟩ : ∃ V, fitV (0 + 0) = V := ⟨_, rfl⟩
                  obtain ⟨En, hn2⟩ : ∃ V, fitE (0 + 0) = V := ⟨_, rfl⟩
                  have Hm1 := Lib.hid hm1
                  clear hm1
                  have Hm2 := Lib.hid hm2
                  clear hm2
                  have Hn1 := Lib.hid hn1
                  clear hn1
                  have Hn2 := Lib.hid hn2
                  clear hn2
                  clear hde
                  clear ha1 ha2 hb1 hb2 hma hmb hK hP0 hPb hX1 hX2 hX hP
                  obtain ⟨W0, hW0⟩ : ∃ W0, W0 = w := ⟨_, rfl⟩
                  have E0 : Ext w W0 := by rw [hW0]; exact Ext.refl w
                  go_enter Try.func8, Try.ntmps8
                  go_wp2_with fail
                  rw [← hW0]
                  clear hW0
                  refine (Try.fixMulV a 0 K HK.out _ HB.out.1.1 HB.out.1.2 HB.out.2.1.1 HB.out.2.1.2 Hp1.out Hp2.out).mono ?_
                  rintro e V26 ⟨rfl, hE⟩
                  replace E0 : Ext w V26 := (Ext.trans E0 hE)
                  clear hE
                  go_wp2_with fail
                  refine (Try.fixMulV (-a) 0 K HK.out _ HB.out.2.2.2.1.1 HB.out.2.2.2.1.2 HB.out.2.1.1 HB.out.2.1.2 Hq1.out Hq2.out).mono ?_
                  rintro e V27 ⟨rfl, hE⟩
                  replace E0 : Ext w V27 := (Ext.trans E0 hE)
                  clear hE
                  go_wp2_with fail
                  refine (Try.fixMulV 0 a K HK.out _ HB.out.2.1.1 HB.out.2.1.2 HB.out.1.1 HB.out.1.2 Hr1.out Hr2.out).mono ?_
                  rintro e V28 ⟨rfl, hE⟩
                  replace E0 : Ext w V28 := (Ext.trans E0 hE)
                  clear hE
                  go_wp2_with fail
                  refine (Try.fixDiv0 a (K : Int) _ HKF.out).mono ?_
                  rintro e V29 ⟨rfl, rfl⟩
                  go_wp2_with fail
                  refine (Try.fixDiv0 (-a) (K : Int) _ HKF.out).mono ?_
                  rintro e V30 ⟨rfl, rfl⟩
                  go_wp2_with fail
                  refine (Try.fixMulV a (P : Int) K HK.out _ HB.out.1.1 HB.out.1.2 HB.out.2.2.1.1 HB.out.2.2.1.2 HU1.out HU2.out).mono ?_
                  rintro e V31 ⟨rfl, hE⟩
                  replace E0 : Ext w V31 := (Ext.trans E0 hE)
                  clear hE
                  go_wp2_with fail
                  refine (Try.fixDivV a (P : Int) K HK.out _ HB.out.1.1 HB.out.1.2 HB.out.2.2.1.1 HB.out.2.2.1.2 HB.out.2.2.2.2 HD1.out HD2.out).mono ?_
                  rintro e V32 ⟨rfl, hE⟩
                  replace E0 : Ext w V32 := (Ext.trans E0 hE)
                  clear hE
                  go_wp2_with fail
                  refine (Try.fixSubV a 0 _ HB.out.1.1 HB.out.1.2 HB.out.2.1.1 HB.out.2.1.2 Hm1.out Hm2.out).mono ?_
                  rintro e V33 ⟨rfl, hE⟩
                  replace E0 : Ext w V33 := (Ext.trans E0 hE)
                  clear hE
                  go_wp2_with fail
                  refine (Try.fixAddV 0 0 _ (by omega) (by omega) HB.out.2.1.1 HB.out.2.1.2 Hn1.out Hn2.out).mono ?_
                  rintro e V34 ⟨rfl, hE⟩
                  replace E0 : Ext w V34 := (Ext.trans E0 hE)
                  clear hE
                  go_wp2_with fail
                  refine (Try.alive08 _).mono ?_
                  rintro e V35 ⟨rfl, hE⟩
                  replace E0 : Ext w V35 := (Ext.trans E0 hE)
                  clear hE
                  go_wp2
                  go_ret
                  exact ⟨rfl, E0⟩
              · obtain hde | hde := fitE_2 (a := a - 0)
                · obtain ⟨Vq, hq1⟩ : ∃ V, fitV (nearR (((-a * 0 : Int) : Rat) / ((2 ^ K : Nat) : Rat))) = V := ⟨_, rfl⟩
                  have hq2 : fitE (nearR (((-a * 0 : Int) : Rat) / ((2 ^ K : Nat) : Rat))) = 2 := by rw [hX1]; exact hxn
                  obtain ⟨Vp, hVp⟩ : ∃ V, fitV X = V := ⟨_, rfl⟩
                  have hp1 : fitV (nearR (((a * 0 : Int) : Rat) / ((2 ^ K : Nat) : Rat))) = Vp := by rw [← hX]; exact hVp
                  have hp2 : fitE (nearR (((a * 0 : Int) : Rat) / ((2 ^ K : Nat) : Rat))) = 0 := by rw [← hX]; exact hxe
                  have hr1 : fitV (nearR (((0 * a : Int) : Rat) / ((2 ^ K : Nat) : Rat))) = Vp := by rw [hX2]; exact hVp
                  have hr2 : fitE (nearR (((0 * a : Int) : Rat) / ((2 ^ K : Nat) : Rat))) = 0 := by rw [hX2]; exact hxe
                  have Hp1 := Lib.hid hp1
                  clear hp1
                  have Hp2 := Lib.hid hp2
                  clear hp2
                  have Hq1 := Lib.hid hq1
                  clear hq1
                  have Hq2 := Lib.hid hq2
                  clear hq2
                  have Hr1 := Lib.hid hr1
                  clear hr1
                  have Hr2 := Lib.hid hr2
                  clear hr2
                  clear hVp hxe hxn
                  obtain ⟨D, hD⟩ : ∃ D, D = a - 0 := ⟨_, rfl⟩
                  have hm1 : fitV (a - 0) = D := by rw [hD]; exact fitE_0 hde
                  have hm2 : fitE (a - 0) = 0 := hde
                  have hDb : -9223372036854775808 ≤ D ∧ D < 9223372036854775808 := by
                    have h2 : fits (a - 0) = true := by cases hh : fits (a - 0); rw [fitE_out hh] at hde; cases hde; rfl
                    rw [hD]; exact fits_iff.1 h2
                  have hn1 : fitV (D + 0) = a := by rw [show D + 0 = a by omega]; exact fitV_ok ha1 ha2
                  have hn2 : fitE (D + 0) = 0 := by rw [show D + 0 = a by omega]; exact fitE_ok ha1 ha2
                  have HDb := Lib.hid hDb
                  clear hD hDb
                  have Hm1 := Lib.hid hm1
                  clear hm1
                  have Hm2 := Lib.hid hm2
                  clear hm2
                  have Hn1 := Lib.hid hn1
                  clear hn1
                  have Hn2 := Lib.hid hn2
                  clear hn2
                  clear hde
                  clear ha1 ha2 hb1 hb2 hma hmb hK hP0 hPb hX1 hX2 hX hP
                  obtain ⟨W0, hW0⟩ : ∃ W0, W0 = w := ⟨_, rfl⟩
                  have E0 : Ext w W0 := by rw [hW0]; exact Ext.refl w
                  go_enter Try.func8, Try.ntmps8
                  go_wp2_with fail
                  rw [← hW0]
                  clear hW0
                  refine (Try.fixMulV a 0 K HK.out _ HB.out.1.1 HB.out.1.2 HB.out.2.1.1 HB.out.2.1.2 Hp1.out Hp2.out).mono ?_
                  rintro e V36 ⟨rfl, hE⟩
                  replace E0 : Ext w V36 := (Ext.trans E0 hE)
                  clear hE
                  go_wp2_with fail
                  refine (Try.fixMulV (-a) 0 K HK.out _ HB.out.2.2.2.1.1 HB.out.2.2.2.1.2 HB.out.2.1.1 HB.out.2.1.2 Hq1.out Hq2.out).mono ?_
                  rintro e V37 ⟨rfl, hE⟩
                  replace E0 : Ext w V37 := (Ext.trans E0 hE)
                  clear hE
                  go_wp2_with fail
                  refine (Try.fixMulV 0 a K HK.out _ HB.out.2.1.1 HB.out.2.1.2 HB.out.1.1 HB.out.1.2 Hr1.out Hr2.out).mono ?_
                  rintro e V38 ⟨rfl, hE⟩
                  replace E0 : Ext w V38 := (Ext.trans E0 hE)
                  clear hE
                  go_wp2_with fail
                  refine (Try.fixDiv0 a (K : Int) _ HKF.out).mono ?_
                  rintro e V39 ⟨rfl, rfl⟩
                  go_wp2_with fail
                  refine (Try.fixDiv0 (-a) (K : Int) _ HKF.out).mono ?_
                  rintro e V40 ⟨rfl, rfl⟩
                  go_wp2_with fail
                  refine (Try.fixMulV a (P : Int) K HK.out _ HB.out.1.1 HB.out.1.2 HB.out.2.2.1.1 HB.out.2.2.1.2 HU1.out HU2.out).mono ?_
                  rintro e V41 ⟨rfl, hE⟩
                  replace E0 : Ext w V41 := (Ext.trans E0 hE)
                  clear hE
                  go_wp2_with fail
                  refine (Try.fixDivV a (P : Int) K HK.out _ HB.out.1.1 HB.out.1.2 HB.out.2.2.1.1 HB.out.2.2.1.2 HB.out.2.2.2.2 HD1.out HD2.out).mono ?_
                  rintro e V42 ⟨rfl, hE⟩
                  replace E0 : Ext w V42 := (Ext.trans E0 hE)
                  clear hE
                  go_wp2_with fail
                  refine (Try.fixSubV a 0 _ HB.out.1.1 HB.out.1.2 HB.out.2.1.1 HB.out.2.1.2 Hm1.out Hm2.out).mono ?_
                  rintro e V43 ⟨rfl, hE⟩
                  replace E0 : Ext w V43 := (Ext.trans E0 hE)
                  clear hE
                  go_wp2_with fail
                  refine (Try.fixAddV D 0 _ HDb.out.1 HDb.out.2 HB.out.2.1.1 HB.out.2.1.2 Hn1.out Hn2.out).mono ?_
                  rintro e V44 ⟨rfl, hE⟩
                  replace E0 : Ext w V44 := (Ext.trans E0 hE)
                  clear hE
                  go_wp2_with fail
                  refine (Try.alive08 _).mono ?_
                  rintro e V45 ⟨rfl, hE⟩
                  replace E0 : Ext w V45 := (Ext.trans E0 hE)
                  clear hE
                  go_wp2
                  go_ret
                  exact ⟨rfl, E0⟩
                · obtain ⟨Vq, hq1⟩ : ∃ V, fitV (nearR (((-a * 0 : Int) : Rat) / ((2 ^ K : Nat) : Rat))) = V := ⟨_, rfl⟩
                  have hq2 : fitE (nearR (((-a * 0 : Int) : Rat) / ((2 ^ K : Nat) : Rat))) = 2 := by rw [hX1]; exact hxn
                  obtain ⟨Vp, hVp⟩ : ∃ V, fitV X = V := ⟨_, rfl⟩
                  have hp1 : fitV (nearR (((a * 0 : Int) : Rat) / ((2 ^ K : Nat) : Rat))) = Vp := by rw [← hX]; exact hVp
                  have hp2 : fitE (nearR (((a * 0 : Int) : Rat) / ((2 ^ K : Nat) : Rat))) = 0 := by rw [← hX]; exact hxe
                  have hr1 : fitV (nearR (((0 * a : Int) : Rat) / ((2 ^ K : Nat) : Rat))) = Vp := by rw [hX2]; exact hVp
                  have hr2 : fitE (nearR (((0 * a : Int) : Rat) / ((2 ^ K : Nat) : Rat))) = 0 := by rw [hX2]; exact hxe
                  have Hp1 := Lib.hid hp1
                  clear hp1
                  have Hp2 := Lib.hid hp2
                  clear hp2
                  have Hq1 := Lib.hid hq1
                  clear hq1
                  have Hq2 := Lib.hid hq2
                  clear hq2
                  have Hr1 := Lib.hid hr1
                  clear hr1
                  have Hr2 := Lib.hid hr2
                  clear hr2
                  clear hVp hxe hxn
                  have hm1 : fitV (a - 0) = 0 := by
                    have h2 : fits (a - 0) = false := by cases hh : fits (a - 0); rfl; rw [fitE_in hh] at hde; cases hde
                    exact fitV_out h2
                  have hm2 : fitE (a - 0) = 2 := hde
                  obtain ⟨Vn, hn1⟩ : ∃ V, fitV (0 + 0) = V := ⟨_, rfl⟩
                  obtain ⟨En, hn2⟩ : ∃ V, fitE (0 + 0) = V := ⟨_, rfl⟩
                  have Hm1 := Lib.hid hm1
                  clear hm1
                  have Hm2 := Lib.hid hm2
                  clear hm2
                  have Hn1 := Lib.hid hn1
                  clear hn1
                  have Hn2 := Lib.hid hn2
                  clear hn2
                  clear hde
                  clear ha1 ha2 hb1 hb2 hma hmb hK hP0 hPb hX1 hX2 hX hP
                  obtain ⟨W0, hW0⟩ : ∃ W0, W0 = w := ⟨_, rfl⟩
                  have E0 : Ext w W0 := by rw [hW0]; exact Ext.refl w
                  go_enter Try.func8, Try.ntmps8
                  go_wp2_with fail
                  rw [← hW0]
                  clear hW0
                  refine (Try.fixMulV a 0 K HK.out _ HB.out.1.1 HB.out.1.2 HB.out.2.1.1 HB.out.2.1.2 Hp1.out Hp2.out).mono ?_
                  rintro e V46 ⟨rfl, hE⟩
                  replace E0 : Ext w V46 := (Ext.trans E0 hE)
                  clear hE
                  go_wp2_with fail
                  refine (Try.fixMulV (-a) 0 K HK.out _ HB.out.2.2.2.1.1 HB.out.2.2.2.1.2 HB.out.2.1.1 HB.out.2.1.2 Hq1.out Hq2.out).mono ?_
                  rintro e V47 ⟨rfl, hE⟩
                  replace E0 : Ext w V47 := (Ext.trans E0 hE)
                  clear hE
                  go_wp2_with fail
                  refine (Try.fixMulV 0 a K HK.out _ HB.out.2.1.1 HB.out.2.1.2 HB.out.1.1 HB.out.1.2 Hr1.out Hr2.out).mono ?_
                  rintro e V48 ⟨rfl, hE⟩
                  replace E0 : Ext w V48 := (Ext.trans E0 hE)
                  clear hE
                  go_wp2_with fail
                  refine (Try.fixDiv0 a (K : Int) _ HKF.out).mono ?_
                  rintro e V49 ⟨rfl, rfl⟩
                  go_wp2_with fail
                  refine (Try.fixDiv0 (-a) (K : Int) _ HKF.out).mono ?_
                  rintro e V50 ⟨rfl, rfl⟩
                  go_wp2_with fail
                  refine (Try.fixMulV a (P : Int) K HK.out _ HB.out.1.1 HB.out.1.2 HB.out.2.2.1.1 HB.out.2.2.1.2 HU1.out HU2.out).mono ?_
                  rintro e V51 ⟨rfl, hE⟩
                  replace E0 : Ext w V51 := (Ext.trans E0 hE)
                  clear hE
                  go_wp2_with fail
                  refine (Try.fixDivV a (P : Int) K HK.out _ HB.out.1.1 HB.out.1.2 HB.out.2.2.1.1 HB.out.2.2.1.2 HB.out.2.2.2.2 HD1.out HD2.out).mono ?_
                  rintro e V52 ⟨rfl, hE⟩
                  replace E0 : Ext w V52 := (Ext.trans E0 hE)
                  clear hE
                  go_wp2_with fail
                  refine (Try.fixSubV a 0 _ HB.out.1.1 HB.out.1.2 HB.out.2.1.1 HB.out.2.1.2 Hm1.out Hm2.out).mono ?_
                  rintro e V53 ⟨rfl, hE⟩
                  replace E0 : Ext w V53 := (Ext.trans E0 hE)
                  clear hE
                  go_wp2_with fail
                  refine (Try.fixAddV 0 0 _ (by omega) (by omega) HB.out.2.1.1 HB.out.2.1.2 Hn1.out Hn2.out).mono ?_
                  rintro e V54 ⟨rfl, hE⟩
                  replace E0 : Ext w V54 := (Ext.trans E0 hE)
                  clear hE
                  go_wp2_with fail
                  refine (Try.alive08 _).mono ?_
                  rintro e V55 ⟨rfl, hE⟩
                  replace E0 : Ext w V55 := (Ext.trans E0 hE)
                  clear hE
                  go_wp2
                  go_ret
                  exact ⟨rfl, E0⟩
            · obtain hde | hde := fitE_2 (a := a - 0)
              · obtain ⟨Vq, hq1⟩ : ∃ V, fitV (nearR (((-a * 0 : Int) : Rat) / ((2 ^ K : Nat) : Rat))) = V := ⟨_, rfl⟩
                obtain ⟨Eq, hq2⟩ : ∃ V, fitE (nearR (((-a * 0 : Int) : Rat) / ((2 ^ K : Nat) : Rat))) = V := ⟨_, rfl⟩
                obtain ⟨Vp, hVp⟩ : ∃ V, fitV X = V := ⟨_, rfl⟩
                have hp1 : fitV (nearR (((a * 0 : Int) : Rat) / ((2 ^ K : Nat) : Rat))) = Vp := by rw [← hX]; exact hVp
                have hp2 : fitE (nearR (((a * 0 : Int) : Rat) / ((2 ^ K : Nat) : Rat))) = 2 := by rw [← hX]; exact hxe
                have hr1 : fitV (nearR (((0 * a : Int) : Rat) / ((2 ^ K : Nat) : Rat))) = Vp := by rw [hX2]; exact hVp
                have hr2 : fitE (nearR (((0 * a : Int) : Rat) / ((2 ^ K : Nat) : Rat))) = 2 := by rw [hX2]; exact hxe
                have Hp1 := Lib.hid hp1
                clear hp1
                have Hp2 := Lib.hid hp2
                clear hp2
                have Hq1 := Lib.hid hq1
                clear hq1
                have Hq2 := Lib.hid hq2
                clear hq2
                have Hr1 := Lib.hid hr1
                clear hr1
                have Hr2 := Lib.hid hr2
                clear hr2
                clear hVp hxe
                obtain ⟨D, hD⟩ : ∃ D, D = a - 0 := ⟨_, rfl⟩
                have hm1 : fitV (a - 0) = D := by rw [hD]; exact fitE_0 hde
                have hm2 : fitE (a - 0) = 0 := hde
                have hDb : -9223372036854775808 ≤ D ∧ D < 9223372036854775808 := by
                  have h2 : fits (a - 0) = true := by cases hh : fits (a - 0); rw [fitE_out hh] at hde; cases hde; rfl
                  rw [hD]; exact fits_iff.1 h2
                have hn1 : fitV (D + 0) = a := by rw [show D + 0 = a by omega]; exact fitV_ok ha1 ha2
                have hn2 : fitE (D + 0) = 0 := by rw [show D + 0 = a by omega]; exact fitE_ok ha1 ha2
                have HDb := Lib.hid hDb
                clear hD hDb
                have Hm1 := Lib.hid hm1
                clear hm1
                have Hm2 := Lib.hid hm2
                clear hm2
                have Hn1 := Lib.hid hn1
                clear hn1
                have Hn2 := Lib.hid hn2
                clear hn2
                clear hde
                clear ha1 ha2 hb1 hb2 hma hmb hK hP0 hPb hX1 hX2 hX hP
                obtain ⟨W0, hW0⟩ : ∃ W0, W0 = w := ⟨_, rfl⟩
                have E0 : Ext w W0 := by rw [hW0]; exact Ext.refl w
                go_enter Try.func8, Try.ntmps8
                go_wp2_with fail
                rw [← hW0]
                clear hW0
                refine (Try.fixMulV a 0 K HK.out _ HB.out.1.1 HB.out.1.2 HB.out.2.1.1 HB.out.2.1.2 Hp1.out Hp2.out).mono ?_
                rintro e V56 ⟨rfl, hE⟩
                replace E0 : Ext w V56 := (Ext.trans E0 hE)
                clear hE
                go_wp2_with fail
                refine (Try.fixMulV (-a) 0 K HK.out _ HB.out.2.2.2.1.1 HB.out.2.2.2.1.2 HB.out.2.1.1 HB.out.2.1.2 Hq1.out Hq2.out).mono ?_
                rintro e V57 ⟨rfl, hE⟩
                replace E0 : Ext w V57 := (Ext.trans E0 hE)
                clear hE
                go_wp2_with fail
                refine (Try.fixMulV 0 a K HK.out _ HB.out.2.1.1 HB.out.2.1.2 HB.out.1.1 HB.out.1.2 Hr1.out Hr2.out).mono ?_
                rintro e V58 ⟨rfl, hE⟩
                replace E0 : Ext w V58 := (Ext.trans E0 hE)
                clear hE
                go_wp2_with fail
                refine (Try.fixDiv0 a (K : Int) _ HKF.out).mono ?_
                rintro e V59 ⟨rfl, rfl⟩
                go_wp2_with fail
                refine (Try.fixDiv0 (-a) (K : Int) _ HKF.out).mono ?_
                rintro e V60 ⟨rfl, rfl⟩
                go_wp2_with fail
                refine (Try.fixMulV a (P : Int) K HK.out _ HB.out.1.1 HB.out.1.2 HB.out.2.2.1.1 HB.out.2.2.1.2 HU1.out HU2.out).mono ?_
                rintro e V61 ⟨rfl, hE⟩
                replace E0 : Ext w V61 := (Ext.trans E0 hE)
                clear hE
                go_wp2_with fail
                refine (Try.fixDivV a (P : Int) K HK.out _ HB.out.1.1 HB.out.1.2 HB.out.2.2.1.1 HB.out.2.2.1.2 HB.out.2.2.2.2 HD1.out HD2.out).mono ?_
                rintro e V62 ⟨rfl, hE⟩
                replace E0 : Ext w V62 := (Ext.trans E0 hE)
                clear hE
                go_wp2_with fail
                refine (Try.fixSubV a 0 _ HB.out.1.1 HB.out.1.2 HB.out.2.1.1 HB.out.2.1.2 Hm1.out Hm2.out).mono ?_
                rintro e V63 ⟨rfl, hE⟩
                replace E0 : Ext w V63 := (Ext.trans E0 hE)
                clear hE
                go_wp2_with fail
                refine (Try.fixAddV D 0 _ HDb.out.1 HDb.out.2 HB.out.2.1.1 HB.out.2.1.2 Hn1.out Hn2.out).mono ?_
                rintro e V64 ⟨rfl, hE⟩
                replace E0 : Ext w V64 := (Ext.trans E0 hE)
                clear hE
                go_wp2_with fail
                refine (Try.alive08 _).mono ?_
                rintro e V65 ⟨rfl, hE⟩
                replace E0 : Ext w V65 := (Ext.trans E0 hE)
                clear hE
                go_wp2
                go_ret
                exact ⟨rfl, E0⟩
              · obtain ⟨Vq, hq1⟩ : ∃ V, fitV (nearR (((-a * 0 : Int) : Rat) / ((2 ^ K : Nat) : Rat))) = V := ⟨_, rfl⟩
                obtain ⟨Eq, hq2⟩ : ∃ V, fitE (nearR (((-a * 0 : Int) : Rat) / ((2 ^ K : Nat) : Rat))) = V := ⟨_, rfl⟩
                obtain ⟨Vp, hVp⟩ : ∃ V, fitV X = V := ⟨_, rfl⟩
                have hp1 : fitV (nearR (((a * 0 : Int) : Rat) / ((2 ^ K : Nat) : Rat))) = Vp := by rw [← hX]; exact hVp
                have hp2 : fitE (nearR (((a * 0 : Int) : Rat) / ((2 ^ K : Nat) : Rat))) = 2 := by rw [← hX]; exact hxe
                have hr1 : fitV (nearR (((0 * a : Int) : Rat) / ((2 ^ K : Nat) : Rat))) = Vp := by rw [hX2]; exact hVp
                have hr2 : fitE (nearR (((0 * a : Int) : Rat) / ((2 ^ K : Nat) : Rat))) = 2 := by rw [hX2]; exact hxe
                have Hp1 := Lib.hid hp1
                clear hp1
                have Hp2 := Lib.hid hp2
                clear hp2
                have Hq1 := Lib.hid hq1
                clear hq1
                have Hq2 := Lib.hid hq2
                clear hq2
                have Hr1 := Lib.hid hr1
                clear hr1
                have Hr2 := Lib.hid hr2
                clear hr2
                clear hVp hxe
                have hm1 : fitV (a - 0) = 0 := by
                  have h2 : fits (a - 0) = false := by cases hh : fits (a - 0); rfl; rw [fitE_in hh] at hde; cases hde
                  exact fitV_out h2
                have hm2 : fitE (a - 0) = 2 := hde
                obtain ⟨Vn, hn1⟩ : ∃ V, fitV (0 + 0) = V := ⟨_, rfl⟩
                obtain ⟨En, hn2⟩ : ∃ V, fitE (0 + 0) = V := ⟨_, rfl⟩
                have Hm1 := Lib.hid hm1
                clear hm1
                have Hm2 := Lib.hid hm2
                clear hm2
                have Hn1 := Lib.hid hn1
                clear hn1
                have Hn2 := Lib.hid hn2
                clear hn2
                clear hde
                clear ha1 ha2 hb1 hb2 hma hmb hK hP0 hPb hX1 hX2 hX hP
                obtain ⟨W0, hW0⟩ : ∃ W0, W0 = w := ⟨_, rfl⟩
                have E0 : Ext w W0 := by rw [hW0]; exact Ext.refl w
                go_enter Try.func8, Try.ntmps8
                go_wp2_with fail
                rw [← hW0]
                clear hW0
                refine (Try.fixMulV a 0 K HK.out _ HB.out.1.1 HB.out.1.2 HB.out.2.1.1 HB.out.2.1.2 Hp1.out Hp2.out).mono ?_
                rintro e V66 ⟨rfl, hE⟩
                replace E0 : Ext w V66 := (Ext.trans E0 hE)
                clear hE
                go_wp2_with fail
                refine (Try.fixMulV (-a) 0 K HK.out _ HB.out.2.2.2.1.1 HB.out.2.2.2.1.2 HB.out.2.1.1 HB.out.2.1.2 Hq1.out Hq2.out).mono ?_
                rintro e V67 ⟨rfl, hE⟩
                replace E0 : Ext w V67 := (Ext.trans E0 hE)
                clear hE
                go_wp2_with fail
                refine (Try.fixMulV 0 a K HK.out _ HB.out.2.1.1 HB.out.2.1.2 HB.out.1.1 HB.out.1.2 Hr1.out Hr2.out).mono ?_
                rintro e V68 ⟨rfl, hE⟩
                replace E0 : Ext w V68 := (Ext.trans E0 hE)
                clear hE
                go_wp2_with fail
                refine (Try.fixDiv0 a (K : Int) _ HKF.out).mono ?_
                rintro e V69 ⟨rfl, rfl⟩
                go_wp2_with fail
                refine (Try.fixDiv0 (-a) (K : Int) _ HKF.out).mono ?_
                rintro e V70 ⟨rfl, rfl⟩
                go_wp2_with fail
                refine (Try.fixMulV a (P : Int) K HK.out _ HB.out.1.1 HB.out.1.2 HB.out.2.2.1.1 HB.out.2.2.1.2 HU1.out HU2.out).mono ?_
                rintro e V71 ⟨rfl, hE⟩
                replace E0 : Ext w V71 := (Ext.trans E0 hE)
                clear hE
                go_wp2_with fail
                refine (Try.fixDivV a (P : Int) K HK.out _ HB.out.1.1 HB.out.1.2 HB.out.2.2.1.1 HB.out.2.2.1.2 HB.out.2.2.2.2 HD1.out HD2.out).mono ?_
                rintro e V72 ⟨rfl, hE⟩
                replace E0 : Ext w V72 := (Ext.trans E0 hE)
                clear hE
                go_wp2_with fail
                refine (Try.fixSubV a 0 _ HB.out.1.1 HB.out.1.2 HB.out.2.1.1 HB.out.2.1.2 Hm1.out Hm2.out).mono ?_
                rintro e V73 ⟨rfl, hE⟩
                replace E0 : Ext w V73 := (Ext.trans E0 hE)
                clear hE
                go_wp2_with fail
                refine (Try.fixAddV 0 0 _ (by omega) (by omega) HB.out.2.1.1 HB.out.2.1.2 Hn1.out Hn2.out).mono ?_
                rintro e V74 ⟨rfl, hE⟩
                replace E0 : Ext w V74 := (Ext.trans E0 hE)
                clear hE
                go_wp2_with fail
                refine (Try.alive08 _).mono ?_
                rintro e V75 ⟨rfl, hE⟩
                replace E0 : Ext w V75 := (Ext.trans E0 hE)
                clear hE
                go_wp2
                go_ret
                exact ⟨rfl, E0⟩
          · have HBN := Lib.hid hb0
            have hb0d : (b == 0) = false := beq_eq_false_iff_ne.2 hb0
            clear hb0
            obtain ⟨Y, hY⟩ : ∃ Y, Y = nearR (((a * ((2 ^ K : Nat) : Int) : Int) : Rat) / (b : Rat)) := ⟨_, rfl⟩
            have hY1 : nearR (((-a * ((2 ^ K : Nat) : Int) : Int) : Rat) / (b : Rat)) = -Y := by rw [hY, Int.neg_mul, Rat.intCast_neg, Rat.div_def, Rat.neg_mul, ← Rat.div_def, near_neg]
            obtain hye | hye := fitE_2 (a := Y)
            · obtain hyn | hyn := fitE_2 (a := -Y)
              · obtain hxe | hxe := fitE_2 (a := X)
                · obtain hxn | hxn := fitE_2 (a := -X)
                  · obtain hde | hde := fitE_2 (a := a - b)
                    · obtain ⟨Vq, hVq⟩ : ∃ V, V = -X := ⟨_, rfl⟩
                      have hq1 : fitV (nearR (((-a * b : Int) : Rat) / ((2 ^ K : Nat) : Rat))) = Vq := by rw [hX1, hVq]; exact fitE_0 hxn
                      have hq2 : fitE (nearR (((-a * b : Int) : Rat) / ((2 ^ K : Nat) : Rat))) = 0 := by rw [hX1]; exact hxn
                      have hVp : fitV X = -Vq := by rw [fitE_0 hxe, hVq]; omega
                      have hVw : IntKind.i64.wrap (-Vq) = -Vq := by
                        have h1 := fitE_0 hxe
                        have h2 : fits X = true := by cases hh : fits X; rw [fitE_out hh] at hxe; cases hxe; rfl
                        have h3 := fits_iff.1 h2
                        rw [IntKind.wrap_i64]; omega
                      clear hVq
                      have hp1 : fitV (nearR (((a * b : Int) : Rat) / ((2 ^ K : Nat) : Rat))) = (-Vq) := by rw [← hX]; exact hVp
                      have hp2 : fitE (nearR (((a * b : Int) : Rat) / ((2 ^ K : Nat) : Rat))) = 0 := by rw [← hX]; exact hxe
                      have hr1 : fitV (nearR (((b * a : Int) : Rat) / ((2 ^ K : Nat) : Rat))) = (-Vq) := by rw [hX2]; exact hVp
                      have hr2 : fitE (nearR (((b * a : Int) : Rat) / ((2 ^ K : Nat) : Rat))) = 0 := by rw [hX2]; exact hxe
                      have Hp1 := Lib.hid hp1
                      clear hp1
                      have Hp2 := Lib.hid hp2
                      clear hp2
                      have Hq1 := Lib.hid hq1
                      clear hq1
                      have Hq2 := Lib.hid hq2
                      clear hq2
                      have Hr1 := Lib.hid hr1
                      clear hr1
                      have Hr2 := Lib.hid hr2
                      clear hr2
                      clear hVp hxe hxn
                      obtain ⟨Vt, hVt⟩ : ∃ V, V = -Y := ⟨_, rfl⟩
                      have ht1 : fitV (nearR (((-a * ((2 ^ K : Nat) : Int) : Int) : Rat) / (b : Rat))) = Vt := by rw [hY1, hVt]; exact fitE_0 hyn
                      have ht2 : fitE (nearR (((-a * ((2 ^ K : Nat) : Int) : Int) : Rat) / (b : Rat))) = 0 := by rw [hY1]; exact hyn
                      have hVs : fitV Y = -Vt := by rw [fitE_0 hye, hVt]; omega
                      have hVu : IntKind.i64.wrap (-Vt) = -Vt := by
                        have h1 := fitE_0 hye
                        have h2 : fits Y = true := by cases hh : fits Y; rw [fitE_out hh] at hye; cases hye; rfl
                        have h3 := fits_iff.1 h2
                        rw [IntKind.wrap_i64]; omega
                      clear hVt
                      have hs1 : fitV (nearR (((a * ((2 ^ K : Nat) : Int) : Int) : Rat) / (b : Rat))) = (-Vt) := by rw [← hY]; exact hVs
                      have hs2 : fitE (nearR (((a * ((2 ^ K : Nat) : Int) : Int) : Rat) / (b : Rat))) = 0 := by rw [← hY]; exact hye
                      have Hs1 := Lib.hid hs1
                      clear hs1
                      have Hs2 := Lib.hid hs2
                      clear hs2
                      have Ht1 := Lib.hid ht1
                      clear ht1
                      have Ht2 := Lib.hid ht2
                      clear ht2
                      clear hVs hye hY1 hY hyn
                      obtain ⟨D, hD⟩ : ∃ D, D = a - b := ⟨_, rfl⟩
                      have hm1 : fitV (a - b) = D := by rw [hD]; exact fitE_0 hde
                      have hm2 : fitE (a - b) = 0 := hde
                      have hDb : -9223372036854775808 ≤ D ∧ D < 9223372036854775808 := by
                        have h2 : fits (a - b) = true := by cases hh : fits (a - b); rw [fitE_out hh] at hde; cases hde; rfl
                        rw [hD]; exact fits_iff.1 h2
                      have hn1 : fitV (D + b) = a := by rw [show D + b = a by omega]; exact fitV_ok ha1 ha2
                      have hn2 : fitE (D + b) = 0 := by rw [show D + b = a by omega]; exact fitE_ok ha1 ha2
                      have HDb := Lib.hid hDb
                      clear hD hDb
                      have Hm1 := Lib.hid hm1
                      clear hm1
                      have Hm2 := Lib.hid hm2
                      clear hm2
                      have Hn1 := Lib.hid hn1
                      clear hn1
                      have Hn2 := Lib.hid hn2
                      clear hn2
                      clear hde
                      clear ha1 ha2 hb1 hb2 hma hmb hK hP0 hPb hX1 hX2 hX hP
                      obtain ⟨W0, hW0⟩ : ∃ W0, W0 = w := ⟨_, rfl⟩
                      have E0 : Ext w W0 := by rw [hW0]; exact Ext.refl w
                      go_enter Try.func8, Try.ntmps8
                      go_wp2_with fail
                      rw [← hW0]
                      clear hW0
                      refine (Try.fixMulV a b K HK.out _ HB.out.1.1 HB.out.1.2 HB.out.2.1.1 HB.out.2.1.2 Hp1.out Hp2.out).mono ?_
                      rintro e V76 ⟨rfl, hE⟩
                      replace E0 : Ext w V76 := (Ext.trans E0 hE)
                      clear hE
                      go_wp2_with fail
                      refine (Try.fixMulV (-a) b K HK.out _ HB.out.2.2.2.1.1 HB.out.2.2.2.1.2 HB.out.2.1.1 HB.out.2.1.2 Hq1.out Hq2.out).mono ?_
                      rintro e V77 ⟨rfl, hE⟩
                      replace E0 : Ext w V77 := (Ext.trans E0 hE)
                      clear hE
                      go_wp2_with fail
                      refine (Try.fixMulV b a K HK.out _ HB.out.2.1.1 HB.out.2.1.2 HB.out.1.1 HB.out.1.2 Hr1.out Hr2.out).mono ?_
                      rintro e V78 ⟨rfl, hE⟩
                      replace E0 : Ext w V78 := (Ext.trans E0 hE)
                      clear hE
                      go_wp2_with fail
                      refine (Try.fixDivV a b K HK.out _ HB.out.1.1 HB.out.1.2 HB.out.2.1.1 HB.out.2.1.2 HBN.out Hs1.out Hs2.out).mono ?_
                      rintro e V79 ⟨rfl, hE⟩
                      replace E0 : Ext w V79 := (Ext.trans E0 hE)
                      clear hE
                      go_wp2_with fail
                      refine (Try.fixDivV (-a) b K HK.out _ HB.out.2.2.2.1.1 HB.out.2.2.2.1.2 HB.out.2.1.1 HB.out.2.1.2 HBN.out Ht1.out Ht2.out).mono ?_
                      rintro e V80 ⟨rfl, hE⟩
                      replace E0 : Ext w V80 := (Ext.trans E0 hE)
                      clear hE
                      go_wp2_with fail
                      refine (Try.fixMulV a (P : Int) K HK.out _ HB.out.1.1 HB.out.1.2 HB.out.2.2.1.1 HB.out.2.2.1.2 HU1.out HU2.out).mono ?_
                      rintro e V81 ⟨rfl, hE⟩
                      replace E0 : Ext w V81 := (Ext.trans E0 hE)
                      clear hE
                      go_wp2_with fail
                      refine (Try.fixDivV a (P : Int) K HK.out _ HB.out.1.1 HB.out.1.2 HB.out.2.2.1.1 HB.out.2.2.1.2 HB.out.2.2.2.2 HD1.out HD2.out).mono ?_
                      rintro e V82 ⟨rfl, hE⟩
                      replace E0 : Ext w V82 := (Ext.trans E0 hE)
                      clear hE
                      go_wp2_with fail
                      refine (Try.fixSubV a b _ HB.out.1.1 HB.out.1.2 HB.out.2.1.1 HB.out.2.1.2 Hm1.out Hm2.out).mono ?_
                      rintro e V83 ⟨rfl, hE⟩
                      replace E0 : Ext w V83 := (Ext.trans E0 hE)
                      clear hE
                      go_wp2_with fail
                      refine (Try.fixAddV D b _ HDb.out.1 HDb.out.2 HB.out.2.1.1 HB.out.2.1.2 Hn1.out Hn2.out).mono ?_
                      rintro e V84 ⟨rfl, hE⟩
                      replace E0 : Ext w V84 := (Ext.trans E0 hE)
                      clear hE
                      go_wp2_with fail
                      refine (Try.alive08 _).mono ?_
                      rintro e V85 ⟨rfl, hE⟩
                      replace E0 : Ext w V85 := (Ext.trans E0 hE)
                      clear hE
                      go_wp2
                      go_ret
                      exact ⟨rfl, E0⟩
                    · obtain ⟨Vq, hVq⟩ : ∃ V, V = -X := ⟨_, rfl⟩
                      have hq1 : fitV (nearR (((-a * b : Int) : Rat) / ((2 ^ K : Nat) : Rat))) = Vq := by rw [hX1, hVq]; exact fitE_0 hxn
                      have hq2 : fitE (nearR (((-a * b : Int) : Rat) / ((2 ^ K : Nat) : Rat))) = 0 := by rw [hX1]; exact hxn
                      have hVp : fitV X = -Vq := by rw [fitE_0 hxe, hVq]; omega
                      have hVw : IntKind.i64.wrap (-Vq) = -Vq := by
                        have h1 := fitE_0 hxe
                        have h2 : fits X = true := by cases hh : fits X; rw [fitE_out hh] at hxe; cases hxe; rfl
                        have h3 := fits_iff.1 h2
                        rw [IntKind.wrap_i64]; omega
                      clear hVq
                      have hp1 : fitV (nearR (((a * b : Int) : Rat) / ((2 ^ K : Nat) : Rat))) = (-Vq) := by rw [← hX]; exact hVp
                      have hp2 : fitE (nearR (((a * b : Int) : Rat) / ((2 ^ K : Nat) : Rat))) = 0 := by rw [← hX]; exact hxe
                      have hr1 : fitV (nearR (((b * a : Int) : Rat) / ((2 ^ K : Nat) : Rat))) = (-Vq) := by rw [hX2]; exact hVp
                      have hr2 : fitE (nearR (((b * a : Int) : Rat) / ((2 ^ K : Nat) : Rat))) = 0 := by rw [hX2]; exact hxe
                      have Hp1 := Lib.hid hp1
                      clear hp1
                      have Hp2 := Lib.hid hp2
                      clear hp2
                      have Hq1 := Lib.hid hq1
                      clear hq1
                      have Hq2 := Lib.hid hq2
                      clear hq2
                      have Hr1 := Lib.hid hr1
                      clear hr1
                      have Hr2 := Lib.hid hr2
                      clear hr2
                      clear hVp hxe hxn
                      obtain ⟨Vt, hVt⟩ : ∃ V, V = -Y := ⟨_, rfl⟩
                      have ht1 : fitV (nearR (((-a * ((2 ^ K : Nat) : Int) : Int) : Rat) / (b : Rat))) = Vt := by rw [hY1, hVt]; exact fitE_0 hyn
                      have ht2 : fitE (nearR (((-a * ((2 ^ K : Nat) : Int) : Int) : Rat) / (b : Rat))) = 0 := by rw [hY1]; exact hyn
                      have hVs : fitV Y = -Vt := by rw [fitE_0 hye, hVt]; omega
                      have hVu : IntKind.i64.wrap (-Vt) = -Vt := by
                        have h1 := fitE_0 hye
                        have h2 : fits Y = true := by cases hh : fits Y; rw [fitE_out hh] at hye; cases hye; rfl
                        have h3 := fits_iff.1 h2
                        rw [IntKind.wrap_i64]; omega
                      clear hVt
                      have hs1 : fitV (nearR (((a * ((2 ^ K : Nat) : Int) : Int) : Rat) / (b : Rat))) = (-Vt) := by rw [← hY]; exact hVs
                      have hs2 : fitE (nearR (((a * ((2 ^ K : Nat) : Int) : Int) : Rat) / (b : Rat))) = 0 := by rw [← hY]; exact hye
                      have Hs1 := Lib.hid hs1
                      clear hs1
                      have Hs2 := Lib.hid hs2
                      clear hs2
                      have Ht1 := Lib.hid ht1
                      clear ht1
                      have Ht2 := Lib.hid ht2
                      clear ht2
                      clear hVs hye hY1 hY hyn
                      have hm1 : fitV (a - b) = 0 := by
                        have h2 : fits (a - b) = false := by cases hh : fits (a - b); rfl; rw [fitE_in hh] at hde; cases hde
                        exact fitV_out h2
                      have hm2 : fitE (a - b) = 2 := hde
                      obtain ⟨Vn, hn1⟩ : ∃ V, fitV (0 + b) = V := ⟨_, rfl⟩
                      obtain ⟨En, hn2⟩ : ∃ V, fitE (0 + b) = V := ⟨_, rfl⟩
                      have Hm1 := Lib.hid hm1
                      clear hm1
                      have Hm2 := Lib.hid hm2
                      clear hm2
                      have Hn1 := Lib.hid hn1
                      clear hn1
                      have Hn2 := Lib.hid hn2
                      clear hn2
                      clear hde
                      clear ha1 ha2 hb1 hb2 hma hmb hK hP0 hPb hX1 hX2 hX hP
                      obtain ⟨W0, hW0⟩ : ∃ W0, W0 = w := ⟨_, rfl⟩
                      have E0 : Ext w W0 := by rw [hW0]; exact Ext.refl w
                      go_enter Try.func8, Try.ntmps8
                      go_wp2_with fail
                      rw [← hW0]
                      clear hW0
                      refine (Try.fixMulV a b K HK.out _ HB.out.1.1 HB.out.1.2 HB.out.2.1.1 HB.out.2.1.2 Hp1.out Hp2.out).mono ?_
                      rintro e V86 ⟨rfl, hE⟩
                      replace E0 : Ext w V86 := (Ext.trans E0 hE)
                      clear hE
                      go_wp2_with fail
                      refine (Try.fixMulV (-a) b K HK.out _ HB.out.2.2.2.1.1 HB.out.2.2.2.1.2 HB.out.2.1.1 HB.out.2.1.2 Hq1.out Hq2.out).mono ?_
                      rintro e V87 ⟨rfl, hE⟩
                      replace E0 : Ext w V87 := (Ext.trans E0 hE)
                      clear hE
                      go_wp2_with fail
                      refine (Try.fixMulV b a K HK.out _ HB.out.2.1.1 HB.out.2.1.2 HB.out.1.1 HB.out.1.2 Hr1.out Hr2.out).mono ?_
                      rintro e V88 ⟨rfl, hE⟩
                      replace E0 : Ext w V88 := (Ext.trans E0 hE)
                      clear hE
                      go_wp2_with fail
                      refine (Try.fixDivV a b K HK.out _ HB.out.1.1 HB.out.1.2 HB.out.2.1.1 HB.out.2.1.2 HBN.out Hs1.out Hs2.out).mono ?_
                      rintro e V89 ⟨rfl, hE⟩
                      replace E0 : Ext w V89 := (Ext.trans E0 hE)
                      clear hE
                      go_wp2_with fail
                      refine (Try.fixDivV (-a) b K HK.out _ HB.out.2.2.2.1.1 HB.out.2.2.2.1.2 HB.out.2.1.1 HB.out.2.1.2 HBN.out Ht1.out Ht2.out).mono ?_
                      rintro e V90 ⟨rfl, hE⟩
                      replace E0 : Ext w V90 := (Ext.trans E0 hE)
                      clear hE
                      go_wp2_with fail
                      refine (Try.fixMulV a (P : Int) K HK.out _ HB.out.1.1 HB.out.1.2 HB.out.2.2.1.1 HB.out.2.2.1.2 HU1.out HU2.out).mono ?_
                      rintro e V91 ⟨rfl, hE⟩
                      replace E0 : Ext w V91 := (Ext.trans E0 hE)
                      clear hE
                      go_wp2_with fail
                      refine (Try.fixDivV a (P : Int) K HK.out _ HB.out.1.1 HB.out.1.2 HB.out.2.2.1.1 HB.out.2.2.1.2 HB.out.2.2.2.2 HD1.out HD2.out).mono ?_
                      rintro e V92 ⟨rfl, hE⟩
                      replace E0 : Ext w V92 := (Ext.trans E0 hE)
                      clear hE
                      go_wp2_with fail
                      refine (Try.fixSubV a b _ HB.out.1.1 HB.out.1.2 HB.out.2.1.1 HB.out.2.1.2 Hm1.out Hm2.out).mono ?_
                      rintro e V93 ⟨rfl, hE⟩
                      replace E0 : Ext w V93 := (Ext.trans E0 hE)
                      clear hE
                      go_wp2_with fail
                      refine (Try.fixAddV 0 b _ (by omega) (by omega) HB.out.2.1.1 HB.out.2.1.2 Hn1.out Hn2.out).mono ?_
                      rintro e V94 ⟨rfl, hE⟩
                      replace E0 : Ext w V94 := (Ext.trans E0 hE)
                      clear hE
                      go_wp2_with fail
                      refine (Try.alive08 _).mono ?_
                      rintro e V95 ⟨rfl, hE⟩
                      replace E0 : Ext w V95 := (Ext.trans E0 hE)
                      clear hE
                      go_wp2
                      go_ret
                      exact ⟨rfl, E0⟩
                  · obtain hde | hde := fitE_2 (a := a - b)
                    · obtain ⟨Vq, hq1⟩ : ∃ V, fitV (nearR (((-a * b : Int) : Rat) / ((2 ^ K : Nat) : Rat))) = V := ⟨_, rfl⟩
                      have hq2 : fitE (nearR (((-a * b : Int) : Rat) / ((2 ^ K : Nat) : Rat))) = 2 := by rw [hX1]; exact hxn
                      obtain ⟨Vp, hVp⟩ : ∃ V, fitV X = V := ⟨_, rfl⟩
                      have hp1 : fitV (nearR (((a * b : Int) : Rat) / ((2 ^ K : Nat) : Rat))) = Vp := by rw [← hX]; exact hVp
                      have hp2 : fitE (nearR (((a * b : Int) : Rat) / ((2 ^ K : Nat) : Rat))) = 0 := by rw [← hX]; exact hxe
                      have hr1 : fitV (nearR (((b * a : Int) : Rat) / ((2 ^ K : Nat) : Rat))) = Vp := by rw [hX2]; exact hVp
                      have hr2 : fitE (nearR (((b * a : Int) : Rat) / ((2 ^ K : Nat) : Rat))) = 0 := by rw [hX2]; exact hxe
                      have Hp1 := Lib.hid hp1
                      clear hp1
                      have Hp2 := Lib.hid hp2
                      clear hp2
                      have Hq1 := Lib.hid hq1
                      clear hq1
                      have Hq2 := Lib.hid hq2
                      clear hq2
                      have Hr1 := Lib.hid hr1
                      clear hr1
                      have Hr2 := Lib.hid hr2
                      clear hr2
                      clear hVp hxe hxn
                      obtain ⟨Vt, hVt⟩ : ∃ V, V = -Y := ⟨_, rfl⟩
                      have ht1 : fitV (nearR (((-a * ((2 ^ K : Nat) : Int) : Int) : Rat) / (b : Rat))) = Vt := by rw [hY1, hVt]; exact fitE_0 hyn
                      have ht2 : fitE (nearR (((-a * ((2 ^ K : Nat) : Int) : Int) : Rat) / (b : Rat))) = 0 := by rw [hY1]; exact hyn
                      have hVs : fitV Y = -Vt := by rw [fitE_0 hye, hVt]; omega
                      have hVu : IntKind.i64.wrap (-Vt) = -Vt := by
                        have h1 := fitE_0 hye
                        have h2 : fits Y = true := by cases hh : fits Y; rw [fitE_out hh] at hye; cases hye; rfl
                        have h3 := fits_iff.1 h2
                        rw [IntKind.wrap_i64]; omega
                      clear hVt
                      have hs1 : fitV (nearR (((a * ((2 ^ K : Nat) : Int) : Int) : Rat) / (b : Rat))) = (-Vt) := by rw [← hY]; exact hVs
                      have hs2 : fitE (nearR (((a * ((2 ^ K : Nat) : Int) : Int) : Rat) / (b : Rat))) = 0 := by rw [← hY]; exact hye
                      have Hs1 := Lib.hid hs1
                      clear hs1
                      have Hs2 := Lib.hid hs2
                      clear hs2
                      have Ht1 := Lib.hid ht1
                      clear ht1
                      have Ht2 := Lib.hid ht2
                      clear ht2
                      clear hVs hye hY1 hY hyn
                      obtain ⟨D, hD⟩ : ∃ D, D = a - b := ⟨_, rfl⟩
                      have hm1 : fitV (a - b) = D := by rw [hD]; exact fitE_0 hde
                      have hm2 : fitE (a - b) = 0 := hde
                      have hDb : -9223372036854775808 ≤ D ∧ D < 9223372036854775808 := by
                        have h2 : fits (a - b) = true := by cases hh : fits (a - b); rw [fitE_out hh] at hde; cases hde; rfl
                        rw [hD]; exact fits_iff.1 h2
                      have hn1 : fitV (D + b) = a := by rw [show D + b = a by omega]; exact fitV_ok ha1 ha2
                      have hn2 : fitE (D + b) = 0 := by rw [show D + b = a by omega]; exact fitE_ok ha1 ha2
                      have HDb := Lib.hid hDb
                      clear hD hDb
                      have Hm1 := Lib.hid hm1
                      clear hm1
                      have Hm2 := Lib.hid hm2
                      clear hm2
                      have Hn1 := Lib.hid hn1
                      clear hn1
                      have Hn2 := Lib.hid hn2
                      clear hn2
                      clear hde
                      clear ha1 ha2 hb1 hb2 hma hmb hK hP0 hPb hX1 hX2 hX hP
                      obtain ⟨W0, hW0⟩ : ∃ W0, W0 = w := ⟨_, rfl⟩
                      have E0 : Ext w W0 := by rw [hW0]; exact Ext.refl w
                      go_enter Try.func8, Try.ntmps8
                      go_wp2_with fail
                      rw [← hW0]
                      clear hW0
                      refine (Try.fixMulV a b K HK.out _ HB.out.1.1 HB.out.1.2 HB.out.2.1.1 HB.out.2.1.2 Hp1.out Hp2.out).mono ?_
                      rintro e V96 ⟨rfl, hE⟩
                      replace E0 : Ext w V96 := (Ext.trans E0 hE)
                      clear hE
                      go_wp2_with fail
                      refine (Try.fixMulV (-a) b K HK.out _ HB.out.2.2.2.1.1 HB.out.2.2.2.1.2 HB.out.2.1.1 HB.out.2.1.2 Hq1.out Hq2.out).mono ?_
                      rintro e V97 ⟨rfl, hE⟩
                      replace E0 : Ext w V97 := (Ext.trans E0 hE)
                      clear hE
                      go_wp2_with fail
                      refine (Try.fixMulV b a K HK.out _ HB.out.2.1.1 HB.out.2.1.2 HB.out.1.1 HB.out.1.2 Hr1.out Hr2.out).mono ?_
                      rintro e V98 ⟨rfl, hE⟩
                      replace E0 : Ext w V98 := (Ext.trans E0 hE)
                      clear hE
                      go_wp2_with fail
                      refine (Try.fixDivV a b K HK.out _ HB.out.1.1 HB.out.1.2 HB.out.2.1.1 HB.out.2.1.2 HBN.out Hs1.out Hs2.out).mono ?_
                      rintro e V99 ⟨rfl, hE⟩
                      replace E0 : Ext w V99 := (Ext.trans E0 hE)
                      clear hE
                      go_wp2_with fail
                      refine (Try.fixDivV (-a) b K HK.out _ HB.out.2.2.2.1.1 HB.out.2.2.2.1.2 HB.out.2.1.1 HB.out.2.1.2 HBN.out Ht1.out Ht2.out).mono ?_
                      rintro e V100 ⟨rfl, hE⟩
                      replace E0 : Ext w V100 := (Ext.trans E0 hE)
                      clear hE
                      go_wp2_with fail
                      refine (Try.fixMulV a (P : Int) K HK.out _ HB.out.1.1 HB.out.1.2 HB.out.2.2.1.1 HB.out.2.2.1.2 HU1.out HU2.out).mono ?_
                      rintro e V101 ⟨rfl, hE⟩
                      replace E0 : Ext w V101 := (Ext.trans E0 hE)
                      clear hE
                      go_wp2_with fail
                      refine (Try.fixDivV a (P : Int) K HK.out _ HB.out.1.1 HB.out.1.2 HB.out.2.2.1.1 HB.out.2.2.1.2 HB.out.2.2.2.2 HD1.out HD2.out).mono ?_
                      rintro e V102 ⟨rfl, hE⟩
                      replace E0 : Ext w V102 := (Ext.trans E0 hE)
                      clear hE
                      go_wp2_with fail
                      refine (Try.fixSubV a b _ HB.out.1.1 HB.out.1.2 HB.out.2.1.1 HB.out.2.1.2 Hm1.out Hm2.out).mono ?_
                      rintro e V103 ⟨rfl, hE⟩
                      replace E0 : Ext w V103 := (Ext.trans E0 hE)
                      clear hE
                      go_wp2_with fail
                      refine (Try.fixAddV D b _ HDb.out.1 HDb.out.2 HB.out.2.1.1 HB.out.2.1.2 Hn1.out Hn2.out).mono ?_
                      rintro e V104 ⟨rfl, hE⟩
                      replace E0 : Ext w V104 := (Ext.trans E0 hE)
                      clear hE
                      go_wp2_with fail
                      refine (Try.alive08 _).mono ?_
                      rintro e V105 ⟨rfl, hE⟩
                      replace E0 : Ext w V105 := (Ext.trans E0 hE)
                      clear hE
                      go_wp2
                      go_ret
                      exact ⟨rfl, E0⟩
                    · obtain ⟨Vq, hq1⟩ : ∃ V, fitV (nearR (((-a * b : Int) : Rat) / ((2 ^ K : Nat) : Rat))) = V := ⟨_, rfl⟩
                      have hq2 : fitE (nearR (((-a * b : Int) : Rat) / ((2 ^ K : Nat) : Rat))) = 2 := by rw [hX1]; exact hxn
                      obtain ⟨Vp, hVp⟩ : ∃ V, fitV X = V := ⟨_, rfl⟩
                      have hp1 : fitV (nearR (((a * b : Int) : Rat) / ((2 ^ K : Nat) : Rat))) = Vp := by rw [← hX]; exact hVp
                      have hp2 : fitE (nearR (((a * b : Int) : Rat) / ((2 ^ K : Nat) : Rat))) = 0 := by rw [← hX]; exact hxe
                      have hr1 : fitV (nearR (((b * a : Int) : Rat) / ((2 ^ K : Nat) : Rat))) = Vp := by rw [hX2]; exact hVp
                      have hr2 : fitE (nearR (((b * a : Int) : Rat) / ((2 ^ K : Nat) : Rat))) = 0 := by rw [hX2]; exact hxe
                      have Hp1 := Lib.hid hp1
                      clear hp1
                      have Hp2 := Lib.hid hp2
                      clear hp2
                      have Hq1 := Lib.hid hq1
                      clear hq1
                      have Hq2 := Lib.hid hq2
                      clear hq2
                      have Hr1 := Lib.hid hr1
                      clear hr1
                      have Hr2 := Lib.hid hr2
                      clear hr2
                      clear hVp hxe hxn
                      obtain ⟨Vt, hVt⟩ : ∃ V, V = -Y := ⟨_, rfl⟩
                      have ht1 : fitV (nearR (((-a * ((2 ^ K : Nat) : Int) : Int) : Rat) / (b : Rat))) = Vt := by rw [hY1, hVt]; exact fitE_0 hyn
                      have ht2 : fitE (nearR (((-a * ((2 ^ K : Nat) : Int) : Int) : Rat) / (b : Rat))) = 0 := by rw [hY1]; exact hyn
                      have hVs : fitV Y = -Vt := by rw [fitE_0 hye, hVt]; omega
                      have hVu : IntKind.i64.wrap (-Vt) = -Vt := by
                        have h1 := fitE_0 hye
                        have h2 : fits Y = true := by cases hh : fits Y; rw [fitE_out hh] at hye; cases hye; rfl
                        have h3 := fits_iff.1 h2
                        rw [IntKind.wrap_i64]; omega
                      clear hVt
                      have hs1 : fitV (nearR (((a * ((2 ^ K : Nat) : Int) : Int) : Rat) / (b : Rat))) = (-Vt) := by rw [← hY]; exact hVs
                      have hs2 : fitE (nearR (((a * ((2 ^ K : Nat) : Int) : Int) : Rat) / (b : Rat))) = 0 := by rw [← hY]; exact hye
                      have Hs1 := Lib.hid hs1
                      clear hs1
                      have Hs2 := Lib.hid hs2
                      clear hs2
                      have Ht1 := Lib.hid ht1
                      clear ht1
                      have Ht2 := Lib.hid ht2
                      clear ht2
                      clear hVs hye hY1 hY hyn
                      have hm1 : fitV (a - b) = 0 := by
                        have h2 : fits (a - b) = false := by cases hh : fits (a - b); rfl; rw [fitE_in hh] at hde; cases hde
                        exact fitV_out h2
                      have hm2 : fitE (a - b) = 2 := hde
                      obtain ⟨Vn, hn1⟩ : ∃ V, fitV (0 + b) = V := ⟨_, rfl⟩
                      obtain ⟨En, hn2⟩ : ∃ V, fitE (0 + b) = V := ⟨_, rfl⟩
                      have Hm1 := Lib.hid hm1
                      clear hm1
                      have Hm2 := Lib.hid hm2
                      clear hm2
                      have Hn1 := Lib.hid hn1
                      clear hn1
                      have Hn2 := Lib.hid hn2
                      clear hn2
                      clear hde
                      clear ha1 ha2 hb1 hb2 hma hmb hK hP0 hPb hX1 hX2 hX hP
                      obtain ⟨W0, hW0⟩ : ∃ W0, W0 = w := ⟨_, rfl⟩
                      have E0 : Ext w W0 := by rw [hW0]; exact Ext.refl w
                      go_enter Try.func8, Try.ntmps8
                      go_wp2_with fail
                      rw [← hW0]
                      clear hW0
                      refine (Try.fixMulV a b K HK.out _ HB.out.1.1 HB.out.1.2 HB.out.2.1.1 HB.out.2.1.2 Hp1.out Hp2.out).mono ?_
                      rintro e V106 ⟨rfl, hE⟩
                      replace E0 : Ext w V106 := (Ext.trans E0 hE)
                      clear hE
                      go_wp2_with fail
                      refine (Try.fixMulV (-a) b K HK.out _ HB.out.2.2.2.1.1 HB.out.2.2.2.1.2 HB.out.2.1.1 HB.out.2.1.2 Hq1.out Hq2.out).mono ?_
                      rintro e V107 ⟨rfl, hE⟩
                      replace E0 : Ext w V107 := (Ext.trans E0 hE)
                      clear hE
                      go_wp2_with fail
                      refine (Try.fixMulV b a K HK.out _ HB.out.2.1.1 HB.out.2.1.2 HB.out.1.1 HB.out.1.2 Hr1.out Hr2.out).mono ?_
                      rintro e V108 ⟨rfl, hE⟩
                      replace E0 : Ext w V108 := (Ext.trans E0 hE)
                      clear hE
                      go_wp2_with fail
                      refine (Try.fixDivV a b K HK.out _ HB.out.1.1 HB.out.1.2 HB.out.2.1.1 HB.out.2.1.2 HBN.out Hs1.out Hs2.out).mono ?_
                      rintro e V109 ⟨rfl, hE⟩
                      replace E0 : Ext w V109 := (Ext.trans E0 hE)
                      clear hE
                      go_wp2_with fail
                      refine (Try.fixDivV (-a) b K HK.out _ HB.out.2.2.2.1.1 HB.out.2.2.2.1.2 HB.out.2.1.1 HB.out.2.1.2 HBN.out Ht1.out Ht2.out).mono ?_
                      rintro e V110 ⟨rfl, hE⟩
                      replace E0 : Ext w V110 := (Ext.trans E0 hE)
                      clear hE
                      go_wp2_with fail
                      refine (Try.fixMulV a (P : Int) K HK.out _ HB.out.1.1 HB.out.1.2 HB.out.2.2.1.1 HB.out.2.2.1.2 HU1.out HU2.out).mono ?_
                      rintro e V111 ⟨rfl, hE⟩
                      replace E0 : Ext w V111 := (Ext.trans E0 hE)
                      clear hE
                      go_wp2_with fail
                      refine (Try.fixDivV a (P : Int) K HK.out _ HB.out.1.1 HB.out.1.2 HB.out.2.2.1.1 HB.out.2.2.1.2 HB.out.2.2.2.2 HD1.out HD2.out).mono ?_
                      rintro e V112 ⟨rfl, hE⟩
                      replace E0 : Ext w V112 := (Ext.trans E0 hE)
                      clear hE
                      go_wp2_with fail
                      refine (Try.fixSubV a b _ HB.out.1.1 HB.out.1.2 HB.out.2.1.1 HB.out.2.1.2 Hm1.out Hm2.out).mono ?_
                      rintro e V113 ⟨rfl, hE⟩
                      replace E0 : Ext w V113 := (Ext.trans E0 hE)
                      clear hE
                      go_wp2_with fail
                      refine (Try.fixAddV 0 b _ (by omega) (by omega) HB.out.2.1.1 HB.out.2.1.2 Hn1.out Hn2.out).mono ?_
                      rintro e V114 ⟨rfl, hE⟩
                      replace E0 : Ext w V114 := (Ext.trans E0 hE)
                      clear hE
                      go_wp2_with fail
                      refine (Try.alive08 _).mono ?_
                      rintro e V115 ⟨rfl, hE⟩
                      replace E0 : Ext w V115 := (Ext.trans E0 hE)
                      clear hE
                      go_wp2
                      go_ret
                      exact ⟨rfl, E0⟩
                · obtain hde | hde := fitE_2 (a := a - b)
                  · obtain ⟨Vq, hq1⟩ : ∃ V, fitV (nearR (((-a * b : Int) : Rat) / ((2 ^ K : Nat) : Rat))) = V := ⟨_, rfl⟩
                    obtain ⟨Eq, hq2⟩ : ∃ V, fitE (nearR (((-a * b : Int) : Rat) / ((2 ^ K : Nat) : Rat))) = V := ⟨_, rfl⟩
                    obtain ⟨Vp, hVp⟩ : ∃ V, fitV X = V := ⟨_, rfl⟩
                    have hp1 : fitV (nearR (((a * b : Int) : Rat) / ((2 ^ K : Nat) : Rat))) = Vp := by rw [← hX]; exact hVp
                    have hp2 : fitE (nearR (((a * b : Int) : Rat) / ((2 ^ K : Nat) : Rat))) = 2 := by rw [← hX]; exact hxe
                    have hr1 : fitV (nearR (((b * a : Int) : Rat) / ((2 ^ K : Nat) : Rat))) = Vp := by rw [hX2]; exact hVp
                    have hr2 : fitE (nearR (((b * a : Int) : Rat) / ((2 ^ K : Nat) : Rat))) = 2 := by rw [hX2]; exact hxe
                    have Hp1 := Lib.hid hp1
                    clear hp1
                    have Hp2 := Lib.hid hp2
                    clear hp2
                    have Hq1 := Lib.hid hq1
                    clear hq1
                    have Hq2 := Lib.hid hq2
                    clear hq2
                    have Hr1 := Lib.hid hr1
                    clear hr1
                    have Hr2 := Lib.hid hr2
                    clear hr2
                    clear hVp hxe
                    obtain ⟨Vt, hVt⟩ : ∃ V, V = -Y := ⟨_, rfl⟩
                    have ht1 : fitV (nearR (((-a * ((2 ^ K : Nat) : Int) : Int) : Rat) / (b : Rat))) = Vt := by rw [hY1, hVt]; exact fitE_0 hyn
                    have ht2 : fitE (nearR (((-a * ((2 ^ K : Nat) : Int) : Int) : Rat) / (b : Rat))) = 0 := by rw [hY1]; exact hyn
                    have hVs : fitV Y = -Vt := by rw [fitE_0 hye, hVt]; omega
                    have hVu : IntKind.i64.wrap (-Vt) = -Vt := by
                      have h1 := fitE_0 hye
                      have h2 : fits Y = true := by cases hh : fits Y; rw [fitE_out hh] at hye; cases hye; rfl
                      have h3 := fits_iff.1 h2
                      rw [IntKind.wrap_i64]; omega
                    clear hVt
                    have hs1 : fitV (nearR (((a * ((2 ^ K : Nat) : Int) : Int) : Rat) / (b : Rat))) = (-Vt) := by rw [← hY]; exact hVs
                    have hs2 : fitE (nearR (((a * ((2 ^ K : Nat) : Int) : Int) : Rat) / (b : Rat))) = 0 := by rw [← hY]; exact hye
                    have Hs1 := Lib.hid hs1
                    clear hs1
                    have Hs2 := Lib.hid hs2
                    clear hs2
                    have Ht1 := Lib.hid ht1
                    clear ht1
                    have Ht2 := Lib.hid ht2
                    clear ht2
                    clear hVs hye hY1 hY hyn
                    obtain ⟨D, hD⟩ : ∃ D, D = a - b := ⟨_, rfl⟩
                    have hm1 : fitV (a - b) = D := by rw [hD]; exact fitE_0 hde
                    have hm2 : fitE (a - b) = 0 := hde
                    have hDb : -9223372036854775808 ≤ D ∧ D < 9223372036854775808 := by
                      have h2 : fits (a - b) = true := by cases hh : fits (a - b); rw [fitE_out hh] at hde; cases hde; rfl
                      rw [hD]; exact fits_iff.1 h2
                    have hn1 : fitV (D + b) = a := by rw [show D + b = a by omega]; exact fitV_ok ha1 ha2
                    have hn2 : fitE (D + b) = 0 := by rw [show D + b = a by omega]; exact fitE_ok ha1 ha2
                    have HDb := Lib.hid hDb
                    clear hD hDb
                    have Hm1 := Lib.hid hm1
                    clear hm1
                    have Hm2 := Lib.hid hm2
                    clear hm2
                    have Hn1 := Lib.hid hn1
                    clear hn1
                    have Hn2 := Lib.hid hn2
                    clear hn2
                    clear hde
                    clear ha1 ha2 hb1 hb2 hma hmb hK hP0 hPb hX1 hX2 hX hP
                    obtain ⟨W0, hW0⟩ : ∃ W0, W0 = w := ⟨_, rfl⟩
                    have E0 : Ext w W0 := by rw [hW0]; exact Ext.refl w
                    go_enter Try.func8, Try.ntmps8
                    go_wp2_with fail
                    rw [← hW0]
                    clear hW0
                    refine (Try.fixMulV a b K HK.out _ HB.out.1.1 HB.out.1.2 HB.out.2.1.1 HB.out.2.1.2 Hp1.out Hp2.out).mono ?_
                    rintro e V116 ⟨rfl, hE⟩
                    replace E0 : Ext w V116 := (Ext.trans E0 hE)
                    clear hE
                    go_wp2_with fail
                    refine (Try.fixMulV (-a) b K HK.out _ HB.out.2.2.2.1.1 HB.out.2.2.2.1.2 HB.out.2.1.1 HB.out.2.1.2 Hq1.out Hq2.out).mono ?_
                    rintro e V117 ⟨rfl, hE⟩
                    replace E0 : Ext w V117 := (Ext.trans E0 hE)
                    clear hE
                    go_wp2_with fail
                    refine (Try.fixMulV b a K HK.out _ HB.out.2.1.1 HB.out.2.1.2 HB.out.1.1 HB.out.1.2 Hr1.out Hr2.out).mono ?_
                    rintro e V118 ⟨rfl, hE⟩
                    replace E0 : Ext w V118 := (Ext.trans E0 hE)
                    clear hE
                    go_wp2_with fail
                    refine (Try.fixDivV a b K HK.out _ HB.out.1.1 HB.out.1.2 HB.out.2.1.1 HB.out.2.1.2 HBN.out Hs1.out Hs2.out).mono ?_
                    rintro e V119 ⟨rfl, hE⟩
                    replace E0 : Ext w V119 := (Ext.trans E0 hE)
                    clear hE
                    go_wp2_with fail
                    refine (Try.fixDivV (-a) b K HK.out _ HB.out.2.2.2.1.1 HB.out.2.2.2.1.2 HB.out.2.1.1 HB.out.2.1.2 HBN.out Ht1.out Ht2.out).mono ?_
                    rintro e V120 ⟨rfl, hE⟩
                    replace E0 : Ext w V120 := (Ext.trans E0 hE)
                    clear hE
                    go_wp2_with fail
                    refine (Try.fixMulV a (P : Int) K HK.out _ HB.out.1.1 HB.out.1.2 HB.out.2.2.1.1 HB.out.2.2.1.2 HU1.out HU2.out).mono ?_
                    rintro e V121 ⟨rfl, hE⟩
                    replace E0 : Ext w V121 := (Ext.trans E0 hE)
                    clear hE
                    go_wp2_with fail
                    refine (Try.fixDivV a (P : Int) K HK.out _ HB.out.1.1 HB.out.1.2 HB.out.2.2.1.1 HB.out.2.2.1.2 HB.out.2.2.2.2 HD1.out HD2.out).mono ?_
                    rintro e V122 ⟨rfl, hE⟩
                    replace E0 : Ext w V122 := (Ext.trans E0 hE)
                    clear hE
                    go_wp2_with fail
                    refine (Try.fixSubV a b _ HB.out.1.1 HB.out.1.2 HB.out.2.1.1 HB.out.2.1.2 Hm1.out Hm2.out).mono ?_
                    rintro e V123 ⟨rfl, hE⟩
                    replace E0 : Ext w V123 := (Ext.trans E0 hE)
                    clear hE
                    go_wp2_with fail
                    refine (Try.fixAddV D b _ HDb.out.1 HDb.out.2 HB.out.2.1.1 HB.out.2.1.2 Hn1.out Hn2.out).mono ?_
                    rintro e V124 ⟨rfl, hE⟩
                    replace E0 : Ext w V124 := (Ext.trans E0 hE)
                    clear hE
                    go_wp2_with fail
                    refine (Try.alive08 _).mono ?_
                    rintro e V125 ⟨rfl, hE⟩
                    replace E0 : Ext w V125 := (Ext.trans E0 hE)
                    clear hE
                    go_wp2
                    go_ret
                    exact ⟨rfl, E0⟩
                  · obtain ⟨Vq, hq1⟩ : ∃ V, fitV (nearR (((-a * b : Int) : Rat) / ((2 ^ K : Nat) : Rat))) = V := ⟨_, rfl⟩
                    obtain ⟨Eq, hq2⟩ : ∃ V, fitE (nearR (((-a * b : Int) : Rat) / ((2 ^ K : Nat) : Rat))) = V := ⟨_, rfl⟩
                    obtain ⟨Vp, hVp⟩ : ∃ V, fitV X = V := ⟨_, rfl⟩
                    have hp1 : fitV (nearR (((a * b : Int) : Rat) / ((2 ^ K : Nat) : Rat))) = Vp := by rw [← hX]; exact hVp
                    have hp2 : fitE (nearR (((a * b : Int) : Rat) / ((2 ^ K : Nat) : Rat))) = 2 := by rw [← hX]; exact hxe
                    have hr1 : fitV (nearR (((b * a : Int) : Rat) / ((2 ^ K : Nat) : Rat))) = Vp := by rw [hX2]; exact hVp
                    have hr2 : fitE (nearR (((b * a : Int) : Rat) / ((2 ^ K : Nat) : Rat))) = 2 := by rw [hX2]; exact hxe
                    have Hp1 := Lib.hid hp1
                    clear hp1
                    have Hp2 := Lib.hid hp2
                    clear hp2
                    have Hq1 := Lib.hid hq1
                    clear hq1
                    have Hq2 := Lib.hid hq2
                    clear hq2
                    have Hr1 := Lib.hid hr1
                    clear hr1
                    have Hr2 := Lib.hid hr2
                    clear hr2
                    clear hVp hxe
                    obtain ⟨Vt, hVt⟩ : ∃ V, V = -Y := ⟨_, rfl⟩
                    have ht1 : fitV (nearR (((-a * ((2 ^ K : Nat) : Int) : Int) : Rat) / (b : Rat))) = Vt := by rw [hY1, hVt]; exact fitE_0 hyn
                    have ht2 : fitE (nearR (((-a * ((2 ^ K : Nat) : Int) : Int) : Rat) / (b : Rat))) = 0 := by rw [hY1]; exact hyn
                    have hVs : fitV Y = -Vt := by rw [fitE_0 hye, hVt]; omega
                    have hVu : IntKind.i64.wrap (-Vt) = -Vt := by
                      have h1 := fitE_0 hye
                      have h2 : fits Y = true := by cases hh : fits Y; rw [fitE_out hh] at hye; cases hye; rfl
                      have h3 := fits_iff.1 h2
                      rw [IntKind.wrap_i64]; omega
                    clear hVt
                    have hs1 : fitV (nearR (((a * ((2 ^ K : Nat) : Int) : Int) : Rat) / (b : Rat))) = (-Vt) := by rw [← hY]; exact hVs
                    have hs2 : fitE (nearR (((a * ((2 ^ K : Nat) : Int) : Int) : Rat) / (b : Rat))) = 0 := by rw [← hY]; exact hye
                    have Hs1 := Lib.hid hs1
                    clear hs1
                    have Hs2 := Lib.hid hs2
                    clear hs2
                    have Ht1 := Lib.hid ht1
                    clear ht1
                    have Ht2 := Lib.hid ht2
                    clear ht2
                    clear hVs hye hY1 hY hyn
                    have hm1 : fitV (a - b) = 0 := by
                      have h2 : fits (a - b) = false := by cases hh : fits (a - b); rfl; rw [fitE_in hh] at hde; cases hde
                      exact fitV_out h2
                    have hm2 : fitE (a - b) = 2 := hde
                    obtain ⟨Vn, hn1⟩ : ∃ V, fitV (0 + b) = V := ⟨_, rfl⟩
                    obtain ⟨En, hn2⟩ : ∃ V, fitE (0 + b) = V := ⟨_, rfl⟩
                    have Hm1 := Lib.hid hm1
                    clear hm1
                    have Hm2 := Lib.hid hm2
                    clear hm2
                    have Hn1 := Lib.hid hn1
                    clear hn1
                    have Hn2 := Lib.hid hn2
                    clear hn2
                    clear hde
                    clear ha1 ha2 hb1 hb2 hma hmb hK hP0 hPb hX1 hX2 hX hP
                    obtain ⟨W0, hW0⟩ : ∃ W0, W0 = w := ⟨_, rfl⟩
                    have E0 : Ext w W0 := by rw [hW0]; exact Ext.refl w
                    go_enter Try.func8, Try.ntmps8
                    go_wp2_with fail
                    rw [← hW0]
                    clear hW0
                    refine (Try.fixMulV a b K HK.out _ HB.out.1.1 HB.out.1.2 HB.out.2.1.1 HB.out.2.1.2 Hp1.out Hp2.out).mono ?_
                    rintro e V126 ⟨rfl, hE⟩
                    replace E0 : Ext w V126 := (Ext.trans E0 hE)
                    clear hE
                    go_wp2_with fail
                    refine (Try.fixMulV (-a) b K HK.out _ HB.out.2.2.2.1.1 HB.out.2.2.2.1.2 HB.out.2.1.1 HB.out.2.1.2 Hq1.out Hq2.out).mono ?_
                    rintro e V127 ⟨rfl, hE⟩
                    replace E0 : Ext w V127 := (Ext.trans E0 hE)
                    clear hE
                    go_wp2_with fail
                    refine (Try.fixMulV b a K HK.out _ HB.out.2.1.1 HB.out.2.1.2 HB.out.1.1 HB.out.1.2 Hr1.out Hr2.out).mono ?_
                    rintro e V128 ⟨rfl, hE⟩
                    replace E0 : Ext w V128 := (Ext.trans E0 hE)
                    clear hE
                    go_wp2_with fail
                    refine (Try.fixDivV a b K HK.out _ HB.out.1.1 HB.out.1.2 HB.out.2.1.1 HB.out.2.1.2 HBN.out Hs1.out Hs2.out).mono ?_
                    rintro e V129 ⟨rfl, hE⟩
                    replace E0 : Ext w V129 := (Ext.trans E0 hE)
                    clear hE
                    go_wp2_with fail
                    refine (Try.fixDivV (-a) b K HK.out _ HB.out.2.2.2.1.1 HB.out.2.2.2.1.2 HB.out.2.1.1 HB.out.2.1.2 HBN.out Ht1.out Ht2.out).mono ?_
                    rintro e V130 ⟨rfl, hE⟩
                    replace E0 : Ext w V130 := (Ext.trans E0 hE)
                    clear hE
                    go_wp2_with fail
                    refine (Try.fixMulV a (P : Int) K HK.out _ HB.out.1.1 HB.out.1.2 HB.out.2.2.1.1 HB.out.2.2.1.2 HU1.out HU2.out).mono ?_
                    rintro e V131 ⟨rfl, hE⟩
                    replace E0 : Ext w V131 := (Ext.trans E0 hE)
                    clear hE
                    go_wp2_with fail
                    refine (Try.fixDivV a (P : Int) K HK.out _ HB.out.1.1 HB.out.1.2 HB.out.2.2.1.1 HB.out.2.2.1.2 HB.out.2.2.2.2 HD1.out HD2.out).mono ?_
                    rintro e V132 ⟨rfl, hE⟩
                    replace E0 : Ext w V132 := (Ext.trans E0 hE)
                    clear hE
                    go_wp2_with fail
                    refine (Try.fixSubV a b _ HB.out.1.1 HB.out.1.2 HB.out.2.1.1 HB.out.2.1.2 Hm1.out Hm2.out).mono ?_
                    rintro e V133 ⟨rfl, hE⟩
                    replace E0 : Ext w V133 := (Ext.trans E0 hE)
                    clear hE
                    go_wp2_with fail
                    refine (Try.fixAddV 0 b _ (by omega) (by omega) HB.out.2.1.1 HB.out.2.1.2 Hn1.out Hn2.out).mono ?_
                    rintro e V134 ⟨rfl, hE⟩
                    replace E0 : Ext w V134 := (Ext.trans E0 hE)
                    clear hE
                    go_wp2_with fail
                    refine (Try.alive08 _).mono ?_
                    rintro e V135 ⟨rfl, hE⟩
                    replace E0 : Ext w V135 := (Ext.trans E0 hE)
                    clear hE
                    go_wp2
                    go_ret
                    exact ⟨rfl, E0⟩
              · obtain hxe | hxe := fitE_2 (a := X)
                · obtain hxn | hxn := fitE_2 (a := -X)
                  · obtain hde | hde := fitE_2 (a := a - b)
                    · obtain ⟨Vq, hVq⟩ : ∃ V, V = -X := ⟨_, rfl⟩
                      have hq1 : fitV (nearR (((-a * b : Int) : Rat) / ((2 ^ K : Nat) : Rat))) = Vq := by rw [hX1, hVq]; exact fitE_0 hxn
                      have hq2 : fitE (nearR (((-a * b : Int) : Rat) / ((2 ^ K : Nat) : Rat))) = 0 := by rw [hX1]; exact hxn
                      have hVp : fitV X = -Vq := by rw [fitE_0 hxe, hVq]; omega
                      have hVw : IntKind.i64.wrap (-Vq) = -Vq := by
                        have h1 := fitE_0 hxe
                        have h2 : fits X = true := by cases hh : fits X; rw [fitE_out hh] at hxe; cases hxe; rfl
                        have h3 := fits_iff.1 h2
                        rw [IntKind.wrap_i64]; omega
                      clear hVq
                      have hp1 : fitV (nearR (((a * b : Int) : Rat) / ((2 ^ K : Nat) : Rat))) = (-Vq) := by rw [← hX]; exact hVp
                      have hp2 : fitE (nearR (((a * b : Int) : Rat) / ((2 ^ K : Nat) : Rat))) = 0 := by rw [← hX]; exact hxe
                      have hr1 : fitV (nearR (((b * a : Int) : Rat) / ((2 ^ K : Nat) : Rat))) = (-Vq) := by rw [hX2]; exact hVp
                      have hr2 : fitE (nearR (((b * a : Int) : Rat) / ((2 ^ K : Nat) : Rat))) = 0 := by rw [hX2]; exact hxe
                      have Hp1 := Lib.hid hp1
                      clear hp1
                      have Hp2 := Lib.hid hp2
                      clear hp2
                      have Hq1 := Lib.hid hq1
                      clear hq1
                      have Hq2 := Lib.hid hq2
                      clear hq2
                      have Hr1 := Lib.hid hr1
                      clear hr1
                      have Hr2 := Lib.hid hr2
                      clear hr2
                      clear hVp hxe hxn
                      obtain ⟨Vt, ht1⟩ : ∃ V, fitV (nearR (((-a * ((2 ^ K : Nat) : Int) : Int) : Rat) / (b : Rat))) = V := ⟨_, rfl⟩
                      have ht2 : fitE (nearR (((-a * ((2 ^ K : Nat) : Int) : Int) : Rat) / (b : Rat))) = 2 := by rw [hY1]; exact hyn
                      obtain ⟨Vs, hVs⟩ : ∃ V, fitV Y = V := ⟨_, rfl⟩
                      have hs1 : fitV (nearR (((a * ((2 ^ K : Nat) : Int) : Int) : Rat) / (b : Rat))) = Vs := by rw [← hY]; exact hVs
                      have hs2 : fitE (nearR (((a * ((2 ^ K : Nat) : Int) : Int) : Rat) / (b : Rat))) = 0 := by rw [← hY]; exact hye
                      have Hs1 := Lib.hid hs1
                      clear hs1
                      have Hs2 := Lib.hid hs2
                      clear hs2
                      have Ht1 := Lib.hid ht1
                      clear ht1
                      have Ht2 := Lib.hid ht2
                      clear ht2
                      clear hVs hye hY1 hY hyn
                      obtain ⟨D, hD⟩ : ∃ D, D = a - b := ⟨_, rfl⟩
                      have hm1 : fitV (a - b) = D := by rw [hD]; exact fitE_0 hde
                      have hm2 : fitE (a - b) = 0 := hde
                      have hDb : -9223372036854775808 ≤ D ∧ D < 9223372036854775808 := by
                        have h2 : fits (a - b) = true := by cases hh : fits (a - b); rw [fitE_out hh] at hde; cases hde; rfl
                        rw [hD]; exact fits_iff.1 h2
                      have hn1 : fitV (D + b) = a := by rw [show D + b = a by omega]; exact fitV_ok ha1 ha2
                      have hn2 : fitE (D + b) = 0 := by rw [show D + b = a by omega]; exact fitE_ok ha1 ha2
                      have HDb := Lib.hid hDb
                      clear hD hDb
                      have Hm1 := Lib.hid hm1
                      clear hm1
                      have Hm2 := Lib.hid hm2
                      clear hm2
                      have Hn1 := Lib.hid hn1
                      clear hn1
                      have Hn2 := Lib.hid hn2
                      clear hn2
                      clear hde
                      clear ha1 ha2 hb1 hb2 hma hmb hK hP0 hPb hX1 hX2 hX hP
                      obtain ⟨W0, hW0⟩ : ∃ W0, W0 = w := ⟨_, rfl⟩
                      have E0 : Ext w W0 := by rw [hW0]; exact Ext.refl w
                      go_enter Try.func8, Try.ntmps8
                      go_wp2_with fail
                      rw [← hW0]
                      clear hW0
                      refine (Try.fixMulV a b K HK.out _ HB.out.1.1 HB.out.1.2 HB.out.2.1.1 HB.out.2.1.2 Hp1.out Hp2.out).mono ?_
                      rintro e V136 ⟨rfl, hE⟩
                      replace E0 : Ext w V136 := (Ext.trans E0 hE)
                      clear hE
                      go_wp2_with fail
                      refine (Try.fixMulV (-a) b K HK.out _ HB.out.2.2.2.1.1 HB.out.2.2.2.1.2 HB.out.2.1.1 HB.out.2.1.2 Hq1.out Hq2.out).mono ?_
                      rintro e V137 ⟨rfl, hE⟩
                      replace E0 : Ext w V137 := (Ext.trans E0 hE)
                      clear hE
                      go_wp2_with fail
                      refine (Try.fixMulV b a K HK.out _ HB.out.2.1.1 HB.out.2.1.2 HB.out.1.1 HB.out.1.2 Hr1.out Hr2.out).mono ?_
                      rintro e V138 ⟨rfl, hE⟩
                      replace E0 : Ext w V138 := (Ext.trans E0 hE)
                      clear hE
                      go_wp2_with fail
                      refine (Try.fixDivV a b K HK.out _ HB.out.1.1 HB.out.1.2 HB.out.2.1.1 HB.out.2.1.2 HBN.out Hs1.out Hs2.out).mono ?_
                      rintro e V139 ⟨rfl, hE⟩
                      replace E0 : Ext w V139 := (Ext.trans E0 hE)
                      clear hE
                      go_wp2_with fail
                      refine (Try.fixDivV (-a) b K HK.out _ HB.out.2.2.2.1.1 HB.out.2.2.2.1.2 HB.out.2.1.1 HB.out.2.1.2 HBN.out Ht1.out Ht2.out).mono ?_
                      rintro e V140 ⟨rfl, hE⟩
                      replace E0 : Ext w V140 := (Ext.trans E0 hE)
                      clear hE
                      go_wp2_with fail
                      refine (Try.fixMulV a (P : Int) K HK.out _ HB.out.1.1 HB.out.1.2 HB.out.2.2.1.1 HB.out.2.2.1.2 HU1.out HU2.out).mono ?_
                      rintro e V141 ⟨rfl, hE⟩
                      replace E0 : Ext w V141 := (Ext.trans E0 hE)
                      clear hE
                      go_wp2_with fail
                      refine (Try.fixDivV a (P : Int) K HK.out _ HB.out.1.1 HB.out.1.2 HB.out.2.2.1.1 HB.out.2.2.1.2 HB.out.2.2.2.2 HD1.out HD2.out).mono ?_
                      rintro e V142 ⟨rfl, hE⟩
                      replace E0 : Ext w V142 := (Ext.trans E0 hE)
                      clear hE
                      go_wp2_with fail
                      refine (Try.fixSubV a b _ HB.out.1.1 HB.out.1.2 HB.out.2.1.1 HB.out.2.1.2 Hm1.out Hm2.out).mono ?_
                      rintro e V143 ⟨rfl, hE⟩
                      replace E0 : Ext w V143 := (Ext.trans E0 hE)
                      clear hE
                      go_wp2_with fail
                      refine (Try.fixAddV D b _ HDb.out.1 HDb.out.2 HB.out.2.1.1 HB.out.2.1.2 Hn1.out Hn2.out).mono ?_
                      rintro e V144 ⟨rfl, hE⟩
                      replace E0 : Ext w V144 := (Ext.trans E0 hE)
                      clear hE
                      go_wp2_with fail
                      refine (Try.alive08 _).mono ?_
                      rintro e V145 ⟨rfl, hE⟩
                      replace E0 : Ext w V145 := (Ext.trans E0 hE)
                      clear hE
                      go_wp2
                      go_ret
                      exact ⟨rfl, E0⟩
                    · obtain ⟨Vq, hVq⟩ : ∃ V, V = -X := ⟨_, rfl⟩
                      have hq1 : fitV (nearR (((-a * b : Int) : Rat) / ((2 ^ K : Nat) : Rat))) = Vq := by rw [hX1, hVq]; exact fitE_0 hxn
                      have hq2 : fitE (nearR (((-a * b : Int) : Rat) / ((2 ^ K : Nat) : Rat))) = 0 := by rw [hX1]; exact hxn
                      have hVp : fitV X = -Vq := by rw [fitE_0 hxe, hVq]; omega
                      have hVw : IntKind.i64.wrap (-Vq) = -Vq := by
                        have h1 := fitE_0 hxe
                        have h2 : fits X = true := by cases hh : fits X; rw [fitE_out hh] at hxe; cases hxe; rfl
                        have h3 := fits_iff.1 h2
                        rw [IntKind.wrap_i64]; omega
                      clear hVq
                      have hp1 : fitV (nearR (((a * b : Int) : Rat) / ((2 ^ K : Nat) : Rat))) = (-Vq) := by rw [← hX]; exact hVp
                      have hp2 : fitE (nearR (((a * b : Int) : Rat) / ((2 ^ K : Nat) : Rat))) = 0 := by rw [← hX]; exact hxe
                      have hr1 : fitV (nearR (((b * a : Int) : Rat) / ((2 ^ K : Nat) : Rat))) = (-Vq) := by rw [hX2]; exact hVp
                      have hr2 : fitE (nearR (((b * a : Int) : Rat) / ((2 ^ K : Nat) : Rat))) = 0 := by rw [hX2]; exact hxe
                      have Hp1 := Lib.hid hp1
                      clear hp1
                      have Hp2 := Lib.hid hp2
                      clear hp2
                      have Hq1 := Lib.hid hq1
                      clear hq1
                      have Hq2 := Lib.hid hq2
                      clear hq2
                      have Hr1 := Lib.hid hr1
                      clear hr1
                      have Hr2 := Lib.hid hr2
                      clear hr2
                      clear hVp hxe hxn
                      obtain ⟨Vt, ht1⟩ : ∃ V, fitV (nearR (((-a * ((2 ^ K : Nat) : Int) : Int) : Rat) / (b : Rat))) = V := ⟨_, rfl⟩
                      have ht2 : fitE (nearR (((-a * ((2 ^ K : Nat) : Int) : Int) : Rat) / (b : Rat))) = 2 := by rw [hY1]; exact hyn
                      obtain ⟨Vs, hVs⟩ : ∃ V, fitV Y = V := ⟨_, rfl⟩
                      have hs1 : fitV (nearR (((a * ((2 ^ K : Nat) : Int) : Int) : Rat) / (b : Rat))) = Vs := by rw [← hY]; exact hVs
                      have hs2 : fitE (nearR (((a * ((2 ^ K : Nat) : Int) : Int) : Rat) / (b : Rat))) = 0 := by rw [← hY]; exact hye
                      have Hs1 := Lib.hid hs1
                      clear hs1
                      have Hs2 := Lib.hid hs2
                      clear hs2
                      have Ht1 := Lib.hid ht1
                      clear ht1
                      have Ht2 := Lib.hid ht2
                      clear ht2
                      clear hVs hye hY1 hY hyn
                      have hm1 : fitV (a - b) = 0 := by
                        have h2 : fits (a - b) = false := by cases hh : fits (a - b); rfl; rw [fitE_in hh] at hde; cases hde
                        exact fitV_out h2
                      have hm2 : fitE (a - b) = 2 := hde
                      obtain ⟨Vn, hn1⟩ : ∃ V, fitV (0 + b) = V := ⟨_, rfl⟩
                      obtain ⟨En, hn2⟩ : ∃ V, fitE (0 + b) = V := ⟨_, rfl⟩
                      have Hm1 := Lib.hid hm1
                      clear hm1
                      have Hm2 := Lib.hid hm2
                      clear hm2
                      have Hn1 := Lib.hid hn1
                      clear hn1
                      have Hn2 := Lib.hid hn2
                      clear hn2
                      clear hde
                      clear ha1 ha2 hb1 hb2 hma hmb hK hP0 hPb hX1 hX2 hX hP
                      obtain ⟨W0, hW0⟩ : ∃ W0, W0 = w := ⟨_, rfl⟩
                      have E0 : Ext w W0 := by rw [hW0]; exact Ext.refl w
                      go_enter Try.func8, Try.ntmps8
                      go_wp2_with fail
                      rw [← hW0]
                      clear hW0
                      refine (Try.fixMulV a b K HK.out _ HB.out.1.1 HB.out.1.2 HB.out.2.1.1 HB.out.2.1.2 Hp1.out Hp2.out).mono ?_
                      rintro e V146 ⟨rfl, hE⟩
                      replace E0 : Ext w V146 := (Ext.trans E0 hE)
                      clear hE
                      go_wp2_with fail
                      refine (Try.fixMulV (-a) b K HK.out _ HB.out.2.2.2.1.1 HB.out.2.2.2.1.2 HB.out.2.1.1 HB.out.2.1.2 Hq1.out Hq2.out).mono ?_
                      rintro e V147 ⟨rfl, hE⟩
                      replace E0 : Ext w V147 := (Ext.trans E0 hE)
                      clear hE
                      go_wp2_with fail
                      refine (Try.fixMulV b a K HK.out _ HB.out.2.1.1 HB.out.2.1.2 HB.out.1.1 HB.out.1.2 Hr1.out Hr2.out).mono ?_
                      rintro e V148 ⟨rfl, hE⟩
                      replace E0 : Ext w V148 := (Ext.trans E0 hE)
                      clear hE
                      go_wp2_with fail
                      refine (Try.fixDivV a b K HK.out _ HB.out.1.1 HB.out.1.2 HB.out.2.1.1 HB.out.2.1.2 HBN.out Hs1.out Hs2.out).mono ?_
                      rintro e V149 ⟨rfl, hE⟩
                      replace E0 : Ext w V149 := (Ext.trans E0 hE)
                      clear hE
                      go_wp2_with fail
                      refine (Try.fixDivV (-a) b K HK.out _ HB.out.2.2.2.1.1 HB.out.2.2.2.1.2 HB.out.2.1.1 HB.out.2.1.2 HBN.out Ht1.out Ht2.out).mono ?_
                      rintro e V150 ⟨rfl, hE⟩
                      replace E0 : Ext w V150 := (Ext.trans E0 hE)
                      clear hE
                      go_wp2_with fail
                      refine (Try.fixMulV a (P : Int) K HK.out _ HB.out.1.1 HB.out.1.2 HB.out.2.2.1.1 HB.out.2.2.1.2 HU1.out HU2.out).mono ?_
                      rintro e V151 ⟨rfl, hE⟩
                      replace E0 : Ext w V151 := (Ext.trans E0 hE)
                      clear hE
                      go_wp2_with fail
                      refine (Try.fixDivV a (P : Int) K HK.out _ HB.out.1.1 HB.out.1.2 HB.out.2.2.1.1 HB.out.2.2.1.2 HB.out.2.2.2.2 HD1.out HD2.out).mono ?_
                      rintro e V152 ⟨rfl, hE⟩
                      replace E0 : Ext w V152 := (Ext.trans E0 hE)
                      clear hE
                      go_wp2_with fail
                      refine (Try.fixSubV a b _ HB.out.1.1 HB.out.1.2 HB.out.2.1.1 HB.out.2.1.2 Hm1.out Hm2.out).mono ?_
                      rintro e V153 ⟨rfl, hE⟩
                      replace E0 : Ext w V153 := (Ext.trans E0 hE)
                      clear hE
                      go_wp2_with fail
                      refine (Try.fixAddV 0 b _ (by omega) (by omega) HB.out.2.1.1 HB.out.2.1.2 Hn1.out Hn2.out).mono ?_
                      rintro e V154 ⟨rfl, hE⟩
                      replace E0 : Ext w V154 := (Ext.trans E0 hE)
                      clear hE
                      go_wp2_with fail
                      refine (Try.alive08 _).mono ?_
                      rintro e V155 ⟨rfl, hE⟩
                      replace E0 : Ext w V155 := (Ext.trans E0 hE)
                      clear hE
                      go_wp2
                      go_ret
                      exact ⟨rfl, E0⟩
                  · obtain hde | hde := fitE_2 (a := a - b)
                    · obtain ⟨Vq, hq1⟩ : ∃ V, fitV (nearR (((-a * b : Int) : Rat) / ((2 ^ K : Nat) : Rat))) = V := ⟨_, rfl⟩
                      have hq2 : fitE (nearR (((-a * b : Int) : Rat) / ((2 ^ K : Nat) : Rat))) = 2 := by rw [hX1]; exact hxn
                      obtain ⟨Vp, hVp⟩ : ∃ V, fitV X = V := ⟨_, rfl⟩
                      have hp1 : fitV (nearR (((a * b : Int) : Rat) / ((2 ^ K : Nat) : Rat))) = Vp := by rw [← hX]; exact hVp
                      have hp2 : fitE (nearR (((a * b : Int) : Rat) / ((2 ^ K : Nat) : Rat))) = 0 := by rw [← hX]; exact hxe
                      have hr1 : fitV (nearR (((b * a : Int) : Rat) / ((2 ^ K : Nat) : Rat))) = Vp := by rw [hX2]; exact hVp
                      have hr2 : fitE (nearR (((b * a : Int) : Rat) / ((2 ^ K : Nat) : Rat))) = 0 := by rw [hX2]; exact hxe
                      have Hp1 := Lib.hid hp1
                      clear hp1
                      have Hp2 := Lib.hid hp2
                      clear hp2
                      have Hq1 := Lib.hid hq1
                      clear hq1
                      have Hq2 := Lib.hid hq2
                      clear hq2
                      have Hr1 := Lib.hid hr1
                      clear hr1
                      have Hr2 := Lib.hid hr2
                      clear hr2
                      clear hVp hxe hxn
                      obtain ⟨Vt, ht1⟩ : ∃ V, fitV (nearR (((-a * ((2 ^ K : Nat) : Int) : Int) : Rat) / (b : Rat))) = V := ⟨_, rfl⟩
                      have ht2 : fitE (nearR (((-a * ((2 ^ K : Nat) : Int) : Int) : Rat) / (b : Rat))) = 2 := by rw [hY1]; exact hyn
                      obtain ⟨Vs, hVs⟩ : ∃ V, fitV Y = V := ⟨_, rfl⟩
                      have hs1 : fitV (nearR (((a * ((2 ^ K : Nat) : Int) : Int) : Rat) / (b : Rat))) = Vs := by rw [← hY]; exact hVs
                      have hs2 : fitE (nearR (((a * ((2 ^ K : Nat) : Int) : Int) : Rat) / (b : Rat))) = 0 := by rw [← hY]; exact hye
                      have Hs1 := Lib.hid hs1
                      clear hs1
                      have Hs2 := Lib.hid hs2
                      clear hs2
                      have Ht1 := Lib.hid ht1
                      clear ht1
                      have Ht2 := Lib.hid ht2
                      clear ht2
                      clear hVs hye hY1 hY hyn
                      obtain ⟨D, hD⟩ : ∃ D, D = a - b := ⟨_, rfl⟩
                      have hm1 : fitV (a - b) = D := by rw [hD]; exact fitE_0 hde
                      have hm2 : fitE (a - b) = 0 := hde
                      have hDb : -9223372036854775808 ≤ D ∧ D < 9223372036854775808 := by
                        have h2 : fits (a - b) = true := by cases hh : fits (a - b); rw [fitE_out hh] at hde; cases hde; rfl
                        rw [hD]; exact fits_iff.1 h2
                      have hn1 : fitV (D + b) = a := by rw [show D + b = a by omega]; exact fitV_ok ha1 ha2
                      have hn2 : fitE (D + b) = 0 := by rw [show D + b = a by omega]; exact fitE_ok ha1 ha2
                      have HDb := Lib.hid hDb
                      clear hD hDb
                      have Hm1 := Lib.hid hm1
                      clear hm1
                      have Hm2 := Lib.hid hm2
                      clear hm2
                      have Hn1 := Lib.hid hn1
                      clear hn1
                      have Hn2 := Lib.hid hn2
                      clear hn2
                      clear hde
                      clear ha1 ha2 hb1 hb2 hma hmb hK hP0 hPb hX1 hX2 hX hP
                      obtain ⟨W0, hW0⟩ : ∃ W0, W0 = w := ⟨_, rfl⟩
                      have E0 : Ext w W0 := by rw [hW0]; exact Ext.refl w
                      go_enter Try.func8, Try.ntmps8
                      go_wp2_with fail
                      rw [← hW0]
                      clear hW0
                      refine (Try.fixMulV a b K HK.out _ HB.out.1.1 HB.out.1.2 HB.out.2.1.1 HB.out.2.1.2 Hp1.out Hp2.out).mono ?_
                      rintro e V156 ⟨rfl, hE⟩
                      replace E0 : Ext w V156 := (Ext.trans E0 hE)
                      clear hE
                      go_wp2_with fail
                      refine (Try.fixMulV (-a) b K HK.out _ HB.out.2.2.2.1.1 HB.out.2.2.2.1.2 HB.out.2.1.1 HB.out.2.1.2 Hq1.out Hq2.out).mono ?_
                      rintro e V157 ⟨rfl, hE⟩
                      replace E0 : Ext w V157 := (Ext.trans E0 hE)
                      clear hE
                      go_wp2_with fail
                      refine (Try.fixMulV b a K HK.out _ HB.out.2.1.1 HB.out.2.1.2 HB.out.1.1 HB.out.1.2 Hr1.out Hr2.out).mono ?_
                      rintro e V158 ⟨rfl, hE⟩
                      replace E0 : Ext w V158 := (Ext.trans E0 hE)
                      clear hE
                      go_wp2_with fail
                      refine (Try.fixDivV a b K HK.out _ HB.out.1.1 HB.out.1.2 HB.out.2.1.1 HB.out.2.1.2 HBN.out Hs1.out Hs2.out).mono ?_
                      rintro e V159 ⟨rfl, hE⟩
                      replace E0 : Ext w V159 := (Ext.trans E0 hE)
                      clear hE
                      go_wp2_with fail
                      refine (Try.fixDivV (-a) b K HK.out _ HB.out.2.2.2.1.1 HB.out.2.2.2.1.2 HB.out.2.1.1 HB.out.2.1.2 HBN.out Ht1.out Ht2.out).mono ?_
                      rintro e V160 ⟨rfl, hE⟩
                      replace E0 : Ext w V160 := (Ext.trans E0 hE)
                      clear hE
                      go_wp2_with fail
                      refine (Try.fixMulV a (P : Int) K HK.out _ HB.out.1.1 HB.out.1.2 HB.out.2.2.1.1 HB.out.2.2.1.2 HU1.out HU2.out).mono ?_
                      rintro e V161 ⟨rfl, hE⟩
                      replace E0 : Ext w V161 := (Ext.trans E0 hE)
                      clear hE
                      go_wp2_with fail
                      refine (Try.fixDivV a (P : Int) K HK.out _ HB.out.1.1 HB.out.1.2 HB.out.2.2.1.1 HB.out.2.2.1.2 HB.out.2.2.2.2 HD1.out HD2.out).mono ?_
                      rintro e V162 ⟨rfl, hE⟩
                      replace E0 : Ext w V162 := (Ext.trans E0 hE)
                      clear hE
                      go_wp2_with fail
                      refine (Try.fixSubV a b _ HB.out.1.1 HB.out.1.2 HB.out.2.1.1 HB.out.2.1.2 Hm1.out Hm2.out).mono ?_
                      rintro e V163 ⟨rfl, hE⟩
                      replace E0 : Ext w V163 := (Ext.trans E0 hE)
                      clear hE
                      go_wp2_with fail
                      refine (Try.fixAddV D b _ HDb.out.1 HDb.out.2 HB.out.2.1.1 HB.out.2.1.2 Hn1.out Hn2.out).mono ?_
                      rintro e V164 ⟨rfl, hE⟩
                      replace E0 : Ext w V164 := (Ext.trans E0 hE)
                      clear hE
                      go_wp2_with fail
                      refine (Try.alive08 _).mono ?_
                      rintro e V165 ⟨rfl, hE⟩
                      replace E0 : Ext w V165 := (Ext.trans E0 hE)
                      clear hE
                      go_wp2
                      go_ret
                      exact ⟨rfl, E0⟩
                    · obtain ⟨Vq, hq1⟩ : ∃ V, fitV (nearR (((-a * b : Int) : Rat) / ((2 ^ K : Nat) : Rat))) = V := ⟨_, rfl⟩
                      have hq2 : fitE (nearR (((-a * b : Int) : Rat) / ((2 ^ K : Nat) : Rat))) = 2 := by rw [hX1]; exact hxn
                      obtain ⟨Vp, hVp⟩ : ∃ V, fitV X = V := ⟨_, rfl⟩
                      have hp1 : fitV (nearR (((a * b : Int) : Rat) / ((2 ^ K : Nat) : Rat))) = Vp := by rw [← hX]; exact hVp
                      have hp2 : fitE (nearR (((a * b : Int) : Rat) / ((2 ^ K : Nat) : Rat))) = 0 := by rw [← hX]; exact hxe
                      have hr1 : fitV (nearR (((b * a : Int) : Rat) / ((2 ^ K : Nat) : Rat))) = Vp := by rw [hX2]; exact hVp
                      have hr2 : fitE (nearR (((b * a : Int) : Rat) / ((2 ^ K : Nat) : Rat))) = 0 := by rw [hX2]; exact hxe
                      have Hp1 := Lib.hid hp1
                      clear hp1
                      have Hp2 := Lib.hid hp2
                      clear hp2
                      have Hq1 := Lib.hid hq1
                      clear hq1
                      have Hq2 := Lib.hid hq2
                      clear hq2
                      have Hr1 := Lib.hid hr1
                      clear hr1
                      have Hr2 := Lib.hid hr2
                      clear hr2
                      clear hVp hxe hxn
                      obtain ⟨Vt, ht1⟩ : ∃ V, fitV (nearR (((-a * ((2 ^ K : Nat) : Int) : Int) : Rat) / (b : Rat))) = V := ⟨_, rfl⟩
                      have ht2 : fitE (nearR (((-a * ((2 ^ K : Nat) : Int) : Int) : Rat) / (b : Rat))) = 2 := by rw [hY1]; exact hyn
                      obtain ⟨Vs, hVs⟩ : ∃ V, fitV Y = V := ⟨_, rfl⟩
                      have hs1 : fitV (nearR (((a * ((2 ^ K : Nat) : Int) : Int) : Rat) / (b : Rat))) = Vs := by rw [← hY]; exact hVs
                      have hs2 : fitE (nearR (((a * ((2 ^ K : Nat) : Int) : Int) : Rat) / (b : Rat))) = 0 := by rw [← hY]; exact hye
                      have Hs1 := Lib.hid hs1
                      clear hs1
                      have Hs2 := Lib.hid hs2
                      clear hs2
                      have Ht1 := Lib.hid ht1
                      clear ht1
                      have Ht2 := Lib.hid ht2
                      clear ht2
                      clear hVs hye hY1 hY hyn
                      have hm1 : fitV (a - b) = 0 := by
                        have h2 : fits (a - b) = false := by cases hh : fits (a - b); rfl; rw [fitE_in hh] at hde; cases hde
                        exact fitV_out h2
                      have hm2 : fitE (a - b) = 2 := hde
                      obtain ⟨Vn, hn1⟩ : ∃ V, fitV (0 + b) = V := ⟨_, rfl⟩
                      obtain ⟨En, hn2⟩ : ∃ V, fitE (0 + b) = V := ⟨_, rfl⟩
                      have Hm1 := Lib.hid hm1
                      clear hm1
                      have Hm2 := Lib.hid hm2
                      clear hm2
                      have Hn1 := Lib.hid hn1
                      clear hn1
                      have Hn2 := Lib.hid hn2
                      clear hn2
                      clear hde
                      clear ha1 ha2 hb1 hb2 hma hmb hK hP0 hPb hX1 hX2 hX hP
                      obtain ⟨W0, hW0⟩ : ∃ W0, W0 = w := ⟨_, rfl⟩
                      have E0 : Ext w W0 := by rw [hW0]; exact Ext.refl w
                      go_enter Try.func8, Try.ntmps8
                      go_wp2_with fail
                      rw [← hW0]
                      clear hW0
                      refine (Try.fixMulV a b K HK.out _ HB.out.1.1 HB.out.1.2 HB.out.2.1.1 HB.out.2.1.2 Hp1.out Hp2.out).mono ?_
                      rintro e V166 ⟨rfl, hE⟩
                      replace E0 : Ext w V166 := (Ext.trans E0 hE)
                      clear hE
                      go_wp2_with fail
                      refine (Try.fixMulV (-a) b K HK.out _ HB.out.2.2.2.1.1 HB.out.2.2.2.1.2 HB.out.2.1.1 HB.out.2.1.2 Hq1.out Hq2.out).mono ?_
                      rintro e V167 ⟨rfl, hE⟩
                      replace E0 : Ext w V167 := (Ext.trans E0 hE)
                      clear hE
                      go_wp2_with fail
                      refine (Try.fixMulV b a K HK.out _ HB.out.2.1.1 HB.out.2.1.2 HB.out.1.1 HB.out.1.2 Hr1.out Hr2.out).mono ?_
                      rintro e V168 ⟨rfl, hE⟩
                      replace E0 : Ext w V168 := (Ext.trans E0 hE)
                      clear hE
                      go_wp2_with fail
                      refine (Try.fixDivV a b K HK.out _ HB.out.1.1 HB.out.1.2 HB.out.2.1.1 HB.out.2.1.2 HBN.out Hs1.out Hs2.out).mono ?_
                      rintro e V169 ⟨rfl, hE⟩
                      replace E0 : Ext w V169 := (Ext.trans E0 hE)
                      clear hE
                      go_wp2_with fail
                      refine (Try.fixDivV (-a) b K HK.out _ HB.out.2.2.2.1.1 HB.out.2.2.2.1.2 HB.out.2.1.1 HB.out.2.1.2 HBN.out Ht1.out Ht2.out).mono ?_
                      rintro e V170 ⟨rfl, hE⟩
                      replace E0 : Ext w V170 := (Ext.trans E0 hE)
                      clear hE
                      go_wp2_with fail
                      refine (Try.fixMulV a (P : Int) K HK.out _ HB.out.1.1 HB.out.1.2 HB.out.2.2.1.1 HB.out.2.2.1.2 HU1.out HU2.out).mono ?_
                      rintro e V171 ⟨rfl, hE⟩
                      replace E0 : Ext w V171 := (Ext.trans E0 hE)
                      clear hE
                      go_wp2_with fail
                      refine (Try.fixDivV a (P : Int) K HK.out _ HB.out.1.1 HB.out.1.2 HB.out.2.2.1.1 HB.out.2.2.1.2 HB.out.2.2.2.2 HD1.out HD2.out).mono ?_
                      rintro e V172 ⟨rfl, hE⟩
                      replace E0 : Ext w V172 := (Ext.trans E0 hE)
                      clear hE
                      go_wp2_with fail
                      refine (Try.fixSubV a b _ HB.out.1.1 HB.out.1.2 HB.out.2.1.1 HB.out.2.1.2 Hm1.out Hm2.out).mono ?_
                      rintro e V173 ⟨rfl, hE⟩
                      replace E0 : Ext w V173 := (Ext.trans E0 hE)
                      clear hE
                      go_wp2_with fail
                      refine (Try.fixAddV 0 b _ (by omega) (by omega) HB.out.2.1.1 HB.out.2.1.2 Hn1.out Hn2.out).mono ?_
                      rintro e V174 ⟨rfl, hE⟩
                      replace E0 : Ext w V174 := (Ext.trans E0 hE)
                      clear hE
                      go_wp2_with fail
                      refine (Try.alive08 _).mono ?_
                      rintro e V175 ⟨rfl, hE⟩
                      replace E0 : Ext w V175 := (Ext.trans E0 hE)
                      clear hE
                      go_wp2
                      go_ret
                      exact ⟨rfl, E0⟩
                · obtain hde | hde := fitE_2 (a := a - b)
                  · obtain ⟨Vq, hq1⟩ : ∃ V, fitV (nearR (((-a * b : Int) : Rat) / ((2 ^ K : Nat) : Rat))) = V := ⟨_, rfl⟩
                    obtain ⟨Eq, hq2⟩ : ∃ V, fitE (nearR (((-a * b : Int) : Rat) / ((2 ^ K : Nat) : Rat))) = V := ⟨_, rfl⟩
                    obtain ⟨Vp, hVp⟩ : ∃ V, fitV X = V := ⟨_, rfl⟩
                    have hp1 : fitV (nearR (((a * b : Int) : Rat) / ((2 ^ K : Nat) : Rat))) = Vp := by rw [← hX]; exact hVp
                    have hp2 : fitE (nearR (((a * b : Int) : Rat) / ((2 ^ K : Nat) : Rat))) = 2 := by rw [← hX]; exact hxe
                    have hr1 : fitV (nearR (((b * a : Int) : Rat) / ((2 ^ K : Nat) : Rat))) = Vp := by rw [hX2]; exact hVp
                    have hr2 : fitE (nearR (((b * a : Int) : Rat) / ((2 ^ K : Nat) : Rat))) = 2 := by rw [hX2]; exact hxe
                    have Hp1 := Lib.hid hp1
                    clear hp1
                    have Hp2 := Lib.hid hp2
                    clear hp2
                    have Hq1 := Lib.hid hq1
                    clear hq1
                    have Hq2 := Lib.hid hq2
                    clear hq2
                    have Hr1 := Lib.hid hr1
                    clear hr1
                    have Hr2 := Lib.hid hr2
                    clear hr2
                    clear hVp hxe
                    obtain ⟨Vt, ht1⟩ : ∃ V, fitV (nearR (((-a * ((2 ^ K : Nat) : Int) : Int) : Rat) / (b : Rat))) = V := ⟨_, rfl⟩
                    have ht2 : fitE (nearR (((-a * ((2 ^ K : Nat) : Int) : Int) : Rat) / (b : Rat))) = 2 := by rw [hY1]; exact hyn
                    obtain ⟨Vs, hVs⟩ : ∃ V, fitV Y = V := ⟨_, rfl⟩
                    have hs1 : fitV (nearR (((a * ((2 ^ K : Nat) : Int) : Int) : Rat) / (b : Rat))) = Vs := by rw [← hY]; exact hVs
                    have hs2 : fitE (nearR (((a * ((2 ^ K : Nat) : Int) : Int) : Rat) / (b : Rat))) = 0 := by rw [← hY]; exact hye
                    have Hs1 := Lib.hid hs1
                    clear hs1
                    have Hs2 := Lib.hid hs2
                    clear hs2
                    have Ht1 := Lib.hid ht1
                    clear ht1
                    have Ht2 := Lib.hid ht2
                    clear ht2
                    clear hVs hye hY1 hY hyn
                    obtain ⟨D, hD⟩ : ∃ D, D = a - b := ⟨_, rfl⟩
                    have hm1 : fitV (a - b) = D := by rw [hD]; exact fitE_0 hde
                    have hm2 : fitE (a - b) = 0 := hde
                    have hDb : -9223372036854775808 ≤ D ∧ D < 9223372036854775808 := by
                      have h2 : fits (a - b) = true := by cases hh : fits (a - b); rw [fitE_out hh] at hde; cases hde; rfl
                      rw [hD]; exact fits_iff.1 h2
                    have hn1 : fitV (D + b) = a := by rw [show D + b = a by omega]; exact fitV_ok ha1 ha2
                    have hn2 : fitE (D + b) = 0 := by rw [show D + b = a by omega]; exact fitE_ok ha1 ha2
                    have HDb := Lib.hid hDb
                    clear hD hDb
                    have Hm1 := Lib.hid hm1
                    clear hm1
                    have Hm2 := Lib.hid hm2
                    clear hm2
                    have Hn1 := Lib.hid hn1
                    clear hn1
                    have Hn2 := Lib.hid hn2
                    clear hn2
                    clear hde
                    clear ha1 ha2 hb1 hb2 hma hmb hK hP0 hPb hX1 hX2 hX hP
                    obtain ⟨W0, hW0⟩ : ∃ W0, W0 = w := ⟨_, rfl⟩
                    have E0 : Ext w W0 := by rw [hW0]; exact Ext.refl w
                    go_enter Try.func8, Try.ntmps8
                    go_wp2_with fail
                    rw [← hW0]
                    clear hW0
                    refine (Try.fixMulV a b K HK.out _ HB.out.1.1 HB.out.1.2 HB.out.2.1.1 HB.out.2.1.2 Hp1.out Hp2.out).mono ?_
                    rintro e V176 ⟨rfl, hE⟩
                    replace E0 : Ext w V176 := (Ext.trans E0 hE)
                    clear hE
                    go_wp2_with fail
                    refine (Try.fixMulV (-a) b K HK.out _ HB.out.2.2.2.1.1 HB.out.2.2.2.1.2 HB.out.2.1.1 HB.out.2.1.2 Hq1.out Hq2.out).mono ?_
                    rintro e V177 ⟨rfl, hE⟩
                    replace E0 : Ext w V177 := (Ext.trans E0 hE)
                    clear hE
                    go_wp2_with fail
                    refine (Try.fixMulV b a K HK.out _ HB.out.2.1.1 HB.out.2.1.2 HB.out.1.1 HB.out.1.2 Hr1.out Hr2.out).mono ?_
                    rintro e V178 ⟨rfl, hE⟩
                    replace E0 : Ext w V178 := (Ext.trans E0 hE)
                    clear hE
                    go_wp2_with fail
                    refine (Try.fixDivV a b K HK.out _ HB.out.1.1 HB.out.1.2 HB.out.2.1.1 HB.out.2.1.2 HBN.out Hs1.out Hs2.out).mono ?_
                    rintro e V179 ⟨rfl, hE⟩
                    replace E0 : Ext w V179 := (Ext.trans E0 hE)
                    clear hE
                    go_wp2_with fail
                    refine (Try.fixDivV (-a) b K HK.out _ HB.out.2.2.2.1.1 HB.out.2.2.2.1.2 HB.out.2.1.1 HB.out.2.1.2 HBN.out Ht1.out Ht2.out).mono ?_
                    rintro e V180 ⟨rfl, hE⟩
                    replace E0 : Ext w V180 := (Ext.trans E0 hE)
                    clear hE
                    go_wp2_with fail
                    refine (Try.fixMulV a (P : Int) K HK.out _ HB.out.1.1 HB.out.1.2 HB.out.2.2.1.1 HB.out.2.2.1.2 HU1.out HU2.out).mono ?_
                    rintro e V181 ⟨rfl, hE⟩
                    replace E0 : Ext w V181 := (Ext.trans E0 hE)
                    clear hE
                    go_wp2_with fail
                    refine (Try.fixDivV a (P : Int) K HK.out _ HB.out.1.1 HB.out.1.2 HB.out.2.2.1.1 HB.out.2.2.1.2 HB.out.2.2.2.2 HD1.out HD2.out).mono ?_
                    rintro e V182 ⟨rfl, hE⟩
                    replace E0 : Ext w V182 := (Ext.trans E0 hE)
                    clear hE
                    go_wp2_with fail
                    refine (Try.fixSubV a b _ HB.out.1.1 HB.out.1.2 HB.out.2.1.1 HB.out.2.1.2 Hm1.out Hm2.out).mono ?_
                    rintro e V183 ⟨rfl, hE⟩
                    replace E0 : Ext w V183 := (Ext.trans E0 hE)
                    clear hE
                    go_wp2_with fail
                    refine (Try.fixAddV D b _ HDb.out.1 HDb.out.2 HB.out.2.1.1 HB.out.2.1.2 Hn1.out Hn2.out).mono ?_
                    rintro e V184 ⟨rfl, hE⟩
                    replace E0 : Ext w V184 := (Ext.trans E0 hE)
                    clear hE
                    go_wp2_with fail
                    refine (Try.alive08 _).mono ?_
                    rintro e V185 ⟨rfl, hE⟩
                    replace E0 : Ext w V185 := (Ext.trans E0 hE)
                    clear hE
                    go_wp2
                    go_ret
                    exact ⟨rfl, E0⟩
                  · obtain ⟨Vq, hq1⟩ : ∃ V, fitV (nearR (((-a * b : Int) : Rat) / ((2 ^ K : Nat) : Rat))) = V := ⟨_, rfl⟩
                    obtain ⟨Eq, hq2⟩ : ∃ V, fitE (nearR (((-a * b : Int) : Rat) / ((2 ^ K : Nat) : Rat))) = V := ⟨_, rfl⟩
                    obtain ⟨Vp, hVp⟩ : ∃ V, fitV X = V := ⟨_, rfl⟩
                    have hp1 : fitV (nearR (((a * b : Int) : Rat) / ((2 ^ K : Nat) : Rat))) = Vp := by rw [← hX]; exact hVp
                    have hp2 : fitE (nearR (((a * b : Int) : Rat) / ((2 ^ K : Nat) : Rat))) = 2 := by rw [← hX]; exact hxe
                    have hr1 : fitV (nearR (((b * a : Int) : Rat) / ((2 ^ K : Nat) : Rat))) = Vp := by rw [hX2]; exact hVp
                    have hr2 : fitE (nearR (((b * a : Int) : Rat) / ((2 ^ K : Nat) : Rat))) = 2 := by rw [hX2]; exact hxe
                    have Hp1 := Lib.hid hp1
                    clear hp1
                    have Hp2 := Lib.hid hp2
                    clear hp2
                    have Hq1 := Lib.hid hq1
                    clear hq1
                    have Hq2 := Lib.hid hq2
                    clear hq2
                    have Hr1 := Lib.hid hr1
                    clear hr1
                    have Hr2 := Lib.hid hr2
                    clear hr2
                    clear hVp hxe
                    obtain ⟨Vt, ht1⟩ : ∃ V, fitV (nearR (((-a * ((2 ^ K : Nat) : Int) : Int) : Rat) / (b : Rat))) = V := ⟨_, rfl⟩
                    have ht2 : fitE (nearR (((-a * ((2 ^ K : Nat) : Int) : Int) : Rat) / (b : Rat))) = 2 := by rw [hY1]; exact hyn
                    obtain ⟨Vs, hVs⟩ : ∃ V, fitV Y = V := ⟨_, rfl⟩
                    have hs1 : fitV (nearR (((a * ((2 ^ K : Nat) : Int) : Int) : Rat) / (b : Rat))) = Vs := by rw [← hY]; exact hVs
                    have hs2 : fitE (nearR (((a * ((2 ^ K : Nat) : Int) : Int) : Rat) / (b : Rat))) = 0 := by rw [← hY]; exact hye
                    have Hs1 := Lib.hid hs1
                    clear hs1
                    have Hs2 := Lib.hid hs2
                    clear hs2
                    have Ht1 := Lib.hid ht1
                    clear ht1
                    have Ht2 := Lib.hid ht2
                    clear ht2
                    clear hVs hye hY1 hY hyn
                    have hm1 : fitV (a - b) = 0 := by
                      have h2 : fits (a - b) = false := by cases hh : fits (a - b); rfl; rw [fitE_in hh] at hde; cases hde
                      exact fitV_out h2
                    have hm2 : fitE (a - b) = 2 := hde
                    obtain ⟨Vn, hn1⟩ : ∃ V, fitV (0 + b) = V := ⟨_, rfl⟩
                    obtain ⟨En, hn2⟩ : ∃ V, fitE (0 + b) = V := ⟨_, rfl⟩
                    have Hm1 := Lib.hid hm1
                    clear hm1
                    have Hm2 := Lib.hid hm2
                    clear hm2
                    have Hn1 := Lib.hid hn1
                    clear hn1
                    have Hn2 := Lib.hid hn2
                    clear hn2
                    clear hde
                    clear ha1 ha2 hb1 hb2 hma hmb hK hP0 hPb hX1 hX2 hX hP
                    obtain ⟨W0, hW0⟩ : ∃ W0, W0 = w := ⟨_, rfl⟩
                    have E0 : Ext w W0 := by rw [hW0]; exact Ext.refl w
                    go_enter Try.func8, Try.ntmps8
                    go_wp2_with fail
                    rw [← hW0]
                    clear hW0
                    refine (Try.fixMulV a b K HK.out _ HB.out.1.1 HB.out.1.2 HB.out.2.1.1 HB.out.2.1.2 Hp1.out Hp2.out).mono ?_
                    rintro e V186 ⟨rfl, hE⟩
                    replace E0 : Ext w V186 := (Ext.trans E0 hE)
                    clear hE
                    go_wp2_with fail
                    refine (Try.fixMulV (-a) b K HK.out _ HB.out.2.2.2.1.1 HB.out.2.2.2.1.2 HB.out.2.1.1 HB.out.2.1.2 Hq1.out Hq2.out).mono ?_
                    rintro e V187 ⟨rfl, hE⟩
                    replace E0 : Ext w V187 := (Ext.trans E0 hE)
                    clear hE
                    go_wp2_with fail
                    refine (Try.fixMulV b a K HK.out _ HB.out.2.1.1 HB.out.2.1.2 HB.out.1.1 HB.out.1.2 Hr1.out Hr2.out).mono ?_
                    rintro e V188 ⟨rfl, hE⟩
                    replace E0 : Ext w V188 := (Ext.trans E0 hE)
                    clear hE
                    go_wp2_with fail
                    refine (Try.fixDivV a b K HK.out _ HB.out.1.1 HB.out.1.2 HB.out.2.1.1 HB.out.2.1.2 HBN.out Hs1.out Hs2.out).mono ?_
                    rintro e V189 ⟨rfl, hE⟩
                    replace E0 : Ext w V189 := (Ext.trans E0 hE)
                    clear hE
                    go_wp2_with fail
                    refine (Try.fixDivV (-a) b K HK.out _ HB.out.2.2.2.1.1 HB.out.2.2.2.1.2 HB.out.2.1.1 HB.out.2.1.2 HBN.out Ht1.out Ht2.out).mono ?_
                    rintro e V190 ⟨rfl, hE⟩
                    replace E0 : Ext w V190 := (Ext.trans E0 hE)
                    clear hE
                    go_wp2_with fail
                    refine (Try.fixMulV a (P : Int) K HK.out _ HB.out.1.1 HB.out.1.2 HB.out.2.2.1.1 HB.out.2.2.1.2 HU1.out HU2.out).mono ?_
                    rintro e V191 ⟨rfl, hE⟩
                    replace E0 : Ext w V191 := (Ext.trans E0 hE)
                    clear hE
                    go_wp2_with fail
                    refine (Try.fixDivV a (P : Int) K HK.out _ HB.out.1.1 HB.out.1.2 HB.out.2.2.1.1 HB.out.2.2.1.2 HB.out.2.2.2.2 HD1.out HD2.out).mono ?_
                    rintro e V192 ⟨rfl, hE⟩
                    replace E0 : Ext w V192 := (Ext.trans E0 hE)
                    clear hE
                    go_wp2_with fail
                    refine (Try.fixSubV a b _ HB.out.1.1 HB.out.1.2 HB.out.2.1.1 HB.out.2.1.2 Hm1.out Hm2.out).mono ?_
                    rintro e V193 ⟨rfl, hE⟩
                    replace E0 : Ext w V193 := (Ext.trans E0 hE)
                    clear hE
                    go_wp2_with fail
                    refine (Try.fixAddV 0 b _ (by omega) (by omega) HB.out.2.1.1 HB.out.2.1.2 Hn1.out Hn2.out).mono ?_
                    rintro e V194 ⟨rfl, hE⟩
                    replace E0 : Ext w V194 := (Ext.trans E0 hE)
                    clear hE
                    go_wp2_with fail
                    refine (Try.alive08 _).mono ?_
                    rintro e V195 ⟨rfl, hE⟩
                    replace E0 : Ext w V195 := (Ext.trans E0 hE)
                    clear hE
                    go_wp2
                    go_ret
                    exact ⟨rfl, E0⟩
            · obtain hxe | hxe := fitE_2 (a := X)
              · obtain hxn | hxn := fitE_2 (a := -X)
                · obtain hde | hde := fitE_2 (a := a - b)
                  · obtain ⟨Vq, hVq⟩ : ∃ V, V = -X := ⟨_, rfl⟩
                    have hq1 : fitV (nearR (((-a * b : Int) : Rat) / ((2 ^ K : Nat) : Rat))) = Vq := by rw [hX1, hVq]; exact fitE_0 hxn
                    have hq2 : fitE (nearR (((-a * b : Int) : Rat) / ((2 ^ K : Nat) : Rat))) = 0 := by rw [hX1]; exact hxn
                    have hVp : fitV X = -Vq := by rw [fitE_0 hxe, hVq]; omega
                    have hVw : IntKind.i64.wrap (-Vq) = -Vq := by
                      have h1 := fitE_0 hxe
                      have h2 : fits X = true := by cases hh : fits X; rw [fitE_out hh] at hxe; cases hxe; rfl
                      have h3 := fits_iff.1 h2
                      rw [IntKind.wrap_i64]; omega
                    clear hVq
                    have hp1 : fitV (nearR (((a * b : Int) : Rat) / ((2 ^ K : Nat) : Rat))) = (-Vq) := by rw [← hX]; exact hVp
                    have hp2 : fitE (nearR (((a * b : Int) : Rat) / ((2 ^ K : Nat) : Rat))) = 0 := by rw [← hX]; exact hxe
                    have hr1 : fitV (nearR (((b * a : Int) : Rat) / ((2 ^ K : Nat) : Rat))) = (-Vq) := by rw [hX2]; exact hVp
                    have hr2 : fitE (nearR (((b * a : Int) : Rat) / ((2 ^ K : Nat) : Rat))) = 0 := by rw [hX2]; exact hxe
                    have Hp1 := Lib.hid hp1
                    clear hp1
                    have Hp2 := Lib.hid hp2
                    clear hp2
                    have Hq1 := Lib.hid hq1
                    clear hq1
                    have Hq2 := Lib.hid hq2
                    clear hq2
                    have Hr1 := Lib.hid hr1
                    clear hr1
                    have Hr2 := Lib.hid hr2
                    clear hr2
                    clear hVp hxe hxn
                    obtain ⟨Vt, ht1⟩ : ∃ V, fitV (nearR (((-a * ((2 ^ K : Nat) : Int) : Int) : Rat) / (b : Rat))) = V := ⟨_, rfl⟩
                    obtain ⟨Et, ht2⟩ : ∃ V, fitE (nearR (((-a * ((2 ^ K : Nat) : Int) : Int) : Rat) / (b : Rat))) = V := ⟨_, rfl⟩
                    obtain ⟨Vs, hVs⟩ : ∃ V, fitV Y = V := ⟨_, rfl⟩
                    have hs1 : fitV (nearR (((a * ((2 ^ K : Nat) : Int) : Int) : Rat) / (b : Rat))) = Vs := by rw [← hY]; exact hVs
                    have hs2 : fitE (nearR (((a * ((2 ^ K : Nat) : Int) : Int) : Rat) / (b : Rat))) = 2 := by rw [← hY]; exact hye
                    have Hs1 := Lib.hid hs1
                    clear hs1
                    have Hs2 := Lib.hid hs2
                    clear hs2
                    have Ht1 := Lib.hid ht1
                    clear ht1
                    have Ht2 := Lib.hid ht2
                    clear ht2
                    clear hVs hye hY1 hY
                    obtain ⟨D, hD⟩ : ∃ D, D = a - b := ⟨_, rfl⟩
                    have hm1 : fitV (a - b) = D := by rw [hD]; exact fitE_0 hde
                    have hm2 : fitE (a - b) = 0 := hde
                    have hDb : -9223372036854775808 ≤ D ∧ D < 9223372036854775808 := by
                      have h2 : fits (a - b) = true := by cases hh : fits (a - b); rw [fitE_out hh] at hde; cases hde; rfl
                      rw [hD]; exact fits_iff.1 h2
                    have hn1 : fitV (D + b) = a := by rw [show D + b = a by omega]; exact fitV_ok ha1 ha2
                    have hn2 : fitE (D + b) = 0 := by rw [show D + b = a by omega]; exact fitE_ok ha1 ha2
                    have HDb := Lib.hid hDb
                    clear hD hDb
                    have Hm1 := Lib.hid hm1
                    clear hm1
                    have Hm2 := Lib.hid hm2
                    clear hm2
                    have Hn1 := Lib.hid hn1
                    clear hn1
                    have Hn2 := Lib.hid hn2
                    clear hn2
                    clear hde
                    clear ha1 ha2 hb1 hb2 hma hmb hK hP0 hPb hX1 hX2 hX hP
                    obtain ⟨W0, hW0⟩ : ∃ W0, W0 = w := ⟨_, rfl⟩
                    have E0 : Ext w W0 := by rw [hW0]; exact Ext.refl w
                    go_enter Try.func8, Try.ntmps8
                    go_wp2_with fail
                    rw [← hW0]
                    clear hW0
                    refine (Try.fixMulV a b K HK.out _ HB.out.1.1 HB.out.1.2 HB.out.2.1.1 HB.out.2.1.2 Hp1.out Hp2.out).mono ?_
                    rintro e V196 ⟨rfl, hE⟩
                    replace E0 : Ext w V196 := (Ext.trans E0 hE)
                    clear hE
                    go_wp2_with fail
                    refine (Try.fixMulV (-a) b K HK.out _ HB.out.2.2.2.1.1 HB.out.2.2.2.1.2 HB.out.2.1.1 HB.out.2.1.2 Hq1.out Hq2.out).mono ?_
                    rintro e V197 ⟨rfl, hE⟩
                    replace E0 : Ext w V197 := (Ext.trans E0 hE)
                    clear hE
                    go_wp2_with fail
                    refine (Try.fixMulV b a K HK.out _ HB.out.2.1.1 HB.out.2.1.2 HB.out.1.1 HB.out.1.2 Hr1.out Hr2.out).mono ?_
                    rintro e V198 ⟨rfl, hE⟩
                    replace E0 : Ext w V198 := (Ext.trans E0 hE)
                    clear hE
                    go_wp2_with fail
                    refine (Try.fixDivV a b K HK.out _ HB.out.1.1 HB.out.1.2 HB.out.2.1.1 HB.out.2.1.2 HBN.out Hs1.out Hs2.out).mono ?_
                    rintro e V199 ⟨rfl, hE⟩
                    replace E0 : Ext w V199 := (Ext.trans E0 hE)
                    clear hE
                    go_wp2_with fail
                    refine (Try.fixDivV (-a) b K HK.out _ HB.out.2.2.2.1.1 HB.out.2.2.2.1.2 HB.out.2.1.1 HB.out.2.1.2 HBN.out Ht1.out Ht2.out).mono ?_
                    rintro e V200 ⟨rfl, hE⟩
                    replace E0 : Ext w V200 := (Ext.trans E0 hE)
                    clear hE
                    go_wp2_with fail
                    refine (Try.fixMulV a (P : Int) K HK.out _ HB.out.1.1 HB.out.1.2 HB.out.2.2.1.1 HB.out.2.2.1.2 HU1.out HU2.out).mono ?_
                    rintro e V201 ⟨rfl, hE⟩
                    replace E0 : Ext w V201 := (Ext.trans E0 hE)
                    clear hE
                    go_wp2_with fail
                    refine (Try.fixDivV a (P : Int) K HK.out _ HB.out.1.1 HB.out.1.2 HB.out.2.2.1.1 HB.out.2.2.1.2 HB.out.2.2.2.2 HD1.out HD2.out).mono ?_
                    rintro e V202 ⟨rfl, hE⟩
                    replace E0 : Ext w V202 := (Ext.trans E0 hE)
                    clear hE
                    go_wp2_with fail
                    refine (Try.fixSubV a b _ HB.out.1.1 HB.out.1.2 HB.out.2.1.1 HB.out.2.1.2 Hm1.out Hm2.out).mono ?_
                    rintro e V203 ⟨rfl, hE⟩
                    replace E0 : Ext w V203 := (Ext.trans E0 hE)
                    clear hE
                    go_wp2_with fail
                    refine (Try.fixAddV D b _ HDb.out.1 HDb.out.2 HB.out.2.1.1 HB.out.2.1.2 Hn1.out Hn2.out).mono ?_
                    rintro e V204 ⟨rfl, hE⟩
                    replace E0 : Ext w V204 := (Ext.trans E0 hE)
                    clear hE
                    go_wp2_with fail
                    refine (Try.alive08 _).mono ?_
                    rintro e V205 ⟨rfl, hE⟩
                    replace E0 : Ext w V205 := (Ext.trans E0 hE)
                    clear hE
                    go_wp2
                    go_ret
                    exact ⟨rfl, E0⟩
                  · obtain ⟨Vq, hVq⟩ : ∃ V, V = -X := ⟨_, rfl⟩
                    have hq1 : fitV (nearR (((-a * b : Int) : Rat) / ((2 ^ K : Nat) : Rat))) = Vq := by rw [hX1, hVq]; exact fitE_0 hxn
                    have hq2 : fitE (nearR (((-a * b : Int) : Rat) / ((2 ^ K : Nat) : Rat))) = 0 := by rw [hX1]; exact hxn
                    have hVp : fitV X = -Vq := by rw [fitE_0 hxe, hVq]; omega
                    have hVw : IntKind.i64.wrap (-Vq) = -Vq := by
                      have h1 := fitE_0 hxe
                      have h2 : fits X = true := by cases hh : fits X; rw [fitE_out hh] at hxe; cases hxe; rfl
                      have h3 := fits_iff.1 h2
                      rw [IntKind.wrap_i64]; omega
                    clear hVq
                    have hp1 : fitV (nearR (((a * b : Int) : Rat) / ((2 ^ K : Nat) : Rat))) = (-Vq) := by rw [← hX]; exact hVp
                    have hp2 : fitE (nearR (((a * b : Int) : Rat) / ((2 ^ K : Nat) : Rat))) = 0 := by rw [← hX]; exact hxe
                    have hr1 : fitV (nearR (((b * a : Int) : Rat) / ((2 ^ K : Nat) : Rat))) = (-Vq) := by rw [hX2]; exact hVp
                    have hr2 : fitE (nearR (((b * a : Int) : Rat) / ((2 ^ K : Nat) : Rat))) = 0 := by rw [hX2]; exact hxe
                    have Hp1 := Lib.hid hp1
                    clear hp1
                    have Hp2 := Lib.hid hp2
                    clear hp2
                    have Hq1 := Lib.hid hq1
                    clear hq1
                    have Hq2 := Lib.hid hq2
                    clear hq2
                    have Hr1 := Lib.hid hr1
                    clear hr1
                    have Hr2 := Lib.hid hr2
                    clear hr2
                    clear hVp hxe hxn
                    obtain ⟨Vt, ht1⟩ : ∃ V, fitV (nearR (((-a * ((2 ^ K : Nat) : Int) : Int) : Rat) / (b : Rat))) = V := ⟨_, rfl⟩
                    obtain ⟨Et, ht2⟩ : ∃ V, fitE (nearR (((-a * ((2 ^ K : Nat) : Int) : Int) : Rat) / (b : Rat))) = V := ⟨_, rfl⟩
                    obtain ⟨Vs, hVs⟩ : ∃ V, fitV Y = V := ⟨_, rfl⟩
                    have hs1 : fitV (nearR (((a * ((2 ^ K : Nat) : Int) : Int) : Rat) / (b : Rat))) = Vs := by rw [← hY]; exact hVs
                    have hs2 : fitE (nearR (((a * ((2 ^ K : Nat) : Int) : Int) : Rat) / (b : Rat))) = 2 := by rw [← hY]; exact hye
                    have Hs1 := Lib.hid hs1
                    clear hs1
                    have Hs2 := Lib.hid hs2
                    clear hs2
                    have Ht1 := Lib.hid ht1
                    clear ht1
                    have Ht2 := Lib.hid ht2
                    clear ht2
                    clear hVs hye hY1 hY
                    have hm1 : fitV (a - b) = 0 := by
                      have h2 : fits (a - b) = false := by cases hh : fits (a - b); rfl; rw [fitE_in hh] at hde; cases hde
                      exact fitV_out h2
                    have hm2 : fitE (a - b) = 2 := hde
                    obtain ⟨Vn, hn1⟩ : ∃ V, fitV (0 + b) = V := ⟨_, rfl⟩
                    obtain ⟨En, hn2⟩ : ∃ V, fitE (0 + b) = V := ⟨_, rfl⟩
                    have Hm1 := Lib.hid hm1
                    clear hm1
                    have Hm2 := Lib.hid hm2
                    clear hm2
                    have Hn1 := Lib.hid hn1
                    clear hn1
                    have Hn2 := Lib.hid hn2
                    clear hn2
                    clear hde
                    clear ha1 ha2 hb1 hb2 hma hmb hK hP0 hPb hX1 hX2 hX hP
                    obtain ⟨W0, hW0⟩ : ∃ W0, W0 = w := ⟨_, rfl⟩
                    have E0 : Ext w W0 := by rw [hW0]; exact Ext.refl w
                    go_enter Try.func8, Try.ntmps8
                    go_wp2_with fail
                    rw [← hW0]
                    clear hW0
                    refine (Try.fixMulV a b K HK.out _ HB.out.1.1 HB.out.1.2 HB.out.2.1.1 HB.out.2.1.2 Hp1.out Hp2.out).mono ?_
                    rintro e V206 ⟨rfl, hE⟩
                    replace E0 : Ext w V206 := (Ext.trans E0 hE)
                    clear hE
                    go_wp2_with fail
                    refine (Try.fixMulV (-a) b K HK.out _ HB.out.2.2.2.1.1 HB.out.2.2.2.1.2 HB.out.2.1.1 HB.out.2.1.2 Hq1.out Hq2.out).mono ?_
                    rintro e V207 ⟨rfl, hE⟩
                    replace E0 : Ext w V207 := (Ext.trans E0 hE)
                    clear hE
                    go_wp2_with fail
                    refine (Try.fixMulV b a K HK.out _ HB.out.2.1.1 HB.out.2.1.2 HB.out.1.1 HB.out.1.2 Hr1.out Hr2.out).mono ?_
                    rintro e V208 ⟨rfl, hE⟩
                    replace E0 : Ext w V208 := (Ext.trans E0 hE)
                    clear hE
                    go_wp2_with fail
                    refine (Try.fixDivV a b K HK.out _ HB.out.1.1 HB.out.1.2 HB.out.2.1.1 HB.out.2.1.2 HBN.out Hs1.out Hs2.out).mono ?_
                    rintro e V209 ⟨rfl, hE⟩
                    replace E0 : Ext w V209 := (Ext.trans E0 hE)
                    clear hE
                    go_wp2_with fail
                    refine (Try.fixDivV (-a) b K HK.out _ HB.out.2.2.2.1.1 HB.out.2.2.2.1.2 HB.out.2.1.1 HB.out.2.1.2 HBN.out Ht1.out Ht2.out).mono ?_
                    rintro e V210 ⟨rfl, hE⟩
                    replace E0 : Ext w V210 := (Ext.trans E0 hE)
                    clear hE
                    go_wp2_with fail
                    refine (Try.fixMulV a (P : Int) K HK.out _ HB.out.1.1 HB.out.1.2 HB.out.2.2.1.1 HB.out.2.2.1.2 HU1.out HU2.out).mono ?_
                    rintro e V211 ⟨rfl, hE⟩
                    replace E0 : Ext w V211 := (Ext.trans E0 hE)
                    clear hE
                    go_wp2_with fail
                    refine (Try.fixDivV a (P : Int) K HK.out _ HB.out.1.1 HB.out.1.2 HB.out.2.2.1.1 HB.out.2.2.1.2 HB.out.2.2.2.2 HD1.out HD2.out).mono ?_
                    rintro e V212 ⟨rfl, hE⟩
                    replace E0 : Ext w V212 := (Ext.trans E0 hE)
                    clear hE
                    go_wp2_with fail
                    refine (Try.fixSubV a b _ HB.out.1.1 HB.out.1.2 HB.out.2.1.1 HB.out.2.1.2 Hm1.out Hm2.out).mono ?_
                    rintro e V213 ⟨rfl, hE⟩
                    replace E0 : Ext w V213 := (Ext.trans E0 hE)
                    clear hE
                    go_wp2_with fail
                    refine (Try.fixAddV 0 b _ (by omega) (by omega) HB.out.2.1.1 HB.out.2.1.2 Hn1.out Hn2.out).mono ?_
                    rintro e V214 ⟨rfl, hE⟩
                    replace E0 : Ext w V214 := (Ext.trans E0 hE)
                    clear hE
                    go_wp2_with fail
                    refine (Try.alive08 _).mono ?_
                    rintro e V215 ⟨rfl, hE⟩
                    replace E0 : Ext w V215 := (Ext.trans E0 hE)
                    clear hE
                    go_wp2
                    go_ret
                    exact ⟨rfl, E0⟩
                · obtain hde | hde := fitE_2 (a := a - b)
                  · obtain ⟨Vq, hq1⟩ : ∃ V, fitV (nearR (((-a * b : Int) : Rat) / ((2 ^ K : Nat) : Rat))) = V := ⟨_, rfl⟩
                    have hq2 : fitE (nearR (((-a * b : Int) : Rat) / ((2 ^ K : Nat) : Rat))) = 2 := by rw [hX1]; exact hxn
                    obtain ⟨Vp, hVp⟩ : ∃ V, fitV X = V := ⟨_, rfl⟩
                    have hp1 : fitV (nearR (((a * b : Int) : Rat) / ((2 ^ K : Nat) : Rat))) = Vp := by rw [← hX]; exact hVp
                    have hp2 : fitE (nearR (((a * b : Int) : Rat) / ((2 ^ K : Nat) : Rat))) = 0 := by rw [← hX]; exact hxe
                    have hr1 : fitV (nearR (((b * a : Int) : Rat) / ((2 ^ K : Nat) : Rat))) = Vp := by rw [hX2]; exact hVp
                    have hr2 : fitE (nearR (((b * a : Int) : Rat) / ((2 ^ K : Nat) : Rat))) = 0 := by rw [hX2]; exact hxe
                    have Hp1 := Lib.hid hp1
                    clear hp1
                    have Hp2 := Lib.hid hp2
                    clear hp2
                    have Hq1 := Lib.hid hq1
                    clear hq1
                    have Hq2 := Lib.hid hq2
                    clear hq2
                    have Hr1 := Lib.hid hr1
                    clear hr1
                    have Hr2 := Lib.hid hr2
                    clear hr2
                    clear hVp hxe hxn
                    obtain ⟨Vt, ht1⟩ : ∃ V, fitV (nearR (((-a * ((2 ^ K : Nat) : Int) : Int) : Rat) / (b : Rat))) = V := ⟨_, rfl⟩
                    obtain ⟨Et, ht2⟩ : ∃ V, fitE (nearR (((-a * ((2 ^ K : Nat) : Int) : Int) : Rat) / (b : Rat))) = V := ⟨_, rfl⟩
                    obtain ⟨Vs, hVs⟩ : ∃ V, fitV Y = V := ⟨_, rfl⟩
                    have hs1 : fitV (nearR (((a * ((2 ^ K : Nat) : Int) : Int) : Rat) / (b : Rat))) = Vs := by rw [← hY]; exact hVs
                    have hs2 : fitE (nearR (((a * ((2 ^ K : Nat) : Int) : Int) : Rat) / (b : Rat))) = 2 := by rw [← hY]; exact hye
                    have Hs1 := Lib.hid hs1
                    clear hs1
                    have Hs2 := Lib.hid hs2
                    clear hs2
                    have Ht1 := Lib.hid ht1
                    clear ht1
                    have Ht2 := Lib.hid ht2
                    clear ht2
                    clear hVs hye hY1 hY
                    obtain ⟨D, hD⟩ : ∃ D, D = a - b := ⟨_, rfl⟩
                    have hm1 : fitV (a - b) = D := by rw [hD]; exact fitE_0 hde
                    have hm2 : fitE (a - b) = 0 := hde
                    have hDb : -9223372036854775808 ≤ D ∧ D < 9223372036854775808 := by
                      have h2 : fits (a - b) = true := by cases hh : fits (a - b); rw [fitE_out hh] at hde; cases hde; rfl
                      rw [hD]; exact fits_iff.1 h2
                    have hn1 : fitV (D + b) = a := by rw [show D + b = a by omega]; exact fitV_ok ha1 ha2
                    have hn2 : fitE (D + b) = 0 := by rw [show D + b = a by omega]; exact fitE_ok ha1 ha2
                    have HDb := Lib.hid hDb
                    clear hD hDb
                    have Hm1 := Lib.hid hm1
                    clear hm1
                    have Hm2 := Lib.hid hm2
                    clear hm2
                    have Hn1 := Lib.hid hn1
                    clear hn1
                    have Hn2 := Lib.hid hn2
                    clear hn2
                    clear hde
                    clear ha1 ha2 hb1 hb2 hma hmb hK hP0 hPb hX1 hX2 hX hP
                    obtain ⟨W0, hW0⟩ : ∃ W0, W0 = w := ⟨_, rfl⟩
                    have E0 : Ext w W0 := by rw [hW0]; exact Ext.refl w
                    go_enter Try.func8, Try.ntmps8
                    go_wp2_with fail
                    rw [← hW0]
                    clear hW0
                    refine (Try.fixMulV a b K HK.out _ HB.out.1.1 HB.out.1.2 HB.out.2.1.1 HB.out.2.1.2 Hp1.out Hp2.out).mono ?_
                    rintro e V216 ⟨rfl, hE⟩
                    replace E0 : Ext w V216 := (Ext.trans E0 hE)
                    clear hE
                    go_wp2_with fail
                    refine (Try.fixMulV (-a) b K HK.out _ HB.out.2.2.2.1.1 HB.out.2.2.2.1.2 HB.out.2.1.1 HB.out.2.1.2 Hq1.out Hq2.out).mono ?_
                    rintro e V217 ⟨rfl, hE⟩
                    replace E0 : Ext w V217 := (Ext.trans E0 hE)
                    clear hE
                    go_wp2_with fail
                    refine (Try.fixMulV b a K HK.out _ HB.out.2.1.1 HB.out.2.1.2 HB.out.1.1 HB.out.1.2 Hr1.out Hr2.out).mono ?_
                    rintro e V218 ⟨rfl, hE⟩
                    replace E0 : Ext w V218 := (Ext.trans E0 hE)
                    clear hE
                    go_wp2_with fail
                    refine (Try.fixDivV a b K HK.out _ HB.out.1.1 HB.out.1.2 HB.out.2.1.1 HB.out.2.1.2 HBN.out Hs1.out Hs2.out).mono ?_
                    rintro e V219 ⟨rfl, hE⟩
                    replace E0 : Ext w V219 := (Ext.trans E0 hE)
                    clear hE
                    go_wp2_with fail
                    refine (Try.fixDivV (-a) b K HK.out _ HB.out.2.2.2.1.1 HB.out.2.2.2.1.2 HB.out.2.1.1 HB.out.2.1.2 HBN.out Ht1.out Ht2.out).mono ?_
                    rintro e V220 ⟨rfl, hE⟩
                    replace E0 : Ext w V220 := (Ext.trans E0 hE)
                    clear hE
                    go_wp2_with fail
                    refine (Try.fixMulV a (P : Int) K HK.out _ HB.out.1.1 HB.out.1.2 HB.out.2.2.1.1 HB.out.2.2.1.2 HU1.out HU2.out).mono ?_
                    rintro e V221 ⟨rfl, hE⟩
                    replace E0 : Ext w V221 := (Ext.trans E0 hE)
                    clear hE
                    go_wp2_with fail
                    refine (Try.fixDivV a (P : Int) K HK.out _ HB.out.1.1 HB.out.1.2 HB.out.2.2.1.1 HB.out.2.2.1.2 HB.out.2.2.2.2 HD1.out HD2.out).mono ?_
                    rintro e V222 ⟨rfl, hE⟩
                    replace E0 : Ext w V222 := (Ext.trans E0 hE)
                    clear hE
                    go_wp2_with fail
                    refine (Try.fixSubV a b _ HB.out.1.1 HB.out.1.2 HB.out.2.1.1 HB.out.2.1.2 Hm1.out Hm2.out).mono ?_
                    rintro e V223 ⟨rfl, hE⟩
                    replace E0 : Ext w V223 := (Ext.trans E0 hE)
                    clear hE
                    go_wp2_with fail
                    refine (Try.fixAddV D b _ HDb.out.1 HDb.out.2 HB.out.2.1.1 HB.out.2.1.2 Hn1.out Hn2.out).mono ?_
                    rintro e V224 ⟨rfl, hE⟩
                    replace E0 : Ext w V224 := (Ext.trans E0 hE)
                    clear hE
                    go_wp2_with fail
                    refine (Try.alive08 _).mono ?_
                    rintro e V225 ⟨rfl, hE⟩
                    replace E0 : Ext w V225 := (Ext.trans E0 hE)
                    clear hE
                    go_wp2
                    go_ret
                    exact ⟨rfl, E0⟩
                  · obtain ⟨Vq, hq1⟩ : ∃ V, fitV (nearR (((-a * b : Int) : Rat) / ((2 ^ K : Nat) : Rat))) = V := ⟨_, rfl⟩
                    have hq2 : fitE (nearR (((-a * b : Int) : Rat) / ((2 ^ K : Nat) : Rat))) = 2 := by rw [hX1]; exact hxn
                    obtain ⟨Vp, hVp⟩ : ∃ V, fitV X = V := ⟨_, rfl⟩
                    have hp1 : fitV (nearR (((a * b : Int) : Rat) / ((2 ^ K : Nat) : Rat))) = Vp := by rw [← hX]; exact hVp
                    have hp2 : fitE (nearR (((a * b : Int) : Rat) / ((2 ^ K : Nat) : Rat))) = 0 := by rw [← hX]; exact hxe
                    have hr1 : fitV (nearR (((b * a : Int) : Rat) / ((2 ^ K : Nat) : Rat))) = Vp := by rw [hX2]; exact hVp
                    have hr2 : fitE (nearR (((b * a : Int) : Rat) / ((2 ^ K : Nat) : Rat))) = 0 := by rw [hX2]; exact hxe
                    have Hp1 := Lib.hid hp1
                    clear hp1
                    have Hp2 := Lib.hid hp2
                    clear hp2
                    have Hq1 := Lib.hid hq1
                    clear hq1
                    have Hq2 := Lib.hid hq2
                    clear hq2
                    have Hr1 := Lib.hid hr1
                    clear hr1
                    have Hr2 := Lib.hid hr2
                    clear hr2
                    clear hVp hxe hxn
                    obtain ⟨Vt, ht1⟩ : ∃ V, fitV (nearR (((-a * ((2 ^ K : Nat) : Int) : Int) : Rat) / (b : Rat))) = V := ⟨_, rfl⟩
                    obtain ⟨Et, ht2⟩ : ∃ V, fitE (nearR (((-a * ((2 ^ K : Nat) : Int) : Int) : Rat) / (b : Rat))) = V := ⟨_, rfl⟩
                    obtain ⟨Vs, hVs⟩ : ∃ V, fitV Y = V := ⟨_, rfl⟩
                    have hs1 : fitV (nearR (((a * ((2 ^ K : Nat) : Int) : Int) : Rat) / (b : Rat))) = Vs := by rw [← hY]; exact hVs
                    have hs2 : fitE (nearR (((a * ((2 ^ K : Nat) : Int) : Int) : Rat) / (b : Rat))) = 2 := by rw [← hY]; exact hye
                    have Hs1 := Lib.hid hs1
                    clear hs1
                    have Hs2 := Lib.hid hs2
                    clear hs2
                    have Ht1 := Lib.hid ht1
                    clear ht1
                    have Ht2 := Lib.hid ht2
                    clear ht2
                    clear hVs hye hY1 hY
                    have hm1 : fitV (a - b) = 0 := by
                      have h2 : fits (a - b) = false := by cases hh : fits (a - b); rfl; rw [fitE_in hh] at hde; cases hde
                      exact fitV_out h2
                    have hm2 : fitE (a - b) = 2 := hde
                    obtain ⟨Vn, hn1⟩ : ∃ V, fitV (0 + b) = V := ⟨_, rfl⟩
                    obtain ⟨En, hn2⟩ : ∃ V, fitE (0 + b) = V := ⟨_, rfl⟩
                    have Hm1 := Lib.hid hm1
                    clear hm1
                    have Hm2 := Lib.hid hm2
                    clear hm2
                    have Hn1 := Lib.hid hn1
                    clear hn1
                    have Hn2 := Lib.hid hn2
                    clear hn2
                    clear hde
                    clear ha1 ha2 hb1 hb2 hma hmb hK hP0 hPb hX1 hX2 hX hP
                    obtain ⟨W0, hW0⟩ : ∃ W0, W0 = w := ⟨_, rfl⟩
                    have E0 : Ext w W0 := by rw [hW0]; exact Ext.refl w
                    go_enter Try.func8, Try.ntmps8
                    go_wp2_with fail
                    rw [← hW0]
                    clear hW0
                    refine (Try.fixMulV a b K HK.out _ HB.out.1.1 HB.out.1.2 HB.out.2.1.1 HB.out.2.1.2 Hp1.out Hp2.out).mono ?_
                    rintro e V226 ⟨rfl, hE⟩
                    replace E0 : Ext w V226 := (Ext.trans E0 hE)
                    clear hE
                    go_wp2_with fail
                    refine (Try.fixMulV (-a) b K HK.out _ HB.out.2.2.2.1.1 HB.out.2.2.2.1.2 HB.out.2.1.1 HB.out.2.1.2 Hq1.out Hq2.out).mono ?_
                    rintro e V227 ⟨rfl, hE⟩
                    replace E0 : Ext w V227 := (Ext.trans E0 hE)
                    clear hE
                    go_wp2_with fail
                    refine (Try.fixMulV b a K HK.out _ HB.out.2.1.1 HB.out.2.1.2 HB.out.1.1 HB.out.1.2 Hr1.out Hr2.out).mono ?_
                    rintro e V228 ⟨rfl, hE⟩
                    replace E0 : Ext w V228 := (Ext.trans E0 hE)
                    clear hE
                    go_wp2_with fail
                    refine (Try.fixDivV a b K HK.out _ HB.out.1.1 HB.out.1.2 HB.out.2.1.1 HB.out.2.1.2 HBN.out Hs1.out Hs2.out).mono ?_
                    rintro e V229 ⟨rfl, hE⟩
                    replace E0 : Ext w V229 := (Ext.trans E0 hE)
                    clear hE
                    go_wp2_with fail
                    refine (Try.fixDivV (-a) b K HK.out _ HB.out.2.2.2.1.1 HB.out.2.2.2.1.2 HB.out.2.1.1 HB.out.2.1.2 HBN.out Ht1.out Ht2.out).mono ?_
                    rintro e V230 ⟨rfl, hE⟩
                    replace E0 : Ext w V230 := (Ext.trans E0 hE)
                    clear hE
                    go_wp2_with fail
                    refine (Try.fixMulV a (P : Int) K HK.out _ HB.out.1.1 HB.out.1.2 HB.out.2.2.1.1 HB.out.2.2.1.2 HU1.out HU2.out).mono ?_
                    rintro e V231 ⟨rfl, hE⟩
                    replace E0 : Ext w V231 := (Ext.trans E0 hE)
                    clear hE
                    go_wp2_with fail
                    refine (Try.fixDivV a (P : Int) K HK.out _ HB.out.1.1 HB.out.1.2 HB.out.2.2.1.1 HB.out.2.2.1.2 HB.out.2.2.2.2 HD1.out HD2.out).mono ?_
                    rintro e V232 ⟨rfl, hE⟩
                    replace E0 : Ext w V232 := (Ext.trans E0 hE)
                    clear hE
                    go_wp2_with fail
                    refine (Try.fixSubV a b _ HB.out.1.1 HB.out.1.2 HB.out.2.1.1 HB.out.2.1.2 Hm1.out Hm2.out).mono ?_
                    rintro e V233 ⟨rfl, hE⟩
                    replace E0 : Ext w V233 := (Ext.trans E0 hE)
                    clear hE
                    go_wp2_with fail
                    refine (Try.fixAddV 0 b _ (by omega) (by omega) HB.out.2.1.1 HB.out.2.1.2 Hn1.out Hn2.out).mono ?_
                    rintro e V234 ⟨rfl, hE⟩
                    replace E0 : Ext w V234 := (Ext.trans E0 hE)
                    clear hE
                    go_wp2_with fail
                    refine (Try.alive08 _).mono ?_
                    rintro e V235 ⟨rfl, hE⟩
                    replace E0 : Ext w V235 := (Ext.trans E0 hE)
                    clear hE
                    go_wp2
                    go_ret
                    exact ⟨rfl, E0⟩
              · obtain hde | hde := fitE_2 (a := a - b)
                · obtain ⟨Vq, hq1⟩ : ∃ V, fitV (nearR (((-a * b : Int) : Rat) / ((2 ^ K : Nat) : Rat))) = V := ⟨_, rfl⟩
                  obtain ⟨Eq, hq2⟩ : ∃ V, fitE (nearR (((-a * b : Int) : Rat) / ((2 ^ K : Nat) : Rat))) = V := ⟨_, rfl⟩
                  obtain ⟨Vp, hVp⟩ : ∃ V, fitV X = V := ⟨_, rfl⟩
                  have hp1 : fitV (nearR (((a * b : Int) : Rat) / ((2 ^ K : Nat) : Rat))) = Vp := by rw [← hX]; exact hVp
                  have hp2 : fitE (nearR (((a * b : Int) : Rat) / ((2 ^ K : Nat) : Rat))) = 2 := by rw [← hX]; exact hxe
                  have hr1 : fitV (nearR (((b * a : Int) : Rat) / ((2 ^ K : Nat) : Rat))) = Vp := by rw [hX2]; exact hVp
                  have hr2 : fitE (nearR (((b * a : Int) : Rat) / ((2 ^ K : Nat) : Rat))) = 2 := by rw [hX2]; exact hxe
                  have Hp1 := Lib.hid hp1
                  clear hp1
                  have Hp2 := Lib.hid hp2
                  clear hp2
                  have Hq1 := Lib.hid hq1
                  clear hq1
                  have Hq2 := Lib.hid hq2
                  clear hq2
                  have Hr1 := Lib.hid hr1
                  clear hr1
                  have Hr2 := Lib.hid hr2
                  clear hr2
                  clear hVp hxe
                  obtain ⟨Vt, ht1⟩ : ∃ V, fitV (nearR (((-a * ((2 ^ K : Nat) : Int) : Int) : Rat) / (b : Rat))) = V := ⟨_, rfl⟩
                  obtain ⟨Et, ht2⟩ : ∃ V, fitE (nearR (((-a * ((2 ^ K : Nat) : Int) : Int) : Rat) / (b : Rat))) = V := ⟨_, rfl⟩
                  obtain ⟨Vs, hVs⟩ : ∃ V, fitV Y = V := ⟨_, rfl⟩
                  have hs1 : fitV (nearR (((a * ((2 ^ K : Nat) : Int) : Int) : Rat) / (b : Rat))) = Vs := by rw [← hY]; exact hVs
                  have hs2 : fitE (nearR (((a * ((2 ^ K : Nat) : Int) : Int) : Rat) / (b : Rat))) = 2 := by rw [← hY]; exact hye
                  have Hs1 := Lib.hid hs1
                  clear hs1
                  have Hs2 := Lib.hid hs2
                  clear hs2
                  have Ht1 := Lib.hid ht1
                  clear ht1
                  have Ht2 := Lib.hid ht2
                  clear ht2
                  clear hVs hye hY1 hY
                  obtain ⟨D, hD⟩ : ∃ D, D = a - b := ⟨_, rfl⟩
                  have hm1 : fitV (a - b) = D := by rw [hD]; exact fitE_0 hde
                  have hm2 : fitE (a - b) = 0 := hde
                  have hDb : -9223372036854775808 ≤ D ∧ D < 9223372036854775808 := by
                    have h2 : fits (a - b) = true := by cases hh : fits (a - b); rw [fitE_out hh] at hde; cases hde; rfl
                    rw [hD]; exact fits_iff.1 h2
                  have hn1 : fitV (D + b) = a := by rw [show D + b = a by omega]; exact fitV_ok ha1 ha2
                  have hn2 : fitE (D + b) = 0 := by rw [show D + b = a by omega]; exact fitE_ok ha1 ha2
                  have HDb := Lib.hid hDb
                  clear hD hDb
                  have Hm1 := Lib.hid hm1
                  clear hm1
                  have Hm2 := Lib.hid hm2
                  clear hm2
                  have Hn1 := Lib.hid hn1
                  clear hn1
                  have Hn2 := Lib.hid hn2
                  clear hn2
                  clear hde
                  clear ha1 ha2 hb1 hb2 hma hmb hK hP0 hPb hX1 hX2 hX hP
                  obtain ⟨W0, hW0⟩ : ∃ W0, W0 = w := ⟨_, rfl⟩
                  have E0 : Ext w W0 := by rw [hW0]; exact Ext.refl w
                  go_enter Try.func8, Try.ntmps8
                  go_wp2_with fail
                  rw [← hW0]
                  clear hW0
                  refine (Try.fixMulV a b K HK.out _ HB.out.1.1 HB.out.1.2 HB.out.2.1.1 HB.out.2.1.2 Hp1.out Hp2.out).mono ?_
                  rintro e V236 ⟨rfl, hE⟩
                  replace E0 : Ext w V236 := (Ext.trans E0 hE)
                  clear hE
                  go_wp2_with fail
                  refine (Try.fixMulV (-a) b K HK.out _ HB.out.2.2.2.1.1 HB.out.2.2.2.1.2 HB.out.2.1.1 HB.out.2.1.2 Hq1.out Hq2.out).mono ?_
                  rintro e V237 ⟨rfl, hE⟩
                  replace E0 : Ext w V237 := (Ext.trans E0 hE)
                  clear hE
                  go_wp2_with fail
                  refine (Try.fixMulV b a K HK.out _ HB.out.2.1.1 HB.out.2.1.2 HB.out.1.1 HB.out.1.2 Hr1.out Hr2.out).mono ?_
                  rintro e V238 ⟨rfl, hE⟩
                  replace E0 : Ext w V238 := (Ext.trans E0 hE)
                  clear hE
                  go_wp2_with fail
                  refine (Try.fixDivV a b K HK.out _ HB.out.1.1 HB.out.1.2 HB.out.2.1.1 HB.out.2.1.2 HBN.out Hs1.out Hs2.out).mono ?_
                  rintro e V239 ⟨rfl, hE⟩
                  replace E0 : Ext w V239 := (Ext.trans E0 hE)
                  clear hE
                  go_wp2_with fail
                  refine (Try.fixDivV (-a) b K HK.out _ HB.out.2.2.2.1.1 HB.out.2.2.2.1.2 HB.out.2.1.1 HB.out.2.1.2 HBN.out Ht1.out Ht2.out).mono ?_
                  rintro e V240 ⟨rfl, hE⟩
                  replace E0 : Ext w V240 := (Ext.trans E0 hE)
                  clear hE
                  go_wp2_with fail
                  refine (Try.fixMulV a (P : Int) K HK.out _ HB.out.1.1 HB.out.1.2 HB.out.2.2.1.1 HB.out.2.2.1.2 HU1.out HU2.out).mono ?_
                  rintro e V241 ⟨rfl, hE⟩
                  replace E0 : Ext w V241 := (Ext.trans E0 hE)
                  clear hE
                  go_wp2_with fail
                  refine (Try.fixDivV a (P : Int) K HK.out _ HB.out.1.1 HB.out.1.2 HB.out.2.2.1.1 HB.out.2.2.1.2 HB.out.2.2.2.2 HD1.out HD2.out).mono ?_
                  rintro e V242 ⟨rfl, hE⟩
                  replace E0 : Ext w V242 := (Ext.trans E0 hE)
                  clear hE
                  go_wp2_with fail
                  refine (Try.fixSubV a b _ HB.out.1.1 HB.out.1.2 HB.out.2.1.1 HB.out.2.1.2 Hm1.out Hm2.out).mono ?_
                  rintro e V243 ⟨rfl, hE⟩
                  replace E0 : Ext w V243 := (Ext.trans E0 hE)
                  clear hE
                  go_wp2_with fail
                  refine (Try.fixAddV D b _ HDb.out.1 HDb.out.2 HB.out.2.1.1 HB.out.2.1.2 Hn1.out Hn2.out).mono ?_
                  rintro e V244 ⟨rfl, hE⟩
                  replace E0 : Ext w V244 := (Ext.trans E0 hE)
                  clear hE
                  go_wp2_with fail
                  refine (Try.alive08 _).mono ?_
                  rintro e V245 ⟨rfl, hE⟩
                  replace E0 : Ext w V245 := (Ext.trans E0 hE)
                  clear hE
                  go_wp2
                  go_ret
                  exact ⟨rfl, E0⟩
                · obtain ⟨Vq, hq1⟩ : ∃ V, fitV (nearR (((-a * b : Int) : Rat) / ((2 ^ K : Nat) : Rat))) = V := ⟨_, rfl⟩
                  obtain ⟨Eq, hq2⟩ : ∃ V, fitE (nearR (((-a * b : Int) : Rat) / ((2 ^ K : Nat) : Rat))) = V := ⟨_, rfl⟩
                  obtain ⟨Vp, hVp⟩ : ∃ V, fitV X = V := ⟨_, rfl⟩
                  have hp1 : fitV (nearR (((a * b : Int) : Rat) / ((2 ^ K : Nat) : Rat))) = Vp := by rw [← hX]; exact hVp
                  have hp2 : fitE (nearR (((a * b : Int) : Rat) / ((2 ^ K : Nat) : Rat))) = 2 := by rw [← hX]; exact hxe
                  have hr1 : fitV (nearR (((b * a : Int) : Rat) / ((2 ^ K : Nat) : Rat))) = Vp := by rw [hX2]; exact hVp
                  have hr2 : fitE (nearR (((b * a : Int) : Rat) / ((2 ^ K : Nat) : Rat))) = 2 := by rw [hX2]; exact hxe
                  have Hp1 := Lib.hid hp1
                  clear hp1
                  have Hp2 := Lib.hid hp2
                  clear hp2
                  have Hq1 := Lib.hid hq1
                  clear hq1
                  have Hq2 := Lib.hid hq2
                  clear hq2
                  have Hr1 := Lib.hid hr1
                  clear hr1
                  have Hr2 := Lib.hid hr2
                  clear hr2
                  clear hVp hxe
                  obtain ⟨Vt, ht1⟩ : ∃ V, fitV (nearR (((-a * ((2 ^ K : Nat) : Int) : Int) : Rat) / (b : Rat))) = V := ⟨_, rfl⟩
                  obtain ⟨Et, ht2⟩ : ∃ V, fitE (nearR (((-a * ((2 ^ K : Nat) : Int) : Int) : Rat) / (b : Rat))) = V := ⟨_, rfl⟩
                  obtain ⟨Vs, hVs⟩ : ∃ V, fitV Y = V := ⟨_, rfl⟩
                  have hs1 : fitV (nearR (((a * ((2 ^ K : Nat) : Int) : Int) : Rat) / (b : Rat))) = Vs := by rw [← hY]; exact hVs
                  have hs2 : fitE (nearR (((a * ((2 ^ K : Nat) : Int) : Int) : Rat) / (b : Rat))) = 2 := by rw [← hY]; exact hye
                  have Hs1 := Lib.hid hs1
                  clear hs1
                  have Hs2 := Lib.hid hs2
                  clear hs2
                  have Ht1 := Lib.hid ht1
                  clear ht1
                  have Ht2 := Lib.hid ht2
                  clear ht2
                  clear hVs hye hY1 hY
                  have hm1 : fitV (a - b) = 0 := by
                    have h2 : fits (a - b) = false := by cases hh : fits (a - b); rfl; rw [fitE_in hh] at hde; cases hde
                    exact fitV_out h2
                  have hm2 : fitE (a - b) = 2 := hde
                  obtain ⟨Vn, hn1⟩ : ∃ V, fitV (0 + b) = V := ⟨_, rfl⟩
                  obtain ⟨En, hn2⟩ : ∃ V, fitE (0 + b) = V := ⟨_, rfl⟩
                  have Hm1 := Lib.hid hm1
                  clear hm1
                  have Hm2 := Lib.hid hm2
                  clear hm2
                  have Hn1 := Lib.hid hn1
                  clear hn1
                  have Hn2 := Lib.hid hn2
                  clear hn2
                  clear hde
                  clear ha1 ha2 hb1 hb2 hma hmb hK hP0 hPb hX1 hX2 hX hP
                  obtain ⟨W0, hW0⟩ : ∃ W0, W0 = w := ⟨_, rfl⟩
                  have E0 : Ext w W0 := by rw [hW0]; exact Ext.refl w
                  go_enter Try.func8, Try.ntmps8
                  go_wp2_with fail
                  rw [← hW0]
                  clear hW0
                  refine (Try.fixMulV a b K HK.out _ HB.out.1.1 HB.out.1.2 HB.out.2.1.1 HB.out.2.1.2 Hp1.out Hp2.out).mono ?_
                  rintro e V246 ⟨rfl, hE⟩
                  replace E0 : Ext w V246 := (Ext.trans E0 hE)
                  clear hE
                  go_wp2_with fail
                  refine (Try.fixMulV (-a) b K HK.out _ HB.out.2.2.2.1.1 HB.out.2.2.2.1.2 HB.out.2.1.1 HB.out.2.1.2 Hq1.out Hq2.out).mono ?_
                  rintro e V247 ⟨rfl, hE⟩
                  replace E0 : Ext w V247 := (Ext.trans E0 hE)
                  clear hE
                  go_wp2_with fail
                  refine (Try.fixMulV b a K HK.out _ HB.out.2.1.1 HB.out.2.1.2 HB.out.1.1 HB.out.1.2 Hr1.out Hr2.out).mono ?_
                  rintro e V248 ⟨rfl, hE⟩
                  replace E0 : Ext w V248 := (Ext.trans E0 hE)
                  clear hE
                  go_wp2_with fail
                  refine (Try.fixDivV a b K HK.out _ HB.out.1.1 HB.out.1.2 HB.out.2.1.1 HB.out.2.1.2 HBN.out Hs1.out Hs2.out).mono ?_
                  rintro e V249 ⟨rfl, hE⟩
                  replace E0 : Ext w V249 := (Ext.trans E0 hE)
                  clear hE
                  go_wp2_with fail
                  refine (Try.fixDivV (-a) b K HK.out _ HB.out.2.2.2.1.1 HB.out.2.2.2.1.2 HB.out.2.1.1 HB.out.2.1.2 HBN.out Ht1.out Ht2.out).mono ?_
                  rintro e V250 ⟨rfl, hE⟩
                  replace E0 : Ext w V250 := (Ext.trans E0 hE)
                  clear hE
                  go_wp2_with fail
                  refine (Try.fixMulV a (P : Int) K HK.out _ HB.out.1.1 HB.out.1.2 HB.out.2.2.1.1 HB.out.2.2.1.2 HU1.out HU2.out).mono ?_
                  rintro e V251 ⟨rfl, hE⟩
                  replace E0 : Ext w V251 := (Ext.trans E0 hE)
                  clear hE
                  go_wp2_with fail
                  refine (Try.fixDivV a (P : Int) K HK.out _ HB.out.1.1 HB.out.1.2 HB.out.2.2.1.1 HB.out.2.2.1.2 HB.out.2.2.2.2 HD1.out HD2.out).mono ?_
                  rintro e V252 ⟨rfl, hE⟩
                  replace E0 : Ext w V252 := (Ext.trans E0 hE)
                  clear hE
                  go_wp2_with fail
                  refine (Try.fixSubV a b _ HB.out.1.1 HB.out.1.2 HB.out.2.1.1 HB.out.2.1.2 Hm1.out Hm2.out).mono ?_
                  rintro e V253 ⟨rfl, hE⟩
                  replace E0 : Ext w V253 := (Ext.trans E0 hE)
                  clear hE
                  go_wp2_with fail
                  refine (Try.fixAddV 0 b _ (by omega) (by omega) HB.out.2.1.1 HB.out.2.1.2 Hn1.out Hn2.out).mono ?_
                  rintro e V254 ⟨rfl, hE⟩
                  replace E0 : Ext w V254 := (Ext.trans E0 hE)
                  clear hE
                  go_wp2_with fail
                  refine (Try.alive08 _).mono ?_
                  rintro e V255 ⟨rfl, hE⟩
                  replace E0 : Ext w V255 := (Ext.trans E0 hE)
                  clear hE
                  go_wp2
                  go_ret
                  exact ⟨rfl, E0⟩

end Go.Rt
