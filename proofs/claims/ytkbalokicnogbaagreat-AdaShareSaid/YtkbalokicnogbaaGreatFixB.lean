/-
  Numbers of a fixed point: two limbs by one, to the nearest.
-/
import Derived.Test.YtkbalokicnogbaaGreatFixA
import Derived.Test.YtkbalokicnogbaaGreatEqPair
namespace Go.Rt
open Go.RowKit Go.Proofs

theorem bits_and1_u64 (a : Nat) (ha : a < 18446744073709551616) : bits .and .u64 (a : Int) 1 = ((a % 2 : Nat) : Int) := by
  have h1 : (BitVec.ofInt 64 (a : Int)).toNat = a := by
    rw [BitVec.ofInt_natCast, BitVec.toNat_ofNat]; exact Nat.mod_eq_of_lt (by omega)
  have h2 : (BitVec.ofInt 64 (1 : Int)).toNat = 1 := by decide
  show IntKind.u64.wrap ((BitVec.ofInt 64 (a : Int) &&& BitVec.ofInt 64 (1 : Int)).toNat : Int) = _
  rw [BitVec.toNat_and, h1, h2, IntKind.wrap_u64, Nat.and_one_is_mod]
  omega

theorem fits_big (b : Bool) {N : Nat} (h : 18446744073709551616 ≤ N) : fits (sgn b N) = false := by
  cases hq : fits (sgn b N)
  · rfl
  · have := fits_iff.1 hq
    unfold sgn at this
    cases b <;> simp at this <;> omega

set_option maxRecDepth 100000 in
set_option maxHeartbeats 8000000 in
theorem Tryz.fixBy (b : Bool) (hi lo d : Nat) (w : World) (_hhi : hi < 18446744073709551616) (hlo : lo < 18446744073709551616) (hd0 : 0 < d) (hd : d < 18446744073709551616) :
    Calls Tryz.prog 79 #[.bool b, .agg #[.int .u64 (hi : Int), .int .u64 (lo : Int)], .int .u64 (d : Int)] w fun e w' =>
      e = .returned (.tuple #[.int .i64 (fitV (sgn b (nearN (hi * B64 + lo) d))), .int .i64 (fitE (sgn b (nearN (hi * B64 + lo) d)))]) ∧ Ext w w' := by
  obtain ⟨N, hN⟩ : ∃ N, N = hi * B64 + lo := ⟨_, rfl⟩
  rw [← hN]
  obtain ⟨W0, hW0⟩ : ∃ W0, W0 = w.alloc (.cells #[.int .u64 (hi : Int), .int .u64 (lo : Int)] 115) := ⟨_, rfl⟩
  have E0 : Ext w W0 := by rw [hW0]; exact Ext.alloc1 w _
  have p0 : Bx2 W0 w.heap.size 115 (.int .u64 (hi : Int)) (.int .u64 (lo : Int)) := by rw [hW0]; exact Bx2.new _ _ _ _
  have k0 := p0.cell0
  have k1 := p0.cell1
  by_cases hge : d ≤ hi
  · have hgeI : (d : Int) ≤ (hi : Int) := by omega
    have hfit : fits (sgn b (nearN N d)) = false := fits_big b (by
      have h1 := nearN_ge N d
      have h2 : 18446744073709551616 ≤ N / d := by rw [Nat.le_div_iff_mul_le hd0, hN, B64_eq]; have : 18446744073709551616 * d ≤ 18446744073709551616 * hi := Nat.mul_le_mul_left _ hge; omega
      omega)
    have HV : Hid (fitV (sgn b (nearN N d)) = 0) := Lib.hid (fitV_out hfit)
    have HE : Hid (fitE (sgn b (nearN N d)) = 2) := Lib.hid (fitE_out hfit)
    clear hfit hN p0
    go_enter Tryz.func79, Tryz.ntmps79
    rw [HV.out, HE.out]
    go_wp2
    go_ret2
    exact ⟨rfl, by rw [← hW0]; exact E0⟩
  · have hlt : hi < d := by omega
    have hgeI : ¬ (d : Int) ≤ (hi : Int) := by omega
    obtain ⟨Q, hQ⟩ : ∃ Q, Q = N / d := ⟨_, rfl⟩
    obtain ⟨R, hR⟩ : ∃ R, R = N % d := ⟨_, rfl⟩
    have hRd : R < d := by rw [hR]; exact Nat.mod_lt _ hd0
    have hQb : Q < 18446744073709551616 := by
      rw [hQ, Nat.div_lt_iff_lt_mul hd0, hN, B64_eq]
      have : (hi + 1) * 18446744073709551616 ≤ d * 18446744073709551616 := Nat.mul_le_mul_right _ hlt
      omega
    have hdv : ∀ W, Calls Tryz.prog 128 #[.int .u64 (hi : Int), .int .u64 (lo : Int), .int .u64 (d : Int)] W fun e w' => (∃ k, w' = W.drewN k) ∧ e = .returned (.tuple #[.int .u64 (Q : Int), .int .u64 (R : Int)]) := fun W => by
      rw [hQ, hR, hN]
      exact Tryz.div64 hlt (by rw [B64_eq]; exact hlo) (by rw [B64_eq]; exact hd) W
    have near : nearN N d = if d < 2 * R ∨ (2 * R = d ∧ Q % 2 = 1) then Q + 1 else Q := by unfold nearN; rw [← hQ, ← hR]
    clear hQ hR hN
    have HDV := Lib.hid hdv
    clear hdv
    by_cases hA : 18446744073709551616 ≤ 2 * R
    · obtain ⟨s, hs⟩ : ∃ s, s + 18446744073709551616 = R + R := ⟨R + R - 18446744073709551616, by omega⟩
      by_cases hq : Q = 18446744073709551615
      · subst hq
        have hadd : ∀ W, (callFunc 129 #[.int .u64 (R : Int), .int .u64 (R : Int), .int .u64 0]).run Tryz.prog W = .ok (.value (.tuple #[.int .u64 ((s : Int)), .int .u64 (1 : Int)])) W := fun W => by
          have := Tryz.add64 (x := R) (y := R) (c := 0) (s := s) (d := 1) (by omega) (by rw [B64_eq]; omega) (by rw [B64_eq]; omega) W
          simpa using this
        have hfit : fits (sgn b (nearN N d)) = false := fits_big b (by rw [near, if_pos (Or.inl (by omega))]; omega)
        have HV : Hid (fitV (sgn b (nearN N d)) = 0) := Lib.hid (fitV_out hfit)
        have HE : Hid (fitE (sgn b (nearN N d)) = 2) := Lib.hid (fitE_out hfit)
        rw [HV.out, HE.out]
        clear hfit HV HE
        clear near hs
        go_enter Tryz.func79, Tryz.ntmps79
        go_wp2_with fail
        rw [← hW0]
        clear hW0
        refine (HDV.out _).mono ?_
        intro e w1 hq1
        obtain ⟨⟨kk, hk1⟩, hq1⟩ := hq1
        subst hk1
        subst hq1
        obtain ⟨W1, hW1⟩ : ∃ W1, W1 = W0.drewN kk := ⟨_, rfl⟩
        have E1 : Ext w W1 := by rw [hW1]; exact E0.drewN kk
        rw [← hW1]
        clear HDV k0 k1 E0 p0 hW1
        go_wp2
        go_ret2
        exact ⟨rfl, by first | exact E1.alloc _ | exact E1⟩
      · have hqI : ((Q : Int) == 18446744073709551615) = false := beq_eq_false_iff_ne.2 (by omega)
        have hwr : IntKind.u64.wrap ((Q : Int) + 1) = ((Q + 1 : Nat) : Int) := by rw [IntKind.wrap_u64]; omega
        have hwr2 : ((Q : Int) + 1) = ((Q + 1 : Nat) : Int) := rfl
        clear hwr2
        have hadd : ∀ W, (callFunc 129 #[.int .u64 (R : Int), .int .u64 (R : Int), .int .u64 0]).run Tryz.prog W = .ok (.value (.tuple #[.int .u64 ((s : Int)), .int .u64 (1 : Int)])) W := fun W => by
          have := Tryz.add64 (x := R) (y := R) (c := 0) (s := s) (d := 1) (by omega) (by rw [B64_eq]; omega) (by rw [B64_eq]; omega) W
          simpa using this
        have near2 : nearN N d = Q + 1 := by rw [near, if_pos (Or.inl (by omega))]
        rw [near2]
        clear near2
        clear near hs
        go_enter Tryz.func79, Tryz.ntmps79
        go_wp2_with fail
        rw [← hW0]
        clear hW0
        refine (HDV.out _).mono ?_
        intro e w1 hq1
        obtain ⟨⟨kk, hk1⟩, hq1⟩ := hq1
        subst hk1
        subst hq1
        obtain ⟨W1, hW1⟩ : ∃ W1, W1 = W0.drewN kk := ⟨_, rfl⟩
        have E1 : Ext w W1 := by rw [hW1]; exact E0.drewN kk
        rw [← hW1]
        clear HDV k0 k1 E0 p0 hW1
        go_wp2_with fail
        refine (Tryz.fixSided b (Q + 1) _ (by omega)).mono ?_
        rintro e w2 ⟨rfl, rfl⟩
        go_wp2
        go_ret2
        exact ⟨rfl, by first | exact E1.alloc _ | exact E1⟩
    · obtain ⟨s, hs⟩ : ∃ s, s = R + R := ⟨_, rfl⟩
      by_cases hB : d < s
      · have hBI : (d : Int) < (s : Int) := by omega
        by_cases hq : Q = 18446744073709551615
        · subst hq
          have hadd : ∀ W, (callFunc 129 #[.int .u64 (R : Int), .int .u64 (R : Int), .int .u64 0]).run Tryz.prog W = .ok (.value (.tuple #[.int .u64 ((s : Int)), .int .u64 (0 : Int)])) W := fun W => by
            have := Tryz.add64 (x := R) (y := R) (c := 0) (s := s) (d := 0) (by omega) (by rw [B64_eq]; omega) (by rw [B64_eq]; omega) W
            simpa using this
          have hfit : fits (sgn b (nearN N d)) = false := fits_big b (by rw [near, if_pos (Or.inl (by omega))]; omega)
          have HV : Hid (fitV (sgn b (nearN N d)) = 0) := Lib.hid (fitV_out hfit)
          have HE : Hid (fitE (sgn b (nearN N d)) = 2) := Lib.hid (fitE_out hfit)
          rw [HV.out, HE.out]
          clear hfit HV HE
          clear near hs
          go_enter Tryz.func79, Tryz.ntmps79
          go_wp2_with fail
          rw [← hW0]
          clear hW0
          refine (HDV.out _).mono ?_
          intro e w1 hq1
          obtain ⟨⟨kk, hk1⟩, hq1⟩ := hq1
          subst hk1
          subst hq1
          obtain ⟨W1, hW1⟩ : ∃ W1, W1 = W0.drewN kk := ⟨_, rfl⟩
          have E1 : Ext w W1 := by rw [hW1]; exact E0.drewN kk
          rw [← hW1]
          clear HDV k0 k1 E0 p0 hW1
          go_wp2
          go_ret2
          exact ⟨rfl, by first | exact E1.alloc _ | exact E1⟩
        · have hqI : ((Q : Int) == 18446744073709551615) = false := beq_eq_false_iff_ne.2 (by omega)
          have hwr : IntKind.u64.wrap ((Q : Int) + 1) = ((Q + 1 : Nat) : Int) := by rw [IntKind.wrap_u64]; omega
          have hwr2 : ((Q : Int) + 1) = ((Q + 1 : Nat) : Int) := rfl
          clear hwr2
          have hadd : ∀ W, (callFunc 129 #[.int .u64 (R : Int), .int .u64 (R : Int), .int .u64 0]).run Tryz.prog W = .ok (.value (.tuple #[.int .u64 ((s : Int)), .int .u64 (0 : Int)])) W := fun W => by
            have := Tryz.add64 (x := R) (y := R) (c := 0) (s := s) (d := 0) (by omega) (by rw [B64_eq]; omega) (by rw [B64_eq]; omega) W
            simpa using this
          have near2 : nearN N d = Q + 1 := by rw [near, if_pos (Or.inl (by omega))]
          rw [near2]
          clear near2
          clear near hs
          go_enter Tryz.func79, Tryz.ntmps79
          go_wp2_with fail
          rw [← hW0]
          clear hW0
          refine (HDV.out _).mono ?_
          intro e w1 hq1
          obtain ⟨⟨kk, hk1⟩, hq1⟩ := hq1
          subst hk1
          subst hq1
          obtain ⟨W1, hW1⟩ : ∃ W1, W1 = W0.drewN kk := ⟨_, rfl⟩
          have E1 : Ext w W1 := by rw [hW1]; exact E0.drewN kk
          rw [← hW1]
          clear HDV k0 k1 E0 p0 hW1
          go_wp2_with fail
          refine (Tryz.fixSided b (Q + 1) _ (by omega)).mono ?_
          rintro e w2 ⟨rfl, rfl⟩
          go_wp2
          go_ret2
          exact ⟨rfl, by first | exact E1.alloc _ | exact E1⟩
      · have hBI : ¬ (d : Int) < (s : Int) := by omega
        have hBd : decide (d < s) = false := decide_eq_false hB
        by_cases hC : s = d
        · have hC' := hC.symm
          subst hC'
          by_cases hod : Q % 2 = 1
          · have hb1 : (bits .and .u64 (Q : Int) 1 == 1) = true := by rw [bits_and1_u64 Q hQb, hod]; rfl
            by_cases hq : Q = 18446744073709551615
            · subst hq
              have hadd : ∀ W, (callFunc 129 #[.int .u64 (R : Int), .int .u64 (R : Int), .int .u64 0]).run Tryz.prog W = .ok (.value (.tuple #[.int .u64 ((d : Int)), .int .u64 (0 : Int)])) W := fun W => by
                have := Tryz.add64 (x := R) (y := R) (c := 0) (s := d) (d := 0) (by omega) (by rw [B64_eq]; omega) (by rw [B64_eq]; omega) W
                simpa using this
              have hfit : fits (sgn b (nearN N d)) = false := fits_big b (by rw [near, if_pos (Or.inr ⟨by omega, hod⟩)]; omega)
              have HV : Hid (fitV (sgn b (nearN N d)) = 0) := Lib.hid (fitV_out hfit)
              have HE : Hid (fitE (sgn b (nearN N d)) = 2) := Lib.hid (fitE_out hfit)
              rw [HV.out, HE.out]
              clear hfit HV HE
              clear near hs
              have heq : ∀ W, (Op.equalIn 10000 115 (.agg #[.int .u64 0, .int .u64 (d : Int)]) (.agg #[.int .u64 0, .int .u64 (d : Int)])).run Tryz.prog W = .ok true W := fun W => by
                have := run_eqPair (P := Tryz.prog) (t := 115) (e := 47) (k := .u64) 9998 (by kernel_rfl) (by kernel_rfl) (by kernel_rfl) (by kernel_rfl) 0 (d : Int) 0 (d : Int) W
                simpa using this
              go_enter Tryz.func79, Tryz.ntmps79
              go_wp2_with fail
              rw [← hW0]
              clear hW0
              refine (HDV.out _).mono ?_
              intro e w1 hq1
              obtain ⟨⟨kk, hk1⟩, hq1⟩ := hq1
              subst hk1
              subst hq1
              obtain ⟨W1, hW1⟩ : ∃ W1, W1 = W0.drewN kk := ⟨_, rfl⟩
              have E1 : Ext w W1 := by rw [hW1]; exact E0.drewN kk
              rw [← hW1]
              clear HDV k0 k1 E0 p0 hW1
              go_wp2
              go_ret2
              exact ⟨rfl, by first | exact E1.alloc _ | exact E1⟩
            · have hqI : ((Q : Int) == 18446744073709551615) = false := beq_eq_false_iff_ne.2 (by omega)
              have hwr : IntKind.u64.wrap ((Q : Int) + 1) = ((Q + 1 : Nat) : Int) := by rw [IntKind.wrap_u64]; omega
              have hwr2 : ((Q : Int) + 1) = ((Q + 1 : Nat) : Int) := rfl
              clear hwr2
              have hadd : ∀ W, (callFunc 129 #[.int .u64 (R : Int), .int .u64 (R : Int), .int .u64 0]).run Tryz.prog W = .ok (.value (.tuple #[.int .u64 ((d : Int)), .int .u64 (0 : Int)])) W := fun W => by
                have := Tryz.add64 (x := R) (y := R) (c := 0) (s := d) (d := 0) (by omega) (by rw [B64_eq]; omega) (by rw [B64_eq]; omega) W
                simpa using this
              have near2 : nearN N d = Q + 1 := by rw [near, if_pos (Or.inr ⟨by omega, hod⟩)]
              rw [near2]
              clear near2
              clear near hs
              have heq : ∀ W, (Op.equalIn 10000 115 (.agg #[.int .u64 0, .int .u64 (d : Int)]) (.agg #[.int .u64 0, .int .u64 (d : Int)])).run Tryz.prog W = .ok true W := fun W => by
                have := run_eqPair (P := Tryz.prog) (t := 115) (e := 47) (k := .u64) 9998 (by kernel_rfl) (by kernel_rfl) (by kernel_rfl) (by kernel_rfl) 0 (d : Int) 0 (d : Int) W
                simpa using this
              go_enter Tryz.func79, Tryz.ntmps79
              go_wp2_with fail
              rw [← hW0]
              clear hW0
              refine (HDV.out _).mono ?_
              intro e w1 hq1
              obtain ⟨⟨kk, hk1⟩, hq1⟩ := hq1
              subst hk1
              subst hq1
              obtain ⟨W1, hW1⟩ : ∃ W1, W1 = W0.drewN kk := ⟨_, rfl⟩
              have E1 : Ext w W1 := by rw [hW1]; exact E0.drewN kk
              rw [← hW1]
              clear HDV k0 k1 E0 p0 hW1
              go_wp2_with fail
              refine (Tryz.fixSided b (Q + 1) _ (by omega)).mono ?_
              rintro e w2 ⟨rfl, rfl⟩
              go_wp2
              go_ret2
              exact ⟨rfl, by first | exact E1.alloc _ | exact E1⟩
          · have hb1 : (bits .and .u64 (Q : Int) 1 == 1) = false := by rw [bits_and1_u64 Q hQb, show Q % 2 = 0 by omega]; rfl
            have hadd : ∀ W, (callFunc 129 #[.int .u64 (R : Int), .int .u64 (R : Int), .int .u64 0]).run Tryz.prog W = .ok (.value (.tuple #[.int .u64 ((d : Int)), .int .u64 (0 : Int)])) W := fun W => by
              have := Tryz.add64 (x := R) (y := R) (c := 0) (s := d) (d := 0) (by omega) (by rw [B64_eq]; omega) (by rw [B64_eq]; omega) W
              simpa using this
            have near2 : nearN N d = Q := by rw [near, if_neg (by omega)]
            rw [near2]
            clear near2
            clear near hs
            have heq : ∀ W, (Op.equalIn 10000 115 (.agg #[.int .u64 0, .int .u64 (d : Int)]) (.agg #[.int .u64 0, .int .u64 (d : Int)])).run Tryz.prog W = .ok true W := fun W => by
              have := run_eqPair (P := Tryz.prog) (t := 115) (e := 47) (k := .u64) 9998 (by kernel_rfl) (by kernel_rfl) (by kernel_rfl) (by kernel_rfl) 0 (d : Int) 0 (d : Int) W
              simpa using this
            go_enter Tryz.func79, Tryz.ntmps79
            go_wp2_with fail
            rw [← hW0]
            clear hW0
            refine (HDV.out _).mono ?_
            intro e w1 hq1
            obtain ⟨⟨kk, hk1⟩, hq1⟩ := hq1
            subst hk1
            subst hq1
            obtain ⟨W1, hW1⟩ : ∃ W1, W1 = W0.drewN kk := ⟨_, rfl⟩
            have E1 : Ext w W1 := by rw [hW1]; exact E0.drewN kk
            rw [← hW1]
            clear HDV k0 k1 E0 p0 hW1
            go_wp2_with fail
            refine (Tryz.fixSided b (Q) _ (by omega)).mono ?_
            rintro e w2 ⟨rfl, rfl⟩
            go_wp2
            go_ret2
            exact ⟨rfl, by first | exact E1.alloc _ | exact E1⟩
        · have hCI : ((s : Int) == (d : Int)) = false := beq_eq_false_iff_ne.2 (by omega)
          have hCN : (s == d) = false := beq_eq_false_iff_ne.2 hC
          have hadd : ∀ W, (callFunc 129 #[.int .u64 (R : Int), .int .u64 (R : Int), .int .u64 0]).run Tryz.prog W = .ok (.value (.tuple #[.int .u64 ((s : Int)), .int .u64 (0 : Int)])) W := fun W => by
            have := Tryz.add64 (x := R) (y := R) (c := 0) (s := s) (d := 0) (by omega) (by rw [B64_eq]; omega) (by rw [B64_eq]; omega) W
            simpa using this
          have near2 : nearN N d = Q := by rw [near, if_neg (by omega)]
          rw [near2]
          clear near2
          clear near hs
          have heq : ∀ W, (Op.equalIn 10000 115 (.agg #[.int .u64 0, .int .u64 (s : Int)]) (.agg #[.int .u64 0, .int .u64 (d : Int)])).run Tryz.prog W = .ok false W := fun W => by
            have := run_eqPair (P := Tryz.prog) (t := 115) (e := 47) (k := .u64) 9998 (by kernel_rfl) (by kernel_rfl) (by kernel_rfl) (by kernel_rfl) 0 (s : Int) 0 (d : Int) W
            simpa [hCI, hC] using this
          go_enter Tryz.func79, Tryz.ntmps79
          go_wp2_with fail
          rw [← hW0]
          clear hW0
          refine (HDV.out _).mono ?_
          intro e w1 hq1
          obtain ⟨⟨kk, hk1⟩, hq1⟩ := hq1
          subst hk1
          subst hq1
          obtain ⟨W1, hW1⟩ : ∃ W1, W1 = W0.drewN kk := ⟨_, rfl⟩
          have E1 : Ext w W1 := by rw [hW1]; exact E0.drewN kk
          rw [← hW1]
          clear HDV k0 k1 E0 p0 hW1
          go_wp2_with fail
          refine (Tryz.fixSided b (Q) _ (by omega)).mono ?_
          rintro e w2 ⟨rfl, rfl⟩
          go_wp2
          go_ret2
          exact ⟨rfl, by first | exact E1.alloc _ | exact E1⟩

end Go.Rt
