/-
  Chapter 19: a step's share is as the document says.
-/
import Derived.Test.YtkbalokicnogbaaGreatAdaE
namespace Go.Rt
open Go Go.RowKit Go.Proofs

theorem cmpI_low {a b : Int} (h : a ≤ b) : cmpI a b ≤ 0 := by unfold cmpI; split <;> (try split) <;> omega

theorem cmpI_high {a b : Int} (h : b < a) : cmpI a b > 0 := by unfold cmpI; split <;> (try split) <;> omega

theorem share_numbers {T K : Nat} (h1 : 1 ≤ T) (h2 : T ≤ 1000000) (hK : K ≤ 40) :
    shareN T K + 1 < B64 ∧ Sm 4 (shareN T K ^ 5) ∧ Sm 4 ((shareN T K + 1) ^ 5) ∧ Sm 4 (T ^ 4) := by
  have h := share_64 h1 hK
  have e1 : shareN T K ^ 5 ≤ 1099511627777 ^ 5 := Nat.pow_le_pow_left (by omega) 5
  have e2 : (shareN T K + 1) ^ 5 ≤ 1099511627777 ^ 5 := Nat.pow_le_pow_left (by omega) 5
  have e3 : (1099511627777 : Nat) ^ 5 < 18446744073709551616 ^ 4 := by decide
  refine ⟨by rw [B64_eq]; omega, ?_, ?_, (share_T h1 h2).2.2.2⟩
  · unfold Sm; rw [B64_eq]; exact Nat.lt_of_le_of_lt e1 e3
  · unfold Sm; rw [B64_eq]; exact Nat.lt_of_le_of_lt e2 e3

set_option maxRecDepth 100000 in
set_option maxHeartbeats 8000000 in
theorem Tryz.lawAdaShare {t f : Int} {w : World} (_ht : (Lit.int .i64 t).wf = true) (_hf : (Lit.int .i64 f).wf = true) :
    Calls Tryz.prog 4 #[.int .i64 t, .int .i64 f] w fun e w' => e = .returned (.bool true) ∧ Ext w w' := by
  by_cases hb : t < 1 ∨ 1000000 < t ∨ f < 0 ∨ 40 < f
  · have HB := Lib.hid hb
    clear hb
    go_enter Tryz.func4, Tryz.ntmps4
    go_wp2_with fail
    refine (Tryz.adaShareNo t f _ HB.out).mono ?_
    rintro e W ⟨rfl, rfl⟩
    go_wp2_with fail
    refine (Tryz.refShareNo t f _ HB.out).mono ?_
    rintro e W ⟨rfl, rfl⟩
    go_wp2_with fail
    refine (Tryz.alive19 _).mono ?_
    rintro e W ⟨rfl, hE⟩
    go_wp2; go_ret
    exact ⟨rfl, hE⟩
  · obtain ⟨T, rfl⟩ := Int.eq_ofNat_of_zero_le (show 0 ≤ t by omega)
    obtain ⟨K, rfl⟩ := Int.eq_ofNat_of_zero_le (show 0 ≤ f by omega)
    have h1 : 1 ≤ T := by omega
    have h2 : T ≤ 1000000 := by omega
    have hK : K ≤ 40 := by omega
    clear hb
    have HT := Lib.hid (share_T h1 h2)
    have HN := Lib.hid (share_numbers h1 h2 hK)
    have H12 := Lib.hid (And.intro h1 (And.intro h2 hK))
    obtain ⟨S, hS⟩ : ∃ S, S = shareN T K := ⟨_, rfl⟩
    have HSS := Lib.hid hS.symm
    rw [← hS] at HN
    have hSb : S ≤ 1099511627776 := by rw [hS]; exact share_64 h1 hK
    obtain ⟨P, hP⟩ : ∃ P, P = 2 ^ K := ⟨_, rfl⟩
    have hPb : P ≤ 1099511627776 := by rw [hP]; exact Nat.le_trans (Nat.pow_le_pow_right (by omega) hK) (by decide)
    have hsh : IntKind.i64.wrap (2 ^ K) = (P : Int) := by rw [show ((2 : Int) ^ K) = ((2 ^ K : Nat) : Int) by simp, ← hP, IntKind.wrap_i64]; omega
    have HP1 : Hid (shareN 1 K = P) := Lib.hid ((share_one K).trans hP.symm)
    obtain ⟨M, hM⟩ : ∃ M, M = 5 * K := ⟨_, rfl⟩
    have hw5 : IntKind.i64.wrap (5 * (K : Int)) = (M : Int) := by rw [IntKind.wrap_i64]; omega
    have HM : Hid (M ≤ 20000 ∧ 1 * 2 ^ M = 2 ^ (5 * K)) := Lib.hid ⟨by omega, by rw [Nat.one_mul, hM]⟩
    have hwT : IntKind.u64.wrap (T : Int) = (T : Int) := by rw [IntKind.wrap_u64]; omega
    have hwS : IntKind.u64.wrap (S : Int) = (S : Int) := by rw [IntKind.wrap_u64]; omega
    obtain ⟨S1, hS1⟩ : ∃ S1, S1 = S + 1 := ⟨_, rfl⟩
    have hwS1 : IntKind.u64.wrap ((S : Int) + 1) = (S1 : Int) := by rw [IntKind.wrap_u64]; omega
    obtain ⟨T1, hT1⟩ : ∃ T1, T1 = T + 1 := ⟨_, rfl⟩
    have hwT1 : IntKind.i64.wrap ((T : Int) + 1) = (T1 : Int) := by rw [IntKind.wrap_i64]; omega
    rw [← hS1] at HN
    have HPW : Hid (powV T 4 = T ^ 4 ∧ powV S 5 = S ^ 5 ∧ powV S1 5 = S1 ^ 5) := Lib.hid ⟨if_pos (by omega), if_pos (by omega), if_pos (by omega)⟩
    obtain ⟨c1, hc1⟩ : ∃ c, c = cmpI ((S ^ 5 * T ^ 4 : Nat) : Int) ((2 ^ (5 * K) : Nat) : Int) := ⟨_, rfl⟩
    obtain ⟨c2, hc2⟩ : ∃ c, c = cmpI ((S1 ^ 5 * T ^ 4 : Nat) : Int) ((2 ^ (5 * K) : Nat) : Int) := ⟨_, rfl⟩
    have hcl : c1 ≤ 0 := by rw [hc1]; exact cmpI_low (by have := share_low T K; rw [← hS] at this; exact_mod_cast this)
    have hch : c2 > 0 := by rw [hc2]; exact cmpI_high (by have := share_high h1 K; rw [← hS, ← hS1] at this; exact_mod_cast this)
    have HC1 := Lib.hid hc1.symm
    have HC2 := Lib.hid hc2.symm
    have HNX : Hid (T1 ≤ 1000000 → shareN T1 K ≤ S) := Lib.hid (fun _ => by rw [hS]; exact share_mono h1 (by omega) K)
    have HT1 : Hid (1 ≤ T1) := Lib.hid (by omega)
    obtain ⟨nx, er, hnx, hor⟩ : ∃ nx er : Int, (∀ W : World, Calls Tryz.prog 16 #[.int .i64 (T1 : Int), .int .i64 (K : Int)] W fun e w' => e = .returned (.tuple #[.int .i64 nx, .int .i64 er]) ∧ Ext W w') ∧ (er = 1 ∨ er = 0 ∧ nx ≤ (S : Int)) := by
      by_cases hq : T1 ≤ 1000000
      · exact ⟨_, 0, fun W => Tryz.adaShare T1 K W HT1.out hq hK, .inr ⟨rfl, by have := HNX.out hq; omega⟩⟩
      · exact ⟨0, 1, fun W => (Tryz.adaShareNo _ _ W (.inr (.inl (by omega)))).mono fun e w' ⟨h, h'⟩ => ⟨h, by rw [← h']; exact Ext.refl W⟩, .inl rfl⟩
    have HNF := Lib.hid hnx
    have HOR := Lib.hid hor
    have HSH : Hid (∀ W : World, Calls Tryz.prog 16 #[.int .i64 (T : Int), .int .i64 (K : Int)] W fun e w' => e = .returned (.tuple #[.int .i64 (S : Int), .int .i64 0]) ∧ Ext W w') := Lib.hid (fun W => by rw [hS]; exact Tryz.adaShare T K W h1 h2 hK)
    have HRH : Hid (∀ W : World, Calls Tryz.prog 17 #[.int .i64 (T : Int), .int .i64 (K : Int)] W fun e w' => e = .returned (.tuple #[.int .i64 (S : Int), .int .i64 0]) ∧ Ext W w') := Lib.hid (fun W => by rw [hS]; exact Tryz.refShare T K W h1 h2 hK)
    have HFH : Hid (∀ W : World, Calls Tryz.prog 16 #[.int .i64 1, .int .i64 (K : Int)] W fun e w' => e = .returned (.tuple #[.int .i64 (P : Int), .int .i64 0]) ∧ Ext W w') := Lib.hid (fun W => by have h := Tryz.adaShare 1 K W (by omega) (by omega) hK; rw [HP1.out] at h; exact h)
    have HSB := Lib.hid hSb
    clear h1 h2 hK hS hP hPb hM hS1 hT1 hc1 hc2 hnx hor hSb
    go_enter Tryz.func4, Tryz.ntmps4
    go_wp2_with fail
    refine (HSH.out _).mono ?_
    rintro e W65 ⟨rfl, E0⟩
    go_wp2_with fail
    refine (HRH.out _).mono ?_
    rintro e W68 ⟨rfl, hE⟩
    replace E0 := E0.trans hE
    clear hE
    go_wp2_with fail
    refine (HNF.out _).mono ?_
    rintro e W73 ⟨rfl, hE⟩
    replace E0 := E0.trans hE
    clear hE
    go_wp2_with fail
    refine (HFH.out _).mono ?_
    rintro e W78 ⟨rfl, hE⟩
    replace E0 := E0.trans hE
    clear hE
    go_wp2_with fail
    refine (Tryz.refOf 1 _ (by rw [B64_eq]; omega)).mono ?_
    rintro e W83 ⟨v1, rfl, n1, hE, -⟩
    replace E0 := E0.trans hE
    clear hE
    go_wp2_with fail
    refine (Tryz.refShlK n1 (Sm.one (by rw [B64_eq]; omega)) (by omega) M HM.out.1).mono ?_
    rintro e W88 ⟨v2, rfl, n2, hE⟩
    rw [HM.out.2] at n2
    replace E0 := E0.trans hE
    replace n1 := n1.ext hE
    clear hE
    go_wp2_with fail
    refine (Tryz.refOf T _ HT.out.1).mono ?_
    rintro e W95 ⟨v3, rfl, n3, hE, -⟩
    replace E0 := E0.trans hE
    replace n1 := n1.ext hE
    replace n2 := n2.ext hE
    clear hE
    go_wp2_with fail
    refine (Tryz.refPow n3 HT.out.2.1 (by omega) 4).mono ?_
    rintro e W102 ⟨v4, rfl, n4, hE⟩
    rw [HPW.out.1] at n4
    replace E0 := E0.trans hE
    replace n1 := n1.ext hE
    replace n2 := n2.ext hE
    replace n3 := n3.ext hE
    clear hE
    go_wp2_with fail
    refine (Tryz.refOf S _ (by have := HSB.out; rw [B64_eq]; omega)).mono ?_
    rintro e W111 ⟨v5, rfl, n5, hE, -⟩
    replace E0 := E0.trans hE
    replace n1 := n1.ext hE
    replace n2 := n2.ext hE
    replace n3 := n3.ext hE
    replace n4 := n4.ext hE
    clear hE
    go_wp2_with fail
    refine (Tryz.refPow n5 (Sm.one (by have := HSB.out; rw [B64_eq]; omega)) (by omega) 5).mono ?_
    rintro e W120 ⟨v6, rfl, n6, hE⟩
    rw [HPW.out.2.1] at n6
    replace E0 := E0.trans hE
    replace n1 := n1.ext hE
    replace n2 := n2.ext hE
    replace n3 := n3.ext hE
    replace n4 := n4.ext hE
    replace n5 := n5.ext hE
    clear hE
    go_wp2_with fail
    refine (Tryz.refOf S1 _ HN.out.1).mono ?_
    rintro e W131 ⟨v7, rfl, n7, hE, -⟩
    replace E0 := E0.trans hE
    replace n1 := n1.ext hE
    replace n2 := n2.ext hE
    replace n3 := n3.ext hE
    replace n4 := n4.ext hE
    replace n5 := n5.ext hE
    replace n6 := n6.ext hE
    clear hE
    go_wp2_with fail
    refine (Tryz.refPow n7 (Sm.one HN.out.1) (by omega) 5).mono ?_
    rintro e W142 ⟨v8, rfl, n8, hE⟩
    rw [HPW.out.2.2] at n8
    replace E0 := E0.trans hE
    replace n1 := n1.ext hE
    replace n2 := n2.ext hE
    replace n3 := n3.ext hE
    replace n4 := n4.ext hE
    replace n5 := n5.ext hE
    replace n6 := n6.ext hE
    replace n7 := n7.ext hE
    clear hE
    go_wp2_with fail
    refine (Tryz.refMul n6 n4 HN.out.2.1 HN.out.2.2.2 (by omega)).mono ?_
    rintro e W155 ⟨v9, rfl, n9, hE, -⟩
    replace E0 := E0.trans hE
    replace n1 := n1.ext hE
    replace n2 := n2.ext hE
    replace n3 := n3.ext hE
    replace n4 := n4.ext hE
    replace n5 := n5.ext hE
    replace n6 := n6.ext hE
    replace n7 := n7.ext hE
    replace n8 := n8.ext hE
    clear hE
    go_wp2_with fail
    refine (Tryz.refCmp n9 n2).mono ?_
    rintro e W168 ⟨rfl, hE⟩
    rw [HC1.out]
    replace E0 := E0.trans hE
    replace n1 := n1.ext hE
    replace n2 := n2.ext hE
    replace n3 := n3.ext hE
    replace n4 := n4.ext hE
    replace n5 := n5.ext hE
    replace n6 := n6.ext hE
    replace n7 := n7.ext hE
    replace n8 := n8.ext hE
    replace n9 := n9.ext hE
    clear hE
    go_wp2_with fail
    refine (Tryz.refMul n8 n4 HN.out.2.2.1 HN.out.2.2.2 (by omega)).mono ?_
    rintro e W183 ⟨v10, rfl, n10, hE, -⟩
    replace E0 := E0.trans hE
    replace n1 := n1.ext hE
    replace n2 := n2.ext hE
    replace n3 := n3.ext hE
    replace n4 := n4.ext hE
    replace n5 := n5.ext hE
    replace n6 := n6.ext hE
    replace n7 := n7.ext hE
    replace n8 := n8.ext hE
    replace n9 := n9.ext hE
    clear hE
    go_wp2_with fail
    refine (Tryz.refCmp n10 n2).mono ?_
    rintro e W197 ⟨rfl, hE⟩
    rw [HC2.out]
    replace E0 := E0.trans hE
    replace n1 := n1.ext hE
    replace n2 := n2.ext hE
    replace n3 := n3.ext hE
    replace n4 := n4.ext hE
    replace n5 := n5.ext hE
    replace n6 := n6.ext hE
    replace n7 := n7.ext hE
    replace n8 := n8.ext hE
    replace n9 := n9.ext hE
    replace n10 := n10.ext hE
    clear hE
    clear n1 n2 n3 n4 n5 n6 n7 n8 n9 n10
    go_wp2_with fail
    refine (Tryz.alive19 _).mono ?_
    rintro e W214 ⟨rfl, hE⟩
    replace E0 := E0.trans hE
    clear hE
    have hK := H12.out.2.2
    rcases HOR.out with rfl | ⟨rfl, hle⟩
    · go_wp2; go_ret
      exact ⟨rfl, E0⟩
    · go_wp2; go_ret
      exact ⟨rfl, E0⟩
end Go.Rt
