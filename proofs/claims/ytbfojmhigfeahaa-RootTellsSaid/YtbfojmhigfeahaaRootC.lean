/-
  root.Pow, root.Up; the reference's Pow, Root, Up.
-/
import Derived.Test.YtbfojmhigfeahaaRootB
namespace Go.Rt
open Go.RowKit Go.Proofs

set_option maxHeartbeats 1000000 in
theorem Try.rootPow {v : Value} {A L : Nat} {w : World} (h : Nw w v A) (s : Sm L A) (hL : L ≤ 100000) (k : Int) :
    Calls Try.prog 45 #[v, .int .i64 k] w fun e w' => ∃ v', e = .returned (.tuple #[v', .int .i64 (rootE k)]) ∧ Nw w' v' (powV A k) ∧ Ext w w' := by
  by_cases hk : 1 ≤ k ∧ k ≤ 16
  · have H1 : Hid (rootE k = 0) := Lib.hid (if_pos hk)
    have H2 : Hid (powV A k = A ^ k.toNat) := Lib.hid (if_pos hk)
    obtain ⟨hk1, hk2⟩ := hk
    obtain ⟨m, rfl⟩ := Int.eq_ofNat_of_zero_le (show 0 ≤ k by omega)
    rw [show ((m : Int)).toNat = m from rfl] at H2
    have hm1 : 1 ≤ m := by omega
    have hm2 : m ≤ 16 := by omega
    have hm : L * m ≤ L * 16 := Nat.mul_le_mul_left _ hm2
    go_enter Try.func45, Try.ntmps45
    go_wp2_with fail
    refine (Try.isExpT m _ hm1 hm2).mono ?_
    rintro e w' ⟨rfl, rfl⟩
    go_wp2_with fail
    refine (Try.power2 h s m (by omega) (by omega)).mono ?_
    rintro e w1 ⟨v1, rfl, h1, hE⟩
    go_wp2
    go_ret2
    rw [H1.out, H2.out]
    exact ⟨_, rfl, h1, hE⟩
  · have H1 : Hid (rootE k = 1) := Lib.hid (if_neg hk)
    have H2 : Hid (powV A k = 0) := Lib.hid (if_neg hk)
    by_cases hk1 : 1 ≤ k
    · have hk2 : ¬ k ≤ 16 := by omega
      clear hk
      go_enter Try.func45, Try.ntmps45
      go_wp2
      go_ret2
      exact ⟨_, by rw [H1.out]; rfl, by rw [H2.out]; exact Nw.nil _, Ext.refl _⟩
    · clear hk
      go_enter Try.func45, Try.ntmps45
      go_wp2
      go_ret2
      exact ⟨_, by rw [H1.out]; rfl, by rw [H2.out]; exact Nw.nil _, Ext.refl _⟩

set_option maxHeartbeats 1000000 in
theorem Try.rootUp {v : Value} {A L : Nat} {w : World} (h : Nw w v A) (s : Sm L A) (hL : L ≤ 300) (k : Int) :
    Calls Try.prog 43 #[v, .int .i64 k] w fun e w' => ∃ v', e = .returned (.tuple #[v', .int .i64 (rootE k)]) ∧ Nw w' v' (rootU A k) ∧ Ext w w' := by
  have b1 : 1 < B64 := by rw [B64_eq]; omega
  by_cases hk : 1 ≤ k ∧ k ≤ 16
  · have H1 : Hid (rootE k = 0) := Lib.hid (if_pos hk)
    have H2 : Hid (rootU A k = rtUp A k.toNat) := Lib.hid (if_pos hk)
    have H3 : Hid (rootV A k = rt A k.toNat) := Lib.hid (if_pos hk)
    obtain ⟨hk1, hk2⟩ := hk
    obtain ⟨m, rfl⟩ := Int.eq_ofNat_of_zero_le (show 0 ≤ k by omega)
    rw [show ((m : Int)).toNat = m from rfl] at H2 H3
    have hm1 : 1 ≤ m := by omega
    have hm2 : m ≤ 16 := by omega
    have hm : L * m ≤ L * 16 := Nat.mul_le_mul_left _ hm2
    have sr : Sm L (rt A m) := s.le (rt_le hm1)
    have hle := (rt_is A hm1).1
    go_enter Try.func43, Try.ntmps43
    go_wp2_with fail
    refine (Try.rootRoot h s hL (m : Int)).mono ?_
    rintro e w1 ⟨v1, rfl, h1, hE1⟩
    rw [H1.out]
    rw [H3.out] at h1
    go_wp2_with fail
    refine (Try.power2 h1 sr m (by omega) (by omega)).mono ?_
    rintro e w2 ⟨v2, rfl, h2, hE2⟩
    have E2 := hE1.trans hE2
    go_wp2_with fail
    refine (Try.natCmp h2 (h.ext E2)).mono ?_
    rintro e w3 ⟨rfl, hE3⟩
    have E3 := E2.trans hE3
    have h13 := (h1.ext hE2).ext hE3
    by_cases heq : (rt A m) ^ m = A
    · have HC : Hid (cmpI ((rt A m ^ m : Nat) : Int) (A : Int) = 0) := Lib.hid (cmpI_nat_eq heq)
      have HU : Hid (rootU A (m : Int) = rt A m) := Lib.hid (by rw [H2.out]; exact if_pos heq)
      clear heq hle hE1 hE2 E2 hE3
      rw [HC.out]
      go_wp2
      go_ret2
      rw [H1.out, HU.out]
      exact ⟨_, rfl, h13, E3⟩
    · have HC : Hid (cmpI ((rt A m ^ m : Nat) : Int) (A : Int) = -1) := Lib.hid (cmpI_nat_lt (by omega))
      have HU : Hid (rootU A (m : Int) = rt A m + 1) := Lib.hid (by rw [H2.out]; exact if_neg heq)
      clear heq hle hE1 hE2 E2 hE3
      rw [HC.out]
      go_wp2_with fail
      refine (Try.natOf 1 _ b1).mono ?_
      rintro e w4 ⟨v4, rfl, h4, hE4, -⟩
      go_wp2_with fail
      refine (Try.natAdd (h13.ext hE4) h4 (sr.mono (show L ≤ L + 1 by omega)) ((Sm.one b1).mono (by omega)) (by omega)).mono ?_
      rintro e w5 ⟨v5, rfl, h5, hE5, -⟩
      have E5 := (E3.trans hE4).trans hE5
      clear hE4 hE5
      go_wp2
      go_ret2
      rw [H1.out, HU.out]
      exact ⟨_, rfl, h5, E5⟩
  · have H1 : Hid (rootE k = 1) := Lib.hid (if_neg hk)
    have H2 : Hid (rootU A k = 0) := Lib.hid (if_neg hk)
    have H3 : Hid (rootV A k = 0) := Lib.hid (if_neg hk)
    clear hk b1
    go_enter Try.func43, Try.ntmps43
    go_wp2_with fail
    refine (Try.rootRoot h s hL k).mono ?_
    rintro e w1 ⟨v1, rfl, h1, hE1⟩
    rw [H1.out]
    rw [H3.out] at h1
    go_wp2
    go_ret2
    rw [H1.out, H2.out]
    exact ⟨_, rfl, h1, hE1⟩

set_option maxHeartbeats 1000000 in
theorem Try.refPow {v : Value} {A L : Nat} {w : World} (h : Nw w v A) (s : Sm L A) (hL : L ≤ 100000) (k : Int) :
    Calls Try.prog 46 #[v, .int .i64 k] w fun e w' => ∃ v', e = .returned (.tuple #[v', .int .i64 (rootE k)]) ∧ Nw w' v' (powV A k) ∧ Ext w w' := by
  by_cases hk : 1 ≤ k ∧ k ≤ 16
  · have H1 : Hid (rootE k = 0) := Lib.hid (if_pos hk)
    have H2 : Hid (powV A k = A ^ k.toNat) := Lib.hid (if_pos hk)
    obtain ⟨hk1, hk2⟩ := hk
    have hk3 : ¬ k < 1 := by omega
    have hk4 : ¬ 16 < k := by omega
    obtain ⟨m, rfl⟩ := Int.eq_ofNat_of_zero_le (show 0 ≤ k by omega)
    rw [show ((m : Int)).toNat = m from rfl] at H2
    have hm2 : m ≤ 16 := by omega
    have hm : L * m ≤ L * 16 := Nat.mul_le_mul_left _ hm2
    go_enter Try.func46, Try.ntmps46
    go_wp2_with fail
    refine (Try.refPower h s m (by omega) (by omega)).mono ?_
    rintro e w1 ⟨v1, rfl, h1, hE⟩
    go_wp2
    go_ret2
    rw [H1.out, H2.out]
    exact ⟨_, rfl, h1, hE⟩
  · have H1 : Hid (rootE k = 1) := Lib.hid (if_neg hk)
    have H2 : Hid (powV A k = 0) := Lib.hid (if_neg hk)
    by_cases hk1 : k < 1
    · clear hk
      go_enter Try.func46, Try.ntmps46
      go_wp2
      go_ret2
      exact ⟨_, by rw [H1.out]; rfl, by rw [H2.out]; exact Nw.nil _, Ext.refl _⟩
    · have hk2 : 16 < k := by omega
      clear hk
      go_enter Try.func46, Try.ntmps46
      go_wp2
      go_ret2
      exact ⟨_, by rw [H1.out]; rfl, by rw [H2.out]; exact Nw.nil _, Ext.refl _⟩

set_option maxHeartbeats 2000000 in
theorem Try.refRoot {v : Value} {A L : Nat} {w : World} (h : Nw w v A) (s : Sm L A) (hL : L ≤ 300) (k : Int) :
    Calls Try.prog 42 #[v, .int .i64 k] w fun e w' => ∃ v', e = .returned (.tuple #[v', .int .i64 (rootE k)]) ∧ Nw w' v' (rootV A k) ∧ Ext w w' := by
  have b1 : 1 < B64 := by rw [B64_eq]; omega
  by_cases hk : 1 ≤ k ∧ k ≤ 16
  · have H1 : Hid (rootE k = 0) := Lib.hid (if_pos hk)
    have H2 : Hid (rootV A k = rt A k.toNat) := Lib.hid (if_pos hk)
    obtain ⟨hk1, hk2⟩ := hk
    have hk3 : ¬ k < 1 := by omega
    have hk4 : ¬ 16 < k := by omega
    obtain ⟨m, rfl⟩ := Int.eq_ofNat_of_zero_le (show 0 ≤ k by omega)
    rw [show ((m : Int)).toNat = m from rfl] at H2
    have hm1 : 1 ≤ m := by omega
    have hm2 : m ≤ 16 := by omega
    have hbl := bl_sm s
    obtain ⟨b, hb⟩ : ∃ b, b = bl A := ⟨_, rfl⟩
    obtain ⟨d, hdd⟩ : ∃ d, d = b / m := ⟨_, rfl⟩
    have hdL : d ≤ 64 * L := by rw [hdd]; exact Nat.le_trans (Nat.div_le_self _ _) (by omega)
    have hdl : d ≤ 19200 := by rw [hdd]; exact Nat.le_trans (Nat.div_le_self _ _) (by omega)
    have hd : ((b : Int)).tdiv (m : Int) = (d : Int) := by rw [Int.tdiv_eq_ediv_of_nonneg (by omega), hdd]; rfl
    have hd2 : ((b : Int)) / (m : Int) = (d : Int) := by rw [hdd]; rfl
    have hw1 : IntKind.i64.wrap ((d : Int)) = (d : Int) := IntWalk.i64_in _ (by omega)
    have hd3 : IntKind.i64.wrap (((b : Int)).tdiv (m : Int)) = (d : Int) := by rw [hd]; exact hw1
    have hm0 : ((m : Int) == 0) = false := beq_eq_false_iff_ne.2 (by omega)
    have hm0a : ¬ ((m : Int) = 0) := by omega
    have hm0b : ¬ (m = 0) := by omega
    have hst := bitroot_start (a := A) hm1
    rw [← hb, ← hdd] at hst
    have HST := Lib.hid hst
    have hbits : ∀ W, Ext w W → Calls Try.prog 79 #[v] W fun e w' => e = .returned (.int .i64 (b : Int)) ∧ W = w' := fun W h' => by rw [hb]; exact Try.refBits (h.ext h') s (by omega)
    have HBI := Lib.hid hbits
    clear hb hdd hbl hst hbits
    go_enter Try.func42, Try.ntmps42
    go_wp2_with fail
    refine (HBI.out _ (Ext.alloc1 _ _)).mono ?_
    rintro e w' ⟨rfl, rfl⟩
    have hO := Nt.nil0 w 43
    clear HBI
    go_wp2_with fail
    go_loopw [6, 7, 8, 9, 10] (fun o i _ _ _ wr => ∃ (j O : Nat), i = .int .i64 ((j : Int) - 1) ∧ j ≤ d + 1 ∧ Nw wr o O ∧ Hid (O ^ m ≤ A ∧ A < (O + 2 ^ j) ^ m) ∧ Ext w wr) (fun _ i _ _ _ _ => (intOf i + 1).toNat)
    case atStart => exact ⟨d + 1, 0, congrArg (Value.int .i64) (by omega), by omega, hO, HST, Ext.alloc1 _ _⟩
    case round =>
      obtain ⟨j, O, rfl, hj, ho, hI, hE⟩ := hrel
      clear hO HST
      have sO : Sm L O := by
        refine s.le ?_
        have h1 := hI.out.1
        have h2 : O ^ 1 ≤ O ^ m ∨ O = 0 := by
          rcases Nat.eq_zero_or_pos O with h0 | h0
          · exact .inr h0
          · exact .inl (Nat.pow_le_pow_right h0 hm1)
        rw [Nat.pow_one] at h2
        omega
      rcases Nat.eq_zero_or_pos j with rfl | hjp
      · have HX : Hid (O = rootV A (m : Int)) := Lib.hid (by
          rw [H2.out]
          have h1 := hI.out
          rw [Nat.pow_zero] at h1
          exact (rt_eq hm1 h1).symm)
        have e0 : (((0 : Nat) : Int) - 1) = -1 := by omega
        rw [e0]
        clear hI e0
        go_wp2
        go_ret2
        rw [H1.out, ← HX.out]
        exact ⟨_, rfl, ho, hE⟩
      · obtain ⟨i, rfl⟩ : ∃ i, j = i + 1 := ⟨j - 1, by omega⟩
        have e0 : (((i + 1 : Nat) : Int) - 1) = (i : Int) := by omega
        rw [e0]
        have hi0 : (0 : Int) ≤ (i : Int) := by omega
        have G1 : Hid (shE (i : Int) = 0) := Lib.hid (if_neg (by omega))
        have G2 : Hid (shlV 1 (i : Int) = 2 ^ i) := Lib.hid (by unfold shlV; rw [if_neg (by omega), Nat.one_mul]; rfl)
        have sp : Sm (L + 1) (2 ^ i) := (Sm.pow2 i).mono (show i / 64 + 1 ≤ L + 1 by omega)
        have sm : Sm (L + 2) (O + 2 ^ i) := (sO.mono (by omega)).add sp
        obtain ⟨g1, g2⟩ := bitroot_step hI.out.1 hI.out.2
        have G3 := Lib.hid g1
        have G4 := Lib.hid g2
        have hmm : (L + 2) * m ≤ (L + 2) * 16 := Nat.mul_le_mul_left _ hm2
        clear e0 hI g1 g2
        go_wp2_with fail
        refine (Try.refOf 1 _ b1).mono ?_
        rintro e w1 ⟨v1, rfl, h1, hE1, -⟩
        go_wp2_with fail
        refine (Try.refShl h1 (Sm.one b1) (by omega) (i : Int)).mono ?_
        rintro e w2 ⟨v2, rfl, h2, hE2, -⟩
        rw [G2.out] at h2
        go_wp2_with fail
        refine (Try.refAdd ((ho.ext hE1).ext hE2) h2 (sO.mono (show L ≤ L + 1 by omega)) sp (by omega)).mono ?_
        rintro e w3 ⟨v3, rfl, h3, hE3, -⟩
        go_wp2_with fail
        refine (Try.refPower h3 sm m (by omega) (by omega)).mono ?_
        rintro e w4 ⟨v4, rfl, h4, hE4⟩
        have E4 := (((hE.trans hE1).trans hE2).trans hE3).trans hE4
        go_wp2_with fail
        refine (Try.refCmp h4 (h.ext E4)).mono ?_
        rintro e w5 ⟨rfl, hE5⟩
        have E5 := E4.trans hE5
        by_cases hc : (O + 2 ^ i) ^ m ≤ A
        · have hc0 : cmpI (((O + 2 ^ i) ^ m : Nat) : Int) (A : Int) ≤ 0 := by
            rcases Nat.lt_or_ge ((O + 2 ^ i) ^ m) A with h | h
            · rw [cmpI_nat_lt h]; omega
            · rw [cmpI_nat_eq (by omega)]; omega
          have h5 := (h3.ext hE4).ext hE5
          have HI : Hid ((O + 2 ^ i) ^ m ≤ A ∧ A < (O + 2 ^ i + 2 ^ i) ^ m) := Lib.hid (G3.out hc)
          obtain ⟨c, hcc⟩ : ∃ c, c = cmpI (((O + 2 ^ i) ^ m : Nat) : Int) (A : Int) := ⟨_, rfl⟩
          rw [← hcc] at hc0 ⊢
          clear hc hcc hE1 hE2 hE3 hE4 hE5 E4
          go_wp2
          go_roundw
          case rel => exact ⟨i, O + 2 ^ i, rfl, by omega, h5, HI, E5⟩
          case measure => simp [intOf]
        · have hc0 : ¬ (cmpI (((O + 2 ^ i) ^ m : Nat) : Int) (A : Int) ≤ 0) := by
            rw [cmpI_nat_gt (by omega)]; omega
          have h5 := ((((ho.ext hE1).ext hE2).ext hE3).ext hE4).ext hE5
          have HI : Hid (O ^ m ≤ A ∧ A < (O + 2 ^ i) ^ m) := Lib.hid (G4.out hc)
          obtain ⟨c, hcc⟩ : ∃ c, c = cmpI (((O + 2 ^ i) ^ m : Nat) : Int) (A : Int) := ⟨_, rfl⟩
          rw [← hcc] at hc0 ⊢
          clear hc hcc hE1 hE2 hE3 hE4 hE5 E4
          go_wp2
          go_roundw
          case rel => exact ⟨i, O, rfl, by omega, h5, HI, E5⟩
          case measure => simp [intOf]
  · have H1 : Hid (rootE k = 1) := Lib.hid (if_neg hk)
    have H2 : Hid (rootV A k = 0) := Lib.hid (if_neg hk)
    by_cases hk1 : k < 1
    · clear hk
      go_enter Try.func42, Try.ntmps42
      go_wp2
      go_ret2
      exact ⟨_, by rw [H1.out]; rfl, by rw [H2.out]; exact Nw.nil _, Ext.refl _⟩
    · have hk2 : 16 < k := by omega
      clear hk
      go_enter Try.func42, Try.ntmps42
      go_wp2
      go_ret2
      exact ⟨_, by rw [H1.out]; rfl, by rw [H2.out]; exact Nw.nil _, Ext.refl _⟩

set_option maxHeartbeats 1000000 in
theorem Try.refUp {v : Value} {A L : Nat} {w : World} (h : Nw w v A) (s : Sm L A) (hL : L ≤ 300) (k : Int) :
    Calls Try.prog 44 #[v, .int .i64 k] w fun e w' => ∃ v', e = .returned (.tuple #[v', .int .i64 (rootE k)]) ∧ Nw w' v' (rootU A k) ∧ Ext w w' := by
  have b1 : 1 < B64 := by rw [B64_eq]; omega
  by_cases hk : 1 ≤ k ∧ k ≤ 16
  · have H1 : Hid (rootE k = 0) := Lib.hid (if_pos hk)
    have H2 : Hid (rootU A k = rtUp A k.toNat) := Lib.hid (if_pos hk)
    have H3 : Hid (rootV A k = rt A k.toNat) := Lib.hid (if_pos hk)
    obtain ⟨hk1, hk2⟩ := hk
    obtain ⟨m, rfl⟩ := Int.eq_ofNat_of_zero_le (show 0 ≤ k by omega)
    rw [show ((m : Int)).toNat = m from rfl] at H2 H3
    have hm1 : 1 ≤ m := by omega
    have hm2 : m ≤ 16 := by omega
    have hm : L * m ≤ L * 16 := Nat.mul_le_mul_left _ hm2
    have sr : Sm L (rt A m) := s.le (rt_le hm1)
    go_enter Try.func44, Try.ntmps44
    go_wp2_with fail
    refine (Try.refRoot h s hL (m : Int)).mono ?_
    rintro e w1 ⟨v1, rfl, h1, hE1⟩
    rw [H1.out]
    rw [H3.out] at h1
    go_wp2_with fail
    refine (Try.refPower h1 sr m (by omega) (by omega)).mono ?_
    rintro e w2 ⟨v2, rfl, h2, hE2⟩
    have E2 := hE1.trans hE2
    go_wp2_with fail
    refine (Try.refSame h2 (h.ext E2)).mono ?_
    rintro e w3 ⟨rfl, hE3⟩
    have E3 := E2.trans hE3
    have h13 := (h1.ext hE2).ext hE3
    by_cases heq : (rt A m) ^ m = A
    · have HC : Hid (decide (rt A m ^ m = A) = true) := Lib.hid (decide_eq_true heq)
      have HU : Hid (rootU A (m : Int) = rt A m) := Lib.hid (by rw [H2.out]; exact if_pos heq)
      clear heq hE1 hE2 E2 hE3
      rw [HC.out]
      go_wp2
      go_ret2
      rw [H1.out, HU.out]
      exact ⟨_, rfl, h13, E3⟩
    · have HC : Hid (decide (rt A m ^ m = A) = false) := Lib.hid (decide_eq_false heq)
      have HU : Hid (rootU A (m : Int) = rt A m + 1) := Lib.hid (by rw [H2.out]; exact if_neg heq)
      clear heq hE1 hE2 E2 hE3
      rw [HC.out]
      go_wp2_with fail
      refine (Try.refOf 1 _ b1).mono ?_
      rintro e w4 ⟨v4, rfl, h4, hE4, -⟩
      go_wp2_with fail
      refine (Try.refAdd (h13.ext hE4) h4 (sr.mono (show L ≤ L + 1 by omega)) ((Sm.one b1).mono (by omega)) (by omega)).mono ?_
      rintro e w5 ⟨v5, rfl, h5, hE5, -⟩
      have E5 := (E3.trans hE4).trans hE5
      clear hE4 hE5
      go_wp2
      go_ret2
      rw [H1.out, HU.out]
      exact ⟨_, rfl, h5, E5⟩
  · have H1 : Hid (rootE k = 1) := Lib.hid (if_neg hk)
    have H2 : Hid (rootU A k = 0) := Lib.hid (if_neg hk)
    have H3 : Hid (rootV A k = 0) := Lib.hid (if_neg hk)
    clear hk b1
    go_enter Try.func44, Try.ntmps44
    go_wp2_with fail
    refine (Try.refRoot h s hL k).mono ?_
    rintro e w1 ⟨v1, rfl, h1, hE1⟩
    rw [H1.out]
    rw [H3.out] at h1
    go_wp2
    go_ret2
    rw [H1.out, H2.out]
    exact ⟨_, rfl, h1, hE1⟩

end Go.Rt
