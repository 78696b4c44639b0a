/-
  nat.Bits; powers, by the program and by the reference.
-/
import Derived.Test.YtbfojmhigfeahaaNatMul
import Derived.Test.YtbfojmhigfeahaaMathR
import Derived.Test.YtbfojmhigfeahaaDivH
namespace Go.Rt
open Go.RowKit Go.Proofs

set_option maxHeartbeats 1000000 in
theorem Try.natBits {v : Value} {N L : Nat} {w : World} (h : Nw w v N) (s : Sm L N) (hL : L ≤ 10000000) :
    Calls Try.prog 78 #[v] w fun e w' => e = .returned (.int .i64 ((bl N : Nat) : Int)) ∧ w = w' := by
  obtain ⟨xs, ⟨a, b, o, cap, rfl, hs, hl⟩, hn, rfl, l1⟩ := h.lens s
  have hle := hs.le
  have hmx := hs.max
  by_cases h0 : xs.length = 0
  · have HB : Hid (bl (ev B64 xs) = 0) := Lib.hid (by rw [(hn.zero_iff B64_pos).2 h0]; rfl)
    have h0' : ((xs.length : Int) == 0) = true := by simp [h0]
    clear h0 hs h s
    go_enter Try.func78, Try.ntmps78
    go_wp2
    go_ret
    exact ⟨by rw [HB.out]; rfl, rfl⟩
  · have h0' : ((xs.length : Int) == 0) = false := beq_eq_false_iff_ne.2 (by omega)
    obtain rfl := hs.addr (by omega)
    have hc := hs.cell (i := xs.length - 1) (by omega)
    obtain ⟨e1, -⟩ := bl_ev hl hn (show xs.length = (xs.length - 1) + 1 by omega)
    have hx64 := lg_lt hl (xs.length - 1)
    have hb64 : bl (lg xs (xs.length - 1)) ≤ 64 := (bl_le_iff _ _).2 (by rw [← B64_two]; exact hx64)
    have e2 : bl (ev B64 xs) = 64 * (xs.length - 1) + bl (lg xs (xs.length - 1)) := e1
    have HE := Lib.hid e2
    obtain ⟨t, ht⟩ : ∃ t, t = lg xs (xs.length - 1) := ⟨_, rfl⟩
    rw [← ht] at hc hx64 hb64
    have HT := Lib.hid ht
    have h1 : 1 ≤ xs.length := by omega
    clear h0 hs h s e1 e2 ht hn
    go_enter Try.func78, Try.ntmps78
    go_wp2_with (go_at_call 102; refine (Try.len64 t _ hx64).mono ?_; rintro e w' ⟨rfl, rfl⟩)
    go_ret
    refine ⟨ret_i ?_, rfl⟩
    rw [HE.out, HT.out]
    omega

theorem bits_and1_i64 (a : Nat) (ha : a < 9223372036854775808) : bits .and .i64 (a : Int) 1 = ((a % 2 : Nat) : Int) := by
  have h1 : (BitVec.ofInt 64 (a : Int)).toNat = a := by
    rw [BitVec.ofInt_natCast, BitVec.toNat_ofNat]; exact Nat.mod_eq_of_lt (by omega)
  have h2 : (BitVec.ofInt 64 (1 : Int)).toNat = 1 := by decide
  show IntKind.i64.wrap ((BitVec.ofInt 64 (a : Int) &&& BitVec.ofInt 64 (1 : Int)).toNat : Int) = _
  rw [BitVec.toNat_and, h1, h2, IntKind.wrap_i64, Nat.and_one_is_mod]
  omega

/-! powers -/
theorem Sm.pow {L N : Nat} (h : Sm L N) : ∀ j, Sm (L * j + 1) (N ^ j)
  | 0 => by unfold Sm; rw [Nat.pow_zero, Nat.mul_zero, Nat.zero_add, Nat.pow_one, B64_eq]; omega
  | j + 1 => by
    rw [Nat.pow_succ, Nat.mul_add, Nat.mul_one]
    exact ((Sm.pow h j).mul h).mono (by omega)

set_option maxHeartbeats 1000000 in
theorem Try.refPower {v : Value} {N L : Nat} {w : World} (h : Nw w v N) (s : Sm L N) (K : Nat) (hL : L * K + L + 1 ≤ 10000000) (hK : K ≤ 1000000) :
    Calls Try.prog 80 #[v, .int .i64 (K : Int)] w fun e w' => ∃ v', e = .returned v' ∧ Nw w' v' (N ^ K) ∧ Ext w w' := by
  have b1 : 1 < B64 := by rw [B64_eq]; omega
  go_enter Try.func80, Try.ntmps80
  go_wp2_with fail
  refine (Try.refOf 1 _ b1).mono ?_
  rintro e w1 ⟨v1, rfl, h1, hE1, -⟩
  clear b1
  go_wp2_with fail
  go_loopw [5, 6] (fun o i wr => ∃ k : Nat, i = .int .i64 (k : Int) ∧ k ≤ K ∧ Nw wr o (N ^ k) ∧ Ext w wr) (fun _ i _ => K - (intOf i).toNat)
  case atStart => exact ⟨0, rfl, by omega, by rw [Nat.pow_zero]; exact h1, hE1⟩
  case round =>
    obtain ⟨k, rfl, hk, ho, hE⟩ := hrel
    clear h1 hE1
    by_cases hlt : k < K
    · have hkI : (k : Int) < (K : Int) := by omega
      have hm : L * k ≤ L * K := Nat.mul_le_mul_left _ (by omega)
      go_wp2_with fail
      refine (Try.refMul ho (h.ext hE) (s.pow k) s (by omega)).mono ?_
      rintro e w2 ⟨v2, rfl, h2, hE2, -⟩
      rw [← Nat.pow_succ] at h2
      go_wp2
      go_roundw
      case rel => exact ⟨k + 1, by go_num, by omega, h2, hE.trans hE2⟩
      case measure => simp [intOf]; omega
    · obtain rfl : k = K := by omega
      go_wp2
      go_ret
      exact ⟨_, rfl, ho, hE⟩

set_option maxHeartbeats 1000000 in
theorem Try.power2 {v : Value} {N L : Nat} {w : World} (h : Nw w v N) (s : Sm L N) (K : Nat) (hL : 2 * (L * K + L + 1) ≤ 10000000) (hK : K ≤ 1000000) :
    Calls Try.prog 76 #[v, .int .i64 (K : Int)] w fun e w' => ∃ v', e = .returned v' ∧ Nw w' v' (N ^ K) ∧ Ext w w' := by
  have b1 : 1 < B64 := by rw [B64_eq]; omega
  go_enter Try.func76, Try.ntmps76
  go_wp2_with fail
  refine (Try.natOf 1 _ b1).mono ?_
  rintro e w1 ⟨v1, rfl, h1, hE1, -⟩
  clear b1
  go_wp2_with fail
  go_loopw [0, 1, 5] (fun a i o wr => ∃ k p q : Nat, i = .int .i64 (k : Int) ∧ k ≤ K ∧ Nw wr o (N ^ p) ∧ Nw wr a (N ^ q) ∧ Hid (p + q * k = K) ∧ Ext w wr) (fun _ i _ _ => (intOf i).toNat)
  case atStart => exact ⟨K, 0, 1, rfl, by omega, by rw [Nat.pow_zero]; exact h1, by rw [Nat.pow_one]; exact h.ext hE1, Lib.hid (by omega), hE1⟩
  case round =>
    obtain ⟨k, p, q, rfl, hk, ho, ha, hpq, hE⟩ := hrel
    clear h1 hE1
    by_cases hlt : 0 < k
    · have hkI : (0 : Int) < (k : Int) := by omega
      have hq : q ≤ K := by
        have h2 : q * 1 ≤ q * k := Nat.mul_le_mul_left _ hlt
        have := hpq.out; omega
      have hp : p ≤ K := by have := hpq.out; omega
      have m1 : L * p ≤ L * K := Nat.mul_le_mul_left _ hp
      have m2 : L * q ≤ L * K := Nat.mul_le_mul_left _ hq
      have s1 := s.pow p
      have s2 := s.pow q
      by_cases hodd : k % 2 = 1
      · by_cases hbig : 1 < k
        · have hb : (bits .and .i64 (k : Int) 1 == 1) = true := by rw [bits_and1_i64 k (by omega)]; simp; omega
          have hkb : (1 : Int) < (k : Int) := by omega
          have E := Ext.refl wr
          go_wp2_with fail
          refine (Try.natMul ho ha s1 s2 (by omega)).mono ?_
          rintro e w2 ⟨v2, rfl, h2, hE2, -⟩
          rw [← Nat.pow_add] at h2
          replace ha := ha.ext hE2
          replace E := E.trans hE2
          go_wp2_with fail
          refine (Try.natMul ha ha s2 s2 (by omega)).mono ?_
          rintro e w3 ⟨v3, rfl, h3, hE3, -⟩
          rw [← Nat.pow_add] at h3
          replace h2 := h2.ext hE3
          replace E := E.trans hE3
          go_wp2
          go_roundw
          case rel =>
            refine ⟨k / 2, p + q, q + q, congrArg (Value.int .i64) (by omega), by omega, h2, h3, Lib.hid ?_, hE.trans E⟩
            have h9 := hpq.out
            obtain ⟨m, rfl⟩ : ∃ m, k = 2 * m + 1 := ⟨k / 2, by omega⟩
            rw [show (2 * m + 1) / 2 = m from by omega]
            rw [Nat.mul_add, Nat.mul_one, ← Nat.mul_assoc, Nat.mul_comm q 2] at h9
            rw [Nat.add_mul, ← Nat.two_mul, ← Nat.mul_assoc]
            omega
          case measure => simp [intOf]; omega
        · have hb : (bits .and .i64 (k : Int) 1 == 1) = true := by rw [bits_and1_i64 k (by omega)]; simp; omega
          have hkb : ¬ (1 : Int) < (k : Int) := by omega
          have E := Ext.refl wr
          go_wp2_with fail
          refine (Try.natMul ho ha s1 s2 (by omega)).mono ?_
          rintro e w2 ⟨v2, rfl, h2, hE2, -⟩
          rw [← Nat.pow_add] at h2
          replace ha := ha.ext hE2
          replace E := E.trans hE2
          go_wp2
          go_roundw
          case rel =>
            refine ⟨k / 2, p + q, q, congrArg (Value.int .i64) (by omega), by omega, h2, ha, Lib.hid ?_, hE.trans E⟩
            have h9 := hpq.out
            obtain rfl : k = 1 := by omega
            rw [show 1 / 2 = 0 from rfl, Nat.mul_zero]; omega
          case measure => simp [intOf]; omega
      · have hbig : 1 < k := by omega
        have hb : (bits .and .i64 (k : Int) 1 == 1) = false := by rw [bits_and1_i64 k (by omega)]; simp; omega
        have hkb : (1 : Int) < (k : Int) := by omega
        have E := Ext.refl wr
        go_wp2_with fail
        refine (Try.natMul ha ha s2 s2 (by omega)).mono ?_
        rintro e w3 ⟨v3, rfl, h3, hE3, -⟩
        rw [← Nat.pow_add] at h3
        replace ho := ho.ext hE3
        replace E := E.trans hE3
        go_wp2
        go_roundw
        case rel =>
          refine ⟨k / 2, p, q + q, congrArg (Value.int .i64) (by omega), by omega, ho, h3, Lib.hid ?_, hE.trans E⟩
          have h9 := hpq.out
          obtain ⟨m, rfl⟩ : ∃ m, k = 2 * m := ⟨k / 2, by omega⟩
          rw [show (2 * m) / 2 = m from by omega]
          rw [← Nat.mul_assoc, Nat.mul_comm q 2] at h9
          rw [Nat.add_mul, ← Nat.two_mul, ← Nat.mul_assoc]
          omega
        case measure => simp [intOf]; omega
    · obtain rfl : k = 0 := by omega
      have HP : Hid (p = K) := Lib.hid (by have := hpq.out; omega)
      clear hpq
      go_wp2
      go_ret
      exact ⟨_, rfl, by rw [← HP.out]; exact ho, hE⟩

end Go.Rt
