/-
  Contracts of the references' Bits, power, bit, Shl.
-/
import Derived.Test.YtbfojmhigfeahaaRefD
import Derived.Test.YtbfojmhigfeahaaMathB
namespace Go.Rt
open Go.RowKit Go.Proofs

set_option maxHeartbeats 1000000 in
theorem Try.refBits {v : Value} {N L : Nat} {w : World} (h : Nw w v N) (s : Sm L N) (hL : L ≤ 10000000) :
    Calls Try.prog 79 #[v] w fun e w' => e = .returned (.int .i64 ((bl N : Nat) : Int)) ∧ w = w' := by
  obtain ⟨xs, ⟨a, b, o, cap, rfl, hs, hl⟩, hn, rfl, l1⟩ := h.lens s
  have hmx := hs.max
  have hle := hs.le
  rcases Nat.eq_zero_or_pos xs.length with h0 | hp
  · have hx : xs = [] := List.eq_nil_of_length_eq_zero h0
    subst hx
    have H : Hid (bl (ev B64 []) = 0) := Lib.hid rfl
    clear hs h s
    go_enter Try.func79, Try.ntmps79
    go_wp2
    go_ret
    exact ⟨ret_i (by rw [H.out]; rfl), rfl⟩
  · obtain ⟨k, hk⟩ : ∃ k, xs.length = k + 1 := ⟨xs.length - 1, by omega⟩
    obtain rfl : a = some ⟨b, o, none⟩ := hs.addr hp
    have hc := hs.cell (i := xs.length - 1) (by omega)
    obtain ⟨hbl, hpos⟩ := bl_ev hl hn hk
    have HB := Lib.hid hbl
    have hsub : xs.length - 1 = k := by omega
    have h64 : lg xs k < B64 := lg_lt hl k
    rw [hsub] at hc
    have h0' : ((xs.length : Int) == 0) = false := beq_eq_false_iff_ne.2 (by omega)
    rw [hk] at h0'
    have hkc : ((k + 1 : Nat) : Int) = (k : Int) + 1 := by omega
    rw [hkc] at h0'
    obtain ⟨n, rfl⟩ : ∃ n, n = xs.length := ⟨_, rfl⟩
    rw [hk]
    have hkL : k ≤ L := by omega
    clear hbl hs h s hn hk hsub hp hkc
    go_enter Try.func79, Try.ntmps79
    go_wp2
    go_loop [3, 4] (fun m t => ∃ (mm tt : Nat), m = .int .i64 (mm : Int) ∧ t = .int .u64 (tt : Int) ∧ tt < B64 ∧ mm + bl tt = 64 * k + bl (lg xs k)) (fun _ t => (intOf t).toNat)
    case atStart => exact ⟨64 * k, lg xs k, by go_num, rfl, h64, rfl⟩
    case round =>
      obtain ⟨mm, tt, rfl, rfl, htt, hsum⟩ := hrel
      have HS := Lib.hid hsum
      have hb64 : bl (lg xs k) ≤ 64 := by rw [bl_le_iff, ← B64_two]; exact h64
      have hmm : mm ≤ 64 * k + 64 := by omega
      by_cases h0 : 0 < tt
      · have hh := bl_half h0
        have HH := Lib.hid hh
        have hwd : IntKind.u64.wrap ((tt : Int) / 2) = ((tt / 2 : Nat) : Int) := wrap_u64 (tt / 2) (Nat.lt_of_le_of_lt (Nat.div_le_self _ _) htt)
        have HW := Lib.hid hwd
        clear hsum hh hb64 hwd
        go_wp2
        go_round
        case rel => exact ⟨mm + 1, tt / 2, by go_num, congrArg (Value.int .u64) HW.out, Nat.lt_of_le_of_lt (Nat.div_le_self _ _) htt, by have := HS.out; have := HH.out; omega⟩
        case measure => rw [HW.out]; simp [intOf]; omega
      · have : tt = 0 := by omega
        subst this
        have HF : Hid (bl (ev B64 xs) = mm) := Lib.hid (by rw [HB.out]; exact hsum.symm)
        clear hsum hb64
        go_wp2
        go_ret
        exact ⟨ret_i (by rw [HF.out]), rfl⟩

/-- 2 to a power -/
theorem pow_row {n : Nat} : ev B64 ((List.replicate (n / 64 + 1) 0).set (n / 64) (2 ^ (n % 64))) = 2 ^ n ∧ Norm ((List.replicate (n / 64 + 1) 0).set (n / 64) (2 ^ (n % 64))) := by
  have hlt : n / 64 < (List.replicate (n / 64 + 1) 0).length := by simp
  have h := ev_set B64 (List.replicate (n / 64 + 1) 0) (n / 64) (2 ^ (n % 64)) hlt
  have hg := getD_set_eq (v := 2 ^ (n % 64)) hlt
  constructor
  · rw [ev_zeros, Nat.zero_add, pow64, ← Nat.pow_add, Nat.div_add_mod] at h
    have hz : (List.replicate (n / 64 + 1) 0).getD (n / 64) 0 = 0 := by simp
    rw [hz, Nat.mul_zero, Nat.add_zero] at h
    exact h
  · right
    rw [List.length_set, List.length_replicate, Nat.add_sub_cancel, hg]
    have := Nat.two_pow_pos (n % 64)
    omega
theorem pow_lim {n : Nat} : Lim B64 ((List.replicate (n / 64 + 1) 0).set (n / 64) (2 ^ (n % 64))) :=
  (Lim.zeros B64_pos _).set (by rw [B64_two]; exact Nat.pow_lt_pow_right (by omega) (by omega)) _

set_option maxHeartbeats 1000000 in
theorem Try.power (n : Nat) (w : World) (hn : n ≤ 1000000) :
    Calls Try.prog 84 #[.int .i64 (n : Int)] w fun e w' => ∃ v', e = .returned v' ∧ Nw w' v' (2 ^ n) ∧ Ext w w' ∧ Fr w v' := by
  have hpr := @pow_row n
  have hpl := @pow_lim n
  have HPR := Lib.hid hpr; have HPL := Lib.hid hpl
  clear hpr hpl
  go_enter Try.func84, Try.ntmps84
  go_wp2_with (at_make; go_loud (refine make_full Try.underlying23 Try.infoU rfl _ _ rfl w.heap.size (n / 64 + 1) _ _ (by rfl) (by rfl) (by omega) (by omega) (by omega) (by omega) ?_); intro w1 hown hgrow)
  have hE1 : Ext w w1 := (Ext.refl w).grown hgrow (fun k e => by cases e)
  have hcell := hown.cellAt (i := n / 64) (by simp)
  have hfr := hown.frozenAt (n / 64)
  go_loop [4, 5] (fun o i => ∃ k : Nat, i = .int .i64 (k : Int) ∧ k ≤ n % 64 ∧ o = .int .u64 ((2 ^ k : Nat) : Int)) (fun _ i => n % 64 - (intOf i).toNat)
  case atStart => exact ⟨0, rfl, by omega, rfl⟩
  case round =>
    obtain ⟨k, rfl, hk, rfl⟩ := hrel
    obtain ⟨p, hp⟩ : ∃ p : Nat, p = 2 ^ k := ⟨_, rfl⟩
    rw [← hp]
    have HP := Lib.hid hp
    by_cases hlt : k < n % 64
    · have hp64 : p * 2 < B64 := by
        rw [hp, ← Nat.pow_succ, B64_two]; exact Nat.pow_lt_pow_right (by omega) (by omega)
      have hw : IntKind.u64.wrap ((p : Int) * 2) = ((p * 2 : Nat) : Int) := wmul p 2 hp64
      have HW := Lib.hid hw
      clear hp hp64 hw hown hgrow
      go_wp2
      go_round
      case rel => exact ⟨k + 1, by go_num, by omega, by rw [HW.out, HP.out, Nat.pow_succ]⟩
      case measure => simp [intOf]; omega
    · obtain rfl : k = n % 64 := by omega
      have hst := Own.stored hown (n / 64) p rfl
      clear hp hown hgrow
      go_wp2
      go_ret
      rw [HP.out] at *
      exact ⟨_, rfl, ⟨_, Own.nt hst HPL.out, HPR.out.2, HPR.out.1⟩, hE1.setCell (Nat.le_refl _) _, Fr.at (Nat.le_refl _)⟩

/-- a binary figure -/
theorem Try.bit {v : Value} {xs : List Nat} {w : World} (h : Nt w v xs) (i : Nat) (hi : i / 64 < xs.length) (hib : i ≤ 1000000000) :
    Calls Try.prog 85 #[v, .int .i64 (i : Int)] w fun e w' => e = .returned (.int .u64 ((ev B64 xs / 2 ^ i % 2 : Nat) : Int)) ∧ w = w' := by
  obtain ⟨a, b, o, cap, rfl, hs, hl⟩ := h
  obtain rfl : a = some ⟨b, o, none⟩ := hs.addr (by omega)
  have hc := hs.cell hi
  have HB := Lib.hid (bit_div hl i)
  have hx := lg_lt hl (i / 64)
  have hmx := hs.max
  have hle := hs.le
  clear hs
  go_enter Try.func85, Try.ntmps85
  go_wp2
  go_loop [5, 6] (fun t j => ∃ k : Nat, j = .int .i64 (k : Int) ∧ k ≤ i % 64 ∧ t = .int .u64 ((lg xs (i / 64) / 2 ^ k : Nat) : Int)) (fun _ j => i % 64 - (intOf j).toNat)
  case atStart => exact ⟨0, rfl, by omega, by simp⟩
  case round =>
    obtain ⟨k, rfl, hk, rfl⟩ := hrel
    obtain ⟨p, hp⟩ : ∃ p : Nat, p = lg xs (i / 64) / 2 ^ k := ⟨_, rfl⟩
    rw [← hp]
    have HP := Lib.hid hp
    have hp64 : p < B64 := by rw [hp]; exact Nat.lt_of_le_of_lt (Nat.div_le_self _ _) hx
    by_cases hlt : k < i % 64
    · have hw : IntKind.u64.wrap ((p : Int) / 2) = ((p / 2 : Nat) : Int) := wrap_u64 (p / 2) (Nat.lt_of_le_of_lt (Nat.div_le_self _ _) hp64)
      have HW := Lib.hid hw
      clear hp hw
      go_wp2
      go_round
      case rel => exact ⟨k + 1, by go_num, by omega, by rw [HW.out, HP.out, Nat.div_div_eq_div_mul, Nat.pow_succ]⟩
      case measure => simp [intOf]; omega
    · obtain rfl : k = i % 64 := by omega
      clear hp
      go_wp2
      go_ret
      refine ⟨ret_i ?_, rfl⟩
      have h := HB.out
      have h2 := HP.out
      unfold lg at h2
      rw [← h2] at h
      have h3 : ((p % 2 : Nat) : Int) = ((ev B64 xs / 2 ^ i % 2 : Nat) : Int) := by rw [h]
      simpa using h3

/-- the error of a shift -/
def shE (n : Int) : Int := if n < 0 ∨ 20000 < n then 1 else 0
/-- a shift up, a shift down: nought where it is refused -/
def shlV (N : Nat) (n : Int) : Nat := if n < 0 ∨ 20000 < n then 0 else N * 2 ^ n.toNat
def shrV (N : Nat) (n : Int) : Nat := if n < 0 ∨ 20000 < n then 0 else N / 2 ^ n.toNat

theorem Try.refShl {v : Value} {N L : Nat} {w : World} (h : Nw w v N) (s : Sm L N) (hL : L ≤ 1000000) (n : Int) :
    Calls Try.prog 58 #[v, .int .i64 n] w fun e w' => ∃ v', e = .returned (.tuple #[v', .int .i64 (shE n)]) ∧ Nw w' v' (shlV N n) ∧ Ext w w' ∧ Fr w v' := by
  by_cases hr : n < 0 ∨ 20000 < n
  · have H1 : Hid (shE n = 1) := Lib.hid (if_pos hr)
    have H2 : Hid (shlV N n = 0) := Lib.hid (if_pos hr)
    rcases hr with hr | hr
    · go_enter Try.func58, Try.ntmps58
      go_wp2
      go_ret2
      exact ⟨_, by rw [H1.out]; rfl, by rw [H2.out]; exact Nw.nil _, Ext.refl _, Fr.nil _⟩
    · have hr0 : ¬ n < 0 := by omega
      go_enter Try.func58, Try.ntmps58
      go_wp2
      go_ret2
      exact ⟨_, by rw [H1.out]; rfl, by rw [H2.out]; exact Nw.nil _, Ext.refl _, Fr.nil _⟩
  · have H1 : Hid (shE n = 0) := Lib.hid (if_neg hr)
    have H2 : Hid (shlV N n = N * 2 ^ n.toNat) := Lib.hid (if_neg hr)
    have hr0 : ¬ n < 0 := by omega
    have hr1 : ¬ 20000 < n := by omega
    obtain ⟨k, rfl⟩ := Int.eq_ofNat_of_zero_le (show 0 ≤ n by omega)
    have hk : k ≤ 20000 := by omega
    clear hr
    go_enter Try.func58, Try.ntmps58
    go_wp2_with fail
    refine (Try.power k _ (by omega)).mono ?_
    rintro e w1 ⟨v1, rfl, hp, hE1, _⟩
    go_wp2_with fail
    refine (Try.refMul (h.ext hE1) hp s (Sm.pow2 k) (by omega)).mono ?_
    rintro e w2 ⟨v2, rfl, hq, hE2, hf⟩
    go_wp2
    go_ret2
    rw [H2.out, H1.out]
    exact ⟨_, rfl, hq, hE1.trans hE2, hf.back hE1⟩

end Go.Rt
