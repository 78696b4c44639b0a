/-
 Chapter 7: an interval's roots: their squares, and those of a step more or less.
-/
import Derived.Test.YthmncdhibcoiaaaGreatSqz
import Derived.Test.YthmncdhibcoiaaaGreatIvD
import Derived.Test.YthmncdhibcoiaaaGreatDyadM

namespace Go.Rt

open Go Go.RowKit Go.Proofs

theorem sq_le {n A d K : Nat} {x : Rat} (hx : x = (A : Rat) / ((d : Rat) * (P2 K * P2 K))) (hd : 0 < d) : (x < (((n : Nat) : Int) : Rat) / P2 K * ((((n : Nat) : Int) : Rat) / P2 K)) ↔ A < n * n * d := by
 have hp := P2_gt K
 have hd2 : (0 : Rat) < (d : Rat) := by exact_mod_cast hd
 have hpp : (0 : Rat) < P2 K * P2 K := Rat.mul_pos hp hp
 have hq : (0 : Rat) < (d : Rat) * (P2 K * P2 K) := Rat.mul_pos hd2 hpp
 have ne1 : P2 K ≠ 0 := fun e => by rw [e] at hp; exact absurd hp (by decide)
 have ne2 : (d : Rat) * (P2 K * P2 K) ≠ 0 := fun e => by rw [e] at hq; exact absurd hq (by decide)
 rw [Rat.intCast_natCast]
 obtain ⟨y, hy⟩ : ∃ y, y = (n : Rat) / P2 K := ⟨_, rfl⟩
 have ey : y * P2 K = (n : Rat) := by rw [hy]; exact Rat.div_mul_cancel ne1
 have ex : x * ((d : Rat) * (P2 K * P2 K)) = (A : Rat) := by rw [hx]; exact Rat.div_mul_cancel ne2
 rw [← hy]
 have e1 : y * y * ((d : Rat) * (P2 K * P2 K)) = (((n * n * d : Nat)) : Rat) := by
  rw [Rat.natCast_mul, Rat.natCast_mul, ← ey]
  grind
 rw [← Rat.mul_lt_mul_right hq, e1, ex]
 exact_mod_cast Iff.rfl

/-- the lower end's square, and that of a step more -/
theorem lo_ends {x : Rat} (h : 0 ≤ x) (K : Nat) : (((sqLo x K : Nat) : Int) : Rat) / P2 K * ((((sqLo x K : Nat) : Int) : Rat) / P2 K) ≤ x ∧ x < (((sqLo x K + 1 : Nat) : Int) : Rat) / P2 K * ((((sqLo x K + 1 : Nat) : Int) : Rat) / P2 K) := by
 have h1 := sq_le (n := sqLo x K) (num_sq h K) (Nat.pos_of_ne_zero x.den_nz)
 have h2 := sq_le (n := sqLo x K + 1) (num_sq h K) (Nat.pos_of_ne_zero x.den_nz)
 obtain ⟨A, hA⟩ : ∃ A, A = x.num.natAbs * 2 ^ (2 * K) := ⟨_, rfl⟩
 obtain ⟨d, hd⟩ : ∃ d, d = x.den := ⟨_, rfl⟩
 have hd0 : 0 < d := by rw [hd]; exact Nat.pos_of_ne_zero x.den_nz
 rw [← hA, ← hd] at h1 h2
 have hL : sqLo x K = rt (A / d) 2 := by unfold sqLo rootV; rw [← hA, ← hd, if_pos (by omega)]; rfl
 obtain ⟨n, hn⟩ : ∃ n, n = sqLo x K := ⟨_, rfl⟩
 rw [← hn] at h1 h2 hL ⊢
 have lo : n * n ≤ A / d := by
  have h1 := (rt_le_iff (a := A / d) (k := 2) (s := n - 1) (by decide))
  rcases Nat.eq_zero_or_pos n with h0 | h0
  ·rw [h0]; exact Nat.zero_le _
  ·rw [← hL] at h1
   have h2 : ¬ A / d < (n - 1 + 1) ^ 2 := fun h3 => by have := h1.2 h3; omega
   rw [show n - 1 + 1 = n by omega, Nat.pow_two] at h2
   omega
 have hi : A / d < (n + 1) * (n + 1) := by
  have h1 := (rt_le_iff (a := A / d) (k := 2) (s := n) (by decide)).1 (by rw [← hL]; exact Nat.le_refl _)
  rw [Nat.pow_two] at h1
  exact h1
 refine ⟨Rat.not_lt.1 fun h3 => ?_, h2.2 ?_⟩
 ·have h4 := h1.1 h3
  have h5 : n * n * d ≤ A / d * d := Nat.mul_le_mul_right _ lo
  have := Nat.div_mul_le_self A d
  omega
 ·have h5 : (A / d + 1) * d ≤ (n + 1) * (n + 1) * d := Nat.mul_le_mul_right _ hi
  have h6 := Nat.div_add_mod A d
  have h7 := Nat.mod_lt A hd0
  rw [Nat.add_mul, Nat.mul_comm (A / d)] at h5
  omega

/-- the upper end's, and that of a step less -/
theorem hi_ends {x : Rat} (h : 0 ≤ x) (K : Nat) : x ≤ (((sqHi x K : Nat) : Int) : Rat) / P2 K * ((((sqHi x K : Nat) : Int) : Rat) / P2 K) ∧ (0 < sqHi x K → (((sqHi x K - 1 : Nat) : Int) : Rat) / P2 K * ((((sqHi x K - 1 : Nat) : Int) : Rat) / P2 K) < x) := by
 have h1 := sq_lt (n := sqHi x K) (num_sq h K) (Nat.pos_of_ne_zero x.den_nz)
 have h2 := sq_lt (n := sqHi x K - 1) (num_sq h K) (Nat.pos_of_ne_zero x.den_nz)
 obtain ⟨A, hA⟩ : ∃ A, A = x.num.natAbs * 2 ^ (2 * K) := ⟨_, rfl⟩
 obtain ⟨d, hd⟩ : ∃ d, d = x.den := ⟨_, rfl⟩
 have hd0 : 0 < d := by rw [hd]; exact Nat.pos_of_ne_zero x.den_nz
 rw [← hA, ← hd] at h1 h2
 obtain ⟨c, hc⟩ : ∃ c, c = A / d + (if A % d = 0 then 0 else 1) := ⟨_, rfl⟩
 have hH : sqHi x K = rtUp c 2 := by unfold sqHi; rw [← hA, ← hd, ← hc, rootU_in (by omega)]; rfl
 obtain ⟨m, hm⟩ : ∃ m, m = sqHi x K := ⟨_, rfl⟩
 rw [← hm] at h1 h2 hH ⊢
 have up : ∀ s, m ≤ s ↔ c ≤ s * s := fun s => by rw [hH, rtUp_le_iff (by decide), Nat.pow_two]
 have h6 := Nat.div_add_mod A d
 have h7 := Nat.mod_lt A hd0
 have hcd : A ≤ c * d := by
  rw [hc, Nat.add_mul, Nat.mul_comm (A / d)]
  split <;> omega
 have hcl : ∀ s, s < c → s * d < A := fun s hs => by
  have h8 : (s + 1) * d ≤ c * d := Nat.mul_le_mul_right _ hs
  rw [hc, Nat.add_mul, Nat.add_mul, Nat.mul_comm (A / d)] at h8
  split at h8
  ·omega
  ·rename_i h9
   rw [Nat.one_mul] at h8
   omega
 refine ⟨Rat.not_lt.1 fun h3 => ?_, fun h0 => h2.2 ?_⟩
 ·have h4 := h1.1 h3
  have h5 : c * d ≤ m * m * d := Nat.mul_le_mul_right _ ((up m).1 (Nat.le_refl _))
  omega
 ·exact hcl _ (Nat.lt_of_not_le fun h8 => by have := (up (m - 1)).2 h8; omega)

/-- in order -/
theorem ends_le {p : Rat × Rat} (h1 : 0 ≤ p.1) (h2 : p.1 ≤ p.2) (K : Nat) : sqLo p.1 K ≤ sqHi p.2 K := by
 have hp := P2_gt K
 have k1 := (lo_ends h1 K).1
 have k2 := (hi_ends (Rat.le_trans h1 h2) K).1
 refine Nat.le_of_not_lt fun h => ?_
 have h3 := sq_le (n := sqLo p.1 K) (num_sq (Rat.le_trans h1 h2) K) (Nat.pos_of_ne_zero p.2.den_nz)
 have h4 := sq_le (n := sqHi p.2 K) (num_sq (Rat.le_trans h1 h2) K) (Nat.pos_of_ne_zero p.2.den_nz)
 have h5 := sq_lt (n := sqHi p.2 K) (num_sq (Rat.le_trans h1 h2) K) (Nat.pos_of_ne_zero p.2.den_nz)
 have h6 : ¬ p.2 < (((sqLo p.1 K : Nat) : Int) : Rat) / P2 K * ((((sqLo p.1 K : Nat) : Int) : Rat) / P2 K) := Rat.not_lt.2 (Rat.le_trans k1 h2)
 have h7 := Nat.le_of_not_lt (fun q => h6 (h3.2 q))
 have h8 : ¬ (((sqHi p.2 K : Nat) : Int) : Rat) / P2 K * ((((sqHi p.2 K : Nat) : Int) : Rat) / P2 K) < p.2 := Rat.not_lt.2 k2
 have h9 := Nat.le_of_not_lt (fun q => h8 (h5.2 q))
 have h10 : (sqHi p.2 K + 1) * (sqHi p.2 K + 1) * p.2.den ≤ sqLo p.1 K * sqLo p.1 K * p.2.den := Nat.mul_le_mul_right _ (Nat.mul_self_le_mul_self h)
 have h11 : sqHi p.2 K * sqHi p.2 K * p.2.den < (sqHi p.2 K + 1) * (sqHi p.2 K + 1) * p.2.den := Nat.mul_lt_mul_of_pos_right (Nat.mul_self_lt_mul_self (Nat.lt_succ_self _)) (Nat.pos_of_ne_zero p.2.den_nz)
 omega

/-- a step's sums -/
theorem step_add (z K : Nat) : (((z : Nat) : Int) : Rat) / P2 K + (((1 : Nat) : Int) : Rat) / P2 K = (((z + 1 : Nat) : Int) : Rat) / P2 K := by
 have hp := P2_gt K
 have ne : P2 K ≠ 0 := fun e => by rw [e] at hp; exact absurd hp (by decide)
 rw [Int.natCast_add, Rat.intCast_add, Rat.div_def, Rat.div_def, Rat.div_def, Rat.add_mul]

theorem step_sub (z K : Nat) (hz : 0 < z) : (((z : Nat) : Int) : Rat) / P2 K - (((1 : Nat) : Int) : Rat) / P2 K = (((z - 1 : Nat) : Int) : Rat) / P2 K := by
 have h := step_add (z - 1) K
 rw [show z - 1 + 1 = z by omega] at h
 rw [← h]
 grind

theorem out_on (p : Rat × Rat) (K : Nat) : outS (sqS p K) K = sqS p K := by
 unfold outS sqS
 simp only [back_scale, floor_whole, ceil_whole]

theorem nn_div (z K : Nat) : 0 ≤ (((z : Nat) : Int) : Rat) / P2 K := by
 have hp := P2_gt K
 rw [Rat.div_def]
 exact Rat.mul_nonneg (by exact_mod_cast Nat.zero_le z) (Rat.le_of_lt (Rat.inv_pos.2 hp))

theorem div_le {a b K : Nat} (h : a ≤ b) : (((a : Nat) : Int) : Rat) / P2 K ≤ (((b : Nat) : Int) : Rat) / P2 K := by
 have hp := P2_gt K
 rw [Rat.div_def, Rat.div_def]
 exact Rat.mul_le_mul_of_nonneg_right (by exact_mod_cast h) (Rat.le_of_lt (Rat.inv_pos.2 hp))

theorem step_neg (K : Nat) : (((0 : Nat) : Int) : Rat) / P2 K - (((1 : Nat) : Int) : Rat) / P2 K < 0 := by
 have hp := P2_gt K
 have h1 : (0 : Rat) < (((1 : Nat) : Int) : Rat) / P2 K := by
  rw [Rat.div_def]
  exact Rat.mul_pos (by decide +kernel) (Rat.inv_pos.2 hp)
 have h2 : (((0 : Nat) : Int) : Rat) / P2 K = 0 := by rw [Rat.div_def, show (((0 : Nat) : Int) : Rat) = 0 from rfl, Rat.zero_mul]
 rw [h2]
 grind

theorem sqHi_sm {L : Nat} {x : Rat} (s : SmR L x) (hL : L ≤ 10) {K : Nat} (hK : K ≤ 1000) : Sm 46 (sqHi x K) := by
 unfold sqHi
 refine rootU_sm ?_
 split
 ·rw [Nat.add_zero]
  exact ((s.1.mul (Sm.pow2 (2 * K))).mono (by omega)).le (Nat.div_le_self _ _)
 ·exact sm_succ ((s.1.mul (Sm.pow2 (2 * K))).le (Nat.div_le_self _ _)) (by omega)

set_option maxRecDepth 100000 in
set_option maxHeartbeats 8000000 in
theorem Tryz.lawIvalRoot {b1 : Bool} {a1 : Option Addr} {n1 c1 : Nat} {d1 : Option Addr} {m1 o1 : Nat} {bb1 : Bool} {aa1 : Option Addr} {nn1 cc1 : Nat} {dd1 : Option Addr} {mm1 oo1 : Nat} {xs1 ys1 us1 zs1 : List Nat} {w : World} (k : Int) (x11 : Nt w (.slice a1 n1 c1) xs1) (x12 : Nt w (.slice d1 m1 o1) ys1) (x13 : Nt w (.slice aa1 nn1 cc1) us1) (x14 : Nt w (.slice dd1 mm1 oo1) zs1) :
  Calls Tryz.prog 4 #[.agg #[.bool b1, .slice a1 n1 c1, .slice d1 m1 o1, .bool bb1, .slice aa1 nn1 cc1, .slice dd1 mm1 oo1], .int .i64 k] w fun e w' => e = .returned (.bool true) ∧ Ext w w' := by
 obtain ⟨W0, hW0⟩ : ∃ W0, W0 = (w.alloc (.cells #[.bool b1, .slice a1 n1 c1, .slice d1 m1 o1, .bool bb1, .slice aa1 nn1 cc1, .slice dd1 mm1 oo1] 29)) := ⟨_, rfl⟩
 have E0 : Ext w W0 := by rw [hW0]; exact (Ext.alloc1 w (.cells #[.bool b1, .slice a1 n1 c1, .slice d1 m1 o1, .bool bb1, .slice aa1 nn1 cc1, .slice dd1 mm1 oo1] 29))
 replace x11 : Nt W0 (.slice a1 n1 c1) xs1 := x11.ext E0
 replace x12 : Nt W0 (.slice d1 m1 o1) ys1 := x12.ext E0
 replace x13 : Nt W0 (.slice aa1 nn1 cc1) us1 := x13.ext E0
 replace x14 : Nt W0 (.slice dd1 mm1 oo1) zs1 := x14.ext E0
 have p2 : Bx6 W0 w.heap.size 29 (.bool b1) (.slice a1 n1 c1) (.slice d1 m1 o1) (.bool bb1) (.slice aa1 nn1 cc1) (.slice dd1 mm1 oo1) := by rw [hW0]; exact (Bx6.new w 29 (.bool b1) (.slice a1 n1 c1) (.slice d1 m1 o1) (.bool bb1) (.slice aa1 nn1 cc1) (.slice dd1 mm1 oo1))
 go_enter Tryz.func4, Tryz.ntmps4
 obtain ⟨kp2_0, kp2_1, kp2_2, kp2_3, kp2_4, kp2_5⟩ := p2.c6
 go_wp2_with fail
 rw [← hW0]
 clear hW0; clear kp2_0 kp2_1 kp2_2 kp2_3 kp2_4 kp2_5
 refine (Tryz.rsFew x11 x12 x13 x14 3 (by omega)).mono ?_
 rintro e WfB1 ⟨B1, rfl, hB1, hE⟩
 replace hB1 : B1 = true → ∃ p, Sw WfB1 (.agg #[.bool b1, .slice a1 n1 c1, .slice d1 m1 o1, .bool bb1, .slice aa1 nn1 cc1, .slice dd1 mm1 oo1]) p ∧ SmS 3 p ∧ p.1 ≤ p.2 := fun e => let ⟨p, k1, k2⟩ := hB1 e; ⟨p, k1.ext hE, k2⟩
 replace E0 := (Ext.trans E0 hE)
 replace x11 := (x11.ext hE)
 replace x12 := (x12.ext hE)
 replace x13 := (x13.ext hE)
 replace x14 := (x14.ext hE)
 replace p2 := (p2.ext hE); clear hE
 cases B1
 ·clear hB1
  obtain ⟨kp2_0, kp2_1, kp2_2, kp2_3, kp2_4, kp2_5⟩ := p2.c6
  go_wp2_with fail
  clear kp2_0 kp2_1 kp2_2 kp2_3 kp2_4 kp2_5
  refine (Tryz.alive07 _).mono ?_
  rintro e Wv ⟨rfl, hE⟩
  replace E0 := (Ext.trans E0 hE)
  replace x11 := (x11.ext hE)
  replace x12 := (x12.ext hE)
  replace x13 := (x13.ext hE)
  replace x14 := (x14.ext hE)
  replace p2 := (p2.ext hE); clear hE
  obtain ⟨kp2_0, kp2_1, kp2_2, kp2_3, kp2_4, kp2_5⟩ := p2.c6
  clear x11 x12 x13 x14; go_wp2; go_ret
  exact ⟨rfl, E0⟩
 ·obtain ⟨p, hsp, sp, hle⟩ := hB1 rfl
  have SP := Lib.hid sp
  have HLE := Lib.hid hle
  clear sp hle hB1; clear x11 x12 x13 x14
  by_cases hk0 : k < 0
  ·obtain ⟨kp2_0, kp2_1, kp2_2, kp2_3, kp2_4, kp2_5⟩ := p2.c6
   go_wp2_with fail
   clear kp2_0 kp2_1 kp2_2 kp2_3 kp2_4 kp2_5
   refine (Tryz.alive07 _).mono ?_
   rintro e Wv ⟨rfl, hE⟩
   replace E0 := (Ext.trans E0 hE); replace p2 := (p2.ext hE); replace hsp := (hsp.ext hE); clear hE
   obtain ⟨kp2_0, kp2_1, kp2_2, kp2_3, kp2_4, kp2_5⟩ := p2.c6
   clear hsp; go_wp2; go_ret
   exact ⟨rfl, E0⟩
  ·by_cases hk3 : k > 300
   ·obtain ⟨kp2_0, kp2_1, kp2_2, kp2_3, kp2_4, kp2_5⟩ := p2.c6
    go_wp2_with fail
    clear kp2_0 kp2_1 kp2_2 kp2_3 kp2_4 kp2_5
    refine (Tryz.alive07 _).mono ?_
    rintro e Wv ⟨rfl, hE⟩
    replace E0 := (Ext.trans E0 hE); replace p2 := (p2.ext hE); replace hsp := (hsp.ext hE); clear hE
    obtain ⟨kp2_0, kp2_1, kp2_2, kp2_3, kp2_4, kp2_5⟩ := p2.c6
    clear hsp; go_wp2; go_ret
    exact ⟨rfl, E0⟩
   ·obtain ⟨K, rfl⟩ := Int.eq_ofNat_of_zero_le (show 0 ≤ k by omega)
    have HK : Hid (K ≤ 1000 ∧ K ≤ 300) := Lib.hid (by omega)
    by_cases hp0 : p.1 < 0
    ·have HP0 := Lib.hid hp0
     have hb := hsp.lo_neg hp0 rfl
     subst hb
     clear hp0
     obtain ⟨kp2_0, kp2_1, kp2_2, kp2_3, kp2_4, kp2_5⟩ := p2.c6
     go_upto_region 3 with (fail)
     clear kp2_0 kp2_1 kp2_2 kp2_3 kp2_4 kp2_5; have ltp2 := p2.lt; have szw1 := Ext.size E0
     refine region_gs [.one fun v _ => v = .agg #[.bool true, .slice a1 n1 c1, .slice d1 m1 o1, .bool bb1, .slice aa1 nn1 cc1, .slice dd1 mm1 oo1],
       .one fun v _ => v = .int .i64 (K : Int),
       .one fun v _ => v = .tuple #[.agg #[.bool false, .slice none 0 0, .slice none 0 0, .bool false, .slice none 0 0, .slice none 0 0], .int .i64 1],
       .one fun v _ => v = .tuple #[.agg #[.bool false, .slice none 0 0, .slice none 0 0, .bool false, .slice none 0 0, .slice none 0 0], .int .i64 1],
       .one fun v _ => v = .agg #[.bool false, .slice none 0 0, .slice none 0 0, .bool false, .slice none 0 0, .slice none 0 0],
       .one fun v _ => v = .int .i64 1,
       .one fun v W => ∃ g, v = .pointer (some ⟨g, 0, none⟩) ∧ WfB1.heap.size ≤ g ∧ Form W g 29 6,
       .two 6 (fun p _ W => New6 WfB1.heap.size 29 (.bool false) (.slice none 0 0) (.slice none 0 0) (.bool false) (.slice none 0 0) (.slice none 0 0) p W),
       .one fun v _ => v = .int .i64 1]
      (fun W => Ext w W ∧ Bx6 W w.heap.size 29 (.bool true) (.slice a1 n1 c1) (.slice d1 m1 o1) (.bool bb1) (.slice aa1 nn1 cc1) (.slice dd1 mm1 oo1) ∧ Sw W (.agg #[.bool true, .slice a1 n1 c1, .slice d1 m1 o1, .bool bb1, .slice aa1 nn1 cc1, .slice dd1 mm1 oo1]) p ∧ WfB1.heap.size ≤ W.heap.size) ⟨Good.is _, Good.is _, Good.is _, Good.is _, Good.is _, Good.is _, Good.box _ _ _, cert_new6, Good.is _, trivial⟩
      ⟨E0, p2, hsp, Nat.le_refl _⟩ (A := ?A1) ?hA1 ?howe1 ?hfin1
     case hA1 =>
      intro vs
      simp only [putAll, Act.put, sA, sZ, sS, Nat.zero_add, Nat.reduceAdd]
      exact rfl
     case howe1 =>
      clear E0 p2 hsp
      intro hf
      refine ⟨oE 0 [] hf rfl ?_, oE 1 [] hf rfl ?_, oE 2 [0, 1] hf rfl ?_, oE 3 [2] hf rfl ?_, oE 4 [3] hf rfl ?_, oE 5 [3] hf rfl ?_, oE 6 [] hf rfl ?_, oW 7 [6, 4] hf rfl ?_, oE 8 [5] hf rfl ?_, trivial⟩
      all_goals intro vs W hS hp hx KO hKO
      all_goals simp only [Act.put, sA, sZ, sS] at hKO
      ·have fc0 := hS.2.1.cell0; have fc1 := hS.2.1.cell1; have fc2 := hS.2.1.cell2; have fc3 := hS.2.1.cell3; have fc4 := hS.2.1.cell4; have fc5 := hS.2.1.cell5; go_simp; exact hKO _ W (.refl W) rfl
      ·go_simp; exact hKO _ W (.refl W) rfl
      ·have e0 := isOf hp.1; have e1 := isOf hp.2.1; simp only [e0, e1] at hKO; go_simp
       refine (Tryz.ivSqrtNeg (hS.2.2.1) K HK.out.1 HP0.out).mono ?_
       rintro e W1 ⟨rfl, hE⟩
       exact hKO _ W1 hE rfl
      ·have e2 := isOf hp.1; simp only [e2] at hKO; go_simp; exact hKO _ W (.refl W) rfl
      ·have e3 := isOf hp.1; simp only [e3] at hKO; go_simp; exact hKO _ W (.refl W) rfl
      ·have e3 := isOf hp.1; simp only [e3] at hKO; go_simp; exact hKO _ W (.refl W) rfl
      ·have hn := Bx6.new W 29 (.bool false) (.slice none 0 0) (.slice none 0 0) (.bool false) (.slice none 0 0) (.slice none 0 0)
       have hE := Ext.alloc1 W (.cells #[.bool false, .slice none 0 0, .slice none 0 0, .bool false, .slice none 0 0, .slice none 0 0] 29)
       have hsz := hS.2.2.2
       go_simp
       exact hKO _ _ hE ⟨_, rfl, hsz, hn.form⟩
      ·have q6 := hp.1; have e4 := isOf hp.2.1; simp only [e4] at hKO
       obtain ⟨g, ev, hg, hf⟩ := q6
       replace ev : vs 6 = _ := ev
       obtain ⟨x0_0, x0_1, x0_2, x0_3, x0_4, x0_5, hx, hno⟩ := hf.bx6
       have r0 := hx.froz0
       have t0 := hx.cell0
       have r1 := hx.froz1
       have t1 := hx.cell1
       have r2 := hx.froz2
       have t2 := hx.cell2
       have r3 := hx.froz3
       have t3 := hx.cell3
       have r4 := hx.froz4
       have t4 := hx.cell4
       have r5 := hx.froz5
       have t5 := hx.cell5
       have hw := Wr.set6 hx hno false none 0 0 none 0 0 false none 0 0 none 0 0
       have hq := hx.set (.bool false) (.slice none 0 0) (.slice none 0 0) (.bool false) (.slice none 0 0) (.slice none 0 0)
       simp only [ev] at hKO; go_simp
       exact hKO _ _ hw ⟨(Ext.wr hS.1 hw (by omega)), (hS.2.1.wr hw (by omega)), (hS.2.2.1.wr hw), (Nat.le_trans hS.2.2.2 hw.apart.size)⟩ ⟨g, ev, hg, hq⟩
      ·have e5 := isOf hp.1; simp only [e5] at hKO; go_simp; exact hKO _ W (.refl W) rfl
     intro vs W1 hS hp
     clear szw1 E0 p2 hsp
     obtain ⟨E0, p2, hsp, sz1⟩ := hS
     obtain ⟨h1_0, h1_1, h1_2, h1_3, h1_4, h1_5, h1_6, h1_7, h1_8, -⟩ := hp
     obtain ⟨g1_7, ev1_7, hg1_7, p1_7⟩ := h1_7
     replace ev1_7 : vs 6 = _ := ev1_7
     replace h1_0 : vs 0 = .agg #[.bool true, .slice a1 n1 c1, .slice d1 m1 o1, .bool bb1, .slice aa1 nn1 cc1, .slice dd1 mm1 oo1] := h1_0
     replace h1_1 : vs 1 = .int .i64 (K : Int) := h1_1
     replace h1_2 : vs 2 = .tuple #[.agg #[.bool false, .slice none 0 0, .slice none 0 0, .bool false, .slice none 0 0, .slice none 0 0], .int .i64 1] := h1_2
     replace h1_3 : vs 3 = .tuple #[.agg #[.bool false, .slice none 0 0, .slice none 0 0, .bool false, .slice none 0 0, .slice none 0 0], .int .i64 1] := h1_3
     replace h1_4 : vs 4 = .agg #[.bool false, .slice none 0 0, .slice none 0 0, .bool false, .slice none 0 0, .slice none 0 0] := h1_4
     replace h1_5 : vs 5 = .int .i64 1 := h1_5
     replace h1_8 : vs 8 = .int .i64 1 := h1_8
     simp only [ev1_7, h1_0, h1_1, h1_2, h1_3, h1_4, h1_5, h1_8]
     clear ev1_7 h1_0 h1_1 h1_2 h1_3 h1_4 h1_5 h1_8 h1_6
     obtain ⟨kp2_0, kp2_1, kp2_2, kp2_3, kp2_4, kp2_5⟩ := p2.c6
     obtain ⟨kp1_7_0, kp1_7_1, kp1_7_2, kp1_7_3, kp1_7_4, kp1_7_5⟩ := p1_7.c6
     go_wp2_with fail
     clear kp2_0 kp2_1 kp2_2 kp2_3 kp2_4 kp2_5 kp1_7_0 kp1_7_1 kp1_7_2 kp1_7_3 kp1_7_4 kp1_7_5
     refine (Tryz.alive07 _).mono ?_
     rintro e Wv ⟨rfl, hE⟩
     replace E0 := (Ext.trans E0 hE); replace p2 := (p2.ext hE); replace hsp := (hsp.ext hE); replace p1_7 := (p1_7.ext hE); clear hE
     obtain ⟨kp2_0, kp2_1, kp2_2, kp2_3, kp2_4, kp2_5⟩ := p2.c6
     obtain ⟨kp1_7_0, kp1_7_1, kp1_7_2, kp1_7_3, kp1_7_4, kp1_7_5⟩ := p1_7.c6
     clear hsp; go_wp2; go_ret
     exact ⟨rfl, E0⟩
    ·have HP0 : Hid (0 ≤ p.1 ∧ 0 ≤ p.2) := Lib.hid ⟨Rat.not_lt.1 hp0, Rat.le_trans (Rat.not_lt.1 hp0) HLE.out⟩
     have hb := hsp.sign.1 rfl (Rat.not_lt.1 hp0)
     subst hb
     clear hp0
     obtain ⟨n, hn⟩ : ∃ n, n = sqLo p.1 K := ⟨_, rfl⟩
     obtain ⟨m, hm⟩ : ∃ m, m = sqHi p.2 K := ⟨_, rfl⟩
     have HNS : Hid (sqS p K = ((((n : Nat) : Int) : Rat) / P2 K, (((m : Nat) : Int) : Rat) / P2 K)) := Lib.hid (by rw [hn, hm]; rfl)
     have HLO := Lib.hid (lo_ends HP0.out.1 K)
     have HHI := Lib.hid (hi_ends HP0.out.2 K)
     have HNM : Hid (n ≤ m) := Lib.hid (by rw [hn, hm]; exact ends_le HP0.out.1 HLE.out K)
     have SNM : Hid (Sm 46 ((n : Int)).natAbs ∧ Sm 46 ((m : Int)).natAbs) := Lib.hid ⟨by rw [hn]; exact (sqLo_sm SP.out.lo (by omega) HK.out.1).mono (by omega), by rw [hm]; exact sqHi_sm SP.out.hi (by omega) HK.out.1⟩
     have HON := Lib.hid (out_on p K)
     rw [← hn] at HLO
     rw [← hm] at HHI
     rw [HNS.out] at HON
     clear hn hm
     obtain ⟨x, hx⟩ : ∃ x, x = (((n : Nat) : Int) : Rat) / P2 K := ⟨_, rfl⟩
     obtain ⟨y, hy⟩ : ∃ y, y = (((m : Nat) : Int) : Rat) / P2 K := ⟨_, rfl⟩
     obtain ⟨s, hs⟩ : ∃ s, s = (((1 : Nat) : Int) : Rat) / P2 K := ⟨_, rfl⟩
     have SR : Hid (SmR 52 x ∧ SmR 52 y ∧ SmR 52 s) := Lib.hid ⟨by rw [hx, ← back_eq]; exact (SmR.back SNM.out.1 K).mono (by have := HK.out.2; omega), by rw [hy, ← back_eq]; exact (SmR.back SNM.out.2 K).mono (by have := HK.out.2; omega), by rw [hs, ← back_eq]; exact (SmR.back (L := 1) (Sm.one (by rw [B64_eq]; omega)) K).mono (by have := HK.out.2; omega)⟩
     have HX0 : Hid (0 ≤ x ∧ x ≤ y) := Lib.hid ⟨by rw [hx]; exact nn_div n K, by rw [hx, hy]; exact div_le HNM.out⟩
     have HXX : Hid (x * x ≤ p.1 ∧ p.1 < (x + s) * (x + s)) := Lib.hid ⟨by rw [hx]; exact HLO.out.1, by rw [hx, hs, step_add]; exact HLO.out.2⟩
     have HYY : Hid (p.2 ≤ y * y ∧ (0 < m → (y - s) * (y - s) < p.2)) := Lib.hid ⟨by rw [hy]; exact HHI.out.1, fun h0 => by rw [hy, hs, step_sub m K h0]; exact HHI.out.2 h0⟩
     have HYN : Hid (m = 0 → y - s < 0) := Lib.hid (fun h0 => by rw [hy, hs, h0]; exact step_neg K)
     rw [← hx, ← hy] at HNS HON
     have HS1 : Hid ((((1 : Nat) : Int) : Rat) / P2 K = s) := Lib.hid hs.symm
     clear hx hy hs HLO HHI
     obtain ⟨kp2_0, kp2_1, kp2_2, kp2_3, kp2_4, kp2_5⟩ := p2.c6
     go_upto_region 3 with (fail)
     clear kp2_0 kp2_1 kp2_2 kp2_3 kp2_4 kp2_5; have ltp2 := p2.lt; have szw2 := Ext.size E0
     refine region_gs [.one fun v _ => v = .agg #[.bool false, .slice a1 n1 c1, .slice d1 m1 o1, .bool bb1, .slice aa1 nn1 cc1, .slice dd1 mm1 oo1],
       .one fun v _ => v = .int .i64 (K : Int),
       .one fun v W => ∃ v', v = .tuple #[v', .int .i64 0] ∧ (fun v W => Sw W v ((x, y))) v' W,
       .one fun v W => ∃ v', v = .tuple #[v', .int .i64 0] ∧ (fun v W => Sw W v ((x, y))) v' W,
       .one fun v W => Sw W v ((x, y)),
       .one fun v _ => v = .int .i64 0,
       .one fun v W => ∃ g, v = .pointer (some ⟨g, 0, none⟩) ∧ WfB1.heap.size ≤ g ∧ Form W g 29 6,
       .three 6 4 (fun p r _ W => Put6 WfB1.heap.size 29 p r W),
       .one fun v _ => v = .int .i64 0]
      (fun W => Ext w W ∧ Bx6 W w.heap.size 29 (.bool false) (.slice a1 n1 c1) (.slice d1 m1 o1) (.bool bb1) (.slice aa1 nn1 cc1) (.slice dd1 mm1 oo1) ∧ Sw W (.agg #[.bool false, .slice a1 n1 c1, .slice d1 m1 o1, .bool bb1, .slice aa1 nn1 cc1, .slice dd1 mm1 oo1]) p ∧ WfB1.heap.size ≤ W.heap.size) ⟨Good.is _, Good.is _, (Good.span _).tup _, (Good.span _).tup _, Good.span _, Good.is _, Good.box _ _ _, cert_put6, Good.is _, trivial⟩
      ⟨E0, p2, hsp, Nat.le_refl _⟩ (A := ?A2) ?hA2 ?howe2 ?hfin2
     case hA2 =>
      intro vs
      simp only [putAll, Act.put, sA, sZ, sS, Nat.zero_add, Nat.reduceAdd]
      exact rfl
     case howe2 =>
      clear E0 p2 hsp
      intro hf
      refine ⟨oE 0 [] hf rfl ?_, oE 1 [] hf rfl ?_, oE 2 [0, 1] hf rfl ?_, oE 3 [2] hf rfl ?_, oE 4 [3] hf rfl ?_, oE 5 [3] hf rfl ?_, oE 6 [] hf rfl ?_, oW 7 [6, 4] hf rfl ?_, oE 8 [5] hf rfl ?_, trivial⟩
      all_goals intro vs W hS hp hx KO hKO
      all_goals simp only [Act.put, sA, sZ, sS] at hKO
      ·have fc0 := hS.2.1.cell0; have fc1 := hS.2.1.cell1; have fc2 := hS.2.1.cell2; have fc3 := hS.2.1.cell3; have fc4 := hS.2.1.cell4; have fc5 := hS.2.1.cell5; go_simp; exact hKO _ W (.refl W) rfl
      ·go_simp; exact hKO _ W (.refl W) rfl
      ·have e0 := isOf hp.1; have e1 := isOf hp.2.1; simp only [e0, e1] at hKO; go_simp
       refine (Tryz.ivSqrt (hS.2.2.1) SP.out (by omega) HP0.out.1 K HK.out.1).mono ?_
       rintro e W1 ⟨v, rfl, hv, hE⟩
       rw [HNS.out] at hv
       exact hKO _ W1 hE ⟨_, rfl, hv⟩
      ·have q2 := hp.1
       obtain ⟨u, ev, hu⟩ := q2
       replace ev : vs 2 = _ := ev; simp only [ev] at hKO; go_simp; exact hKO _ W (Ext.refl W) ⟨u, rfl, hu⟩
      ·have q3 := hp.1
       obtain ⟨u, ev, hu⟩ := q3
       replace ev : vs 3 = _ := ev; simp only [ev] at hKO; go_simp; exact hKO _ W (Ext.refl W) hu
      ·have q3 := hp.1
       obtain ⟨u, ev, hu⟩ := q3
       replace ev : vs 3 = _ := ev; simp only [ev] at hKO; go_simp; exact hKO _ W (.refl W) rfl
      ·have hn := Bx6.new W 29 (.bool false) (.slice none 0 0) (.slice none 0 0) (.bool false) (.slice none 0 0) (.slice none 0 0)
       have hE := Ext.alloc1 W (.cells #[.bool false, .slice none 0 0, .slice none 0 0, .bool false, .slice none 0 0, .slice none 0 0] 29)
       have hsz := hS.2.2.2
       go_simp
       exact hKO _ _ hE ⟨_, rfl, hsz, hn.form⟩
      ·have q6 := hp.1; have q4 := hp.2.1
       obtain ⟨g, ev, hg, hf⟩ := q6
       replace ev : vs 6 = _ := ev
       obtain ⟨x0_0, x0_1, x0_2, x0_3, x0_4, x0_5, hx, hno⟩ := hf.bx6
       have qr := q4
       obtain ⟨b3, a3, n3, c3, d3, m3, o3, bb3, aa3, nn3, cc3, dd3, mm3, oo3, er, -, -⟩ := qr
       replace er : vs 4 = _ := er
       have r0 := hx.froz0
       have t0 := hx.cell0
       have r1 := hx.froz1
       have t1 := hx.cell1
       have r2 := hx.froz2
       have t2 := hx.cell2
       have r3 := hx.froz3
       have t3 := hx.cell3
       have r4 := hx.froz4
       have t4 := hx.cell4
       have r5 := hx.froz5
       have t5 := hx.cell5
       have hw := Wr.set6 hx hno b3 a3 n3 c3 d3 m3 o3 bb3 aa3 nn3 cc3 dd3 mm3 oo3
       have hq := hx.set (.bool b3) (.slice a3 n3 c3) (.slice d3 m3 o3) (.bool bb3) (.slice aa3 nn3 cc3) (.slice dd3 mm3 oo3)
       simp only [ev, er] at hKO; go_simp
       exact hKO _ _ hw ⟨(Ext.wr hS.1 hw (by omega)), (hS.2.1.wr hw (by omega)), (hS.2.2.1.wr hw), (Nat.le_trans hS.2.2.2 hw.apart.size)⟩ ⟨g, b3, a3, n3, c3, d3, m3, o3, bb3, aa3, nn3, cc3, dd3, mm3, oo3, ev, er, hg, hq⟩
      ·have e5 := isOf hp.1; simp only [e5] at hKO; go_simp; exact hKO _ W (.refl W) rfl
     intro vs W2 hS hp
     clear szw2 E0 p2 hsp
     obtain ⟨E0, p2, hsp, sz2⟩ := hS
     obtain ⟨h2_0, h2_1, h2_2, h2_3, h2_4, h2_5, h2_6, h2_7, h2_8, -⟩ := hp
     obtain ⟨g2_7, b2_7, a2_7, n2_7, c2_7, d2_7, m2_7, o2_7, bb2_7, aa2_7, nn2_7, cc2_7, dd2_7, mm2_7, oo2_7, ev2_7, er2_7, hg2_7, p2_7⟩ := h2_7
     replace ev2_7 : vs 6 = _ := ev2_7; replace er2_7 : vs 4 = _ := er2_7; replace h2_4 := (show Sw W2 (vs 4) ((x, y)) from h2_4)
     rw [er2_7] at h2_4
     replace h2_0 : vs 0 = .agg #[.bool false, .slice a1 n1 c1, .slice d1 m1 o1, .bool bb1, .slice aa1 nn1 cc1, .slice dd1 mm1 oo1] := h2_0
     replace h2_1 : vs 1 = .int .i64 (K : Int) := h2_1
     replace h2_5 : vs 5 = .int .i64 0 := h2_5
     replace h2_8 : vs 8 = .int .i64 0 := h2_8
     simp only [ev2_7, er2_7, h2_0, h2_1, h2_5, h2_8]
     clear ev2_7 er2_7 h2_0 h2_1 h2_5 h2_8 h2_2 h2_3 h2_6
     have hbr := h2_4.sign.1 rfl HX0.out.1
     subst hbr
     have HRR : Hid (decide ((x, y).1 ≤ (x, y).2) = true) := Lib.hid (decide_eq_true HX0.out.2)
     obtain ⟨kp2_0, kp2_1, kp2_2, kp2_3, kp2_4, kp2_5⟩ := p2.c6
     obtain ⟨kp2_7_0, kp2_7_1, kp2_7_2, kp2_7_3, kp2_7_4, kp2_7_5⟩ := p2_7.c6
     go_wp2_with fail
     clear kp2_0 kp2_1 kp2_2 kp2_3 kp2_4 kp2_5 kp2_7_0 kp2_7_1 kp2_7_2 kp2_7_3 kp2_7_4 kp2_7_5
     refine (Tryz.rsRight h2_4 ⟨SR.out.1, SR.out.2.1⟩ (by omega)).mono ?_
     rintro e Wr3 ⟨rfl, hE⟩
     rw [HRR.out]; replace E0 := (Ext.trans E0 hE); replace p2 := (p2.ext hE); replace hsp := (hsp.ext hE); replace h2_4 := (h2_4.ext hE); replace p2_7 := (p2_7.ext hE); clear hE
     obtain ⟨kp2_0, kp2_1, kp2_2, kp2_3, kp2_4, kp2_5⟩ := p2.c6
     obtain ⟨kp2_7_0, kp2_7_1, kp2_7_2, kp2_7_3, kp2_7_4, kp2_7_5⟩ := p2_7.c6
     go_upto_region 8 with (fail)
     clear kp2_0 kp2_1 kp2_2 kp2_3 kp2_4 kp2_5 kp2_7_0 kp2_7_1 kp2_7_2 kp2_7_3 kp2_7_4 kp2_7_5; have ltp2_7 := p2_7.lt; have szw3 := Ext.size E0
     refine region_gs [.one fun v W => Nw W v 1,
       .one fun v W => Zw W v (((1 : Nat) : Int)),
       .one fun v _ => v = .int .i64 (K : Int),
       .one fun v W => ∃ v', v = .tuple #[v', .int .i64 0] ∧ (fun v W => Rw W v s) v' W,
       .one fun v W => ∃ v', v = .tuple #[v', .int .i64 0] ∧ (fun v W => Rw W v s) v' W,
       .one fun v W => Rw W v s,
       .one fun v _ => v = .int .i64 0,
       .one fun v W => ∃ g, v = .pointer (some ⟨g, 0, none⟩) ∧ Wr3.heap.size ≤ g ∧ Form W g 27 3,
       .three 7 5 (fun p r _ W => Put3 Wr3.heap.size 27 p r W),
       .one fun v _ => v = .int .i64 0]
      (fun W => Ext w W ∧ Bx6 W w.heap.size 29 (.bool false) (.slice a1 n1 c1) (.slice d1 m1 o1) (.bool bb1) (.slice aa1 nn1 cc1) (.slice dd1 mm1 oo1) ∧ Sw W (.agg #[.bool false, .slice a1 n1 c1, .slice d1 m1 o1, .bool bb1, .slice aa1 nn1 cc1, .slice dd1 mm1 oo1]) p ∧ Sw W (.agg #[.bool false, .slice a2_7 n2_7 c2_7, .slice d2_7 m2_7 o2_7, .bool bb2_7, .slice aa2_7 nn2_7 cc2_7, .slice dd2_7 mm2_7 oo2_7]) ((x, y)) ∧ Bx6 W g2_7 29 (.bool false) (.slice a2_7 n2_7 c2_7) (.slice d2_7 m2_7 o2_7) (.bool bb2_7) (.slice aa2_7 nn2_7 cc2_7) (.slice dd2_7 mm2_7 oo2_7) ∧ Wr3.heap.size ≤ W.heap.size) ⟨Good.num _, Good.zed _, Good.is _, (Good.rat _).tup _, (Good.rat _).tup _, Good.rat _, Good.is _, Good.box _ _ _, cert_put3, Good.is _, trivial⟩
      ⟨E0, p2, hsp, h2_4, p2_7, Nat.le_refl _⟩ (A := ?A3) ?hA3 ?howe3 ?hfin3
     case hA3 =>
      intro vs
      simp only [putAll, Act.put, sA, sZ, sS, Nat.zero_add, Nat.reduceAdd]
      exact rfl
     case howe3 =>
      clear E0 p2 hsp h2_4 p2_7
      intro hf
      refine ⟨oE 0 [] hf rfl ?_, oE 1 [0] hf rfl ?_, oE 2 [] hf rfl ?_, oE 3 [1, 2] hf rfl ?_, oE 4 [3] hf rfl ?_, oE 5 [4] hf rfl ?_, oE 6 [4] hf rfl ?_, oE 7 [] hf rfl ?_, oW 8 [7, 5] hf rfl ?_, oE 9 [6] hf rfl ?_, trivial⟩
      all_goals intro vs W hS hp hx KO hKO
      all_goals simp only [Act.put, sA, sZ, sS] at hKO
      ·have hE := Ext.alloc1 W (.cells #[.int .u64 1] 43)
       have hn := Nw.lit1 W 1 43 (by rw [B64_eq]; omega) (by omega)
       go_simp
       exact hKO _ _ hE hn
      ·have q0 := hp.1
       have ev0 := q0
       obtain ⟨a0, n0, c0, ev0⟩ := Nw.slice (show Nw W (vs 0) 1 from q0)
       replace q0 : Nw W (vs 0) 1 := q0
       rw [ev0] at q0
       replace ev0 : vs 0 = _ := ev0; simp only [ev0] at hKO; go_simp; exact hKO _ W (Ext.refl W) (Zw.ofN q0)
      ·go_simp; exact hKO _ W (.refl W) rfl
      ·have q1 := hp.1; have e2 := isOf hp.2.1; simp only [e2] at hKO; go_simp
       refine (Tryz.refBack q1 (Sm.one (by rw [B64_eq]; omega)) (by omega) K (by have := HK.out; omega)).mono ?_
       rintro e W1 ⟨v, rfl, hv, hE⟩
       rw [HS1.out] at hv
       exact hKO _ W1 hE ⟨_, rfl, hv⟩
      ·have q3 := hp.1
       obtain ⟨u, ev, hu⟩ := q3
       replace ev : vs 3 = _ := ev; simp only [ev] at hKO; go_simp; exact hKO _ W (Ext.refl W) ⟨u, rfl, hu⟩
      ·have q4 := hp.1
       obtain ⟨u, ev, hu⟩ := q4
       replace ev : vs 4 = _ := ev; simp only [ev] at hKO; go_simp; exact hKO _ W (Ext.refl W) hu
      ·have q4 := hp.1
       obtain ⟨u, ev, hu⟩ := q4
       replace ev : vs 4 = _ := ev; simp only [ev] at hKO; go_simp; exact hKO _ W (.refl W) rfl
      ·have hn := Bx3.new W 27 (.bool false) (.slice none 0 0) (.slice none 0 0)
       have hE := Ext.alloc1 W (.cells #[.bool false, .slice none 0 0, .slice none 0 0] 27)
       have hsz := hS.2.2.2.2.2
       go_simp
       exact hKO _ _ hE ⟨_, rfl, hsz, hn.form⟩
      ·have q7 := hp.1; have q5 := hp.2.1
       obtain ⟨g, ev, hg, hf⟩ := q7
       replace ev : vs 7 = _ := ev
       obtain ⟨x0_0, x0_1, x0_2, hx, hno⟩ := hf.bx3
       have qr := q5
       obtain ⟨b3, a3, n3, c3, d3, m3, o3, er, -, -, -⟩ := qr
       replace er : vs 5 = _ := er
       have r0 := hx.froz0
       have t0 := hx.cell0
       have r1 := hx.froz1
       have t1 := hx.cell1
       have r2 := hx.froz2
       have t2 := hx.cell2
       have hw := Wr.set3 hx hno b3 a3 n3 c3 d3 m3 o3
       have hq := hx.set (.bool b3) (.slice a3 n3 c3) (.slice d3 m3 o3)
       simp only [ev, er] at hKO; go_simp
       exact hKO _ _ hw ⟨(Ext.wr hS.1 hw (by omega)), (hS.2.1.wr hw (by omega)), (hS.2.2.1.wr hw), (hS.2.2.2.1.wr hw), (hS.2.2.2.2.1.wr hw (by omega)), (Nat.le_trans hS.2.2.2.2.2 hw.apart.size)⟩ ⟨g, b3, a3, n3, c3, d3, m3, o3, ev, er, hg, hq⟩
      ·have e6 := isOf hp.1; simp only [e6] at hKO; go_simp; exact hKO _ W (.refl W) rfl
     intro vs W3 hS hp
     clear szw3 E0 p2 hsp h2_4 p2_7
     obtain ⟨E0, p2, hsp, h2_4, p2_7, sz3⟩ := hS
     obtain ⟨h3_0, h3_1, h3_2, h3_3, h3_4, h3_5, h3_6, h3_7, h3_8, h3_9, -⟩ := hp
     obtain ⟨g3_8, b3_8, a3_8, n3_8, c3_8, d3_8, m3_8, o3_8, ev3_8, er3_8, hg3_8, p3_8⟩ := h3_8
     replace ev3_8 : vs 7 = _ := ev3_8; replace er3_8 : vs 5 = _ := er3_8; replace h3_5 := (show Rw W3 (vs 5) s from h3_5)
     rw [er3_8] at h3_5
     replace h3_2 : vs 2 = .int .i64 (K : Int) := h3_2
     replace h3_6 : vs 6 = .int .i64 0 := h3_6
     replace h3_9 : vs 9 = .int .i64 0 := h3_9
     simp only [ev3_8, er3_8, h3_2, h3_6, h3_9]
     replace h3_0 : Nw W3 (vs 0) 1 := h3_0
     generalize vs 0 = u3_0 at h3_0 ⊢
     replace h3_1 : Zw W3 (vs 1) (((1 : Nat) : Int)) := h3_1
     generalize vs 1 = u3_1 at h3_1 ⊢
     clear ev3_8 er3_8 h3_2 h3_6 h3_9 h3_3 h3_4 h3_7
     obtain ⟨kp2_0, kp2_1, kp2_2, kp2_3, kp2_4, kp2_5⟩ := p2.c6
     obtain ⟨kp2_7_0, kp2_7_1, kp2_7_2, kp2_7_3, kp2_7_4, kp2_7_5⟩ := p2_7.c6
     obtain ⟨kp3_8_0, kp3_8_1, kp3_8_2⟩ := p3_8.c3
     go_upto_region 9 with (fail)
     clear kp2_0 kp2_1 kp2_2 kp2_3 kp2_4 kp2_5 kp2_7_0 kp2_7_1 kp2_7_2 kp2_7_3 kp2_7_4 kp2_7_5 kp3_8_0 kp3_8_1 kp3_8_2; have ltp3_8 := p3_8.lt; have szw4 := Ext.size E0
     refine region_go2 [.one fun v _ => v = .pointer (some ⟨g2_7, 0, none⟩),
       .one fun v _ => v = .agg #[.bool false, .slice a2_7 n2_7 c2_7, .slice d2_7 m2_7 o2_7],
       .one fun v _ => v = .agg #[.bool b3_8, .slice a3_8 n3_8 c3_8, .slice d3_8 m3_8 o3_8],
       .one fun v W => Rw W v (x + s),
       .one fun v _ => v = .pointer (some ⟨g2_7, 3, none⟩),
       .one fun v _ => v = .agg #[.bool bb2_7, .slice aa2_7 nn2_7 cc2_7, .slice dd2_7 mm2_7 oo2_7],
       .one fun v _ => v = .agg #[.bool b3_8, .slice a3_8 n3_8 c3_8, .slice d3_8 m3_8 o3_8],
       .one fun v W => Rw W v (y - s),
       .one fun v W => ∃ g, v = .pointer (some ⟨g, 0, none⟩) ∧ W3.heap.size ≤ g ∧ Form W g 27 3,
       .one fun v W => ∃ g, v = .pointer (some ⟨g, 0, none⟩) ∧ W3.heap.size ≤ g ∧ Form W g 27 3,
       .three 8 3 (fun p r _ W => Put3 W3.heap.size 27 p r W),
       .three 9 7 (fun p r _ W => Put3 W3.heap.size 27 p r W)]
      (fun W => Ext w W ∧ Bx6 W w.heap.size 29 (.bool false) (.slice a1 n1 c1) (.slice d1 m1 o1) (.bool bb1) (.slice aa1 nn1 cc1) (.slice dd1 mm1 oo1) ∧ Sw W (.agg #[.bool false, .slice a1 n1 c1, .slice d1 m1 o1, .bool bb1, .slice aa1 nn1 cc1, .slice dd1 mm1 oo1]) p ∧ Sw W (.agg #[.bool false, .slice a2_7 n2_7 c2_7, .slice d2_7 m2_7 o2_7, .bool bb2_7, .slice aa2_7 nn2_7 cc2_7, .slice dd2_7 mm2_7 oo2_7]) ((x, y)) ∧ Bx6 W g2_7 29 (.bool false) (.slice a2_7 n2_7 c2_7) (.slice d2_7 m2_7 o2_7) (.bool bb2_7) (.slice aa2_7 nn2_7 cc2_7) (.slice dd2_7 mm2_7 oo2_7) ∧ Rw W (.agg #[.bool b3_8, .slice a3_8 n3_8 c3_8, .slice d3_8 m3_8 o3_8]) s ∧ Bx3 W g3_8 27 (.bool b3_8) (.slice a3_8 n3_8 c3_8) (.slice d3_8 m3_8 o3_8) ∧ Nw W u3_0 1 ∧ Zw W u3_1 (((1 : Nat) : Int)) ∧ W3.heap.size ≤ W.heap.size) W3.heap.size [8, 9] [Tag.any, Tag.any, Tag.any, Tag.any, Tag.any, Tag.any, Tag.any, Tag.any, Tag.any, Tag.any, Tag.new 8, Tag.new 9] ⟨Good.is _, Good.is _, Good.is _, Good.rat _, Good.is _, Good.is _, Good.is _, Good.rat _, Good.box _ _ _, Good.box _ _ _, tag_put3, tag_put3, trivial⟩ (fun g0 hg => by simp at hg)
      (fun W W1 hS hE => ⟨(Ext.trans hS.1 hE), (hS.2.1.ext hE), (hS.2.2.1.ext hE), (hS.2.2.2.1.ext hE), (hS.2.2.2.2.1.ext hE), (hS.2.2.2.2.2.1.ext hE), (hS.2.2.2.2.2.2.1.ext hE), (hS.2.2.2.2.2.2.2.1.ext hE), (hS.2.2.2.2.2.2.2.2.1.ext hE), (Nat.le_trans hS.2.2.2.2.2.2.2.2.2 (Ext.size hE))⟩) ⟨E0, p2, hsp, h2_4, p2_7, h3_5, p3_8, h3_0, h3_1, Nat.le_refl _⟩ (fun m hm => by simp at hm; rcases hm with rfl | rfl <;> rfl) (by kernel_rfl) (by kernel_rfl) (by kernel_rfl) (by kernel_rfl) (A := ?A4) ?hA4 ?howe4 ?hfin4
     case hA4 =>
      intro vs
      simp only [putAll, Act.put, sA, sZ, sS, Nat.zero_add, Nat.reduceAdd]
      exact rfl
     case howe4 =>
      clear E0 p2 hsp h2_4 p2_7 h3_5 p3_8 h3_0 h3_1
      intro hf
      refine ⟨owesM 0 [] hf rfl rfl (by kernel_rfl) ?_, owesM 1 [0] hf rfl rfl (by kernel_rfl) ?_, owesM 2 [] hf rfl rfl (by kernel_rfl) ?_, owesM 3 [1, 2] hf rfl rfl (by kernel_rfl) ?_, owesM 4 [] hf rfl rfl (by kernel_rfl) ?_, owesM 5 [4] hf rfl rfl (by kernel_rfl) ?_, owesM 6 [] hf rfl rfl (by kernel_rfl) ?_, owesM 7 [5, 6] hf rfl rfl (by kernel_rfl) ?_, owesN 8 [] hf rfl (by kernel_rfl) ?_, owesN 9 [] hf rfl (by kernel_rfl) ?_, owesP 10 8 [8, 3] hf rfl rfl (by kernel_rfl) rfl (by kernel_rfl) ?_, owesP 11 9 [9, 7] hf rfl rfl (by kernel_rfl) rfl (by kernel_rfl) ?_, trivial⟩
      all_goals intro vs W hS hp hx KO hKO
      all_goals simp only [Act.put, sA, sZ, sS] at hKO
      ·go_simp; exact hKO _ W (.refl W) rfl
      ·have e0 := isOf hp.1; simp only [e0] at hKO; have fc0 := hS.2.2.2.2.1.cell0; have fc1 := hS.2.2.2.2.1.cell1; have fc2 := hS.2.2.2.2.1.cell2; go_simp; exact hKO _ W (.refl W) rfl
      ·have fc0 := hS.2.2.2.2.2.2.1.cell0; have fc1 := hS.2.2.2.2.2.2.1.cell1; have fc2 := hS.2.2.2.2.2.2.1.cell2; go_simp; exact hKO _ W (.refl W) rfl
      ·have e1 := isOf hp.1; have e2 := isOf hp.2.1; simp only [e1, e2] at hKO; go_simp
       refine (Tryz.refRAdd (hS.2.2.2.1.lo) (hS.2.2.2.2.2.1) SR.out.1 SR.out.2.2 (by omega)).mono ?_
       rintro e W1 ⟨v, rfl, hv, hE⟩
       exact hKO _ W1 hE hv
      ·go_simp; exact hKO _ W (.refl W) rfl
      ·have e4 := isOf hp.1; simp only [e4] at hKO; have fc3 := hS.2.2.2.2.1.cell3; have fc4 := hS.2.2.2.2.1.cell4; have fc5 := hS.2.2.2.2.1.cell5; go_simp; exact hKO _ W (.refl W) rfl
      ·have fc0 := hS.2.2.2.2.2.2.1.cell0; have fc1 := hS.2.2.2.2.2.2.1.cell1; have fc2 := hS.2.2.2.2.2.2.1.cell2; go_simp; exact hKO _ W (.refl W) rfl
      ·have e5 := isOf hp.1; have e6 := isOf hp.2.1; simp only [e5, e6] at hKO; go_simp
       refine (Tryz.refRSub (hS.2.2.2.1.hi) (hS.2.2.2.2.2.1) SR.out.2.1 SR.out.2.2 (by omega)).mono ?_
       rintro e W1 ⟨v, rfl, hv, hE⟩
       exact hKO _ W1 hE hv
      ·have hn := Bx3.new W 27 (.bool false) (.slice none 0 0) (.slice none 0 0)
       have hE := Ext.alloc1 W (.cells #[.bool false, .slice none 0 0, .slice none 0 0] 27)
       have hsz := hS.2.2.2.2.2.2.2.2.2
       go_simp
       exact hKO _ _ rfl ⟨_, rfl, hsz, hn.form⟩
      ·have hn := Bx3.new W 27 (.bool false) (.slice none 0 0) (.slice none 0 0)
       have hE := Ext.alloc1 W (.cells #[.bool false, .slice none 0 0, .slice none 0 0] 27)
       have hsz := hS.2.2.2.2.2.2.2.2.2
       go_simp
       exact hKO _ _ rfl ⟨_, rfl, hsz, hn.form⟩
      ·have q8 := hp.1; have q3 := hp.2.1
       obtain ⟨g, ev, hg, hf⟩ := q8
       replace ev : vs 8 = _ := ev
       obtain ⟨x0_0, x0_1, x0_2, hx, hno⟩ := hf.bx3
       have qr := q3
       obtain ⟨b3, a3, n3, c3, d3, m3, o3, er, -, -, -⟩ := qr
       replace er : vs 3 = _ := er
       have r0 := hx.froz0
       have t0 := hx.cell0
       have r1 := hx.froz1
       have t1 := hx.cell1
       have r2 := hx.froz2
       have t2 := hx.cell2
       have hw := Wr.set3 hx hno b3 a3 n3 c3 d3 m3 o3
       have hq := hx.set (.bool b3) (.slice a3 n3 c3) (.slice d3 m3 o3)
       simp only [ev, er] at hKO; go_simp
       exact hKO _ g rfl hg hw ⟨(Ext.wr hS.1 hw (by omega)), (hS.2.1.wr hw (by omega)), (hS.2.2.1.wr hw), (hS.2.2.2.1.wr hw), (hS.2.2.2.2.1.wr hw (by omega)), (hS.2.2.2.2.2.1.wr hw), (hS.2.2.2.2.2.2.1.wr hw (by omega)), (hS.2.2.2.2.2.2.2.1.wr hw), (hS.2.2.2.2.2.2.2.2.1.wr hw), (Nat.le_trans hS.2.2.2.2.2.2.2.2.2 hw.apart.size)⟩ ⟨g, b3, a3, n3, c3, d3, m3, o3, ev, er, hg, hq⟩
      ·have q9 := hp.1; have q7 := hp.2.1
       obtain ⟨g, ev, hg, hf⟩ := q9
       replace ev : vs 9 = _ := ev
       obtain ⟨x0_0, x0_1, x0_2, hx, hno⟩ := hf.bx3
       have qr := q7
       obtain ⟨b3, a3, n3, c3, d3, m3, o3, er, -, -, -⟩ := qr
       replace er : vs 7 = _ := er
       have r0 := hx.froz0
       have t0 := hx.cell0
       have r1 := hx.froz1
       have t1 := hx.cell1
       have r2 := hx.froz2
       have t2 := hx.cell2
       have hw := Wr.set3 hx hno b3 a3 n3 c3 d3 m3 o3
       have hq := hx.set (.bool b3) (.slice a3 n3 c3) (.slice d3 m3 o3)
       simp only [ev, er] at hKO; go_simp
       exact hKO _ g rfl hg hw ⟨(Ext.wr hS.1 hw (by omega)), (hS.2.1.wr hw (by omega)), (hS.2.2.1.wr hw), (hS.2.2.2.1.wr hw), (hS.2.2.2.2.1.wr hw (by omega)), (hS.2.2.2.2.2.1.wr hw), (hS.2.2.2.2.2.2.1.wr hw (by omega)), (hS.2.2.2.2.2.2.2.1.wr hw), (hS.2.2.2.2.2.2.2.2.1.wr hw), (Nat.le_trans hS.2.2.2.2.2.2.2.2.2 hw.apart.size)⟩ ⟨g, b3, a3, n3, c3, d3, m3, o3, ev, er, hg, hq⟩
     intro vs W4 hS hM hp
     clear szw4 E0 p2 hsp h2_4 p2_7 h3_5 p3_8 h3_0 h3_1
     obtain ⟨E0, p2, hsp, h2_4, p2_7, h3_5, p3_8, h3_0, h3_1, sz4⟩ := hS
     obtain ⟨h4_0, h4_1, h4_2, h4_3, h4_4, h4_5, h4_6, h4_7, h4_8, h4_9, h4_10, h4_11, -⟩ := hp
     obtain ⟨g4_10, b4_10, a4_10, n4_10, c4_10, d4_10, m4_10, o4_10, ev4_10, er4_10, hg4_10, p4_10⟩ := h4_10
     replace ev4_10 : vs 8 = _ := ev4_10; replace er4_10 : vs 3 = _ := er4_10; replace h4_3 := (show Rw W4 (vs 3) (x + s) from h4_3)
     rw [er4_10] at h4_3
     obtain ⟨g4_11, b4_11, a4_11, n4_11, c4_11, d4_11, m4_11, o4_11, ev4_11, er4_11, hg4_11, p4_11⟩ := h4_11
     replace ev4_11 : vs 9 = _ := ev4_11; replace er4_11 : vs 7 = _ := er4_11; replace h4_7 := (show Rw W4 (vs 7) (y - s) from h4_7)
     rw [er4_11] at h4_7
     replace h4_0 : vs 0 = .pointer (some ⟨g2_7, 0, none⟩) := h4_0
     replace h4_1 : vs 1 = .agg #[.bool false, .slice a2_7 n2_7 c2_7, .slice d2_7 m2_7 o2_7] := h4_1
     replace h4_2 : vs 2 = .agg #[.bool b3_8, .slice a3_8 n3_8 c3_8, .slice d3_8 m3_8 o3_8] := h4_2
     replace h4_4 : vs 4 = .pointer (some ⟨g2_7, 3, none⟩) := h4_4
     replace h4_5 : vs 5 = .agg #[.bool bb2_7, .slice aa2_7 nn2_7 cc2_7, .slice dd2_7 mm2_7 oo2_7] := h4_5
     replace h4_6 : vs 6 = .agg #[.bool b3_8, .slice a3_8 n3_8 c3_8, .slice d3_8 m3_8 o3_8] := h4_6
     clear hM
     simp only [ev4_10, er4_10, ev4_11, er4_11, h4_0, h4_1, h4_2, h4_4, h4_5, h4_6]
     clear ev4_10 er4_10 ev4_11 er4_11 h4_0 h4_1 h4_2 h4_4 h4_5 h4_6 h4_8 h4_9
     have SM : Hid (SmR 105 (x + s) ∧ SmR 105 (y - s)) := Lib.hid ⟨SR.out.1.add SR.out.2.2, SR.out.2.1.sub SR.out.2.2⟩
     have SPM : Hid (SmR 210 p.1 ∧ SmR 210 p.2) := Lib.hid ⟨SP.out.lo.mono (by omega), SP.out.hi.mono (by omega)⟩
     have SQ2 : Hid (SmR 210 (x * x) ∧ SmR 210 ((x + s) * (x + s)) ∧ SmR 210 (y * y) ∧ SmR 210 ((y - s) * (y - s))) := Lib.hid ⟨(SR.out.1.mul SR.out.1).mono (by omega), (SM.out.1.mul SM.out.1).mono (by omega), (SR.out.2.1.mul SR.out.2.1).mono (by omega), (SM.out.2.mul SM.out.2).mono (by omega)⟩
     obtain ⟨cx1, hc1⟩ : ∃ c, cmpR (x * x) p.1 = c := ⟨_, rfl⟩
     obtain ⟨cx2, hc2⟩ : ∃ c, cmpR ((x + s) * (x + s)) p.1 = c := ⟨_, rfl⟩
     obtain ⟨cx3, hc3⟩ : ∃ c, cmpR (y * y) p.2 = c := ⟨_, rfl⟩
     obtain ⟨cx4, hc4⟩ : ∃ c, cmpR ((y - s) * (y - s)) p.2 = c := ⟨_, rfl⟩
     have HC := Lib.hid (And.intro hc1 (And.intro hc2 (And.intro hc3 hc4)))
     have HD1 : Hid (decide (cx1 ≤ 0) = true) := Lib.hid (decide_eq_true (by rw [← hc1]; exact cmpR_le.2 HXX.out.1))
     have HD2 : Hid (decide (0 < cx2) = true) := Lib.hid (decide_eq_true (by rw [← hc2]; have := cmpR_lt0.2 HXX.out.2; rw [cmpR_swap] at this; omega))
     have HD3 : Hid (decide (0 ≤ cx3) = true) := Lib.hid (decide_eq_true (by rw [← hc3]; have := cmpR_le.2 HYY.out.1; rw [cmpR_swap] at this; omega))
     have HD4 : Hid (0 < m → decide (cx4 < 0) = true) := Lib.hid (fun h0 => decide_eq_true (by rw [← hc4]; exact cmpR_lt0.2 (HYY.out.2 h0)))
     clear hc1 hc2 hc3 hc4
     obtain ⟨kp2_0, kp2_1, kp2_2, kp2_3, kp2_4, kp2_5⟩ := p2.c6
     obtain ⟨kp2_7_0, kp2_7_1, kp2_7_2, kp2_7_3, kp2_7_4, kp2_7_5⟩ := p2_7.c6
     obtain ⟨kp3_8_0, kp3_8_1, kp3_8_2⟩ := p3_8.c3
     obtain ⟨kp4_10_0, kp4_10_1, kp4_10_2⟩ := p4_10.c3
     obtain ⟨kp4_11_0, kp4_11_1, kp4_11_2⟩ := p4_11.c3
     go_upto_region 10 with (fail)
     clear kp2_0 kp2_1 kp2_2 kp2_3 kp2_4 kp2_5 kp2_7_0 kp2_7_1 kp2_7_2 kp2_7_3 kp2_7_4 kp2_7_5 kp3_8_0 kp3_8_1 kp3_8_2 kp4_10_0 kp4_10_1 kp4_10_2 kp4_11_0 kp4_11_1 kp4_11_2; have ltp4_10 := p4_10.lt; have ltp4_11 := p4_11.lt; have szw5 := Ext.size E0
     refine region_gs [.one fun v _ => v = .pointer (some ⟨g2_7, 0, none⟩),
       .one fun v _ => v = .agg #[.bool false, .slice a2_7 n2_7 c2_7, .slice d2_7 m2_7 o2_7],
       .one fun v _ => v = .pointer (some ⟨g2_7, 0, none⟩),
       .one fun v _ => v = .agg #[.bool false, .slice a2_7 n2_7 c2_7, .slice d2_7 m2_7 o2_7],
       .one fun v W => Rw W v (x * x),
       .one fun v _ => v = .pointer (some ⟨w.heap.size, 0, none⟩),
       .one fun v _ => v = .agg #[.bool false, .slice a1 n1 c1, .slice d1 m1 o1],
       .one fun v _ => v = .int .i64 cx1,
       .one fun v _ => v = .bool true,
       .one fun v _ => v = .bool true,
       .one fun v _ => v = .agg #[.bool b4_10, .slice a4_10 n4_10 c4_10, .slice d4_10 m4_10 o4_10],
       .one fun v _ => v = .agg #[.bool b4_10, .slice a4_10 n4_10 c4_10, .slice d4_10 m4_10 o4_10],
       .one fun v W => Rw W v ((x + s) * (x + s)),
       .one fun v _ => v = .pointer (some ⟨w.heap.size, 0, none⟩),
       .one fun v _ => v = .agg #[.bool false, .slice a1 n1 c1, .slice d1 m1 o1],
       .one fun v _ => v = .int .i64 cx2,
       .one fun v _ => v = .bool true,
       .one fun v _ => v = .bool true,
       .one fun v _ => v = .bool true]
      (fun W => Ext w W ∧ Bx6 W w.heap.size 29 (.bool false) (.slice a1 n1 c1) (.slice d1 m1 o1) (.bool bb1) (.slice aa1 nn1 cc1) (.slice dd1 mm1 oo1) ∧ Sw W (.agg #[.bool false, .slice a1 n1 c1, .slice d1 m1 o1, .bool bb1, .slice aa1 nn1 cc1, .slice dd1 mm1 oo1]) p ∧ Sw W (.agg #[.bool false, .slice a2_7 n2_7 c2_7, .slice d2_7 m2_7 o2_7, .bool bb2_7, .slice aa2_7 nn2_7 cc2_7, .slice dd2_7 mm2_7 oo2_7]) ((x, y)) ∧ Bx6 W g2_7 29 (.bool false) (.slice a2_7 n2_7 c2_7) (.slice d2_7 m2_7 o2_7) (.bool bb2_7) (.slice aa2_7 nn2_7 cc2_7) (.slice dd2_7 mm2_7 oo2_7) ∧ Rw W (.agg #[.bool b3_8, .slice a3_8 n3_8 c3_8, .slice d3_8 m3_8 o3_8]) s ∧ Bx3 W g3_8 27 (.bool b3_8) (.slice a3_8 n3_8 c3_8) (.slice d3_8 m3_8 o3_8) ∧ Nw W u3_0 1 ∧ Zw W u3_1 (((1 : Nat) : Int)) ∧ Rw W (.agg #[.bool b4_10, .slice a4_10 n4_10 c4_10, .slice d4_10 m4_10 o4_10]) (x + s) ∧ Bx3 W g4_10 27 (.bool b4_10) (.slice a4_10 n4_10 c4_10) (.slice d4_10 m4_10 o4_10) ∧ Rw W (.agg #[.bool b4_11, .slice a4_11 n4_11 c4_11, .slice d4_11 m4_11 o4_11]) (y - s) ∧ Bx3 W g4_11 27 (.bool b4_11) (.slice a4_11 n4_11 c4_11) (.slice d4_11 m4_11 o4_11) ∧ W4.heap.size ≤ W.heap.size) ⟨Good.is _, Good.is _, Good.is _, Good.is _, Good.rat _, Good.is _, Good.is _, Good.is _, Good.is _, Good.is _, Good.is _, Good.is _, Good.rat _, Good.is _, Good.is _, Good.is _, Good.is _, Good.is _, Good.is _, trivial⟩
      ⟨E0, p2, hsp, h2_4, p2_7, h3_5, p3_8, h3_0, h3_1, h4_3, p4_10, h4_7, p4_11, Nat.le_refl _⟩ (A := ?A5) ?hA5 ?howe5 ?hfin5
     case hA5 =>
      intro vs
      simp only [putAll, Act.put, sA, sZ, sS, Nat.zero_add, Nat.reduceAdd]
      exact rfl
     case howe5 =>
      clear E0 p2 hsp h2_4 p2_7 h3_5 p3_8 h3_0 h3_1 h4_3 p4_10 h4_7 p4_11
      intro hf
      refine ⟨oE 0 [] hf rfl ?_, oE 1 [0] hf rfl ?_, oE 2 [] hf rfl ?_, oE 3 [2] hf rfl ?_, oE 4 [1, 3] hf rfl ?_, oE 5 [] hf rfl ?_, oE 6 [5] hf rfl ?_, oE 7 [4, 6] hf rfl ?_, oE 8 [7] hf rfl ?_, oE 9 [8] hf rfl ?_, oE 10 [9] hf rfl ?_, oE 11 [9] hf rfl ?_, oE 12 [9, 10, 11] hf rfl ?_, oE 13 [9] hf rfl ?_, oE 14 [9, 13] hf rfl ?_, oE 15 [9, 12, 14] hf rfl ?_, oE 16 [9, 15] hf rfl ?_, oE 17 [9, 16] hf rfl ?_, oE 18 [17] hf rfl ?_, trivial⟩
      all_goals intro vs W hS hp hx KO hKO
      all_goals simp only [Act.put, sA, sZ, sS] at hKO
      ·go_simp; exact hKO _ W (.refl W) rfl
      ·have e0 := isOf hp.1; simp only [e0] at hKO; have fc0 := hS.2.2.2.2.1.cell0; have fc1 := hS.2.2.2.2.1.cell1; have fc2 := hS.2.2.2.2.1.cell2; go_simp; exact hKO _ W (.refl W) rfl
      ·go_simp; exact hKO _ W (.refl W) rfl
      ·have e2 := isOf hp.1; simp only [e2] at hKO; have fc0 := hS.2.2.2.2.1.cell0; have fc1 := hS.2.2.2.2.1.cell1; have fc2 := hS.2.2.2.2.1.cell2; go_simp; exact hKO _ W (.refl W) rfl
      ·have e1 := isOf hp.1; have e3 := isOf hp.2.1; simp only [e1, e3] at hKO; go_simp
       refine (Tryz.refRMul (hS.2.2.2.1.lo) (hS.2.2.2.1.lo) SR.out.1 SR.out.1 (by omega)).mono ?_
       rintro e W1 ⟨v, rfl, hv, hE⟩
       exact hKO _ W1 hE hv
      ·go_simp; exact hKO _ W (.refl W) rfl
      ·have e5 := isOf hp.1; simp only [e5] at hKO; have fc0 := hS.2.1.cell0; have fc1 := hS.2.1.cell1; have fc2 := hS.2.1.cell2; go_simp; exact hKO _ W (.refl W) rfl
      ·have q4 := hp.1; have e6 := isOf hp.2.1; simp only [e6] at hKO; go_simp
       refine (Tryz.refRCmpR q4 (hS.2.2.1.lo) SQ2.out.1 SPM.out.1 (by omega) HC.out.1).mono ?_
       rintro e W1 ⟨rfl, hE⟩
       exact hKO _ W1 hE rfl
      ·have e7 := isOf hp.1; simp only [e7] at hKO; go_simp; exact hKO _ W (Ext.refl W) (by first | rfl | exact congrArg Value.bool HD1.out)
      ·have e8 := isOf hp.1; simp only [e8] at hKO; go_simp; exact hKO _ W (.refl W) rfl
      ·have e9 := isOf hp.1; simp only [e9] at hKO; have fc0 := hS.2.2.2.2.2.2.2.2.2.2.1.cell0; have fc1 := hS.2.2.2.2.2.2.2.2.2.2.1.cell1; have fc2 := hS.2.2.2.2.2.2.2.2.2.2.1.cell2; go_simp; exact hKO _ W (.refl W) rfl
      ·have e9 := isOf hp.1; simp only [e9] at hKO; have fc0 := hS.2.2.2.2.2.2.2.2.2.2.1.cell0; have fc1 := hS.2.2.2.2.2.2.2.2.2.2.1.cell1; have fc2 := hS.2.2.2.2.2.2.2.2.2.2.1.cell2; go_simp; exact hKO _ W (.refl W) rfl
      ·have e9 := isOf hp.1; have e10 := isOf hp.2.1; have e11 := isOf hp.2.2.1; simp only [e9, e10, e11] at hKO; go_simp
       refine (Tryz.refRMul (hS.2.2.2.2.2.2.2.2.2.1) (hS.2.2.2.2.2.2.2.2.2.1) SM.out.1 SM.out.1 (by omega)).mono ?_
       rintro e W1 ⟨v, rfl, hv, hE⟩
       exact hKO _ W1 hE hv
      ·have e9 := isOf hp.1; simp only [e9] at hKO; go_simp; exact hKO _ W (.refl W) rfl
      ·have e9 := isOf hp.1; have e13 := isOf hp.2.1; simp only [e9, e13] at hKO; have fc0 := hS.2.1.cell0; have fc1 := hS.2.1.cell1; have fc2 := hS.2.1.cell2; go_simp; exact hKO _ W (.refl W) rfl
      ·have e9 := isOf hp.1; have q12 := hp.2.1; have e14 := isOf hp.2.2.1; simp only [e9, e14] at hKO; go_simp
       refine (Tryz.refRCmpR q12 (hS.2.2.1.lo) SQ2.out.2.1 SPM.out.1 (by omega) HC.out.2.1).mono ?_
       rintro e W1 ⟨rfl, hE⟩
       exact hKO _ W1 hE rfl
      ·have e9 := isOf hp.1; have e15 := isOf hp.2.1; simp only [e9, e15] at hKO; go_simp; exact hKO _ W (Ext.refl W) (by first | rfl | exact congrArg Value.bool HD2.out)
      ·have e9 := isOf hp.1; have e16 := isOf hp.2.1; simp only [e9, e16] at hKO; go_simp; exact hKO _ W (.refl W) rfl
      ·have e17 := isOf hp.1; simp only [e17] at hKO; go_simp; exact hKO _ W (.refl W) rfl
     intro vs W5 hS hp
     clear szw5 E0 p2 hsp h2_4 p2_7 h3_5 p3_8 h3_0 h3_1 h4_3 p4_10 h4_7 p4_11
     obtain ⟨E0, p2, hsp, h2_4, p2_7, h3_5, p3_8, h3_0, h3_1, h4_3, p4_10, h4_7, p4_11, sz5⟩ := hS
     obtain ⟨h5_0, h5_1, h5_2, h5_3, h5_4, h5_5, h5_6, h5_7, h5_8, h5_9, h5_10, h5_11, h5_12, h5_13, h5_14, h5_15, h5_16, h5_17, h5_18, -⟩ := hp
     replace h5_0 : vs 0 = .pointer (some ⟨g2_7, 0, none⟩) := h5_0
     replace h5_1 : vs 1 = .agg #[.bool false, .slice a2_7 n2_7 c2_7, .slice d2_7 m2_7 o2_7] := h5_1
     replace h5_2 : vs 2 = .pointer (some ⟨g2_7, 0, none⟩) := h5_2
     replace h5_3 : vs 3 = .agg #[.bool false, .slice a2_7 n2_7 c2_7, .slice d2_7 m2_7 o2_7] := h5_3
     replace h5_5 : vs 5 = .pointer (some ⟨w.heap.size, 0, none⟩) := h5_5
     replace h5_6 : vs 6 = .agg #[.bool false, .slice a1 n1 c1, .slice d1 m1 o1] := h5_6
     replace h5_7 : vs 7 = .int .i64 cx1 := h5_7
     replace h5_8 : vs 8 = .bool true := h5_8
     replace h5_9 : vs 9 = .bool true := h5_9
     replace h5_10 : vs 10 = .agg #[.bool b4_10, .slice a4_10 n4_10 c4_10, .slice d4_10 m4_10 o4_10] := h5_10
     replace h5_11 : vs 11 = .agg #[.bool b4_10, .slice a4_10 n4_10 c4_10, .slice d4_10 m4_10 o4_10] := h5_11
     replace h5_13 : vs 13 = .pointer (some ⟨w.heap.size, 0, none⟩) := h5_13
     replace h5_14 : vs 14 = .agg #[.bool false, .slice a1 n1 c1, .slice d1 m1 o1] := h5_14
     replace h5_15 : vs 15 = .int .i64 cx2 := h5_15
     replace h5_16 : vs 16 = .bool true := h5_16
     replace h5_17 : vs 17 = .bool true := h5_17
     replace h5_18 : vs 18 = .bool true := h5_18
     simp only [h5_0, h5_1, h5_2, h5_3, h5_5, h5_6, h5_7, h5_8, h5_9, h5_10, h5_11, h5_13, h5_14, h5_15, h5_16, h5_17, h5_18]
     replace h5_4 : Rw W5 (vs 4) (x * x) := h5_4
     generalize vs 4 = u5_4 at h5_4 ⊢
     replace h5_12 : Rw W5 (vs 12) ((x + s) * (x + s)) := h5_12
     generalize vs 12 = u5_12 at h5_12 ⊢
     clear h5_0 h5_1 h5_2 h5_3 h5_5 h5_6 h5_7 h5_8 h5_9 h5_10 h5_11 h5_13 h5_14 h5_15 h5_16 h5_17 h5_18
     have hbs := h4_7.sign
     rcases Nat.eq_zero_or_pos m with hm0 | hm0
     ·have hb2 : b4_11 = true := hbs.trans (decide_eq_true (HYN.out hm0))
      subst hb2
      clear hbs hm0
      obtain ⟨kp2_0, kp2_1, kp2_2, kp2_3, kp2_4, kp2_5⟩ := p2.c6
      obtain ⟨kp2_7_0, kp2_7_1, kp2_7_2, kp2_7_3, kp2_7_4, kp2_7_5⟩ := p2_7.c6
      obtain ⟨kp3_8_0, kp3_8_1, kp3_8_2⟩ := p3_8.c3
      obtain ⟨kp4_10_0, kp4_10_1, kp4_10_2⟩ := p4_10.c3
      obtain ⟨kp4_11_0, kp4_11_1, kp4_11_2⟩ := p4_11.c3
      go_upto_region 11 with (fail)
      clear kp2_0 kp2_1 kp2_2 kp2_3 kp2_4 kp2_5 kp2_7_0 kp2_7_1 kp2_7_2 kp2_7_3 kp2_7_4 kp2_7_5 kp3_8_0 kp3_8_1 kp3_8_2 kp4_10_0 kp4_10_1 kp4_10_2 kp4_11_0 kp4_11_1 kp4_11_2; have szw6 := Ext.size E0
      refine region_gs [.one fun v _ => v = .pointer (some ⟨g2_7, 3, none⟩),
        .one fun v _ => v = .agg #[.bool bb2_7, .slice aa2_7 nn2_7 cc2_7, .slice dd2_7 mm2_7 oo2_7],
        .one fun v _ => v = .pointer (some ⟨g2_7, 3, none⟩),
        .one fun v _ => v = .agg #[.bool bb2_7, .slice aa2_7 nn2_7 cc2_7, .slice dd2_7 mm2_7 oo2_7],
        .one fun v W => Rw W v (y * y),
        .one fun v _ => v = .pointer (some ⟨w.heap.size, 3, none⟩),
        .one fun v _ => v = .agg #[.bool bb1, .slice aa1 nn1 cc1, .slice dd1 mm1 oo1],
        .one fun v _ => v = .int .i64 cx3,
        .one fun v _ => v = .bool true,
        .one fun v _ => v = .bool true,
        .one fun v _ => v = .pointer (some ⟨g4_11, 0, none⟩),
        .one fun v _ => v = .pointer (some ⟨g4_11, 0, none⟩),
        .one fun v _ => v = .bool true,
        .one fun v _ => v = .bool true,
        .one fun v _ => v = undef,
        .one fun v _ => v = undef,
        .one fun v _ => v = undef,
        .one fun v _ => v = undef,
        .one fun v _ => v = undef,
        .one fun v _ => v = undef,
        .one fun v _ => v = undef,
        .one fun v _ => v = .bool true,
        .one fun v _ => v = .bool true,
        .one fun v _ => v = .bool true]
       (fun W => Ext w W ∧ Bx6 W w.heap.size 29 (.bool false) (.slice a1 n1 c1) (.slice d1 m1 o1) (.bool bb1) (.slice aa1 nn1 cc1) (.slice dd1 mm1 oo1) ∧ Sw W (.agg #[.bool false, .slice a1 n1 c1, .slice d1 m1 o1, .bool bb1, .slice aa1 nn1 cc1, .slice dd1 mm1 oo1]) p ∧ Sw W (.agg #[.bool false, .slice a2_7 n2_7 c2_7, .slice d2_7 m2_7 o2_7, .bool bb2_7, .slice aa2_7 nn2_7 cc2_7, .slice dd2_7 mm2_7 oo2_7]) ((x, y)) ∧ Bx6 W g2_7 29 (.bool false) (.slice a2_7 n2_7 c2_7) (.slice d2_7 m2_7 o2_7) (.bool bb2_7) (.slice aa2_7 nn2_7 cc2_7) (.slice dd2_7 mm2_7 oo2_7) ∧ Rw W (.agg #[.bool b3_8, .slice a3_8 n3_8 c3_8, .slice d3_8 m3_8 o3_8]) s ∧ Bx3 W g3_8 27 (.bool b3_8) (.slice a3_8 n3_8 c3_8) (.slice d3_8 m3_8 o3_8) ∧ Nw W u3_0 1 ∧ Zw W u3_1 (((1 : Nat) : Int)) ∧ Rw W (.agg #[.bool b4_10, .slice a4_10 n4_10 c4_10, .slice d4_10 m4_10 o4_10]) (x + s) ∧ Bx3 W g4_10 27 (.bool b4_10) (.slice a4_10 n4_10 c4_10) (.slice d4_10 m4_10 o4_10) ∧ Rw W (.agg #[.bool true, .slice a4_11 n4_11 c4_11, .slice d4_11 m4_11 o4_11]) (y - s) ∧ Bx3 W g4_11 27 (.bool true) (.slice a4_11 n4_11 c4_11) (.slice d4_11 m4_11 o4_11) ∧ Rw W u5_4 (x * x) ∧ Rw W u5_12 ((x + s) * (x + s)) ∧ W5.heap.size ≤ W.heap.size) ⟨Good.is _, Good.is _, Good.is _, Good.is _, Good.rat _, Good.is _, Good.is _, Good.is _, Good.is _, Good.is _, Good.is _, Good.is _, Good.is _, Good.is _, Good.is _, Good.is _, Good.is _, Good.is _, Good.is _, Good.is _, Good.is _, Good.is _, Good.is _, Good.is _, trivial⟩
       ⟨E0, p2, hsp, h2_4, p2_7, h3_5, p3_8, h3_0, h3_1, h4_3, p4_10, h4_7, p4_11, h5_4, h5_12, Nat.le_refl _⟩ (A := ?A6) ?hA6 ?howe6 ?hfin6
      case hA6 =>
       intro vs
       simp only [putAll, Act.put, sA, sZ, sS, Nat.zero_add, Nat.reduceAdd]
       exact rfl
      case howe6 =>
       clear E0 p2 hsp h2_4 p2_7 h3_5 p3_8 h3_0 h3_1 h4_3 p4_10 h4_7 p4_11 h5_4 h5_12
       intro hf
       refine ⟨oE 0 [] hf rfl ?_, oE 1 [0] hf rfl ?_, oE 2 [] hf rfl ?_, oE 3 [2] hf rfl ?_, oE 4 [1, 3] hf rfl ?_, oE 5 [] hf rfl ?_, oE 6 [5] hf rfl ?_, oE 7 [4, 6] hf rfl ?_, oE 8 [7] hf rfl ?_, oE 9 [8] hf rfl ?_, oE 10 [9] hf rfl ?_, oE 11 [9, 10] hf rfl ?_, oE 12 [9, 11] hf rfl ?_, oE 13 [9, 12] hf rfl ?_, oE 14 [13] hf rfl ?_, oE 15 [13] hf rfl ?_, oE 16 [13] hf rfl ?_, oE 17 [13] hf rfl ?_, oE 18 [13] hf rfl ?_, oE 19 [13] hf rfl ?_, oE 20 [13] hf rfl ?_, oE 21 [9, 13, 20] hf rfl ?_, oE 22 [9, 21] hf rfl ?_, oE 23 [22] hf rfl ?_, trivial⟩
       all_goals intro vs W hS hp hx KO hKO
       all_goals simp only [Act.put, sA, sZ, sS] at hKO
       ·go_simp; exact hKO _ W (.refl W) rfl
       ·have e0 := isOf hp.1; simp only [e0] at hKO; have fc3 := hS.2.2.2.2.1.cell3; have fc4 := hS.2.2.2.2.1.cell4; have fc5 := hS.2.2.2.2.1.cell5; go_simp; exact hKO _ W (.refl W) rfl
       ·go_simp; exact hKO _ W (.refl W) rfl
       ·have e2 := isOf hp.1; simp only [e2] at hKO; have fc3 := hS.2.2.2.2.1.cell3; have fc4 := hS.2.2.2.2.1.cell4; have fc5 := hS.2.2.2.2.1.cell5; go_simp; exact hKO _ W (.refl W) rfl
       ·have e1 := isOf hp.1; have e3 := isOf hp.2.1; simp only [e1, e3] at hKO; go_simp
        refine (Tryz.refRMul (hS.2.2.2.1.hi) (hS.2.2.2.1.hi) SR.out.2.1 SR.out.2.1 (by omega)).mono ?_
        rintro e W1 ⟨v, rfl, hv, hE⟩
        exact hKO _ W1 hE hv
       ·go_simp; exact hKO _ W (.refl W) rfl
       ·have e5 := isOf hp.1; simp only [e5] at hKO; have fc3 := hS.2.1.cell3; have fc4 := hS.2.1.cell4; have fc5 := hS.2.1.cell5; go_simp; exact hKO _ W (.refl W) rfl
       ·have q4 := hp.1; have e6 := isOf hp.2.1; simp only [e6] at hKO; go_simp
        refine (Tryz.refRCmpR q4 (hS.2.2.1.hi) SQ2.out.2.2.1 SPM.out.2 (by omega) HC.out.2.2.1).mono ?_
        rintro e W1 ⟨rfl, hE⟩
        exact hKO _ W1 hE rfl
       ·have e7 := isOf hp.1; simp only [e7] at hKO; go_simp; exact hKO _ W (Ext.refl W) (by first | rfl | exact congrArg Value.bool HD3.out)
       ·have e8 := isOf hp.1; simp only [e8] at hKO; go_simp; exact hKO _ W (.refl W) rfl
       ·have e9 := isOf hp.1; simp only [e9] at hKO; go_simp; exact hKO _ W (.refl W) rfl
       ·have e9 := isOf hp.1; have e10 := isOf hp.2.1; simp only [e9, e10] at hKO; go_simp; exact hKO _ W (.refl W) rfl
       ·have e9 := isOf hp.1; have e11 := isOf hp.2.1; simp only [e9, e11] at hKO; have fc0 := hS.2.2.2.2.2.2.2.2.2.2.2.2.1.cell0; go_simp; exact hKO _ W (.refl W) rfl
       ·have e9 := isOf hp.1; have e12 := isOf hp.2.1; simp only [e9, e12] at hKO; go_simp; exact hKO _ W (.refl W) rfl
       ·have e13 := isOf hp.1; simp only [e13] at hKO; go_simp; exact hKO _ W (.refl W) rfl
       ·have e13 := isOf hp.1; simp only [e13] at hKO; go_simp; exact hKO _ W (.refl W) rfl
       ·have e13 := isOf hp.1; simp only [e13] at hKO; go_simp; exact hKO _ W (.refl W) rfl
       ·have e13 := isOf hp.1; simp only [e13] at hKO; go_simp; exact hKO _ W (.refl W) rfl
       ·have e13 := isOf hp.1; simp only [e13] at hKO; go_simp; exact hKO _ W (.refl W) rfl
       ·have e13 := isOf hp.1; simp only [e13] at hKO; go_simp; exact hKO _ W (.refl W) rfl
       ·have e13 := isOf hp.1; simp only [e13] at hKO; go_simp; exact hKO _ W (.refl W) rfl
       ·have e9 := isOf hp.1; have e13 := isOf hp.2.1; have e20 := isOf hp.2.2.1; simp only [e9, e13, e20] at hKO; go_simp; exact hKO _ W (.refl W) rfl
       ·have e9 := isOf hp.1; have e21 := isOf hp.2.1; simp only [e9, e21] at hKO; go_simp; exact hKO _ W (.refl W) rfl
       ·have e22 := isOf hp.1; simp only [e22] at hKO; go_simp; exact hKO _ W (.refl W) rfl
      intro vs W6 hS hp
      clear szw6 E0 p2 hsp h2_4 p2_7 h3_5 p3_8 h3_0 h3_1 h4_3 p4_10 h4_7 p4_11 h5_4 h5_12
      obtain ⟨E0, p2, hsp, h2_4, p2_7, h3_5, p3_8, h3_0, h3_1, h4_3, p4_10, h4_7, p4_11, h5_4, h5_12, sz6⟩ := hS
      obtain ⟨h6_0, h6_1, h6_2, h6_3, h6_4, h6_5, h6_6, h6_7, h6_8, h6_9, h6_10, h6_11, h6_12, h6_13, h6_14, h6_15, h6_16, h6_17, h6_18, h6_19, h6_20, h6_21, h6_22, h6_23, -⟩ := hp
      replace h6_0 : vs 0 = .pointer (some ⟨g2_7, 3, none⟩) := h6_0
      replace h6_1 : vs 1 = .agg #[.bool bb2_7, .slice aa2_7 nn2_7 cc2_7, .slice dd2_7 mm2_7 oo2_7] := h6_1
      replace h6_2 : vs 2 = .pointer (some ⟨g2_7, 3, none⟩) := h6_2
      replace h6_3 : vs 3 = .agg #[.bool bb2_7, .slice aa2_7 nn2_7 cc2_7, .slice dd2_7 mm2_7 oo2_7] := h6_3
      replace h6_5 : vs 5 = .pointer (some ⟨w.heap.size, 3, none⟩) := h6_5
      replace h6_6 : vs 6 = .agg #[.bool bb1, .slice aa1 nn1 cc1, .slice dd1 mm1 oo1] := h6_6
      replace h6_7 : vs 7 = .int .i64 cx3 := h6_7
      replace h6_8 : vs 8 = .bool true := h6_8
      replace h6_9 : vs 9 = .bool true := h6_9
      replace h6_10 : vs 10 = .pointer (some ⟨g4_11, 0, none⟩) := h6_10
      replace h6_11 : vs 11 = .pointer (some ⟨g4_11, 0, none⟩) := h6_11
      replace h6_12 : vs 12 = .bool true := h6_12
      replace h6_13 : vs 13 = .bool true := h6_13
      replace h6_14 : vs 14 = undef := h6_14
      replace h6_15 : vs 15 = undef := h6_15
      replace h6_16 : vs 16 = undef := h6_16
      replace h6_17 : vs 17 = undef := h6_17
      replace h6_18 : vs 18 = undef := h6_18
      replace h6_19 : vs 19 = undef := h6_19
      replace h6_20 : vs 20 = undef := h6_20
      replace h6_21 : vs 21 = .bool true := h6_21
      replace h6_22 : vs 22 = .bool true := h6_22
      replace h6_23 : vs 23 = .bool true := h6_23
      simp only [h6_0, h6_1, h6_2, h6_3, h6_5, h6_6, h6_7, h6_8, h6_9, h6_10, h6_11, h6_12, h6_13, h6_14, h6_15, h6_16, h6_17, h6_18, h6_19, h6_20, h6_21, h6_22, h6_23]
      replace h6_4 : Rw W6 (vs 4) (y * y) := h6_4
      generalize vs 4 = u6_4 at h6_4 ⊢
      clear h6_0 h6_1 h6_2 h6_3 h6_5 h6_6 h6_7 h6_8 h6_9 h6_10 h6_11 h6_12 h6_13 h6_14 h6_15 h6_16 h6_17 h6_18 h6_19 h6_20 h6_21 h6_22 h6_23
      obtain ⟨kp2_0, kp2_1, kp2_2, kp2_3, kp2_4, kp2_5⟩ := p2.c6
      obtain ⟨kp2_7_0, kp2_7_1, kp2_7_2, kp2_7_3, kp2_7_4, kp2_7_5⟩ := p2_7.c6
      obtain ⟨kp3_8_0, kp3_8_1, kp3_8_2⟩ := p3_8.c3
      obtain ⟨kp4_10_0, kp4_10_1, kp4_10_2⟩ := p4_10.c3
      obtain ⟨kp4_11_0, kp4_11_1, kp4_11_2⟩ := p4_11.c3
      go_upto_region 12 with (fail)
      clear kp2_0 kp2_1 kp2_2 kp2_3 kp2_4 kp2_5 kp2_7_0 kp2_7_1 kp2_7_2 kp2_7_3 kp2_7_4 kp2_7_5 kp3_8_0 kp3_8_1 kp3_8_2 kp4_10_0 kp4_10_1 kp4_10_2 kp4_11_0 kp4_11_1 kp4_11_2; have szw7 := Ext.size E0
      refine region_gs [.one fun v _ => v = .agg #[.bool false, .slice a2_7 n2_7 c2_7, .slice d2_7 m2_7 o2_7, .bool bb2_7, .slice aa2_7 nn2_7 cc2_7, .slice dd2_7 mm2_7 oo2_7],
        .one fun v _ => v = .int .i64 (K : Int),
        .one fun v W => ∃ v', v = .tuple #[v', .int .i64 0] ∧ (fun v W => Sw W v ((x, y))) v' W,
        .one fun v W => ∃ v', v = .tuple #[v', .int .i64 0] ∧ (fun v W => Sw W v ((x, y))) v' W,
        .one fun v W => Sw W v ((x, y)),
        .one fun v _ => v = .int .i64 0,
        .one fun v W => ∃ g, v = .pointer (some ⟨g, 0, none⟩) ∧ W6.heap.size ≤ g ∧ Form W g 29 6,
        .three 6 4 (fun p r _ W => Put6 W6.heap.size 29 p r W),
        .one fun v _ => v = .int .i64 0]
       (fun W => Ext w W ∧ Bx6 W w.heap.size 29 (.bool false) (.slice a1 n1 c1) (.slice d1 m1 o1) (.bool bb1) (.slice aa1 nn1 cc1) (.slice dd1 mm1 oo1) ∧ Sw W (.agg #[.bool false, .slice a1 n1 c1, .slice d1 m1 o1, .bool bb1, .slice aa1 nn1 cc1, .slice dd1 mm1 oo1]) p ∧ Sw W (.agg #[.bool false, .slice a2_7 n2_7 c2_7, .slice d2_7 m2_7 o2_7, .bool bb2_7, .slice aa2_7 nn2_7 cc2_7, .slice dd2_7 mm2_7 oo2_7]) ((x, y)) ∧ Bx6 W g2_7 29 (.bool false) (.slice a2_7 n2_7 c2_7) (.slice d2_7 m2_7 o2_7) (.bool bb2_7) (.slice aa2_7 nn2_7 cc2_7) (.slice dd2_7 mm2_7 oo2_7) ∧ Rw W (.agg #[.bool b3_8, .slice a3_8 n3_8 c3_8, .slice d3_8 m3_8 o3_8]) s ∧ Bx3 W g3_8 27 (.bool b3_8) (.slice a3_8 n3_8 c3_8) (.slice d3_8 m3_8 o3_8) ∧ Nw W u3_0 1 ∧ Zw W u3_1 (((1 : Nat) : Int)) ∧ Rw W (.agg #[.bool b4_10, .slice a4_10 n4_10 c4_10, .slice d4_10 m4_10 o4_10]) (x + s) ∧ Bx3 W g4_10 27 (.bool b4_10) (.slice a4_10 n4_10 c4_10) (.slice d4_10 m4_10 o4_10) ∧ Rw W (.agg #[.bool true, .slice a4_11 n4_11 c4_11, .slice d4_11 m4_11 o4_11]) (y - s) ∧ Bx3 W g4_11 27 (.bool true) (.slice a4_11 n4_11 c4_11) (.slice d4_11 m4_11 o4_11) ∧ Rw W u5_4 (x * x) ∧ Rw W u5_12 ((x + s) * (x + s)) ∧ Rw W u6_4 (y * y) ∧ W6.heap.size ≤ W.heap.size) ⟨Good.is _, Good.is _, (Good.span _).tup _, (Good.span _).tup _, Good.span _, Good.is _, Good.box _ _ _, cert_put6, Good.is _, trivial⟩
       ⟨E0, p2, hsp, h2_4, p2_7, h3_5, p3_8, h3_0, h3_1, h4_3, p4_10, h4_7, p4_11, h5_4, h5_12, h6_4, Nat.le_refl _⟩ (A := ?A7) ?hA7 ?howe7 ?hfin7
      case hA7 =>
       intro vs
       simp only [putAll, Act.put, sA, sZ, sS, Nat.zero_add, Nat.reduceAdd]
       exact rfl
      case howe7 =>
       clear E0 p2 hsp h2_4 p2_7 h3_5 p3_8 h3_0 h3_1 h4_3 p4_10 h4_7 p4_11 h5_4 h5_12 h6_4
       intro hf
       refine ⟨oE 0 [] hf rfl ?_, oE 1 [] hf rfl ?_, oE 2 [0, 1] hf rfl ?_, oE 3 [2] hf rfl ?_, oE 4 [3] hf rfl ?_, oE 5 [3] hf rfl ?_, oE 6 [] hf rfl ?_, oW 7 [6, 4] hf rfl ?_, oE 8 [5] hf rfl ?_, trivial⟩
       all_goals intro vs W hS hp hx KO hKO
       all_goals simp only [Act.put, sA, sZ, sS] at hKO
       ·have fc0 := hS.2.2.2.2.1.cell0; have fc1 := hS.2.2.2.2.1.cell1; have fc2 := hS.2.2.2.2.1.cell2; have fc3 := hS.2.2.2.2.1.cell3; have fc4 := hS.2.2.2.2.1.cell4; have fc5 := hS.2.2.2.2.1.cell5; go_simp; exact hKO _ W (.refl W) rfl
       ·go_simp; exact hKO _ W (.refl W) rfl
       ·have e0 := isOf hp.1; have e1 := isOf hp.2.1; simp only [e0, e1] at hKO; go_simp
        refine (Tryz.rsOut (hS.2.2.2.1) ⟨SR.out.1, SR.out.2.1⟩ (by omega) K HK.out.1).mono ?_
        rintro e W1 ⟨v, rfl, hv, hE⟩
        rw [HON.out] at hv
        exact hKO _ W1 hE ⟨_, rfl, hv⟩
       ·have q2 := hp.1
        obtain ⟨u, ev, hu⟩ := q2
        replace ev : vs 2 = _ := ev; simp only [ev] at hKO; go_simp; exact hKO _ W (Ext.refl W) ⟨u, rfl, hu⟩
       ·have q3 := hp.1
        obtain ⟨u, ev, hu⟩ := q3
        replace ev : vs 3 = _ := ev; simp only [ev] at hKO; go_simp; exact hKO _ W (Ext.refl W) hu
       ·have q3 := hp.1
        obtain ⟨u, ev, hu⟩ := q3
        replace ev : vs 3 = _ := ev; simp only [ev] at hKO; go_simp; exact hKO _ W (.refl W) rfl
       ·have hn := Bx6.new W 29 (.bool false) (.slice none 0 0) (.slice none 0 0) (.bool false) (.slice none 0 0) (.slice none 0 0)
        have hE := Ext.alloc1 W (.cells #[.bool false, .slice none 0 0, .slice none 0 0, .bool false, .slice none 0 0, .slice none 0 0] 29)
        have hsz := hS.2.2.2.2.2.2.2.2.2.2.2.2.2.2.2.2
        go_simp
        exact hKO _ _ hE ⟨_, rfl, hsz, hn.form⟩
       ·have q6 := hp.1; have q4 := hp.2.1
        obtain ⟨g, ev, hg, hf⟩ := q6
        replace ev : vs 6 = _ := ev
        obtain ⟨x0_0, x0_1, x0_2, x0_3, x0_4, x0_5, hx, hno⟩ := hf.bx6
        have qr := q4
        obtain ⟨b3, a3, n3, c3, d3, m3, o3, bb3, aa3, nn3, cc3, dd3, mm3, oo3, er, -, -⟩ := qr
        replace er : vs 4 = _ := er
        have r0 := hx.froz0
        have t0 := hx.cell0
        have r1 := hx.froz1
        have t1 := hx.cell1
        have r2 := hx.froz2
        have t2 := hx.cell2
        have r3 := hx.froz3
        have t3 := hx.cell3
        have r4 := hx.froz4
        have t4 := hx.cell4
        have r5 := hx.froz5
        have t5 := hx.cell5
        have hw := Wr.set6 hx hno b3 a3 n3 c3 d3 m3 o3 bb3 aa3 nn3 cc3 dd3 mm3 oo3
        have hq := hx.set (.bool b3) (.slice a3 n3 c3) (.slice d3 m3 o3) (.bool bb3) (.slice aa3 nn3 cc3) (.slice dd3 mm3 oo3)
        simp only [ev, er] at hKO; go_simp
        exact hKO _ _ hw ⟨(Ext.wr hS.1 hw (by omega)), (hS.2.1.wr hw (by omega)), (hS.2.2.1.wr hw), (hS.2.2.2.1.wr hw), (hS.2.2.2.2.1.wr hw (by omega)), (hS.2.2.2.2.2.1.wr hw), (hS.2.2.2.2.2.2.1.wr hw (by omega)), (hS.2.2.2.2.2.2.2.1.wr hw), (hS.2.2.2.2.2.2.2.2.1.wr hw), (hS.2.2.2.2.2.2.2.2.2.1.wr hw), (hS.2.2.2.2.2.2.2.2.2.2.1.wr hw (by omega)), (hS.2.2.2.2.2.2.2.2.2.2.2.1.wr hw), (hS.2.2.2.2.2.2.2.2.2.2.2.2.1.wr hw (by omega)), (hS.2.2.2.2.2.2.2.2.2.2.2.2.2.1.wr hw), (hS.2.2.2.2.2.2.2.2.2.2.2.2.2.2.1.wr hw), (hS.2.2.2.2.2.2.2.2.2.2.2.2.2.2.2.1.wr hw), (Nat.le_trans hS.2.2.2.2.2.2.2.2.2.2.2.2.2.2.2.2 hw.apart.size)⟩ ⟨g, b3, a3, n3, c3, d3, m3, o3, bb3, aa3, nn3, cc3, dd3, mm3, oo3, ev, er, hg, hq⟩
       ·have e5 := isOf hp.1; simp only [e5] at hKO; go_simp; exact hKO _ W (.refl W) rfl
      intro vs W7 hS hp
      clear szw7 E0 p2 hsp h2_4 p2_7 h3_5 p3_8 h3_0 h3_1 h4_3 p4_10 h4_7 p4_11 h5_4 h5_12 h6_4
      obtain ⟨E0, p2, hsp, h2_4, p2_7, h3_5, p3_8, h3_0, h3_1, h4_3, p4_10, h4_7, p4_11, h5_4, h5_12, h6_4, sz7⟩ := hS
      obtain ⟨h7_0, h7_1, h7_2, h7_3, h7_4, h7_5, h7_6, h7_7, h7_8, -⟩ := hp
      obtain ⟨g7_7, b7_7, a7_7, n7_7, c7_7, d7_7, m7_7, o7_7, bb7_7, aa7_7, nn7_7, cc7_7, dd7_7, mm7_7, oo7_7, ev7_7, er7_7, hg7_7, p7_7⟩ := h7_7
      replace ev7_7 : vs 6 = _ := ev7_7; replace er7_7 : vs 4 = _ := er7_7; replace h7_4 := (show Sw W7 (vs 4) ((x, y)) from h7_4)
      rw [er7_7] at h7_4
      replace h7_0 : vs 0 = .agg #[.bool false, .slice a2_7 n2_7 c2_7, .slice d2_7 m2_7 o2_7, .bool bb2_7, .slice aa2_7 nn2_7 cc2_7, .slice dd2_7 mm2_7 oo2_7] := h7_0
      replace h7_1 : vs 1 = .int .i64 (K : Int) := h7_1
      replace h7_5 : vs 5 = .int .i64 0 := h7_5
      replace h7_8 : vs 8 = .int .i64 0 := h7_8
      simp only [ev7_7, er7_7, h7_0, h7_1, h7_5, h7_8]
      clear ev7_7 er7_7 h7_0 h7_1 h7_5 h7_8 h7_2 h7_3 h7_6
      obtain ⟨kp2_0, kp2_1, kp2_2, kp2_3, kp2_4, kp2_5⟩ := p2.c6
      obtain ⟨kp2_7_0, kp2_7_1, kp2_7_2, kp2_7_3, kp2_7_4, kp2_7_5⟩ := p2_7.c6
      obtain ⟨kp3_8_0, kp3_8_1, kp3_8_2⟩ := p3_8.c3
      obtain ⟨kp4_10_0, kp4_10_1, kp4_10_2⟩ := p4_10.c3
      obtain ⟨kp4_11_0, kp4_11_1, kp4_11_2⟩ := p4_11.c3
      obtain ⟨kp7_7_0, kp7_7_1, kp7_7_2, kp7_7_3, kp7_7_4, kp7_7_5⟩ := p7_7.c6
      go_wp2_with fail
      clear kp2_0 kp2_1 kp2_2 kp2_3 kp2_4 kp2_5 kp2_7_0 kp2_7_1 kp2_7_2 kp2_7_3 kp2_7_4 kp2_7_5 kp3_8_0 kp3_8_1 kp3_8_2 kp4_10_0 kp4_10_1 kp4_10_2 kp4_11_0 kp4_11_1 kp4_11_2 kp7_7_0 kp7_7_1 kp7_7_2 kp7_7_3 kp7_7_4 kp7_7_5
      refine (Tryz.alive07 _).mono ?_
      rintro e Wz ⟨rfl, hE⟩
      replace E0 := (Ext.trans E0 hE); replace p2 := (p2.ext hE); replace hsp := (hsp.ext hE); replace h2_4 := (h2_4.ext hE); replace p2_7 := (p2_7.ext hE); replace h3_5 := (h3_5.ext hE); replace p3_8 := (p3_8.ext hE); replace h3_0 := (h3_0.ext hE); replace h3_1 := (h3_1.ext hE); replace h4_3 := (h4_3.ext hE); replace p4_10 := (p4_10.ext hE); replace h4_7 := (h4_7.ext hE); replace p4_11 := (p4_11.ext hE); replace h5_4 := (h5_4.ext hE); replace h5_12 := (h5_12.ext hE); replace h6_4 := (h6_4.ext hE); replace h7_4 := (h7_4.ext hE); replace p7_7 := (p7_7.ext hE); clear hE
      obtain ⟨kp2_0, kp2_1, kp2_2, kp2_3, kp2_4, kp2_5⟩ := p2.c6
      obtain ⟨kp2_7_0, kp2_7_1, kp2_7_2, kp2_7_3, kp2_7_4, kp2_7_5⟩ := p2_7.c6
      obtain ⟨kp3_8_0, kp3_8_1, kp3_8_2⟩ := p3_8.c3
      obtain ⟨kp4_10_0, kp4_10_1, kp4_10_2⟩ := p4_10.c3
      obtain ⟨kp4_11_0, kp4_11_1, kp4_11_2⟩ := p4_11.c3
      obtain ⟨kp7_7_0, kp7_7_1, kp7_7_2, kp7_7_3, kp7_7_4, kp7_7_5⟩ := p7_7.c6
      go_wp2_with fail
      clear kp2_0 kp2_1 kp2_2 kp2_3 kp2_4 kp2_5 kp2_7_0 kp2_7_1 kp2_7_2 kp2_7_3 kp2_7_4 kp2_7_5 kp3_8_0 kp3_8_1 kp3_8_2 kp4_10_0 kp4_10_1 kp4_10_2 kp4_11_0 kp4_11_1 kp4_11_2 kp7_7_0 kp7_7_1 kp7_7_2 kp7_7_3 kp7_7_4 kp7_7_5
      refine (Tryz.rsSameT h7_4 h2_4 rfl).mono ?_
      rintro e Wy ⟨rfl, hE⟩
      replace E0 := (Ext.trans E0 hE); replace p2 := (p2.ext hE); replace hsp := (hsp.ext hE); replace h2_4 := (h2_4.ext hE); replace p2_7 := (p2_7.ext hE); replace h3_5 := (h3_5.ext hE); replace p3_8 := (p3_8.ext hE); replace h3_0 := (h3_0.ext hE); replace h3_1 := (h3_1.ext hE); replace h4_3 := (h4_3.ext hE); replace p4_10 := (p4_10.ext hE); replace h4_7 := (h4_7.ext hE); replace p4_11 := (p4_11.ext hE); replace h5_4 := (h5_4.ext hE); replace h5_12 := (h5_12.ext hE); replace h6_4 := (h6_4.ext hE); replace h7_4 := (h7_4.ext hE); replace p7_7 := (p7_7.ext hE); clear hE
      obtain ⟨kp2_0, kp2_1, kp2_2, kp2_3, kp2_4, kp2_5⟩ := p2.c6
      obtain ⟨kp2_7_0, kp2_7_1, kp2_7_2, kp2_7_3, kp2_7_4, kp2_7_5⟩ := p2_7.c6
      obtain ⟨kp3_8_0, kp3_8_1, kp3_8_2⟩ := p3_8.c3
      obtain ⟨kp4_10_0, kp4_10_1, kp4_10_2⟩ := p4_10.c3
      obtain ⟨kp4_11_0, kp4_11_1, kp4_11_2⟩ := p4_11.c3
      obtain ⟨kp7_7_0, kp7_7_1, kp7_7_2, kp7_7_3, kp7_7_4, kp7_7_5⟩ := p7_7.c6
      clear hsp h2_4 h3_5 h3_0 h3_1 h4_3 h4_7 h5_4 h5_12 h6_4 h7_4; go_wp2; go_ret
      exact ⟨rfl, E0⟩
     ·have HM0 := Lib.hid hm0
      clear hm0
      cases b4_11
      ·clear hbs
       obtain ⟨kp2_0, kp2_1, kp2_2, kp2_3, kp2_4, kp2_5⟩ := p2.c6
       obtain ⟨kp2_7_0, kp2_7_1, kp2_7_2, kp2_7_3, kp2_7_4, kp2_7_5⟩ := p2_7.c6
       obtain ⟨kp3_8_0, kp3_8_1, kp3_8_2⟩ := p3_8.c3
       obtain ⟨kp4_10_0, kp4_10_1, kp4_10_2⟩ := p4_10.c3
       obtain ⟨kp4_11_0, kp4_11_1, kp4_11_2⟩ := p4_11.c3
       go_upto_region 11 with (fail)
       clear kp2_0 kp2_1 kp2_2 kp2_3 kp2_4 kp2_5 kp2_7_0 kp2_7_1 kp2_7_2 kp2_7_3 kp2_7_4 kp2_7_5 kp3_8_0 kp3_8_1 kp3_8_2 kp4_10_0 kp4_10_1 kp4_10_2 kp4_11_0 kp4_11_1 kp4_11_2; have szw8 := Ext.size E0
       refine region_gs [.one fun v _ => v = .pointer (some ⟨g2_7, 3, none⟩),
         .one fun v _ => v = .agg #[.bool bb2_7, .slice aa2_7 nn2_7 cc2_7, .slice dd2_7 mm2_7 oo2_7],
         .one fun v _ => v = .pointer (some ⟨g2_7, 3, none⟩),
         .one fun v _ => v = .agg #[.bool bb2_7, .slice aa2_7 nn2_7 cc2_7, .slice dd2_7 mm2_7 oo2_7],
         .one fun v W => Rw W v (y * y),
         .one fun v _ => v = .pointer (some ⟨w.heap.size, 3, none⟩),
         .one fun v _ => v = .agg #[.bool bb1, .slice aa1 nn1 cc1, .slice dd1 mm1 oo1],
         .one fun v _ => v = .int .i64 cx3,
         .one fun v _ => v = .bool true,
         .one fun v _ => v = .bool true,
         .one fun v _ => v = .pointer (some ⟨g4_11, 0, none⟩),
         .one fun v _ => v = .pointer (some ⟨g4_11, 0, none⟩),
         .one fun v _ => v = .bool false,
         .one fun v _ => v = .bool false,
         .one fun v _ => v = .agg #[.bool false, .slice a4_11 n4_11 c4_11, .slice d4_11 m4_11 o4_11],
         .one fun v _ => v = .agg #[.bool false, .slice a4_11 n4_11 c4_11, .slice d4_11 m4_11 o4_11],
         .one fun v W => Rw W v ((y - s) * (y - s)),
         .one fun v _ => v = .pointer (some ⟨w.heap.size, 3, none⟩),
         .one fun v _ => v = .agg #[.bool bb1, .slice aa1 nn1 cc1, .slice dd1 mm1 oo1],
         .one fun v _ => v = .int .i64 cx4,
         .one fun v _ => v = .bool true,
         .one fun v _ => v = .bool true,
         .one fun v _ => v = .bool true,
         .one fun v _ => v = .bool true]
        (fun W => Ext w W ∧ Bx6 W w.heap.size 29 (.bool false) (.slice a1 n1 c1) (.slice d1 m1 o1) (.bool bb1) (.slice aa1 nn1 cc1) (.slice dd1 mm1 oo1) ∧ Sw W (.agg #[.bool false, .slice a1 n1 c1, .slice d1 m1 o1, .bool bb1, .slice aa1 nn1 cc1, .slice dd1 mm1 oo1]) p ∧ Sw W (.agg #[.bool false, .slice a2_7 n2_7 c2_7, .slice d2_7 m2_7 o2_7, .bool bb2_7, .slice aa2_7 nn2_7 cc2_7, .slice dd2_7 mm2_7 oo2_7]) ((x, y)) ∧ Bx6 W g2_7 29 (.bool false) (.slice a2_7 n2_7 c2_7) (.slice d2_7 m2_7 o2_7) (.bool bb2_7) (.slice aa2_7 nn2_7 cc2_7) (.slice dd2_7 mm2_7 oo2_7) ∧ Rw W (.agg #[.bool b3_8, .slice a3_8 n3_8 c3_8, .slice d3_8 m3_8 o3_8]) s ∧ Bx3 W g3_8 27 (.bool b3_8) (.slice a3_8 n3_8 c3_8) (.slice d3_8 m3_8 o3_8) ∧ Nw W u3_0 1 ∧ Zw W u3_1 (((1 : Nat) : Int)) ∧ Rw W (.agg #[.bool b4_10, .slice a4_10 n4_10 c4_10, .slice d4_10 m4_10 o4_10]) (x + s) ∧ Bx3 W g4_10 27 (.bool b4_10) (.slice a4_10 n4_10 c4_10) (.slice d4_10 m4_10 o4_10) ∧ Rw W (.agg #[.bool false, .slice a4_11 n4_11 c4_11, .slice d4_11 m4_11 o4_11]) (y - s) ∧ Bx3 W g4_11 27 (.bool false) (.slice a4_11 n4_11 c4_11) (.slice d4_11 m4_11 o4_11) ∧ Rw W u5_4 (x * x) ∧ Rw W u5_12 ((x + s) * (x + s)) ∧ W5.heap.size ≤ W.heap.size) ⟨Good.is _, Good.is _, Good.is _, Good.is _, Good.rat _, Good.is _, Good.is _, Good.is _, Good.is _, Good.is _, Good.is _, Good.is _, Good.is _, Good.is _, Good.is _, Good.is _, Good.rat _, Good.is _, Good.is _, Good.is _, Good.is _, Good.is _, Good.is _, Good.is _, trivial⟩
        ⟨E0, p2, hsp, h2_4, p2_7, h3_5, p3_8, h3_0, h3_1, h4_3, p4_10, h4_7, p4_11, h5_4, h5_12, Nat.le_refl _⟩ (A := ?A8) ?hA8 ?howe8 ?hfin8
       case hA8 =>
        intro vs
        simp only [putAll, Act.put, sA, sZ, sS, Nat.zero_add, Nat.reduceAdd]
        exact rfl
       case howe8 =>
        clear E0 p2 hsp h2_4 p2_7 h3_5 p3_8 h3_0 h3_1 h4_3 p4_10 h4_7 p4_11 h5_4 h5_12
        intro hf
        refine ⟨oE 0 [] hf rfl ?_, oE 1 [0] hf rfl ?_, oE 2 [] hf rfl ?_, oE 3 [2] hf rfl ?_, oE 4 [1, 3] hf rfl ?_, oE 5 [] hf rfl ?_, oE 6 [5] hf rfl ?_, oE 7 [4, 6] hf rfl ?_, oE 8 [7] hf rfl ?_, oE 9 [8] hf rfl ?_, oE 10 [9] hf rfl ?_, oE 11 [9, 10] hf rfl ?_, oE 12 [9, 11] hf rfl ?_, oE 13 [9, 12] hf rfl ?_, oE 14 [13] hf rfl ?_, oE 15 [13] hf rfl ?_, oE 16 [13, 14, 15] hf rfl ?_, oE 17 [13] hf rfl ?_, oE 18 [13, 17] hf rfl ?_, oE 19 [13, 16, 18] hf rfl ?_, oE 20 [13, 19] hf rfl ?_, oE 21 [9, 13, 20] hf rfl ?_, oE 22 [9, 21] hf rfl ?_, oE 23 [22] hf rfl ?_, trivial⟩
        all_goals intro vs W hS hp hx KO hKO
        all_goals simp only [Act.put, sA, sZ, sS] at hKO
        ·go_simp; exact hKO _ W (.refl W) rfl
        ·have e0 := isOf hp.1; simp only [e0] at hKO; have fc3 := hS.2.2.2.2.1.cell3; have fc4 := hS.2.2.2.2.1.cell4; have fc5 := hS.2.2.2.2.1.cell5; go_simp; exact hKO _ W (.refl W) rfl
        ·go_simp; exact hKO _ W (.refl W) rfl
        ·have e2 := isOf hp.1; simp only [e2] at hKO; have fc3 := hS.2.2.2.2.1.cell3; have fc4 := hS.2.2.2.2.1.cell4; have fc5 := hS.2.2.2.2.1.cell5; go_simp; exact hKO _ W (.refl W) rfl
        ·have e1 := isOf hp.1; have e3 := isOf hp.2.1; simp only [e1, e3] at hKO; go_simp
         refine (Tryz.refRMul (hS.2.2.2.1.hi) (hS.2.2.2.1.hi) SR.out.2.1 SR.out.2.1 (by omega)).mono ?_
         rintro e W1 ⟨v, rfl, hv, hE⟩
         exact hKO _ W1 hE hv
        ·go_simp; exact hKO _ W (.refl W) rfl
        ·have e5 := isOf hp.1; simp only [e5] at hKO; have fc3 := hS.2.1.cell3; have fc4 := hS.2.1.cell4; have fc5 := hS.2.1.cell5; go_simp; exact hKO _ W (.refl W) rfl
        ·have q4 := hp.1; have e6 := isOf hp.2.1; simp only [e6] at hKO; go_simp
         refine (Tryz.refRCmpR q4 (hS.2.2.1.hi) SQ2.out.2.2.1 SPM.out.2 (by omega) HC.out.2.2.1).mono ?_
         rintro e W1 ⟨rfl, hE⟩
         exact hKO _ W1 hE rfl
        ·have e7 := isOf hp.1; simp only [e7] at hKO; go_simp; exact hKO _ W (Ext.refl W) (by first | rfl | exact congrArg Value.bool HD3.out)
        ·have e8 := isOf hp.1; simp only [e8] at hKO; go_simp; exact hKO _ W (.refl W) rfl
        ·have e9 := isOf hp.1; simp only [e9] at hKO; go_simp; exact hKO _ W (.refl W) rfl
        ·have e9 := isOf hp.1; have e10 := isOf hp.2.1; simp only [e9, e10] at hKO; go_simp; exact hKO _ W (.refl W) rfl
        ·have e9 := isOf hp.1; have e11 := isOf hp.2.1; simp only [e9, e11] at hKO; have fc0 := hS.2.2.2.2.2.2.2.2.2.2.2.2.1.cell0; go_simp; exact hKO _ W (.refl W) rfl
        ·have e9 := isOf hp.1; have e12 := isOf hp.2.1; simp only [e9, e12] at hKO; go_simp; exact hKO _ W (.refl W) rfl
        ·have e13 := isOf hp.1; simp only [e13] at hKO; have fc0 := hS.2.2.2.2.2.2.2.2.2.2.2.2.1.cell0; have fc1 := hS.2.2.2.2.2.2.2.2.2.2.2.2.1.cell1; have fc2 := hS.2.2.2.2.2.2.2.2.2.2.2.2.1.cell2; go_simp; exact hKO _ W (.refl W) rfl
        ·have e13 := isOf hp.1; simp only [e13] at hKO; have fc0 := hS.2.2.2.2.2.2.2.2.2.2.2.2.1.cell0; have fc1 := hS.2.2.2.2.2.2.2.2.2.2.2.2.1.cell1; have fc2 := hS.2.2.2.2.2.2.2.2.2.2.2.2.1.cell2; go_simp; exact hKO _ W (.refl W) rfl
        ·have e13 := isOf hp.1; have e14 := isOf hp.2.1; have e15 := isOf hp.2.2.1; simp only [e13, e14, e15] at hKO; go_simp
         refine (Tryz.refRMul (hS.2.2.2.2.2.2.2.2.2.2.2.1) (hS.2.2.2.2.2.2.2.2.2.2.2.1) SM.out.2 SM.out.2 (by omega)).mono ?_
         rintro e W1 ⟨v, rfl, hv, hE⟩
         exact hKO _ W1 hE hv
        ·have e13 := isOf hp.1; simp only [e13] at hKO; go_simp; exact hKO _ W (.refl W) rfl
        ·have e13 := isOf hp.1; have e17 := isOf hp.2.1; simp only [e13, e17] at hKO; have fc3 := hS.2.1.cell3; have fc4 := hS.2.1.cell4; have fc5 := hS.2.1.cell5; go_simp; exact hKO _ W (.refl W) rfl
        ·have e13 := isOf hp.1; have q16 := hp.2.1; have e18 := isOf hp.2.2.1; simp only [e13, e18] at hKO; go_simp
         refine (Tryz.refRCmpR q16 (hS.2.2.1.hi) SQ2.out.2.2.2 SPM.out.2 (by omega) HC.out.2.2.2).mono ?_
         rintro e W1 ⟨rfl, hE⟩
         exact hKO _ W1 hE rfl
        ·have e13 := isOf hp.1; have e19 := isOf hp.2.1; simp only [e13, e19] at hKO; go_simp; exact hKO _ W (Ext.refl W) (by first | rfl | exact congrArg Value.bool (HD4.out HM0.out))
        ·have e9 := isOf hp.1; have e13 := isOf hp.2.1; have e20 := isOf hp.2.2.1; simp only [e9, e13, e20] at hKO; go_simp; exact hKO _ W (.refl W) rfl
        ·have e9 := isOf hp.1; have e21 := isOf hp.2.1; simp only [e9, e21] at hKO; go_simp; exact hKO _ W (.refl W) rfl
        ·have e22 := isOf hp.1; simp only [e22] at hKO; go_simp; exact hKO _ W (.refl W) rfl
       intro vs W8 hS hp
       clear szw8 E0 p2 hsp h2_4 p2_7 h3_5 p3_8 h3_0 h3_1 h4_3 p4_10 h4_7 p4_11 h5_4 h5_12
       obtain ⟨E0, p2, hsp, h2_4, p2_7, h3_5, p3_8, h3_0, h3_1, h4_3, p4_10, h4_7, p4_11, h5_4, h5_12, sz8⟩ := hS
       obtain ⟨h8_0, h8_1, h8_2, h8_3, h8_4, h8_5, h8_6, h8_7, h8_8, h8_9, h8_10, h8_11, h8_12, h8_13, h8_14, h8_15, h8_16, h8_17, h8_18, h8_19, h8_20, h8_21, h8_22, h8_23, -⟩ := hp
       replace h8_0 : vs 0 = .pointer (some ⟨g2_7, 3, none⟩) := h8_0
       replace h8_1 : vs 1 = .agg #[.bool bb2_7, .slice aa2_7 nn2_7 cc2_7, .slice dd2_7 mm2_7 oo2_7] := h8_1
       replace h8_2 : vs 2 = .pointer (some ⟨g2_7, 3, none⟩) := h8_2
       replace h8_3 : vs 3 = .agg #[.bool bb2_7, .slice aa2_7 nn2_7 cc2_7, .slice dd2_7 mm2_7 oo2_7] := h8_3
       replace h8_5 : vs 5 = .pointer (some ⟨w.heap.size, 3, none⟩) := h8_5
       replace h8_6 : vs 6 = .agg #[.bool bb1, .slice aa1 nn1 cc1, .slice dd1 mm1 oo1] := h8_6
       replace h8_7 : vs 7 = .int .i64 cx3 := h8_7
       replace h8_8 : vs 8 = .bool true := h8_8
       replace h8_9 : vs 9 = .bool true := h8_9
       replace h8_10 : vs 10 = .pointer (some ⟨g4_11, 0, none⟩) := h8_10
       replace h8_11 : vs 11 = .pointer (some ⟨g4_11, 0, none⟩) := h8_11
       replace h8_12 : vs 12 = .bool false := h8_12
       replace h8_13 : vs 13 = .bool false := h8_13
       replace h8_14 : vs 14 = .agg #[.bool false, .slice a4_11 n4_11 c4_11, .slice d4_11 m4_11 o4_11] := h8_14
       replace h8_15 : vs 15 = .agg #[.bool false, .slice a4_11 n4_11 c4_11, .slice d4_11 m4_11 o4_11] := h8_15
       replace h8_17 : vs 17 = .pointer (some ⟨w.heap.size, 3, none⟩) := h8_17
       replace h8_18 : vs 18 = .agg #[.bool bb1, .slice aa1 nn1 cc1, .slice dd1 mm1 oo1] := h8_18
       replace h8_19 : vs 19 = .int .i64 cx4 := h8_19
       replace h8_20 : vs 20 = .bool true := h8_20
       replace h8_21 : vs 21 = .bool true := h8_21
       replace h8_22 : vs 22 = .bool true := h8_22
       replace h8_23 : vs 23 = .bool true := h8_23
       simp only [h8_0, h8_1, h8_2, h8_3, h8_5, h8_6, h8_7, h8_8, h8_9, h8_10, h8_11, h8_12, h8_13, h8_14, h8_15, h8_17, h8_18, h8_19, h8_20, h8_21, h8_22, h8_23]
       replace h8_4 : Rw W8 (vs 4) (y * y) := h8_4
       generalize vs 4 = u8_4 at h8_4 ⊢
       replace h8_16 : Rw W8 (vs 16) ((y - s) * (y - s)) := h8_16
       generalize vs 16 = u8_16 at h8_16 ⊢
       clear h8_0 h8_1 h8_2 h8_3 h8_5 h8_6 h8_7 h8_8 h8_9 h8_10 h8_11 h8_12 h8_13 h8_14 h8_15 h8_17 h8_18 h8_19 h8_20 h8_21 h8_22 h8_23
       obtain ⟨kp2_0, kp2_1, kp2_2, kp2_3, kp2_4, kp2_5⟩ := p2.c6
       obtain ⟨kp2_7_0, kp2_7_1, kp2_7_2, kp2_7_3, kp2_7_4, kp2_7_5⟩ := p2_7.c6
       obtain ⟨kp3_8_0, kp3_8_1, kp3_8_2⟩ := p3_8.c3
       obtain ⟨kp4_10_0, kp4_10_1, kp4_10_2⟩ := p4_10.c3
       obtain ⟨kp4_11_0, kp4_11_1, kp4_11_2⟩ := p4_11.c3
       go_upto_region 12 with (fail)
       clear kp2_0 kp2_1 kp2_2 kp2_3 kp2_4 kp2_5 kp2_7_0 kp2_7_1 kp2_7_2 kp2_7_3 kp2_7_4 kp2_7_5 kp3_8_0 kp3_8_1 kp3_8_2 kp4_10_0 kp4_10_1 kp4_10_2 kp4_11_0 kp4_11_1 kp4_11_2; have szw9 := Ext.size E0
       refine region_gs [.one fun v _ => v = .agg #[.bool false, .slice a2_7 n2_7 c2_7, .slice d2_7 m2_7 o2_7, .bool bb2_7, .slice aa2_7 nn2_7 cc2_7, .slice dd2_7 mm2_7 oo2_7],
         .one fun v _ => v = .int .i64 (K : Int),
         .one fun v W => ∃ v', v = .tuple #[v', .int .i64 0] ∧ (fun v W => Sw W v ((x, y))) v' W,
         .one fun v W => ∃ v', v = .tuple #[v', .int .i64 0] ∧ (fun v W => Sw W v ((x, y))) v' W,
         .one fun v W => Sw W v ((x, y)),
         .one fun v _ => v = .int .i64 0,
         .one fun v W => ∃ g, v = .pointer (some ⟨g, 0, none⟩) ∧ W8.heap.size ≤ g ∧ Form W g 29 6,
         .three 6 4 (fun p r _ W => Put6 W8.heap.size 29 p r W),
         .one fun v _ => v = .int .i64 0]
        (fun W => Ext w W ∧ Bx6 W w.heap.size 29 (.bool false) (.slice a1 n1 c1) (.slice d1 m1 o1) (.bool bb1) (.slice aa1 nn1 cc1) (.slice dd1 mm1 oo1) ∧ Sw W (.agg #[.bool false, .slice a1 n1 c1, .slice d1 m1 o1, .bool bb1, .slice aa1 nn1 cc1, .slice dd1 mm1 oo1]) p ∧ Sw W (.agg #[.bool false, .slice a2_7 n2_7 c2_7, .slice d2_7 m2_7 o2_7, .bool bb2_7, .slice aa2_7 nn2_7 cc2_7, .slice dd2_7 mm2_7 oo2_7]) ((x, y)) ∧ Bx6 W g2_7 29 (.bool false) (.slice a2_7 n2_7 c2_7) (.slice d2_7 m2_7 o2_7) (.bool bb2_7) (.slice aa2_7 nn2_7 cc2_7) (.slice dd2_7 mm2_7 oo2_7) ∧ Rw W (.agg #[.bool b3_8, .slice a3_8 n3_8 c3_8, .slice d3_8 m3_8 o3_8]) s ∧ Bx3 W g3_8 27 (.bool b3_8) (.slice a3_8 n3_8 c3_8) (.slice d3_8 m3_8 o3_8) ∧ Nw W u3_0 1 ∧ Zw W u3_1 (((1 : Nat) : Int)) ∧ Rw W (.agg #[.bool b4_10, .slice a4_10 n4_10 c4_10, .slice d4_10 m4_10 o4_10]) (x + s) ∧ Bx3 W g4_10 27 (.bool b4_10) (.slice a4_10 n4_10 c4_10) (.slice d4_10 m4_10 o4_10) ∧ Rw W (.agg #[.bool false, .slice a4_11 n4_11 c4_11, .slice d4_11 m4_11 o4_11]) (y - s) ∧ Bx3 W g4_11 27 (.bool false) (.slice a4_11 n4_11 c4_11) (.slice d4_11 m4_11 o4_11) ∧ Rw W u5_4 (x * x) ∧ Rw W u5_12 ((x + s) * (x + s)) ∧ Rw W u8_4 (y * y) ∧ Rw W u8_16 ((y - s) * (y - s)) ∧ W8.heap.size ≤ W.heap.size) ⟨Good.is _, Good.is _, (Good.span _).tup _, (Good.span _).tup _, Good.span _, Good.is _, Good.box _ _ _, cert_put6, Good.is _, trivial⟩
        ⟨E0, p2, hsp, h2_4, p2_7, h3_5, p3_8, h3_0, h3_1, h4_3, p4_10, h4_7, p4_11, h5_4, h5_12, h8_4, h8_16, Nat.le_refl _⟩ (A := ?A9) ?hA9 ?howe9 ?hfin9
       case hA9 =>
        intro vs
        simp only [putAll, Act.put, sA, sZ, sS, Nat.zero_add, Nat.reduceAdd]
        exact rfl
       case howe9 =>
        clear E0 p2 hsp h2_4 p2_7 h3_5 p3_8 h3_0 h3_1 h4_3 p4_10 h4_7 p4_11 h5_4 h5_12 h8_4 h8_16
        intro hf
        refine ⟨oE 0 [] hf rfl ?_, oE 1 [] hf rfl ?_, oE 2 [0, 1] hf rfl ?_, oE 3 [2] hf rfl ?_, oE 4 [3] hf rfl ?_, oE 5 [3] hf rfl ?_, oE 6 [] hf rfl ?_, oW 7 [6, 4] hf rfl ?_, oE 8 [5] hf rfl ?_, trivial⟩
        all_goals intro vs W hS hp hx KO hKO
        all_goals simp only [Act.put, sA, sZ, sS] at hKO
        ·have fc0 := hS.2.2.2.2.1.cell0; have fc1 := hS.2.2.2.2.1.cell1; have fc2 := hS.2.2.2.2.1.cell2; have fc3 := hS.2.2.2.2.1.cell3; have fc4 := hS.2.2.2.2.1.cell4; have fc5 := hS.2.2.2.2.1.cell5; go_simp; exact hKO _ W (.refl W) rfl
        ·go_simp; exact hKO _ W (.refl W) rfl
        ·have e0 := isOf hp.1; have e1 := isOf hp.2.1; simp only [e0, e1] at hKO; go_simp
         refine (Tryz.rsOut (hS.2.2.2.1) ⟨SR.out.1, SR.out.2.1⟩ (by omega) K HK.out.1).mono ?_
         rintro e W1 ⟨v, rfl, hv, hE⟩
         rw [HON.out] at hv
         exact hKO _ W1 hE ⟨_, rfl, hv⟩
        ·have q2 := hp.1
         obtain ⟨u, ev, hu⟩ := q2
         replace ev : vs 2 = _ := ev; simp only [ev] at hKO; go_simp; exact hKO _ W (Ext.refl W) ⟨u, rfl, hu⟩
        ·have q3 := hp.1
         obtain ⟨u, ev, hu⟩ := q3
         replace ev : vs 3 = _ := ev; simp only [ev] at hKO; go_simp; exact hKO _ W (Ext.refl W) hu
        ·have q3 := hp.1
         obtain ⟨u, ev, hu⟩ := q3
         replace ev : vs 3 = _ := ev; simp only [ev] at hKO; go_simp; exact hKO _ W (.refl W) rfl
        ·have hn := Bx6.new W 29 (.bool false) (.slice none 0 0) (.slice none 0 0) (.bool false) (.slice none 0 0) (.slice none 0 0)
         have hE := Ext.alloc1 W (.cells #[.bool false, .slice none 0 0, .slice none 0 0, .bool false, .slice none 0 0, .slice none 0 0] 29)
         have hsz := hS.2.2.2.2.2.2.2.2.2.2.2.2.2.2.2.2.2
         go_simp
         exact hKO _ _ hE ⟨_, rfl, hsz, hn.form⟩
        ·have q6 := hp.1; have q4 := hp.2.1
         obtain ⟨g, ev, hg, hf⟩ := q6
         replace ev : vs 6 = _ := ev
         obtain ⟨x0_0, x0_1, x0_2, x0_3, x0_4, x0_5, hx, hno⟩ := hf.bx6
         have qr := q4
         obtain ⟨b3, a3, n3, c3, d3, m3, o3, bb3, aa3, nn3, cc3, dd3, mm3, oo3, er, -, -⟩ := qr
         replace er : vs 4 = _ := er
         have r0 := hx.froz0
         have t0 := hx.cell0
         have r1 := hx.froz1
         have t1 := hx.cell1
         have r2 := hx.froz2
         have t2 := hx.cell2
         have r3 := hx.froz3
         have t3 := hx.cell3
         have r4 := hx.froz4
         have t4 := hx.cell4
         have r5 := hx.froz5
         have t5 := hx.cell5
         have hw := Wr.set6 hx hno b3 a3 n3 c3 d3 m3 o3 bb3 aa3 nn3 cc3 dd3 mm3 oo3
         have hq := hx.set (.bool b3) (.slice a3 n3 c3) (.slice d3 m3 o3) (.bool bb3) (.slice aa3 nn3 cc3) (.slice dd3 mm3 oo3)
         simp only [ev, er] at hKO; go_simp
         exact hKO _ _ hw ⟨(Ext.wr hS.1 hw (by omega)), (hS.2.1.wr hw (by omega)), (hS.2.2.1.wr hw), (hS.2.2.2.1.wr hw), (hS.2.2.2.2.1.wr hw (by omega)), (hS.2.2.2.2.2.1.wr hw), (hS.2.2.2.2.2.2.1.wr hw (by omega)), (hS.2.2.2.2.2.2.2.1.wr hw), (hS.2.2.2.2.2.2.2.2.1.wr hw), (hS.2.2.2.2.2.2.2.2.2.1.wr hw), (hS.2.2.2.2.2.2.2.2.2.2.1.wr hw (by omega)), (hS.2.2.2.2.2.2.2.2.2.2.2.1.wr hw), (hS.2.2.2.2.2.2.2.2.2.2.2.2.1.wr hw (by omega)), (hS.2.2.2.2.2.2.2.2.2.2.2.2.2.1.wr hw), (hS.2.2.2.2.2.2.2.2.2.2.2.2.2.2.1.wr hw), (hS.2.2.2.2.2.2.2.2.2.2.2.2.2.2.2.1.wr hw), (hS.2.2.2.2.2.2.2.2.2.2.2.2.2.2.2.2.1.wr hw), (Nat.le_trans hS.2.2.2.2.2.2.2.2.2.2.2.2.2.2.2.2.2 hw.apart.size)⟩ ⟨g, b3, a3, n3, c3, d3, m3, o3, bb3, aa3, nn3, cc3, dd3, mm3, oo3, ev, er, hg, hq⟩
        ·have e5 := isOf hp.1; simp only [e5] at hKO; go_simp; exact hKO _ W (.refl W) rfl
       intro vs W9 hS hp
       clear szw9 E0 p2 hsp h2_4 p2_7 h3_5 p3_8 h3_0 h3_1 h4_3 p4_10 h4_7 p4_11 h5_4 h5_12 h8_4 h8_16
       obtain ⟨E0, p2, hsp, h2_4, p2_7, h3_5, p3_8, h3_0, h3_1, h4_3, p4_10, h4_7, p4_11, h5_4, h5_12, h8_4, h8_16, sz9⟩ := hS
       obtain ⟨h9_0, h9_1, h9_2, h9_3, h9_4, h9_5, h9_6, h9_7, h9_8, -⟩ := hp
       obtain ⟨g9_7, b9_7, a9_7, n9_7, c9_7, d9_7, m9_7, o9_7, bb9_7, aa9_7, nn9_7, cc9_7, dd9_7, mm9_7, oo9_7, ev9_7, er9_7, hg9_7, p9_7⟩ := h9_7
       replace ev9_7 : vs 6 = _ := ev9_7; replace er9_7 : vs 4 = _ := er9_7; replace h9_4 := (show Sw W9 (vs 4) ((x, y)) from h9_4)
       rw [er9_7] at h9_4
       replace h9_0 : vs 0 = .agg #[.bool false, .slice a2_7 n2_7 c2_7, .slice d2_7 m2_7 o2_7, .bool bb2_7, .slice aa2_7 nn2_7 cc2_7, .slice dd2_7 mm2_7 oo2_7] := h9_0
       replace h9_1 : vs 1 = .int .i64 (K : Int) := h9_1
       replace h9_5 : vs 5 = .int .i64 0 := h9_5
       replace h9_8 : vs 8 = .int .i64 0 := h9_8
       simp only [ev9_7, er9_7, h9_0, h9_1, h9_5, h9_8]
       clear ev9_7 er9_7 h9_0 h9_1 h9_5 h9_8 h9_2 h9_3 h9_6
       obtain ⟨kp2_0, kp2_1, kp2_2, kp2_3, kp2_4, kp2_5⟩ := p2.c6
       obtain ⟨kp2_7_0, kp2_7_1, kp2_7_2, kp2_7_3, kp2_7_4, kp2_7_5⟩ := p2_7.c6
       obtain ⟨kp3_8_0, kp3_8_1, kp3_8_2⟩ := p3_8.c3
       obtain ⟨kp4_10_0, kp4_10_1, kp4_10_2⟩ := p4_10.c3
       obtain ⟨kp4_11_0, kp4_11_1, kp4_11_2⟩ := p4_11.c3
       obtain ⟨kp9_7_0, kp9_7_1, kp9_7_2, kp9_7_3, kp9_7_4, kp9_7_5⟩ := p9_7.c6
       go_wp2_with fail
       clear kp2_0 kp2_1 kp2_2 kp2_3 kp2_4 kp2_5 kp2_7_0 kp2_7_1 kp2_7_2 kp2_7_3 kp2_7_4 kp2_7_5 kp3_8_0 kp3_8_1 kp3_8_2 kp4_10_0 kp4_10_1 kp4_10_2 kp4_11_0 kp4_11_1 kp4_11_2 kp9_7_0 kp9_7_1 kp9_7_2 kp9_7_3 kp9_7_4 kp9_7_5
       refine (Tryz.alive07 _).mono ?_
       rintro e Wz ⟨rfl, hE⟩
       replace E0 := (Ext.trans E0 hE); replace p2 := (p2.ext hE); replace hsp := (hsp.ext hE); replace h2_4 := (h2_4.ext hE); replace p2_7 := (p2_7.ext hE); replace h3_5 := (h3_5.ext hE); replace p3_8 := (p3_8.ext hE); replace h3_0 := (h3_0.ext hE); replace h3_1 := (h3_1.ext hE); replace h4_3 := (h4_3.ext hE); replace p4_10 := (p4_10.ext hE); replace h4_7 := (h4_7.ext hE); replace p4_11 := (p4_11.ext hE); replace h5_4 := (h5_4.ext hE); replace h5_12 := (h5_12.ext hE); replace h8_4 := (h8_4.ext hE); replace h8_16 := (h8_16.ext hE); replace h9_4 := (h9_4.ext hE); replace p9_7 := (p9_7.ext hE); clear hE
       obtain ⟨kp2_0, kp2_1, kp2_2, kp2_3, kp2_4, kp2_5⟩ := p2.c6
       obtain ⟨kp2_7_0, kp2_7_1, kp2_7_2, kp2_7_3, kp2_7_4, kp2_7_5⟩ := p2_7.c6
       obtain ⟨kp3_8_0, kp3_8_1, kp3_8_2⟩ := p3_8.c3
       obtain ⟨kp4_10_0, kp4_10_1, kp4_10_2⟩ := p4_10.c3
       obtain ⟨kp4_11_0, kp4_11_1, kp4_11_2⟩ := p4_11.c3
       obtain ⟨kp9_7_0, kp9_7_1, kp9_7_2, kp9_7_3, kp9_7_4, kp9_7_5⟩ := p9_7.c6
       go_wp2_with fail
       clear kp2_0 kp2_1 kp2_2 kp2_3 kp2_4 kp2_5 kp2_7_0 kp2_7_1 kp2_7_2 kp2_7_3 kp2_7_4 kp2_7_5 kp3_8_0 kp3_8_1 kp3_8_2 kp4_10_0 kp4_10_1 kp4_10_2 kp4_11_0 kp4_11_1 kp4_11_2 kp9_7_0 kp9_7_1 kp9_7_2 kp9_7_3 kp9_7_4 kp9_7_5
       refine (Tryz.rsSameT h9_4 h2_4 rfl).mono ?_
       rintro e Wy ⟨rfl, hE⟩
       replace E0 := (Ext.trans E0 hE); replace p2 := (p2.ext hE); replace hsp := (hsp.ext hE); replace h2_4 := (h2_4.ext hE); replace p2_7 := (p2_7.ext hE); replace h3_5 := (h3_5.ext hE); replace p3_8 := (p3_8.ext hE); replace h3_0 := (h3_0.ext hE); replace h3_1 := (h3_1.ext hE); replace h4_3 := (h4_3.ext hE); replace p4_10 := (p4_10.ext hE); replace h4_7 := (h4_7.ext hE); replace p4_11 := (p4_11.ext hE); replace h5_4 := (h5_4.ext hE); replace h5_12 := (h5_12.ext hE); replace h8_4 := (h8_4.ext hE); replace h8_16 := (h8_16.ext hE); replace h9_4 := (h9_4.ext hE); replace p9_7 := (p9_7.ext hE); clear hE
       obtain ⟨kp2_0, kp2_1, kp2_2, kp2_3, kp2_4, kp2_5⟩ := p2.c6
       obtain ⟨kp2_7_0, kp2_7_1, kp2_7_2, kp2_7_3, kp2_7_4, kp2_7_5⟩ := p2_7.c6
       obtain ⟨kp3_8_0, kp3_8_1, kp3_8_2⟩ := p3_8.c3
       obtain ⟨kp4_10_0, kp4_10_1, kp4_10_2⟩ := p4_10.c3
       obtain ⟨kp4_11_0, kp4_11_1, kp4_11_2⟩ := p4_11.c3
       obtain ⟨kp9_7_0, kp9_7_1, kp9_7_2, kp9_7_3, kp9_7_4, kp9_7_5⟩ := p9_7.c6
       clear hsp h2_4 h3_5 h3_0 h3_1 h4_3 h4_7 h5_4 h5_12 h8_4 h8_16 h9_4; go_wp2; go_ret
       exact ⟨rfl, E0⟩
      ·clear hbs
       obtain ⟨kp2_0, kp2_1, kp2_2, kp2_3, kp2_4, kp2_5⟩ := p2.c6
       obtain ⟨kp2_7_0, kp2_7_1, kp2_7_2, kp2_7_3, kp2_7_4, kp2_7_5⟩ := p2_7.c6
       obtain ⟨kp3_8_0, kp3_8_1, kp3_8_2⟩ := p3_8.c3
       obtain ⟨kp4_10_0, kp4_10_1, kp4_10_2⟩ := p4_10.c3
       obtain ⟨kp4_11_0, kp4_11_1, kp4_11_2⟩ := p4_11.c3
       go_upto_region 11 with (fail)
       clear kp2_0 kp2_1 kp2_2 kp2_3 kp2_4 kp2_5 kp2_7_0 kp2_7_1 kp2_7_2 kp2_7_3 kp2_7_4 kp2_7_5 kp3_8_0 kp3_8_1 kp3_8_2 kp4_10_0 kp4_10_1 kp4_10_2 kp4_11_0 kp4_11_1 kp4_11_2; have szw10 := Ext.size E0
       refine region_gs [.one fun v _ => v = .pointer (some ⟨g2_7, 3, none⟩),
         .one fun v _ => v = .agg #[.bool bb2_7, .slice aa2_7 nn2_7 cc2_7, .slice dd2_7 mm2_7 oo2_7],
         .one fun v _ => v = .pointer (some ⟨g2_7, 3, none⟩),
         .one fun v _ => v = .agg #[.bool bb2_7, .slice aa2_7 nn2_7 cc2_7, .slice dd2_7 mm2_7 oo2_7],
         .one fun v W => Rw W v (y * y),
         .one fun v _ => v = .pointer (some ⟨w.heap.size, 3, none⟩),
         .one fun v _ => v = .agg #[.bool bb1, .slice aa1 nn1 cc1, .slice dd1 mm1 oo1],
         .one fun v _ => v = .int .i64 cx3,
         .one fun v _ => v = .bool true,
         .one fun v _ => v = .bool true,
         .one fun v _ => v = .pointer (some ⟨g4_11, 0, none⟩),
         .one fun v _ => v = .pointer (some ⟨g4_11, 0, none⟩),
         .one fun v _ => v = .bool true,
         .one fun v _ => v = .bool true,
         .one fun v _ => v = undef,
         .one fun v _ => v = undef,
         .one fun v _ => v = undef,
         .one fun v _ => v = undef,
         .one fun v _ => v = undef,
         .one fun v _ => v = undef,
         .one fun v _ => v = undef,
         .one fun v _ => v = .bool true,
         .one fun v _ => v = .bool true,
         .one fun v _ => v = .bool true]
        (fun W => Ext w W ∧ Bx6 W w.heap.size 29 (.bool false) (.slice a1 n1 c1) (.slice d1 m1 o1) (.bool bb1) (.slice aa1 nn1 cc1) (.slice dd1 mm1 oo1) ∧ Sw W (.agg #[.bool false, .slice a1 n1 c1, .slice d1 m1 o1, .bool bb1, .slice aa1 nn1 cc1, .slice dd1 mm1 oo1]) p ∧ Sw W (.agg #[.bool false, .slice a2_7 n2_7 c2_7, .slice d2_7 m2_7 o2_7, .bool bb2_7, .slice aa2_7 nn2_7 cc2_7, .slice dd2_7 mm2_7 oo2_7]) ((x, y)) ∧ Bx6 W g2_7 29 (.bool false) (.slice a2_7 n2_7 c2_7) (.slice d2_7 m2_7 o2_7) (.bool bb2_7) (.slice aa2_7 nn2_7 cc2_7) (.slice dd2_7 mm2_7 oo2_7) ∧ Rw W (.agg #[.bool b3_8, .slice a3_8 n3_8 c3_8, .slice d3_8 m3_8 o3_8]) s ∧ Bx3 W g3_8 27 (.bool b3_8) (.slice a3_8 n3_8 c3_8) (.slice d3_8 m3_8 o3_8) ∧ Nw W u3_0 1 ∧ Zw W u3_1 (((1 : Nat) : Int)) ∧ Rw W (.agg #[.bool b4_10, .slice a4_10 n4_10 c4_10, .slice d4_10 m4_10 o4_10]) (x + s) ∧ Bx3 W g4_10 27 (.bool b4_10) (.slice a4_10 n4_10 c4_10) (.slice d4_10 m4_10 o4_10) ∧ Rw W (.agg #[.bool true, .slice a4_11 n4_11 c4_11, .slice d4_11 m4_11 o4_11]) (y - s) ∧ Bx3 W g4_11 27 (.bool true) (.slice a4_11 n4_11 c4_11) (.slice d4_11 m4_11 o4_11) ∧ Rw W u5_4 (x * x) ∧ Rw W u5_12 ((x + s) * (x + s)) ∧ W5.heap.size ≤ W.heap.size) ⟨Good.is _, Good.is _, Good.is _, Good.is _, Good.rat _, Good.is _, Good.is _, Good.is _, Good.is _, Good.is _, Good.is _, Good.is _, Good.is _, Good.is _, Good.is _, Good.is _, Good.is _, Good.is _, Good.is _, Good.is _, Good.is _, Good.is _, Good.is _, Good.is _, trivial⟩
        ⟨E0, p2, hsp, h2_4, p2_7, h3_5, p3_8, h3_0, h3_1, h4_3, p4_10, h4_7, p4_11, h5_4, h5_12, Nat.le_refl _⟩ (A := ?A10) ?hA10 ?howe10 ?hfin10
       case hA10 =>
        intro vs
        simp only [putAll, Act.put, sA, sZ, sS, Nat.zero_add, Nat.reduceAdd]
        exact rfl
       case howe10 =>
        clear E0 p2 hsp h2_4 p2_7 h3_5 p3_8 h3_0 h3_1 h4_3 p4_10 h4_7 p4_11 h5_4 h5_12
        intro hf
        refine ⟨oE 0 [] hf rfl ?_, oE 1 [0] hf rfl ?_, oE 2 [] hf rfl ?_, oE 3 [2] hf rfl ?_, oE 4 [1, 3] hf rfl ?_, oE 5 [] hf rfl ?_, oE 6 [5] hf rfl ?_, oE 7 [4, 6] hf rfl ?_, oE 8 [7] hf rfl ?_, oE 9 [8] hf rfl ?_, oE 10 [9] hf rfl ?_, oE 11 [9, 10] hf rfl ?_, oE 12 [9, 11] hf rfl ?_, oE 13 [9, 12] hf rfl ?_, oE 14 [13] hf rfl ?_, oE 15 [13] hf rfl ?_, oE 16 [13] hf rfl ?_, oE 17 [13] hf rfl ?_, oE 18 [13] hf rfl ?_, oE 19 [13] hf rfl ?_, oE 20 [13] hf rfl ?_, oE 21 [9, 13, 20] hf rfl ?_, oE 22 [9, 21] hf rfl ?_, oE 23 [22] hf rfl ?_, trivial⟩
        all_goals intro vs W hS hp hx KO hKO
        all_goals simp only [Act.put, sA, sZ, sS] at hKO
        ·go_simp; exact hKO _ W (.refl W) rfl
        ·have e0 := isOf hp.1; simp only [e0] at hKO; have fc3 := hS.2.2.2.2.1.cell3; have fc4 := hS.2.2.2.2.1.cell4; have fc5 := hS.2.2.2.2.1.cell5; go_simp; exact hKO _ W (.refl W) rfl
        ·go_simp; exact hKO _ W (.refl W) rfl
        ·have e2 := isOf hp.1; simp only [e2] at hKO; have fc3 := hS.2.2.2.2.1.cell3; have fc4 := hS.2.2.2.2.1.cell4; have fc5 := hS.2.2.2.2.1.cell5; go_simp; exact hKO _ W (.refl W) rfl
        ·have e1 := isOf hp.1; have e3 := isOf hp.2.1; simp only [e1, e3] at hKO; go_simp
         refine (Tryz.refRMul (hS.2.2.2.1.hi) (hS.2.2.2.1.hi) SR.out.2.1 SR.out.2.1 (by omega)).mono ?_
         rintro e W1 ⟨v, rfl, hv, hE⟩
         exact hKO _ W1 hE hv
        ·go_simp; exact hKO _ W (.refl W) rfl
        ·have e5 := isOf hp.1; simp only [e5] at hKO; have fc3 := hS.2.1.cell3; have fc4 := hS.2.1.cell4; have fc5 := hS.2.1.cell5; go_simp; exact hKO _ W (.refl W) rfl
        ·have q4 := hp.1; have e6 := isOf hp.2.1; simp only [e6] at hKO; go_simp
         refine (Tryz.refRCmpR q4 (hS.2.2.1.hi) SQ2.out.2.2.1 SPM.out.2 (by omega) HC.out.2.2.1).mono ?_
         rintro e W1 ⟨rfl, hE⟩
         exact hKO _ W1 hE rfl
        ·have e7 := isOf hp.1; simp only [e7] at hKO; go_simp; exact hKO _ W (Ext.refl W) (by first | rfl | exact congrArg Value.bool HD3.out)
        ·have e8 := isOf hp.1; simp only [e8] at hKO; go_simp; exact hKO _ W (.refl W) rfl
        ·have e9 := isOf hp.1; simp only [e9] at hKO; go_simp; exact hKO _ W (.refl W) rfl
        ·have e9 := isOf hp.1; have e10 := isOf hp.2.1; simp only [e9, e10] at hKO; go_simp; exact hKO _ W (.refl W) rfl
        ·have e9 := isOf hp.1; have e11 := isOf hp.2.1; simp only [e9, e11] at hKO; have fc0 := hS.2.2.2.2.2.2.2.2.2.2.2.2.1.cell0; go_simp; exact hKO _ W (.refl W) rfl
        ·have e9 := isOf hp.1; have e12 := isOf hp.2.1; simp only [e9, e12] at hKO; go_simp; exact hKO _ W (.refl W) rfl
        ·have e13 := isOf hp.1; simp only [e13] at hKO; go_simp; exact hKO _ W (.refl W) rfl
        ·have e13 := isOf hp.1; simp only [e13] at hKO; go_simp; exact hKO _ W (.refl W) rfl
        ·have e13 := isOf hp.1; simp only [e13] at hKO; go_simp; exact hKO _ W (.refl W) rfl
        ·have e13 := isOf hp.1; simp only [e13] at hKO; go_simp; exact hKO _ W (.refl W) rfl
        ·have e13 := isOf hp.1; simp only [e13] at hKO; go_simp; exact hKO _ W (.refl W) rfl
        ·have e13 := isOf hp.1; simp only [e13] at hKO; go_simp; exact hKO _ W (.refl W) rfl
        ·have e13 := isOf hp.1; simp only [e13] at hKO; go_simp; exact hKO _ W (.refl W) rfl
        ·have e9 := isOf hp.1; have e13 := isOf hp.2.1; have e20 := isOf hp.2.2.1; simp only [e9, e13, e20] at hKO; go_simp; exact hKO _ W (.refl W) rfl
        ·have e9 := isOf hp.1; have e21 := isOf hp.2.1; simp only [e9, e21] at hKO; go_simp; exact hKO _ W (.refl W) rfl
        ·have e22 := isOf hp.1; simp only [e22] at hKO; go_simp; exact hKO _ W (.refl W) rfl
       intro vs W10 hS hp
       clear szw10 E0 p2 hsp h2_4 p2_7 h3_5 p3_8 h3_0 h3_1 h4_3 p4_10 h4_7 p4_11 h5_4 h5_12
       obtain ⟨E0, p2, hsp, h2_4, p2_7, h3_5, p3_8, h3_0, h3_1, h4_3, p4_10, h4_7, p4_11, h5_4, h5_12, sz10⟩ := hS
       obtain ⟨h10_0, h10_1, h10_2, h10_3, h10_4, h10_5, h10_6, h10_7, h10_8, h10_9, h10_10, h10_11, h10_12, h10_13, h10_14, h10_15, h10_16, h10_17, h10_18, h10_19, h10_20, h10_21, h10_22, h10_23, -⟩ := hp
       replace h10_0 : vs 0 = .pointer (some ⟨g2_7, 3, none⟩) := h10_0
       replace h10_1 : vs 1 = .agg #[.bool bb2_7, .slice aa2_7 nn2_7 cc2_7, .slice dd2_7 mm2_7 oo2_7] := h10_1
       replace h10_2 : vs 2 = .pointer (some ⟨g2_7, 3, none⟩) := h10_2
       replace h10_3 : vs 3 = .agg #[.bool bb2_7, .slice aa2_7 nn2_7 cc2_7, .slice dd2_7 mm2_7 oo2_7] := h10_3
       replace h10_5 : vs 5 = .pointer (some ⟨w.heap.size, 3, none⟩) := h10_5
       replace h10_6 : vs 6 = .agg #[.bool bb1, .slice aa1 nn1 cc1, .slice dd1 mm1 oo1] := h10_6
       replace h10_7 : vs 7 = .int .i64 cx3 := h10_7
       replace h10_8 : vs 8 = .bool true := h10_8
       replace h10_9 : vs 9 = .bool true := h10_9
       replace h10_10 : vs 10 = .pointer (some ⟨g4_11, 0, none⟩) := h10_10
       replace h10_11 : vs 11 = .pointer (some ⟨g4_11, 0, none⟩) := h10_11
       replace h10_12 : vs 12 = .bool true := h10_12
       replace h10_13 : vs 13 = .bool true := h10_13
       replace h10_14 : vs 14 = undef := h10_14
       replace h10_15 : vs 15 = undef := h10_15
       replace h10_16 : vs 16 = undef := h10_16
       replace h10_17 : vs 17 = undef := h10_17
       replace h10_18 : vs 18 = undef := h10_18
       replace h10_19 : vs 19 = undef := h10_19
       replace h10_20 : vs 20 = undef := h10_20
       replace h10_21 : vs 21 = .bool true := h10_21
       replace h10_22 : vs 22 = .bool true := h10_22
       replace h10_23 : vs 23 = .bool true := h10_23
       simp only [h10_0, h10_1, h10_2, h10_3, h10_5, h10_6, h10_7, h10_8, h10_9, h10_10, h10_11, h10_12, h10_13, h10_14, h10_15, h10_16, h10_17, h10_18, h10_19, h10_20, h10_21, h10_22, h10_23]
       replace h10_4 : Rw W10 (vs 4) (y * y) := h10_4
       generalize vs 4 = u10_4 at h10_4 ⊢
       clear h10_0 h10_1 h10_2 h10_3 h10_5 h10_6 h10_7 h10_8 h10_9 h10_10 h10_11 h10_12 h10_13 h10_14 h10_15 h10_16 h10_17 h10_18 h10_19 h10_20 h10_21 h10_22 h10_23
       obtain ⟨kp2_0, kp2_1, kp2_2, kp2_3, kp2_4, kp2_5⟩ := p2.c6
       obtain ⟨kp2_7_0, kp2_7_1, kp2_7_2, kp2_7_3, kp2_7_4, kp2_7_5⟩ := p2_7.c6
       obtain ⟨kp3_8_0, kp3_8_1, kp3_8_2⟩ := p3_8.c3
       obtain ⟨kp4_10_0, kp4_10_1, kp4_10_2⟩ := p4_10.c3
       obtain ⟨kp4_11_0, kp4_11_1, kp4_11_2⟩ := p4_11.c3
       go_upto_region 12 with (fail)
       clear kp2_0 kp2_1 kp2_2 kp2_3 kp2_4 kp2_5 kp2_7_0 kp2_7_1 kp2_7_2 kp2_7_3 kp2_7_4 kp2_7_5 kp3_8_0 kp3_8_1 kp3_8_2 kp4_10_0 kp4_10_1 kp4_10_2 kp4_11_0 kp4_11_1 kp4_11_2; have szw11 := Ext.size E0
       refine region_gs [.one fun v _ => v = .agg #[.bool false, .slice a2_7 n2_7 c2_7, .slice d2_7 m2_7 o2_7, .bool bb2_7, .slice aa2_7 nn2_7 cc2_7, .slice dd2_7 mm2_7 oo2_7],
         .one fun v _ => v = .int .i64 (K : Int),
         .one fun v W => ∃ v', v = .tuple #[v', .int .i64 0] ∧ (fun v W => Sw W v ((x, y))) v' W,
         .one fun v W => ∃ v', v = .tuple #[v', .int .i64 0] ∧ (fun v W => Sw W v ((x, y))) v' W,
         .one fun v W => Sw W v ((x, y)),
         .one fun v _ => v = .int .i64 0,
         .one fun v W => ∃ g, v = .pointer (some ⟨g, 0, none⟩) ∧ W10.heap.size ≤ g ∧ Form W g 29 6,
         .three 6 4 (fun p r _ W => Put6 W10.heap.size 29 p r W),
         .one fun v _ => v = .int .i64 0]
        (fun W => Ext w W ∧ Bx6 W w.heap.size 29 (.bool false) (.slice a1 n1 c1) (.slice d1 m1 o1) (.bool bb1) (.slice aa1 nn1 cc1) (.slice dd1 mm1 oo1) ∧ Sw W (.agg #[.bool false, .slice a1 n1 c1, .slice d1 m1 o1, .bool bb1, .slice aa1 nn1 cc1, .slice dd1 mm1 oo1]) p ∧ Sw W (.agg #[.bool false, .slice a2_7 n2_7 c2_7, .slice d2_7 m2_7 o2_7, .bool bb2_7, .slice aa2_7 nn2_7 cc2_7, .slice dd2_7 mm2_7 oo2_7]) ((x, y)) ∧ Bx6 W g2_7 29 (.bool false) (.slice a2_7 n2_7 c2_7) (.slice d2_7 m2_7 o2_7) (.bool bb2_7) (.slice aa2_7 nn2_7 cc2_7) (.slice dd2_7 mm2_7 oo2_7) ∧ Rw W (.agg #[.bool b3_8, .slice a3_8 n3_8 c3_8, .slice d3_8 m3_8 o3_8]) s ∧ Bx3 W g3_8 27 (.bool b3_8) (.slice a3_8 n3_8 c3_8) (.slice d3_8 m3_8 o3_8) ∧ Nw W u3_0 1 ∧ Zw W u3_1 (((1 : Nat) : Int)) ∧ Rw W (.agg #[.bool b4_10, .slice a4_10 n4_10 c4_10, .slice d4_10 m4_10 o4_10]) (x + s) ∧ Bx3 W g4_10 27 (.bool b4_10) (.slice a4_10 n4_10 c4_10) (.slice d4_10 m4_10 o4_10) ∧ Rw W (.agg #[.bool true, .slice a4_11 n4_11 c4_11, .slice d4_11 m4_11 o4_11]) (y - s) ∧ Bx3 W g4_11 27 (.bool true) (.slice a4_11 n4_11 c4_11) (.slice d4_11 m4_11 o4_11) ∧ Rw W u5_4 (x * x) ∧ Rw W u5_12 ((x + s) * (x + s)) ∧ Rw W u10_4 (y * y) ∧ W10.heap.size ≤ W.heap.size) ⟨Good.is _, Good.is _, (Good.span _).tup _, (Good.span _).tup _, Good.span _, Good.is _, Good.box _ _ _, cert_put6, Good.is _, trivial⟩
        ⟨E0, p2, hsp, h2_4, p2_7, h3_5, p3_8, h3_0, h3_1, h4_3, p4_10, h4_7, p4_11, h5_4, h5_12, h10_4, Nat.le_refl _⟩ (A := ?A11) ?hA11 ?howe11 ?hfin11
       case hA11 =>
        intro vs
        simp only [putAll, Act.put, sA, sZ, sS, Nat.zero_add, Nat.reduceAdd]
        exact rfl
       case howe11 =>
        clear E0 p2 hsp h2_4 p2_7 h3_5 p3_8 h3_0 h3_1 h4_3 p4_10 h4_7 p4_11 h5_4 h5_12 h10_4
        intro hf
        refine ⟨oE 0 [] hf rfl ?_, oE 1 [] hf rfl ?_, oE 2 [0, 1] hf rfl ?_, oE 3 [2] hf rfl ?_, oE 4 [3] hf rfl ?_, oE 5 [3] hf rfl ?_, oE 6 [] hf rfl ?_, oW 7 [6, 4] hf rfl ?_, oE 8 [5] hf rfl ?_, trivial⟩
        all_goals intro vs W hS hp hx KO hKO
        all_goals simp only [Act.put, sA, sZ, sS] at hKO
        ·have fc0 := hS.2.2.2.2.1.cell0; have fc1 := hS.2.2.2.2.1.cell1; have fc2 := hS.2.2.2.2.1.cell2; have fc3 := hS.2.2.2.2.1.cell3; have fc4 := hS.2.2.2.2.1.cell4; have fc5 := hS.2.2.2.2.1.cell5; go_simp; exact hKO _ W (.refl W) rfl
        ·go_simp; exact hKO _ W (.refl W) rfl
        ·have e0 := isOf hp.1; have e1 := isOf hp.2.1; simp only [e0, e1] at hKO; go_simp
         refine (Tryz.rsOut (hS.2.2.2.1) ⟨SR.out.1, SR.out.2.1⟩ (by omega) K HK.out.1).mono ?_
         rintro e W1 ⟨v, rfl, hv, hE⟩
         rw [HON.out] at hv
         exact hKO _ W1 hE ⟨_, rfl, hv⟩
        ·have q2 := hp.1
         obtain ⟨u, ev, hu⟩ := q2
         replace ev : vs 2 = _ := ev; simp only [ev] at hKO; go_simp; exact hKO _ W (Ext.refl W) ⟨u, rfl, hu⟩
        ·have q3 := hp.1
         obtain ⟨u, ev, hu⟩ := q3
         replace ev : vs 3 = _ := ev; simp only [ev] at hKO; go_simp; exact hKO _ W (Ext.refl W) hu
        ·have q3 := hp.1
         obtain ⟨u, ev, hu⟩ := q3
         replace ev : vs 3 = _ := ev; simp only [ev] at hKO; go_simp; exact hKO _ W (.refl W) rfl
        ·have hn := Bx6.new W 29 (.bool false) (.slice none 0 0) (.slice none 0 0) (.bool false) (.slice none 0 0) (.slice none 0 0)
         have hE := Ext.alloc1 W (.cells #[.bool false, .slice none 0 0, .slice none 0 0, .bool false, .slice none 0 0, .slice none 0 0] 29)
         have hsz := hS.2.2.2.2.2.2.2.2.2.2.2.2.2.2.2.2
         go_simp
         exact hKO _ _ hE ⟨_, rfl, hsz, hn.form⟩
        ·have q6 := hp.1; have q4 := hp.2.1
         obtain ⟨g, ev, hg, hf⟩ := q6
         replace ev : vs 6 = _ := ev
         obtain ⟨x0_0, x0_1, x0_2, x0_3, x0_4, x0_5, hx, hno⟩ := hf.bx6
         have qr := q4
         obtain ⟨b3, a3, n3, c3, d3, m3, o3, bb3, aa3, nn3, cc3, dd3, mm3, oo3, er, -, -⟩ := qr
         replace er : vs 4 = _ := er
         have r0 := hx.froz0
         have t0 := hx.cell0
         have r1 := hx.froz1
         have t1 := hx.cell1
         have r2 := hx.froz2
         have t2 := hx.cell2
         have r3 := hx.froz3
         have t3 := hx.cell3
         have r4 := hx.froz4
         have t4 := hx.cell4
         have r5 := hx.froz5
         have t5 := hx.cell5
         have hw := Wr.set6 hx hno b3 a3 n3 c3 d3 m3 o3 bb3 aa3 nn3 cc3 dd3 mm3 oo3
         have hq := hx.set (.bool b3) (.slice a3 n3 c3) (.slice d3 m3 o3) (.bool bb3) (.slice aa3 nn3 cc3) (.slice dd3 mm3 oo3)
         simp only [ev, er] at hKO; go_simp
         exact hKO _ _ hw ⟨(Ext.wr hS.1 hw (by omega)), (hS.2.1.wr hw (by omega)), (hS.2.2.1.wr hw), (hS.2.2.2.1.wr hw), (hS.2.2.2.2.1.wr hw (by omega)), (hS.2.2.2.2.2.1.wr hw), (hS.2.2.2.2.2.2.1.wr hw (by omega)), (hS.2.2.2.2.2.2.2.1.wr hw), (hS.2.2.2.2.2.2.2.2.1.wr hw), (hS.2.2.2.2.2.2.2.2.2.1.wr hw), (hS.2.2.2.2.2.2.2.2.2.2.1.wr hw (by omega)), (hS.2.2.2.2.2.2.2.2.2.2.2.1.wr hw), (hS.2.2.2.2.2.2.2.2.2.2.2.2.1.wr hw (by omega)), (hS.2.2.2.2.2.2.2.2.2.2.2.2.2.1.wr hw), (hS.2.2.2.2.2.2.2.2.2.2.2.2.2.2.1.wr hw), (hS.2.2.2.2.2.2.2.2.2.2.2.2.2.2.2.1.wr hw), (Nat.le_trans hS.2.2.2.2.2.2.2.2.2.2.2.2.2.2.2.2 hw.apart.size)⟩ ⟨g, b3, a3, n3, c3, d3, m3, o3, bb3, aa3, nn3, cc3, dd3, mm3, oo3, ev, er, hg, hq⟩
        ·have e5 := isOf hp.1; simp only [e5] at hKO; go_simp; exact hKO _ W (.refl W) rfl
       intro vs W11 hS hp
       clear szw11 E0 p2 hsp h2_4 p2_7 h3_5 p3_8 h3_0 h3_1 h4_3 p4_10 h4_7 p4_11 h5_4 h5_12 h10_4
       obtain ⟨E0, p2, hsp, h2_4, p2_7, h3_5, p3_8, h3_0, h3_1, h4_3, p4_10, h4_7, p4_11, h5_4, h5_12, h10_4, sz11⟩ := hS
       obtain ⟨h11_0, h11_1, h11_2, h11_3, h11_4, h11_5, h11_6, h11_7, h11_8, -⟩ := hp
       obtain ⟨g11_7, b11_7, a11_7, n11_7, c11_7, d11_7, m11_7, o11_7, bb11_7, aa11_7, nn11_7, cc11_7, dd11_7, mm11_7, oo11_7, ev11_7, er11_7, hg11_7, p11_7⟩ := h11_7
       replace ev11_7 : vs 6 = _ := ev11_7; replace er11_7 : vs 4 = _ := er11_7; replace h11_4 := (show Sw W11 (vs 4) ((x, y)) from h11_4)
       rw [er11_7] at h11_4
       replace h11_0 : vs 0 = .agg #[.bool false, .slice a2_7 n2_7 c2_7, .slice d2_7 m2_7 o2_7, .bool bb2_7, .slice aa2_7 nn2_7 cc2_7, .slice dd2_7 mm2_7 oo2_7] := h11_0
       replace h11_1 : vs 1 = .int .i64 (K : Int) := h11_1
       replace h11_5 : vs 5 = .int .i64 0 := h11_5
       replace h11_8 : vs 8 = .int .i64 0 := h11_8
       simp only [ev11_7, er11_7, h11_0, h11_1, h11_5, h11_8]
       clear ev11_7 er11_7 h11_0 h11_1 h11_5 h11_8 h11_2 h11_3 h11_6
       obtain ⟨kp2_0, kp2_1, kp2_2, kp2_3, kp2_4, kp2_5⟩ := p2.c6
       obtain ⟨kp2_7_0, kp2_7_1, kp2_7_2, kp2_7_3, kp2_7_4, kp2_7_5⟩ := p2_7.c6
       obtain ⟨kp3_8_0, kp3_8_1, kp3_8_2⟩ := p3_8.c3
       obtain ⟨kp4_10_0, kp4_10_1, kp4_10_2⟩ := p4_10.c3
       obtain ⟨kp4_11_0, kp4_11_1, kp4_11_2⟩ := p4_11.c3
       obtain ⟨kp11_7_0, kp11_7_1, kp11_7_2, kp11_7_3, kp11_7_4, kp11_7_5⟩ := p11_7.c6
       go_wp2_with fail
       clear kp2_0 kp2_1 kp2_2 kp2_3 kp2_4 kp2_5 kp2_7_0 kp2_7_1 kp2_7_2 kp2_7_3 kp2_7_4 kp2_7_5 kp3_8_0 kp3_8_1 kp3_8_2 kp4_10_0 kp4_10_1 kp4_10_2 kp4_11_0 kp4_11_1 kp4_11_2 kp11_7_0 kp11_7_1 kp11_7_2 kp11_7_3 kp11_7_4 kp11_7_5
       refine (Tryz.alive07 _).mono ?_
       rintro e Wz ⟨rfl, hE⟩
       replace E0 := (Ext.trans E0 hE); replace p2 := (p2.ext hE); replace hsp := (hsp.ext hE); replace h2_4 := (h2_4.ext hE); replace p2_7 := (p2_7.ext hE); replace h3_5 := (h3_5.ext hE); replace p3_8 := (p3_8.ext hE); replace h3_0 := (h3_0.ext hE); replace h3_1 := (h3_1.ext hE); replace h4_3 := (h4_3.ext hE); replace p4_10 := (p4_10.ext hE); replace h4_7 := (h4_7.ext hE); replace p4_11 := (p4_11.ext hE); replace h5_4 := (h5_4.ext hE); replace h5_12 := (h5_12.ext hE); replace h10_4 := (h10_4.ext hE); replace h11_4 := (h11_4.ext hE); replace p11_7 := (p11_7.ext hE); clear hE
       obtain ⟨kp2_0, kp2_1, kp2_2, kp2_3, kp2_4, kp2_5⟩ := p2.c6
       obtain ⟨kp2_7_0, kp2_7_1, kp2_7_2, kp2_7_3, kp2_7_4, kp2_7_5⟩ := p2_7.c6
       obtain ⟨kp3_8_0, kp3_8_1, kp3_8_2⟩ := p3_8.c3
       obtain ⟨kp4_10_0, kp4_10_1, kp4_10_2⟩ := p4_10.c3
       obtain ⟨kp4_11_0, kp4_11_1, kp4_11_2⟩ := p4_11.c3
       obtain ⟨kp11_7_0, kp11_7_1, kp11_7_2, kp11_7_3, kp11_7_4, kp11_7_5⟩ := p11_7.c6
       go_wp2_with fail
       clear kp2_0 kp2_1 kp2_2 kp2_3 kp2_4 kp2_5 kp2_7_0 kp2_7_1 kp2_7_2 kp2_7_3 kp2_7_4 kp2_7_5 kp3_8_0 kp3_8_1 kp3_8_2 kp4_10_0 kp4_10_1 kp4_10_2 kp4_11_0 kp4_11_1 kp4_11_2 kp11_7_0 kp11_7_1 kp11_7_2 kp11_7_3 kp11_7_4 kp11_7_5
       refine (Tryz.rsSameT h11_4 h2_4 rfl).mono ?_
       rintro e Wy ⟨rfl, hE⟩
       replace E0 := (Ext.trans E0 hE); replace p2 := (p2.ext hE); replace hsp := (hsp.ext hE); replace h2_4 := (h2_4.ext hE); replace p2_7 := (p2_7.ext hE); replace h3_5 := (h3_5.ext hE); replace p3_8 := (p3_8.ext hE); replace h3_0 := (h3_0.ext hE); replace h3_1 := (h3_1.ext hE); replace h4_3 := (h4_3.ext hE); replace p4_10 := (p4_10.ext hE); replace h4_7 := (h4_7.ext hE); replace p4_11 := (p4_11.ext hE); replace h5_4 := (h5_4.ext hE); replace h5_12 := (h5_12.ext hE); replace h10_4 := (h10_4.ext hE); replace h11_4 := (h11_4.ext hE); replace p11_7 := (p11_7.ext hE); clear hE
       obtain ⟨kp2_0, kp2_1, kp2_2, kp2_3, kp2_4, kp2_5⟩ := p2.c6
       obtain ⟨kp2_7_0, kp2_7_1, kp2_7_2, kp2_7_3, kp2_7_4, kp2_7_5⟩ := p2_7.c6
       obtain ⟨kp3_8_0, kp3_8_1, kp3_8_2⟩ := p3_8.c3
       obtain ⟨kp4_10_0, kp4_10_1, kp4_10_2⟩ := p4_10.c3
       obtain ⟨kp4_11_0, kp4_11_1, kp4_11_2⟩ := p4_11.c3
       obtain ⟨kp11_7_0, kp11_7_1, kp11_7_2, kp11_7_3, kp11_7_4, kp11_7_5⟩ := p11_7.c6
       clear hsp h2_4 h3_5 h3_0 h3_1 h4_3 h4_7 h5_4 h5_12 h10_4 h11_4; go_wp2; go_ret
       exact ⟨rfl, E0⟩

end Go.Rt
