/-
  Integers as numbers of 64 bits; roots of a fixed point.
-/
import Derived.Test.YtkbalokicnogbaaGreatFixC
import Derived.Test.YtkbalokicnogbaaGreatRight
import Derived.Test.YtkbalokicnogbaaGreatGG

namespace Go.Rt

open Go.RowKit Go.Proofs

set_option maxHeartbeats 400000 in
theorem Tryz.refSmall {v : Value} {N : Nat} {w : World} (h : Nw w v N) :
    Calls Tryz.prog 102 #[v] w fun e w' => e = .returned (.tuple #[.int .u64 ((smallN N : Nat) : Int), .bool (smallB N)]) ∧ w = w' := by
  obtain ⟨xs, ⟨a, b, o, cap, rfl, hs, hl⟩, hn, he⟩ := h
  have hlen := fun L => len_le_iff (by rw [B64_eq]; omega) hl hn L
  match xs, hs, hl, hn, he, hlen with
  | [], hs, hl, hn, he, hlen =>
    have H1 : Hid (smallN N = 0) := Lib.hid (by rw [← he]; unfold smallN; split <;> rfl)
    have H2 : Hid (smallB N = true) := Lib.hid (by rw [← he]; exact decide_eq_true B64_pos)
    clear hs hl hn he hlen
    go_enter Tryz.func102, Tryz.ntmps102
    go_wp2
    go_ret2
    exact ⟨by rw [H1.out, H2.out]; rfl, rfl⟩
  | [x], hs, hl, hn, he, hlen =>
    obtain rfl := hs.addr (by simp)
    have hc := hs.cell (i := 0) (by simp)
    have hxb := lg_lt hl 0
    have hx : ev B64 [x] = lg [x] 0 := ev_single _ _
    have H1 : Hid (smallN N = lg [x] 0) := Lib.hid (by rw [← he, hx]; unfold smallN; rw [if_pos hxb])
    have H2 : Hid (smallB N = true) := Lib.hid (by rw [← he, hx]; exact decide_eq_true hxb)
    generalize lg [x] 0 = y at *
    clear hs hl hn he hlen hx hxb
    simp only [Nat.add_zero] at hc
    go_enter Tryz.func102, Tryz.ntmps102
    go_wp2
    go_ret2
    exact ⟨by rw [H1.out, H2.out]; rfl, rfl⟩
  | x :: y :: r, hs, hl, hn, he, hlen =>
    have hbig : ¬ N < B64 := fun hlt => by
      have := (hlen 1).2 (by rw [he, Nat.pow_one]; exact hlt)
      simp at this
    have H1 : Hid (smallN N = 0) := Lib.hid (if_neg hbig)
    have H2 : Hid (smallB N = false) := Lib.hid (decide_eq_false hbig)
    have l1 : (((x :: y :: r).length : Int) == 0) = false := beq_eq_false_iff_ne.2 (by simp; omega)
    have l2 : (1 : Int) < ((x :: y :: r).length : Int) := by simp; omega
    have l3 : 1 < (x :: y :: r).length := by simp
    generalize (x :: y :: r).length = n at *
    clear hs hl hn he hlen hbig
    go_enter Tryz.func102, Tryz.ntmps102
    go_wp2
    go_ret2
    exact ⟨by rw [H1.out, H2.out]; rfl, rfl⟩

set_option maxRecDepth 100000 in
set_option maxHeartbeats 4000000 in
theorem Tryz.zedInt {v : Value} {z : Int} {w : World} (h : Zw w v z) :
    Calls Tryz.prog 160 #[v] w fun e w' => e = .returned (.tuple #[.int .i64 (fitV z), .bool (fits z)]) ∧ Ext w w' := by
  have hz := h
  obtain ⟨b, a, n, c, rfl, hb, hn0⟩ := h
  replace hb := hb.out
  clear hn0
  obtain ⟨M, hM⟩ : ∃ M, M = z.natAbs := ⟨_, rfl⟩
  cases b
  · have hbz : ¬ z < 0 := of_decide_eq_false hb.symm
    obtain hc | hc | hc | hc | hc : 18446744073709551616 ≤ M ∨ 9223372036854775808 < M ∧ M < 18446744073709551616 ∨ M = 9223372036854775808 ∨ 0 < M ∧ M < 9223372036854775808 ∨ M = 0 := by omega
    · have HSN : Hid (smallN z.natAbs = 0) := Lib.hid (by rw [← hM]; unfold smallN; rw [B64_eq]; exact if_neg (by omega))
      have HSB : Hid (smallB z.natAbs = false) := Lib.hid (by rw [← hM]; unfold smallB; rw [B64_eq]; exact decide_eq_false (by omega))
      have hfit : fits z = false := by cases hq : fits z; rfl; have := fits_iff.1 hq; omega
      have HV : Hid (fitV z = 0) := Lib.hid (fitV_out hfit)
      have HE := Lib.hid hfit
      clear hM hfit hb hc
      obtain ⟨W0, hW0⟩ : ∃ W0, W0 = (w.alloc (.cells #[.bool false, .slice a n c] 59)) := ⟨_, rfl⟩
      have E0 : Ext w W0 := by rw [hW0]; exact (Ext.alloc1 w (.cells #[.bool false, .slice a n c] 59))
      replace hz : Zw W0 (.agg #[.bool false, .slice a n c]) z := hz.ext E0
      have p1 : Bx2 W0 w.heap.size 59 (.bool false) (.slice a n c) := by rw [hW0]; exact (Bx2.new w 59 (.bool false) (.slice a n c))
      go_enter Tryz.func160, Tryz.ntmps160
      have kp1_0 := p1.cell0
      have kp1_1 := p1.cell1
      go_wp2_with fail
      rw [← hW0]
      clear hW0
      clear kp1_0 kp1_1
      refine (Tryz.natSmall hz.num).mono ?_
      rintro e Wc ⟨rfl, rfl⟩
      rw [HSN.out, HSB.out]
      have kp1_0 := p1.cell0
      have kp1_1 := p1.cell1
      go_wp2
      go_ret2
      exact ⟨by rw [HV.out, HE.out]; rfl, E0⟩
    · have HSN : Hid (smallN z.natAbs = M) := Lib.hid (by rw [← hM]; unfold smallN; rw [B64_eq]; exact if_pos (by omega))
      have HSB : Hid (smallB z.natAbs = true) := Lib.hid (by rw [← hM]; unfold smallB; rw [B64_eq]; exact decide_eq_true (by omega))
      have hfit : fits z = false := by cases hq : fits z; rfl; have := fits_iff.1 hq; omega
      have HV : Hid (fitV z = 0) := Lib.hid (fitV_out hfit)
      have HE := Lib.hid hfit
      obtain ⟨k, hk⟩ : ∃ k, IntKind.i64.wrap (M : Int) = k := ⟨_, rfl⟩
      have hkv : k = (M : Int) - 18446744073709551616 := by rw [← hk, IntKind.wrap_i64]; omega
      have hx0 : (k == 0) = false := beq_eq_false_iff_ne.2 (by omega)
      have hx1 : k ≠ 0 := by omega
      have hx2 : k < 0 := by omega
      have hx3 : decide (k < 0) = true := decide_eq_true hx2
      clear hkv
      clear hM hfit hb hc
      obtain ⟨W0, hW0⟩ : ∃ W0, W0 = (w.alloc (.cells #[.bool false, .slice a n c] 59)) := ⟨_, rfl⟩
      have E0 : Ext w W0 := by rw [hW0]; exact (Ext.alloc1 w (.cells #[.bool false, .slice a n c] 59))
      replace hz : Zw W0 (.agg #[.bool false, .slice a n c]) z := hz.ext E0
      have p1 : Bx2 W0 w.heap.size 59 (.bool false) (.slice a n c) := by rw [hW0]; exact (Bx2.new w 59 (.bool false) (.slice a n c))
      go_enter Tryz.func160, Tryz.ntmps160
      have kp1_0 := p1.cell0
      have kp1_1 := p1.cell1
      go_wp2_with fail
      rw [← hW0]
      clear hW0
      clear kp1_0 kp1_1
      refine (Tryz.natSmall hz.num).mono ?_
      rintro e Wc ⟨rfl, rfl⟩
      rw [HSN.out, HSB.out]
      have kp1_0 := p1.cell0
      have kp1_1 := p1.cell1
      go_wp2
      go_ret2
      exact ⟨by rw [HV.out, HE.out]; rfl, E0⟩
    · have HSN : Hid (smallN z.natAbs = M) := Lib.hid (by rw [← hM]; unfold smallN; rw [B64_eq]; exact if_pos (by omega))
      have HSB : Hid (smallB z.natAbs = true) := Lib.hid (by rw [← hM]; unfold smallB; rw [B64_eq]; exact decide_eq_true (by omega))
      have hfit : fits z = false := by cases hq : fits z; rfl; have := fits_iff.1 hq; omega
      have HV : Hid (fitV z = 0) := Lib.hid (fitV_out hfit)
      have HE := Lib.hid hfit
      obtain ⟨k, hk⟩ : ∃ k, IntKind.i64.wrap (M : Int) = k := ⟨_, rfl⟩
      have hkv : k = -9223372036854775808 := by rw [← hk, IntKind.wrap_i64]; omega
      have hx0 : (k == 0) = false := beq_eq_false_iff_ne.2 (by omega)
      have hx1 : k ≠ 0 := by omega
      have hx2 : k < 0 := by omega
      have hx3 : decide (k < 0) = true := decide_eq_true hx2
      clear hkv
      clear hM hfit hb hc
      obtain ⟨W0, hW0⟩ : ∃ W0, W0 = (w.alloc (.cells #[.bool false, .slice a n c] 59)) := ⟨_, rfl⟩
      have E0 : Ext w W0 := by rw [hW0]; exact (Ext.alloc1 w (.cells #[.bool false, .slice a n c] 59))
      replace hz : Zw W0 (.agg #[.bool false, .slice a n c]) z := hz.ext E0
      have p1 : Bx2 W0 w.heap.size 59 (.bool false) (.slice a n c) := by rw [hW0]; exact (Bx2.new w 59 (.bool false) (.slice a n c))
      go_enter Tryz.func160, Tryz.ntmps160
      have kp1_0 := p1.cell0
      have kp1_1 := p1.cell1
      go_wp2_with fail
      rw [← hW0]
      clear hW0
      clear kp1_0 kp1_1
      refine (Tryz.natSmall hz.num).mono ?_
      rintro e Wc ⟨rfl, rfl⟩
      rw [HSN.out, HSB.out]
      have kp1_0 := p1.cell0
      have kp1_1 := p1.cell1
      go_wp2
      go_ret2
      exact ⟨by rw [HV.out, HE.out]; rfl, E0⟩
    · have HSN : Hid (smallN z.natAbs = M) := Lib.hid (by rw [← hM]; unfold smallN; rw [B64_eq]; exact if_pos (by omega))
      have HSB : Hid (smallB z.natAbs = true) := Lib.hid (by rw [← hM]; unfold smallB; rw [B64_eq]; exact decide_eq_true (by omega))
      have hfit : fits z = true := by exact fits_iff.2 (by omega)
      have HV : Hid (fitV z = (M : Int)) := Lib.hid (by rw [fitV_in hfit]; omega)
      have HE := Lib.hid hfit
      obtain ⟨k, hk⟩ : ∃ k, IntKind.i64.wrap (M : Int) = k := ⟨_, rfl⟩
      have hkv : k = (M : Int) := by rw [← hk, IntKind.wrap_i64]; omega
      have hx0 : (k == 0) = false := beq_eq_false_iff_ne.2 (by omega)
      have hx1 : k ≠ 0 := by omega
      have hx2 : ¬ k < 0 := by omega
      have hx3 : decide (k < 0) = false := decide_eq_false hx2
      replace HV : Hid (fitV z = k) := Lib.hid (HV.out.trans (by omega))
      clear hkv
      clear hM hfit hb hc
      obtain ⟨W0, hW0⟩ : ∃ W0, W0 = (w.alloc (.cells #[.bool false, .slice a n c] 59)) := ⟨_, rfl⟩
      have E0 : Ext w W0 := by rw [hW0]; exact (Ext.alloc1 w (.cells #[.bool false, .slice a n c] 59))
      replace hz : Zw W0 (.agg #[.bool false, .slice a n c]) z := hz.ext E0
      have p1 : Bx2 W0 w.heap.size 59 (.bool false) (.slice a n c) := by rw [hW0]; exact (Bx2.new w 59 (.bool false) (.slice a n c))
      go_enter Tryz.func160, Tryz.ntmps160
      have kp1_0 := p1.cell0
      have kp1_1 := p1.cell1
      go_wp2_with fail
      rw [← hW0]
      clear hW0
      clear kp1_0 kp1_1
      refine (Tryz.natSmall hz.num).mono ?_
      rintro e Wc ⟨rfl, rfl⟩
      rw [HSN.out, HSB.out]
      have kp1_0 := p1.cell0
      have kp1_1 := p1.cell1
      go_wp2
      go_ret2
      exact ⟨by rw [HV.out, HE.out]; rfl, E0⟩
    · have HSN : Hid (smallN z.natAbs = M) := Lib.hid (by rw [← hM]; unfold smallN; rw [B64_eq]; exact if_pos (by omega))
      have HSB : Hid (smallB z.natAbs = true) := Lib.hid (by rw [← hM]; unfold smallB; rw [B64_eq]; exact decide_eq_true (by omega))
      have hfit : fits z = true := by exact fits_iff.2 (by omega)
      have HV : Hid (fitV z = 0) := Lib.hid (by rw [fitV_in hfit]; omega)
      have HE := Lib.hid hfit
      have hM0 : M = 0 := by omega
      subst hM0
      clear hM hfit hb hc
      obtain ⟨W0, hW0⟩ : ∃ W0, W0 = (w.alloc (.cells #[.bool false, .slice a n c] 59)) := ⟨_, rfl⟩
      have E0 : Ext w W0 := by rw [hW0]; exact (Ext.alloc1 w (.cells #[.bool false, .slice a n c] 59))
      replace hz : Zw W0 (.agg #[.bool false, .slice a n c]) z := hz.ext E0
      have p1 : Bx2 W0 w.heap.size 59 (.bool false) (.slice a n c) := by rw [hW0]; exact (Bx2.new w 59 (.bool false) (.slice a n c))
      go_enter Tryz.func160, Tryz.ntmps160
      have kp1_0 := p1.cell0
      have kp1_1 := p1.cell1
      go_wp2_with fail
      rw [← hW0]
      clear hW0
      clear kp1_0 kp1_1
      refine (Tryz.natSmall hz.num).mono ?_
      rintro e Wc ⟨rfl, rfl⟩
      rw [HSN.out, HSB.out]
      have kp1_0 := p1.cell0
      have kp1_1 := p1.cell1
      go_wp2
      go_ret2
      exact ⟨by rw [HV.out, HE.out]; rfl, E0⟩
  · have hbz : z < 0 := of_decide_eq_true hb.symm
    obtain hc | hc | hc | hc : 18446744073709551616 ≤ M ∨ 9223372036854775808 < M ∧ M < 18446744073709551616 ∨ M = 9223372036854775808 ∨ 0 < M ∧ M < 9223372036854775808 := by omega
    · have HSN : Hid (smallN z.natAbs = 0) := Lib.hid (by rw [← hM]; unfold smallN; rw [B64_eq]; exact if_neg (by omega))
      have HSB : Hid (smallB z.natAbs = false) := Lib.hid (by rw [← hM]; unfold smallB; rw [B64_eq]; exact decide_eq_false (by omega))
      have hfit : fits z = false := by cases hq : fits z; rfl; have := fits_iff.1 hq; omega
      have HV : Hid (fitV z = 0) := Lib.hid (fitV_out hfit)
      have HE := Lib.hid hfit
      clear hM hfit hb hc
      obtain ⟨W0, hW0⟩ : ∃ W0, W0 = (w.alloc (.cells #[.bool true, .slice a n c] 59)) := ⟨_, rfl⟩
      have E0 : Ext w W0 := by rw [hW0]; exact (Ext.alloc1 w (.cells #[.bool true, .slice a n c] 59))
      replace hz : Zw W0 (.agg #[.bool true, .slice a n c]) z := hz.ext E0
      have p1 : Bx2 W0 w.heap.size 59 (.bool true) (.slice a n c) := by rw [hW0]; exact (Bx2.new w 59 (.bool true) (.slice a n c))
      go_enter Tryz.func160, Tryz.ntmps160
      have kp1_0 := p1.cell0
      have kp1_1 := p1.cell1
      go_wp2_with fail
      rw [← hW0]
      clear hW0
      clear kp1_0 kp1_1
      refine (Tryz.natSmall hz.num).mono ?_
      rintro e Wc ⟨rfl, rfl⟩
      rw [HSN.out, HSB.out]
      have kp1_0 := p1.cell0
      have kp1_1 := p1.cell1
      go_wp2
      go_ret2
      exact ⟨by rw [HV.out, HE.out]; rfl, E0⟩
    · have HSN : Hid (smallN z.natAbs = M) := Lib.hid (by rw [← hM]; unfold smallN; rw [B64_eq]; exact if_pos (by omega))
      have HSB : Hid (smallB z.natAbs = true) := Lib.hid (by rw [← hM]; unfold smallB; rw [B64_eq]; exact decide_eq_true (by omega))
      have hfit : fits z = false := by cases hq : fits z; rfl; have := fits_iff.1 hq; omega
      have HV : Hid (fitV z = 0) := Lib.hid (fitV_out hfit)
      have HE := Lib.hid hfit
      obtain ⟨k, hk⟩ : ∃ k, IntKind.i64.wrap (M : Int) = k := ⟨_, rfl⟩
      have hkv : k = (M : Int) - 18446744073709551616 := by rw [← hk, IntKind.wrap_i64]; omega
      obtain ⟨m, hm⟩ : ∃ m, IntKind.i64.wrap (-k) = m := ⟨_, rfl⟩
      have hmv : m = 18446744073709551616 - (M : Int) := by rw [← hm, hkv, IntKind.wrap_i64]; omega
      have hx0 : (m == 0) = false := beq_eq_false_iff_ne.2 (by omega)
      have hx1 : m ≠ 0 := by omega
      have hx2 : ¬ m < 0 := by omega
      have hx3 : decide (m < 0) = false := decide_eq_false hx2
      clear hkv hmv
      clear hM hfit hb hc
      obtain ⟨W0, hW0⟩ : ∃ W0, W0 = (w.alloc (.cells #[.bool true, .slice a n c] 59)) := ⟨_, rfl⟩
      have E0 : Ext w W0 := by rw [hW0]; exact (Ext.alloc1 w (.cells #[.bool true, .slice a n c] 59))
      replace hz : Zw W0 (.agg #[.bool true, .slice a n c]) z := hz.ext E0
      have p1 : Bx2 W0 w.heap.size 59 (.bool true) (.slice a n c) := by rw [hW0]; exact (Bx2.new w 59 (.bool true) (.slice a n c))
      go_enter Tryz.func160, Tryz.ntmps160
      have kp1_0 := p1.cell0
      have kp1_1 := p1.cell1
      go_wp2_with fail
      rw [← hW0]
      clear hW0
      clear kp1_0 kp1_1
      refine (Tryz.natSmall hz.num).mono ?_
      rintro e Wc ⟨rfl, rfl⟩
      rw [HSN.out, HSB.out]
      have kp1_0 := p1.cell0
      have kp1_1 := p1.cell1
      go_wp2
      go_ret2
      exact ⟨by rw [HV.out, HE.out]; rfl, E0⟩
    · have HSN : Hid (smallN z.natAbs = M) := Lib.hid (by rw [← hM]; unfold smallN; rw [B64_eq]; exact if_pos (by omega))
      have HSB : Hid (smallB z.natAbs = true) := Lib.hid (by rw [← hM]; unfold smallB; rw [B64_eq]; exact decide_eq_true (by omega))
      have hfit : fits z = true := by exact fits_iff.2 (by omega)
      have HV : Hid (fitV z = -9223372036854775808) := Lib.hid (by rw [fitV_in hfit]; omega)
      have HE := Lib.hid hfit
      obtain ⟨k, hk⟩ : ∃ k, IntKind.i64.wrap (M : Int) = k := ⟨_, rfl⟩
      have hkv : k = -9223372036854775808 := by rw [← hk, IntKind.wrap_i64]; omega
      obtain ⟨m, hm⟩ : ∃ m, IntKind.i64.wrap (-k) = m := ⟨_, rfl⟩
      have hmv : m = -9223372036854775808 := by rw [← hm, hkv, IntKind.wrap_i64]; omega
      have hx0 : (m == 0) = false := beq_eq_false_iff_ne.2 (by omega)
      have hx1 : m ≠ 0 := by omega
      have hx2 : m < 0 := by omega
      have hx3 : decide (m < 0) = true := decide_eq_true hx2
      replace HV : Hid (fitV z = m) := Lib.hid (HV.out.trans (by omega))
      clear hkv hmv
      clear hM hfit hb hc
      obtain ⟨W0, hW0⟩ : ∃ W0, W0 = (w.alloc (.cells #[.bool true, .slice a n c] 59)) := ⟨_, rfl⟩
      have E0 : Ext w W0 := by rw [hW0]; exact (Ext.alloc1 w (.cells #[.bool true, .slice a n c] 59))
      replace hz : Zw W0 (.agg #[.bool true, .slice a n c]) z := hz.ext E0
      have p1 : Bx2 W0 w.heap.size 59 (.bool true) (.slice a n c) := by rw [hW0]; exact (Bx2.new w 59 (.bool true) (.slice a n c))
      go_enter Tryz.func160, Tryz.ntmps160
      have kp1_0 := p1.cell0
      have kp1_1 := p1.cell1
      go_wp2_with fail
      rw [← hW0]
      clear hW0
      clear kp1_0 kp1_1
      refine (Tryz.natSmall hz.num).mono ?_
      rintro e Wc ⟨rfl, rfl⟩
      rw [HSN.out, HSB.out]
      have kp1_0 := p1.cell0
      have kp1_1 := p1.cell1
      go_wp2
      go_ret2
      exact ⟨by rw [HV.out, HE.out]; rfl, E0⟩
    · have HSN : Hid (smallN z.natAbs = M) := Lib.hid (by rw [← hM]; unfold smallN; rw [B64_eq]; exact if_pos (by omega))
      have HSB : Hid (smallB z.natAbs = true) := Lib.hid (by rw [← hM]; unfold smallB; rw [B64_eq]; exact decide_eq_true (by omega))
      have hfit : fits z = true := by exact fits_iff.2 (by omega)
      have HV : Hid (fitV z = -(M : Int)) := Lib.hid (by rw [fitV_in hfit]; omega)
      have HE := Lib.hid hfit
      obtain ⟨k, hk⟩ : ∃ k, IntKind.i64.wrap (M : Int) = k := ⟨_, rfl⟩
      have hkv : k = (M : Int) := by rw [← hk, IntKind.wrap_i64]; omega
      obtain ⟨m, hm⟩ : ∃ m, IntKind.i64.wrap (-k) = m := ⟨_, rfl⟩
      have hmv : m = -(M : Int) := by rw [← hm, hkv, IntKind.wrap_i64]; omega
      have hx0 : (m == 0) = false := beq_eq_false_iff_ne.2 (by omega)
      have hx1 : m ≠ 0 := by omega
      have hx2 : m < 0 := by omega
      have hx3 : decide (m < 0) = true := decide_eq_true hx2
      replace HV : Hid (fitV z = m) := Lib.hid (HV.out.trans (by omega))
      clear hkv hmv
      clear hM hfit hb hc
      obtain ⟨W0, hW0⟩ : ∃ W0, W0 = (w.alloc (.cells #[.bool true, .slice a n c] 59)) := ⟨_, rfl⟩
      have E0 : Ext w W0 := by rw [hW0]; exact (Ext.alloc1 w (.cells #[.bool true, .slice a n c] 59))
      replace hz : Zw W0 (.agg #[.bool true, .slice a n c]) z := hz.ext E0
      have p1 : Bx2 W0 w.heap.size 59 (.bool true) (.slice a n c) := by rw [hW0]; exact (Bx2.new w 59 (.bool true) (.slice a n c))
      go_enter Tryz.func160, Tryz.ntmps160
      have kp1_0 := p1.cell0
      have kp1_1 := p1.cell1
      go_wp2_with fail
      rw [← hW0]
      clear hW0
      clear kp1_0 kp1_1
      refine (Tryz.natSmall hz.num).mono ?_
      rintro e Wc ⟨rfl, rfl⟩
      rw [HSN.out, HSB.out]
      have kp1_0 := p1.cell0
      have kp1_1 := p1.cell1
      go_wp2
      go_ret2
      exact ⟨by rw [HV.out, HE.out]; rfl, E0⟩

set_option maxRecDepth 100000 in
set_option maxHeartbeats 4000000 in
theorem Tryz.refZInt {v : Value} {z : Int} {w : World} (h : Zw w v z) :
    Calls Tryz.prog 49 #[v] w fun e w' => e = .returned (.tuple #[.int .i64 (fitV z), .bool (fits z)]) ∧ Ext w w' := by
  have hz := h
  obtain ⟨b, a, n, c, rfl, hb, hn0⟩ := h
  replace hb := hb.out
  clear hn0
  obtain ⟨M, hM⟩ : ∃ M, M = z.natAbs := ⟨_, rfl⟩
  cases b
  · have hbz : ¬ z < 0 := of_decide_eq_false hb.symm
    obtain hc | hc | hc | hc : 18446744073709551616 ≤ M ∨ 9223372036854775808 < M ∧ M < 18446744073709551616 ∨ M = 9223372036854775808 ∨ M < 9223372036854775808 := by omega
    · have HSN : Hid (smallN z.natAbs = 0) := Lib.hid (by rw [← hM]; unfold smallN; rw [B64_eq]; exact if_neg (by omega))
      have HSB : Hid (smallB z.natAbs = false) := Lib.hid (by rw [← hM]; unfold smallB; rw [B64_eq]; exact decide_eq_false (by omega))
      have hfit : fits z = false := by cases hq : fits z; rfl; have := fits_iff.1 hq; omega
      have HV : Hid (fitV z = 0) := Lib.hid (fitV_out hfit)
      have HE := Lib.hid hfit
      clear hM hfit hb hc
      obtain ⟨W0, hW0⟩ : ∃ W0, W0 = (w.alloc (.cells #[.bool false, .slice a n c] 59)) := ⟨_, rfl⟩
      have E0 : Ext w W0 := by rw [hW0]; exact (Ext.alloc1 w (.cells #[.bool false, .slice a n c] 59))
      replace hz : Zw W0 (.agg #[.bool false, .slice a n c]) z := hz.ext E0
      have p1 : Bx2 W0 w.heap.size 59 (.bool false) (.slice a n c) := by rw [hW0]; exact (Bx2.new w 59 (.bool false) (.slice a n c))
      go_enter Tryz.func49, Tryz.ntmps49
      have kp1_0 := p1.cell0
      have kp1_1 := p1.cell1
      go_wp2_with fail
      rw [← hW0]
      clear hW0
      clear kp1_0 kp1_1
      refine (Tryz.refSmall hz.num).mono ?_
      rintro e Wc ⟨rfl, rfl⟩
      rw [HSN.out, HSB.out]
      have kp1_0 := p1.cell0
      have kp1_1 := p1.cell1
      go_wp2
      go_ret2
      exact ⟨by rw [HV.out, HE.out]; rfl, E0⟩
    · have HSN : Hid (smallN z.natAbs = M) := Lib.hid (by rw [← hM]; unfold smallN; rw [B64_eq]; exact if_pos (by omega))
      have HSB : Hid (smallB z.natAbs = true) := Lib.hid (by rw [← hM]; unfold smallB; rw [B64_eq]; exact decide_eq_true (by omega))
      have hfit : fits z = false := by cases hq : fits z; rfl; have := fits_iff.1 hq; omega
      have HV : Hid (fitV z = 0) := Lib.hid (fitV_out hfit)
      have HE := Lib.hid hfit
      have g1 : (9223372036854775807 : Int) < (M : Int) := by omega
      have g1n : 9223372036854775807 < M := by omega
      have g2 : (9223372036854775808 : Int) < (M : Int) := by omega
      have g2n : 9223372036854775808 < M := by omega
      have g1d := decide_eq_true g1
      have g2d := decide_eq_true g2
      have g3 : ((M : Int) == 9223372036854775808) = false := beq_eq_false_iff_ne.2 (by omega)
      clear hM hfit hb hc
      obtain ⟨W0, hW0⟩ : ∃ W0, W0 = (w.alloc (.cells #[.bool false, .slice a n c] 59)) := ⟨_, rfl⟩
      have E0 : Ext w W0 := by rw [hW0]; exact (Ext.alloc1 w (.cells #[.bool false, .slice a n c] 59))
      replace hz : Zw W0 (.agg #[.bool false, .slice a n c]) z := hz.ext E0
      have p1 : Bx2 W0 w.heap.size 59 (.bool false) (.slice a n c) := by rw [hW0]; exact (Bx2.new w 59 (.bool false) (.slice a n c))
      go_enter Tryz.func49, Tryz.ntmps49
      have kp1_0 := p1.cell0
      have kp1_1 := p1.cell1
      go_wp2_with fail
      rw [← hW0]
      clear hW0
      clear kp1_0 kp1_1
      refine (Tryz.refSmall hz.num).mono ?_
      rintro e Wc ⟨rfl, rfl⟩
      rw [HSN.out, HSB.out]
      have kp1_0 := p1.cell0
      have kp1_1 := p1.cell1
      go_wp2
      go_ret2
      exact ⟨by rw [HV.out, HE.out]; rfl, E0⟩
    · have HSN : Hid (smallN z.natAbs = M) := Lib.hid (by rw [← hM]; unfold smallN; rw [B64_eq]; exact if_pos (by omega))
      have HSB : Hid (smallB z.natAbs = true) := Lib.hid (by rw [← hM]; unfold smallB; rw [B64_eq]; exact decide_eq_true (by omega))
      have hfit : fits z = false := by cases hq : fits z; rfl; have := fits_iff.1 hq; omega
      have HV : Hid (fitV z = 0) := Lib.hid (fitV_out hfit)
      have HE := Lib.hid hfit
      have g1 : (9223372036854775807 : Int) < (M : Int) := by omega
      have g1n : 9223372036854775807 < M := by omega
      have g2 : ¬ (9223372036854775808 : Int) < (M : Int) := by omega
      have g2n : ¬ 9223372036854775808 < M := by omega
      have g1d := decide_eq_true g1
      have g2d := decide_eq_false g2
      have g3 : ((M : Int) == 9223372036854775808) = true := beq_iff_eq.2 (by omega)
      clear hM hfit hb hc
      obtain ⟨W0, hW0⟩ : ∃ W0, W0 = (w.alloc (.cells #[.bool false, .slice a n c] 59)) := ⟨_, rfl⟩
      have E0 : Ext w W0 := by rw [hW0]; exact (Ext.alloc1 w (.cells #[.bool false, .slice a n c] 59))
      replace hz : Zw W0 (.agg #[.bool false, .slice a n c]) z := hz.ext E0
      have p1 : Bx2 W0 w.heap.size 59 (.bool false) (.slice a n c) := by rw [hW0]; exact (Bx2.new w 59 (.bool false) (.slice a n c))
      go_enter Tryz.func49, Tryz.ntmps49
      have kp1_0 := p1.cell0
      have kp1_1 := p1.cell1
      go_wp2_with fail
      rw [← hW0]
      clear hW0
      clear kp1_0 kp1_1
      refine (Tryz.refSmall hz.num).mono ?_
      rintro e Wc ⟨rfl, rfl⟩
      rw [HSN.out, HSB.out]
      have kp1_0 := p1.cell0
      have kp1_1 := p1.cell1
      go_wp2
      go_ret2
      exact ⟨by rw [HV.out, HE.out]; rfl, E0⟩
    · have HSN : Hid (smallN z.natAbs = M) := Lib.hid (by rw [← hM]; unfold smallN; rw [B64_eq]; exact if_pos (by omega))
      have HSB : Hid (smallB z.natAbs = true) := Lib.hid (by rw [← hM]; unfold smallB; rw [B64_eq]; exact decide_eq_true (by omega))
      have hfit : fits z = true := by exact fits_iff.2 (by omega)
      have HV : Hid (fitV z = (M : Int)) := Lib.hid (by rw [fitV_in hfit]; omega)
      have HE := Lib.hid hfit
      have g1 : ¬ (9223372036854775807 : Int) < (M : Int) := by omega
      have g1n : ¬ 9223372036854775807 < M := by omega
      have g2 : ¬ (9223372036854775808 : Int) < (M : Int) := by omega
      have g2n : ¬ 9223372036854775808 < M := by omega
      have g1d := decide_eq_false g1
      have g2d := decide_eq_false g2
      have g3 : ((M : Int) == 9223372036854775808) = false := beq_eq_false_iff_ne.2 (by omega)
      have g4 : IntKind.i64.wrap (M : Int) = (M : Int) := by rw [IntKind.wrap_i64]; omega
      clear hM hfit hb hc
      obtain ⟨W0, hW0⟩ : ∃ W0, W0 = (w.alloc (.cells #[.bool false, .slice a n c] 59)) := ⟨_, rfl⟩
      have E0 : Ext w W0 := by rw [hW0]; exact (Ext.alloc1 w (.cells #[.bool false, .slice a n c] 59))
      replace hz : Zw W0 (.agg #[.bool false, .slice a n c]) z := hz.ext E0
      have p1 : Bx2 W0 w.heap.size 59 (.bool false) (.slice a n c) := by rw [hW0]; exact (Bx2.new w 59 (.bool false) (.slice a n c))
      go_enter Tryz.func49, Tryz.ntmps49
      have kp1_0 := p1.cell0
      have kp1_1 := p1.cell1
      go_wp2_with fail
      rw [← hW0]
      clear hW0
      clear kp1_0 kp1_1
      refine (Tryz.refSmall hz.num).mono ?_
      rintro e Wc ⟨rfl, rfl⟩
      rw [HSN.out, HSB.out]
      have kp1_0 := p1.cell0
      have kp1_1 := p1.cell1
      go_wp2
      go_ret2
      exact ⟨by rw [HV.out, HE.out]; rfl, E0⟩
  · have hbz : z < 0 := of_decide_eq_true hb.symm
    obtain hc | hc | hc | hc : 18446744073709551616 ≤ M ∨ 9223372036854775808 < M ∧ M < 18446744073709551616 ∨ M = 9223372036854775808 ∨ 0 < M ∧ M < 9223372036854775808 := by omega
    · have HSN : Hid (smallN z.natAbs = 0) := Lib.hid (by rw [← hM]; unfold smallN; rw [B64_eq]; exact if_neg (by omega))
      have HSB : Hid (smallB z.natAbs = false) := Lib.hid (by rw [← hM]; unfold smallB; rw [B64_eq]; exact decide_eq_false (by omega))
      have hfit : fits z = false := by cases hq : fits z; rfl; have := fits_iff.1 hq; omega
      have HV : Hid (fitV z = 0) := Lib.hid (fitV_out hfit)
      have HE := Lib.hid hfit
      clear hM hfit hb hc
      obtain ⟨W0, hW0⟩ : ∃ W0, W0 = (w.alloc (.cells #[.bool true, .slice a n c] 59)) := ⟨_, rfl⟩
      have E0 : Ext w W0 := by rw [hW0]; exact (Ext.alloc1 w (.cells #[.bool true, .slice a n c] 59))
      replace hz : Zw W0 (.agg #[.bool true, .slice a n c]) z := hz.ext E0
      have p1 : Bx2 W0 w.heap.size 59 (.bool true) (.slice a n c) := by rw [hW0]; exact (Bx2.new w 59 (.bool true) (.slice a n c))
      go_enter Tryz.func49, Tryz.ntmps49
      have kp1_0 := p1.cell0
      have kp1_1 := p1.cell1
      go_wp2_with fail
      rw [← hW0]
      clear hW0
      clear kp1_0 kp1_1
      refine (Tryz.refSmall hz.num).mono ?_
      rintro e Wc ⟨rfl, rfl⟩
      rw [HSN.out, HSB.out]
      have kp1_0 := p1.cell0
      have kp1_1 := p1.cell1
      go_wp2
      go_ret2
      exact ⟨by rw [HV.out, HE.out]; rfl, E0⟩
    · have HSN : Hid (smallN z.natAbs = M) := Lib.hid (by rw [← hM]; unfold smallN; rw [B64_eq]; exact if_pos (by omega))
      have HSB : Hid (smallB z.natAbs = true) := Lib.hid (by rw [← hM]; unfold smallB; rw [B64_eq]; exact decide_eq_true (by omega))
      have hfit : fits z = false := by cases hq : fits z; rfl; have := fits_iff.1 hq; omega
      have HV : Hid (fitV z = 0) := Lib.hid (fitV_out hfit)
      have HE := Lib.hid hfit
      have g1 : (9223372036854775807 : Int) < (M : Int) := by omega
      have g1n : 9223372036854775807 < M := by omega
      have g2 : (9223372036854775808 : Int) < (M : Int) := by omega
      have g2n : 9223372036854775808 < M := by omega
      have g1d := decide_eq_true g1
      have g2d := decide_eq_true g2
      have g3 : ((M : Int) == 9223372036854775808) = false := beq_eq_false_iff_ne.2 (by omega)
      clear hM hfit hb hc
      obtain ⟨W0, hW0⟩ : ∃ W0, W0 = (w.alloc (.cells #[.bool true, .slice a n c] 59)) := ⟨_, rfl⟩
      have E0 : Ext w W0 := by rw [hW0]; exact (Ext.alloc1 w (.cells #[.bool true, .slice a n c] 59))
      replace hz : Zw W0 (.agg #[.bool true, .slice a n c]) z := hz.ext E0
      have p1 : Bx2 W0 w.heap.size 59 (.bool true) (.slice a n c) := by rw [hW0]; exact (Bx2.new w 59 (.bool true) (.slice a n c))
      go_enter Tryz.func49, Tryz.ntmps49
      have kp1_0 := p1.cell0
      have kp1_1 := p1.cell1
      go_wp2_with fail
      rw [← hW0]
      clear hW0
      clear kp1_0 kp1_1
      refine (Tryz.refSmall hz.num).mono ?_
      rintro e Wc ⟨rfl, rfl⟩
      rw [HSN.out, HSB.out]
      have kp1_0 := p1.cell0
      have kp1_1 := p1.cell1
      go_wp2
      go_ret2
      exact ⟨by rw [HV.out, HE.out]; rfl, E0⟩
    · have HSN : Hid (smallN z.natAbs = M) := Lib.hid (by rw [← hM]; unfold smallN; rw [B64_eq]; exact if_pos (by omega))
      have HSB : Hid (smallB z.natAbs = true) := Lib.hid (by rw [← hM]; unfold smallB; rw [B64_eq]; exact decide_eq_true (by omega))
      have hfit : fits z = true := by exact fits_iff.2 (by omega)
      have HV : Hid (fitV z = -9223372036854775808) := Lib.hid (by rw [fitV_in hfit]; omega)
      have HE := Lib.hid hfit
      have g1 : (9223372036854775807 : Int) < (M : Int) := by omega
      have g1n : 9223372036854775807 < M := by omega
      have g2 : ¬ (9223372036854775808 : Int) < (M : Int) := by omega
      have g2n : ¬ 9223372036854775808 < M := by omega
      have g1d := decide_eq_true g1
      have g2d := decide_eq_false g2
      have g3 : ((M : Int) == 9223372036854775808) = true := beq_iff_eq.2 (by omega)
      clear hM hfit hb hc
      obtain ⟨W0, hW0⟩ : ∃ W0, W0 = (w.alloc (.cells #[.bool true, .slice a n c] 59)) := ⟨_, rfl⟩
      have E0 : Ext w W0 := by rw [hW0]; exact (Ext.alloc1 w (.cells #[.bool true, .slice a n c] 59))
      replace hz : Zw W0 (.agg #[.bool true, .slice a n c]) z := hz.ext E0
      have p1 : Bx2 W0 w.heap.size 59 (.bool true) (.slice a n c) := by rw [hW0]; exact (Bx2.new w 59 (.bool true) (.slice a n c))
      go_enter Tryz.func49, Tryz.ntmps49
      have kp1_0 := p1.cell0
      have kp1_1 := p1.cell1
      go_wp2_with fail
      rw [← hW0]
      clear hW0
      clear kp1_0 kp1_1
      refine (Tryz.refSmall hz.num).mono ?_
      rintro e Wc ⟨rfl, rfl⟩
      rw [HSN.out, HSB.out]
      have kp1_0 := p1.cell0
      have kp1_1 := p1.cell1
      go_wp2
      go_ret2
      exact ⟨by rw [HV.out, HE.out]; rfl, E0⟩
    · have HSN : Hid (smallN z.natAbs = M) := Lib.hid (by rw [← hM]; unfold smallN; rw [B64_eq]; exact if_pos (by omega))
      have HSB : Hid (smallB z.natAbs = true) := Lib.hid (by rw [← hM]; unfold smallB; rw [B64_eq]; exact decide_eq_true (by omega))
      have hfit : fits z = true := by exact fits_iff.2 (by omega)
      have HV : Hid (fitV z = -(M : Int)) := Lib.hid (by rw [fitV_in hfit]; omega)
      have HE := Lib.hid hfit
      have g1 : ¬ (9223372036854775807 : Int) < (M : Int) := by omega
      have g1n : ¬ 9223372036854775807 < M := by omega
      have g2 : ¬ (9223372036854775808 : Int) < (M : Int) := by omega
      have g2n : ¬ 9223372036854775808 < M := by omega
      have g1d := decide_eq_false g1
      have g2d := decide_eq_false g2
      have g3 : ((M : Int) == 9223372036854775808) = false := beq_eq_false_iff_ne.2 (by omega)
      have g4 : IntKind.i64.wrap (M : Int) = (M : Int) := by rw [IntKind.wrap_i64]; omega
      have g5 : IntKind.i64.wrap (-(M : Int)) = -(M : Int) := by rw [IntKind.wrap_i64]; omega
      clear hM hfit hb hc
      obtain ⟨W0, hW0⟩ : ∃ W0, W0 = (w.alloc (.cells #[.bool true, .slice a n c] 59)) := ⟨_, rfl⟩
      have E0 : Ext w W0 := by rw [hW0]; exact (Ext.alloc1 w (.cells #[.bool true, .slice a n c] 59))
      replace hz : Zw W0 (.agg #[.bool true, .slice a n c]) z := hz.ext E0
      have p1 : Bx2 W0 w.heap.size 59 (.bool true) (.slice a n c) := by rw [hW0]; exact (Bx2.new w 59 (.bool true) (.slice a n c))
      go_enter Tryz.func49, Tryz.ntmps49
      have kp1_0 := p1.cell0
      have kp1_1 := p1.cell1
      go_wp2_with fail
      rw [← hW0]
      clear hW0
      clear kp1_0 kp1_1
      refine (Tryz.refSmall hz.num).mono ?_
      rintro e Wc ⟨rfl, rfl⟩
      rw [HSN.out, HSB.out]
      have kp1_0 := p1.cell0
      have kp1_1 := p1.cell1
      go_wp2
      go_ret2
      exact ⟨by rw [HV.out, HE.out]; rfl, E0⟩

theorem Tryz.fixAddV (a b : Int)  (w : World) (ha1 : -9223372036854775808 ≤ a) (ha2 : a < 9223372036854775808) (hb1 : -9223372036854775808 ≤ b) (hb2 : b < 9223372036854775808) {V E : Int} (hV : fitV (a + b) = V) (hE : fitE (a + b) = E) :
    Calls Tryz.prog 139 #[.int .i64 a, .int .i64 b] w fun e w' => e = .returned (.tuple #[.int .i64 V, .int .i64 E]) ∧ Ext w w' := by
  subst hV
  subst hE
  exact (Tryz.fixAdd a b w ha1 ha2 hb1 hb2).mono fun _ _ h => ⟨h.1, by rw [← h.2]; exact Ext.refl _⟩

theorem Tryz.fixSubV (a b : Int)  (w : World) (ha1 : -9223372036854775808 ≤ a) (ha2 : a < 9223372036854775808) (hb1 : -9223372036854775808 ≤ b) (hb2 : b < 9223372036854775808) {V E : Int} (hV : fitV (a - b) = V) (hE : fitE (a - b) = E) :
    Calls Tryz.prog 108 #[.int .i64 a, .int .i64 b] w fun e w' => e = .returned (.tuple #[.int .i64 V, .int .i64 E]) ∧ Ext w w' := by
  subst hV
  subst hE
  exact (Tryz.fixSub a b w ha1 ha2 hb1 hb2).mono fun _ _ h => ⟨h.1, by rw [← h.2]; exact Ext.refl _⟩

theorem Tryz.fixMulV (a b : Int) (K : Nat) (hK : K ≤ 40) (w : World) (ha1 : -9223372036854775808 ≤ a) (ha2 : a < 9223372036854775808) (hb1 : -9223372036854775808 ≤ b) (hb2 : b < 9223372036854775808) {V E : Int} (hV : fitV (nearR (((a * b : Int) : Rat) / ((2 ^ K : Nat) : Rat))) = V) (hE : fitE (nearR (((a * b : Int) : Rat) / ((2 ^ K : Nat) : Rat))) = E) :
    Calls Tryz.prog 38 #[.int .i64 a, .int .i64 b, .int .i64 (K : Int)] w fun e w' => e = .returned (.tuple #[.int .i64 V, .int .i64 E]) ∧ Ext w w' := by
  subst hV
  subst hE
  exact Tryz.fixMul a b K hK w ha1 ha2 hb1 hb2

theorem Tryz.fixDivV (a b : Int) (K : Nat) (hK : K ≤ 40) (w : World) (ha1 : -9223372036854775808 ≤ a) (ha2 : a < 9223372036854775808) (hb1 : -9223372036854775808 ≤ b) (hb2 : b < 9223372036854775808) (hb0 : b ≠ 0) {V E : Int} (hV : fitV (nearR (((a * ((2 ^ K : Nat) : Int) : Int) : Rat) / (b : Rat))) = V) (hE : fitE (nearR (((a * ((2 ^ K : Nat) : Int) : Int) : Rat) / (b : Rat))) = E) :
    Calls Tryz.prog 145 #[.int .i64 a, .int .i64 b, .int .i64 (K : Int)] w fun e w' => e = .returned (.tuple #[.int .i64 V, .int .i64 E]) ∧ Ext w w' := by
  subst hV
  subst hE
  exact Tryz.fixDiv a b K hK w ha1 ha2 hb1 hb2 hb0

set_option maxRecDepth 100000 in
set_option maxHeartbeats 4000000 in
theorem Tryz.fixSqrt (A K : Nat) (w : World) (hA : A < 9223372036854775808) (hK : K ≤ 40) :
    Calls Tryz.prog 144 #[.int .i64 (A : Int), .int .i64 (K : Int)] w fun e w' => e = .returned (.tuple #[.int .i64 ((rt (A * 2 ^ K) 2 : Nat) : Int), .int .i64 0]) ∧ Ext w w' := by
  have hKF : fracB (K : Int) = true := decide_eq_true (by omega)
  have ha0 : ¬ (A : Int) < 0 := by omega
  have had : decide ((A : Int) < 0) = false := decide_eq_false ha0
  have hwa : IntKind.u64.wrap (A : Int) = (A : Int) := by rw [IntKind.wrap_u64]; omega
  obtain ⟨N, hN⟩ : ∃ N, N = A * 2 ^ K := ⟨_, rfl⟩
  have hNb : N < 9223372036854775808 * 1099511627776 := by
    rw [hN]
    have h1 : 2 ^ K ≤ 1099511627776 := Nat.le_trans (Nat.pow_le_pow_right (by omega) hK) (by decide)
    exact Nat.lt_of_le_of_lt (Nat.mul_le_mul_left _ h1) (Nat.mul_lt_mul_of_pos_right hA (by decide))
  have HAB : Hid (A < B64) := Lib.hid (by rw [B64_eq]; omega)
  have S1 : Hid (Sm 1 A) := Lib.hid (Sm.small (by omega))
  have S2 : Hid (Sm 2 N) := Lib.hid (Nat.lt_trans hNb (by rw [B64_eq]; decide))
  have HRE : Hid (rootE 2 = 0) := Lib.hid rfl
  have HRT : Hid (rootV N 2 = rt N 2) := Lib.hid (if_pos (by omega))
  have hr : rt N 2 < 9223372036854775808 := by
    have := (rt_le_iff (a := N) (s := 9223372036854775807) (k := 2) (by omega)).2 (Nat.lt_trans hNb (by decide))
    omega
  have hfit : fits ((rt N 2 : Nat) : Int) = true := fits_iff.2 (by omega)
  have HV : Hid (fitV ((rt N 2 : Nat) : Int) = ((rt N 2 : Nat) : Int)) := Lib.hid (fitV_in hfit)
  have HF := Lib.hid hfit
  have HN := Lib.hid hN
  rw [← hN]
  clear hfit hr hNb hN
  obtain ⟨R, hR⟩ : ∃ R, R = rt N 2 := ⟨_, rfl⟩
  rw [← hR] at HRT HV HF ⊢
  clear hR
  obtain ⟨W0, hW0⟩ : ∃ W0, W0 = w := ⟨_, rfl⟩
  have E0 : Ext w W0 := by rw [hW0]; exact Ext.refl w
  go_enter Tryz.func144, Tryz.ntmps144
  go_wp2_with fail
  rw [← hW0]
  clear hW0
  refine (Tryz.fixIsFrac (K : Int) _).mono ?_
  rintro e Wc ⟨rfl, rfl⟩
  rw [hKF]
  go_wp2_with fail
  refine (Tryz.natOf A _ HAB.out).mono ?_
  rintro e Wa ⟨v1, rfl, g1, hE, -⟩
  replace E0 : Ext w Wa := (Ext.trans E0 hE)
  clear hE
  go_wp2_with fail
  refine (Tryz.divShlK g1 S1.out (by omega) K (by omega)).mono ?_
  rintro e Wb ⟨v2, rfl, g2, hE⟩
  rw [← HN.out] at g2
  replace E0 : Ext w Wb := (Ext.trans E0 hE)
  replace g1 : Nw Wb v1 A := (g1.ext hE)
  clear hE
  go_wp2_with fail
  refine (Tryz.rootRoot g2 S2.out (by omega) 2).mono ?_
  rintro e Wc2 ⟨v3, rfl, g3, hE⟩
  rw [HRE.out]
  rw [HRT.out] at g3
  replace E0 : Ext w Wc2 := (Ext.trans E0 hE)
  replace g1 : Nw Wc2 v1 A := (g1.ext hE)
  replace g2 : Nw Wc2 v2 N := (g2.ext hE)
  clear hE
  obtain ⟨a3, n3, c3, rfl⟩ := Nw.slice g3
  go_wp2_with fail
  refine (Tryz.zedInt (Zw.ofN g3)).mono ?_
  rintro e Wd ⟨rfl, hQ⟩
  rw [HV.out, HF.out]
  replace E0 := Ext.trans E0 hQ
  go_wp2
  go_ret2
  exact ⟨rfl, E0⟩

end Go.Rt
