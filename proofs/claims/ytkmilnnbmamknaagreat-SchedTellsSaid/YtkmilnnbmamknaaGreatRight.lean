/-
 Which integers and fractions are right, and of few limbs.
-/
import Derived.Test.YtkmilnnbmamknaaGreatSqz
import Derived.Test.YtkmilnnbmamknaaGreatRatP
import Derived.Test.YtkmilnnbmamknaaGreatGJ
namespace Go.Rt
open Go.RowKit Go.Proofs

/-- is it a right integer? -/
def rightZ (b : Bool) (xs : List Nat) : Bool := normB xs && (decide (0 < xs.length) || !b)

/-- is it a right fraction? -/
def rightR (b : Bool) (xs ys : List Nat) : Bool := rightZ b xs && normB ys && decide (0 < ys.length) && decide (Nat.gcd (ev B64 xs) (ev B64 ys) = 1)

def fewZ (b : Bool) (xs : List Nat) (m : Int) : Bool := decide ((xs.length : Int) ≤ m) && rightZ b xs

def fewR (b : Bool) (xs ys : List Nat) (m : Int) : Bool := decide ((xs.length : Int) ≤ m) && decide ((ys.length : Int) ≤ m) && rightR b xs ys

theorem Nt.slice {W : World} {a : Option Addr} {n c : Nat} {xs : List Nat} (h : Nt W (.slice a n c) xs) : n = xs.length := by
 obtain ⟨_, _, _, _, e, _⟩ := h
 cases e
 rfl

theorem Nt.nw {W : World} {v : Value} {xs : List Nat} (h : Nt W v xs) (hn : normB xs = true) : Nw W v (ev B64 xs) := ⟨xs, h, normB_iff.1 hn, rfl⟩

theorem rightZ_zw {W : World} {b : Bool} {a : Option Addr} {n c : Nat} {xs : List Nat} (h : Nt W (.slice a n c) xs) (hr : rightZ b xs = true) : Zw W (.agg #[.bool b, .slice a n c]) (sgn b (ev B64 xs)) := by
 unfold rightZ at hr
 rw [Bool.and_eq_true] at hr
 refine Zw.mk (h.nw hr.1) ?_
 rw [sgn_neg]
 cases b
 ·rfl
 ·have h2 : 0 < xs.length := by simpa using hr.2
  have : 0 < ev B64 xs := by
   apply Nat.pos_of_ne_zero
   intro e
   have := (Norm.zero_iff B64_pos (normB_iff.1 hr.1)).1 e
   omega
  rw [decide_eq_true this]
  rfl

theorem fewZ_zw {W : World} {b : Bool} {a : Option Addr} {n c L : Nat} {xs : List Nat} (h : Nt W (.slice a n c) xs) (hr : fewZ b xs (L : Int) = true) : ∃ z, Zw W (.agg #[.bool b, .slice a n c]) z ∧ Sm L z.natAbs := by
 unfold fewZ at hr
 rw [Bool.and_eq_true] at hr
 refine ⟨_, rightZ_zw h hr.2, ?_⟩
 rw [sgn_abs]
 have h1 : (xs.length : Int) ≤ (L : Int) := by simpa using hr.1
 exact Nat.lt_of_lt_of_le (ev_lt h.lim) (Nat.pow_le_pow_right B64_pos (by omega))

theorem rightR_rw {W : World} {b : Bool} {a : Option Addr} {n c : Nat} {a' : Option Addr} {n' c' : Nat} {xs ys : List Nat} (h : Nt W (.slice a n c) xs) (k : Nt W (.slice a' n' c') ys) (hr : rightR b xs ys = true) :
  ∃ x : Rat, Rw W (.agg #[.bool b, .slice a n c, .slice a' n' c']) x ∧ x.num.natAbs = ev B64 xs ∧ x.den = ev B64 ys := by
 unfold rightR at hr
 rw [Bool.and_eq_true, Bool.and_eq_true, Bool.and_eq_true] at hr
 obtain ⟨⟨⟨h1, h2⟩, h3⟩, h4⟩ := hr
 have h3 : 0 < ys.length := by simpa using h3
 have h4 : Nat.gcd (ev B64 xs) (ev B64 ys) = 1 := by simpa using h4
 have hy : ev B64 ys ≠ 0 := fun e => by
  have := (Norm.zero_iff B64_pos (normB_iff.1 h2)).1 e
  omega
 obtain ⟨bz, az, nz, cz, e, hb, hn⟩ := rightZ_zw h h1
 cases e
 refine ⟨⟨sgn b (ev B64 xs), ev B64 ys, hy, by rw [sgn_abs]; exact h4⟩, ⟨b, a, n, c, a', n', c', rfl, hb, hn, k.nw h2⟩, sgn_abs _ _, rfl⟩

theorem fewR_rw {W : World} {b : Bool} {a : Option Addr} {n c : Nat} {a' : Option Addr} {n' c' L : Nat} {xs ys : List Nat} (h : Nt W (.slice a n c) xs) (k : Nt W (.slice a' n' c') ys) (hr : fewR b xs ys (L : Int) = true) :
  ∃ x : Rat, Rw W (.agg #[.bool b, .slice a n c, .slice a' n' c']) x ∧ SmR L x := by
 unfold fewR at hr
 rw [Bool.and_eq_true, Bool.and_eq_true] at hr
 obtain ⟨⟨h1, h2⟩, h3⟩ := hr
 obtain ⟨x, hx, e1, e2⟩ := rightR_rw h k h3
 have h1 : (xs.length : Int) ≤ (L : Int) := by simpa using h1
 have h2 : (ys.length : Int) ≤ (L : Int) := by simpa using h2
 refine ⟨x, hx, ?_, ?_⟩
 ·rw [e1]; exact Nat.lt_of_lt_of_le (ev_lt h.lim) (Nat.pow_le_pow_right B64_pos (by omega))
 ·rw [e2]; exact Nat.lt_of_lt_of_le (ev_lt k.lim) (Nat.pow_le_pow_right B64_pos (by omega))

/-- a small number -/
def smallN (N : Nat) : Nat := if N < B64 then N else 0

def smallB (N : Nat) : Bool := decide (N < B64)

set_option maxHeartbeats 400000 in
theorem Tryz.natSmall {v : Value} {N : Nat} {w : World} (h : Nw w v N) :
  Calls Tryz.prog 28 #[v] w fun e w' => e = .returned (.tuple #[.int .u64 ((smallN N : Nat) : Int), .bool (smallB N)]) ∧ w = w' := by
 obtain ⟨xs, ⟨a, b, o, cap, rfl, hs, hl⟩, hn, he⟩ := h
 have hlen := fun L => len_le_iff (by rw [B64_eq]; omega) hl hn L
 match xs, hs, hl, hn, he, hlen with
 | [], hs, hl, hn, he, hlen =>
  have H1 : Hid (smallN N = 0) := Lib.hid (by rw [← he]; unfold smallN; split <;> rfl)
  have H2 : Hid (smallB N = true) := Lib.hid (by rw [← he]; exact decide_eq_true B64_pos)
  clear hs hl hn he hlen
  go_enter Tryz.func28, Tryz.ntmps28
  go_wp2; go_ret2
  exact ⟨by rw [H1.out, H2.out]; rfl, rfl⟩
 | [x], hs, hl, hn, he, hlen =>
  obtain rfl := hs.addr (by simp)
  have hc := hs.cell (i := 0) (by simp)
  have hxb := lg_lt hl 0
  have hx : ev B64 [x] = lg [x] 0 := ev_single _ _
  have H1 : Hid (smallN N = lg [x] 0) := Lib.hid (by rw [← he, hx]; unfold smallN; rw [if_pos hxb])
  have H2 : Hid (smallB N = true) := Lib.hid (by rw [← he, hx]; exact decide_eq_true hxb)
  generalize lg [x] 0 = y at *
  clear hs hl hn he hlen hx hxb
  simp only [Nat.add_zero] at hc
  go_enter Tryz.func28, Tryz.ntmps28
  go_wp2; go_ret2
  exact ⟨by rw [H1.out, H2.out]; rfl, rfl⟩
 | x :: y :: r, hs, hl, hn, he, hlen =>
  have hbig : ¬ N < B64 := fun hlt => by
   have := (hlen 1).2 (by rw [he, Nat.pow_one]; exact hlt)
   simp at this
  have H1 : Hid (smallN N = 0) := Lib.hid (if_neg hbig)
  have H2 : Hid (smallB N = false) := Lib.hid (decide_eq_false hbig)
  have l1 : (((x :: y :: r).length : Int) == 0) = false := beq_eq_false_iff_ne.2 (by simp; omega)
  have l2 : (((x :: y :: r).length : Int) == 1) = false := beq_eq_false_iff_ne.2 (by simp; omega)
  generalize (x :: y :: r).length = n at *
  clear hs hl hn he hlen hbig
  go_enter Tryz.func28, Tryz.ntmps28
  go_wp2; go_ret2
  exact ⟨by rw [H1.out, H2.out]; rfl, rfl⟩

end Go.Rt
