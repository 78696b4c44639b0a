/-
 Which integers and fractions are right, and of few limbs.
-/
import Derived.Test.YthmncdhibcoiaaaGreatSqz
import Derived.Test.YthmncdhibcoiaaaGreatRatP
import Derived.Test.YthmncdhibcoiaaaGreatGJ

namespace Go.Rt

open Go.RowKit Go.Proofs

/-- is it a right integer? -/
def rightZ (b : Bool) (xs : List Nat) : Bool := normB xs && (decide (0 < xs.length) || !b)

/-- is it a right fraction? -/
def rightR (b : Bool) (xs ys : List Nat) : Bool := rightZ b xs && normB ys && decide (0 < ys.length) && decide (Nat.gcd (ev B64 xs) (ev B64 ys) = 1)

def fewR (b : Bool) (xs ys : List Nat) (m : Int) : Bool := decide ((xs.length : Int) ≤ m) && decide ((ys.length : Int) ≤ m) && rightR b xs ys

theorem Nt.slice {W : World} {a : Option Addr} {n c : Nat} {xs : List Nat} (h : Nt W (.slice a n c) xs) : n = xs.length := by
 obtain ⟨_, _, _, _, e, _⟩ := h
 cases e
 rfl

theorem Nt.nw {W : World} {v : Value} {xs : List Nat} (h : Nt W v xs) (hn : normB xs = true) : Nw W v (ev B64 xs) := ⟨xs, h, normB_iff.1 hn, rfl⟩

theorem rightZ_zw {W : World} {b : Bool} {a : Option Addr} {n c : Nat} {xs : List Nat} (h : Nt W (.slice a n c) xs) (hr : rightZ b xs = true) : Zw W (.agg #[.bool b, .slice a n c]) (sgn b (ev B64 xs)) := by
 unfold rightZ at hr
 rw [Bool.and_eq_true] at hr
 refine Zw.mk (h.nw hr.1) ?_
 rw [sgn_neg]
 cases b
 ·rfl
 ·have h2 : 0 < xs.length := by simpa using hr.2
  have : 0 < ev B64 xs := by
   apply Nat.pos_of_ne_zero
   intro e
   have := (Norm.zero_iff B64_pos (normB_iff.1 hr.1)).1 e
   omega
  rw [decide_eq_true this]
  rfl

theorem rightR_rw {W : World} {b : Bool} {a : Option Addr} {n c : Nat} {a' : Option Addr} {n' c' : Nat} {xs ys : List Nat} (h : Nt W (.slice a n c) xs) (k : Nt W (.slice a' n' c') ys) (hr : rightR b xs ys = true) :
  ∃ x : Rat, Rw W (.agg #[.bool b, .slice a n c, .slice a' n' c']) x ∧ x.num.natAbs = ev B64 xs ∧ x.den = ev B64 ys := by
 unfold rightR at hr
 rw [Bool.and_eq_true, Bool.and_eq_true, Bool.and_eq_true] at hr
 obtain ⟨⟨⟨h1, h2⟩, h3⟩, h4⟩ := hr
 have h3 : 0 < ys.length := by simpa using h3
 have h4 : Nat.gcd (ev B64 xs) (ev B64 ys) = 1 := by simpa using h4
 have hy : ev B64 ys ≠ 0 := fun e => by
  have := (Norm.zero_iff B64_pos (normB_iff.1 h2)).1 e
  omega
 obtain ⟨bz, az, nz, cz, e, hb, hn⟩ := rightZ_zw h h1
 cases e
 refine ⟨⟨sgn b (ev B64 xs), ev B64 ys, hy, by rw [sgn_abs]; exact h4⟩, ⟨b, a, n, c, a', n', c', rfl, hb, hn, k.nw h2⟩, sgn_abs _ _, rfl⟩

theorem fewR_rw {W : World} {b : Bool} {a : Option Addr} {n c : Nat} {a' : Option Addr} {n' c' L : Nat} {xs ys : List Nat} (h : Nt W (.slice a n c) xs) (k : Nt W (.slice a' n' c') ys) (hr : fewR b xs ys (L : Int) = true) :
  ∃ x : Rat, Rw W (.agg #[.bool b, .slice a n c, .slice a' n' c']) x ∧ SmR L x := by
 unfold fewR at hr
 rw [Bool.and_eq_true, Bool.and_eq_true] at hr
 obtain ⟨⟨h1, h2⟩, h3⟩ := hr
 obtain ⟨x, hx, e1, e2⟩ := rightR_rw h k h3
 have h1 : (xs.length : Int) ≤ (L : Int) := by simpa using h1
 have h2 : (ys.length : Int) ≤ (L : Int) := by simpa using h2
 refine ⟨x, hx, ?_, ?_⟩
 ·rw [e1]; exact Nat.lt_of_lt_of_le (ev_lt h.lim) (Nat.pow_le_pow_right B64_pos (by omega))
 ·rw [e2]; exact Nat.lt_of_lt_of_le (ev_lt k.lim) (Nat.pow_le_pow_right B64_pos (by omega))

theorem Tryz.refZRightB {b : Bool} {a : Option Addr} {n c : Nat} {xs : List Nat} {w : World} (h : Nt w (.slice a n c) xs) :
  Calls Tryz.prog 75 #[.agg #[.bool b, .slice a n c]] w fun e w' => e = .returned (.bool (rightZ b xs)) ∧ Ext w w' := by
 have := Tryz.refZRight (b := b) h
 obtain rfl := h.slice
 exact this

theorem Tryz.natRight {v : Value} {xs : List Nat} {w : World} (h : Nt w v xs) :
  Calls Tryz.prog 80 #[v] w fun e w' => e = .returned (.bool (normB xs)) ∧ w = w' := by
 obtain ⟨a, b, o, cap, rfl, hs, hl⟩ := h
 have hle := hs.le
 have hmx := hs.max
 by_cases h0 : xs.length = 0
 ·have HB : Hid (normB xs = true) := Lib.hid (by simp [normB, h0])
  have h0' : ((xs.length : Int) == 0) = true := by simp [h0]
  clear h0
  go_enter Tryz.func80, Tryz.ntmps80
  go_wp2; go_ret
  exact ⟨ret_b HB.out.symm, rfl⟩
 ·have h0' : ((xs.length : Int) == 0) = false := beq_eq_false_iff_ne.2 (by omega)
  have h1 : 0 < xs.length := by omega
  obtain rfl : a = some ⟨b, o, none⟩ := hs.addr h1
  have hc := hs.cell (i := xs.length - 1) (by omega)
  have HB : Hid (normB xs = (((lg xs (xs.length - 1) : Nat) : Int) != 0)) := Lib.hid (by
   unfold normB
   rw [show (xs.length == 0) = false from by simpa using h0, Bool.false_or, Bool.eq_iff_iff, bne_iff_ne, bne_iff_ne]
   omega)
  clear h0 hs
  go_enter Tryz.func80, Tryz.ntmps80
  go_wp2
  all_goals go_ret
  all_goals exact ⟨ret_b HB.out.symm, rfl⟩

set_option maxHeartbeats 400000 in
theorem Tryz.zedRight {b : Bool} {a : Option Addr} {n c : Nat} {xs : List Nat} {w : World} (h : Nt w (.slice a n c) xs) :
  Calls Tryz.prog 79 #[.agg #[.bool b, .slice a n c]] w fun e w' => e = .returned (.bool (rightZ b xs)) ∧ Ext w w' := by
 have E0 := Ext.alloc1 w (.cells #[.bool b, .slice a n c] 25)
 have p := Bx2.new w 25 (.bool b) (.slice a n c)
 have k0 := p.cell0
 have k1 := p.cell1
 obtain rfl := h.slice
 cases hq : normB xs
 ·have HQ := Lib.hid hq
  have HR : Hid (false = rightZ b xs) := Lib.hid (by unfold rightZ; rw [hq]; rfl)
  clear hq p
  go_enter Tryz.func79, Tryz.ntmps79
  go_wp2_with fail
  refine (Tryz.natRight (h.ext E0)).mono ?_
  rintro e w1 ⟨rfl, rfl⟩
  rw [HQ.out]; go_wp2
  all_goals go_ret
  all_goals exact ⟨ret_b HR.out, E0⟩
 ·have HQ := Lib.hid hq
  cases b
  ·have HR : Hid (true = rightZ false xs) := Lib.hid (by unfold rightZ; rw [hq]; simp)
   clear hq p
   go_enter Tryz.func79, Tryz.ntmps79
   go_wp2_with fail
   refine (Tryz.natRight (h.ext E0)).mono ?_
   rintro e w1 ⟨rfl, rfl⟩
   rw [HQ.out]; go_wp2
   all_goals go_ret
   all_goals exact ⟨ret_b HR.out, E0⟩
  ·by_cases h0 : xs.length = 0
   ·have h0' : ((xs.length : Int) == 0) = true := by simp [h0]
    have HR : Hid (false = rightZ true xs) := Lib.hid (by unfold rightZ; rw [hq, h0]; rfl)
    clear hq p h0
    go_enter Tryz.func79, Tryz.ntmps79
    go_wp2_with fail
    refine (Tryz.natRight (h.ext E0)).mono ?_
    rintro e w1 ⟨rfl, rfl⟩
    rw [HQ.out]; go_wp2
    all_goals go_ret
    all_goals exact ⟨ret_b HR.out, E0⟩
   ·have h0' : ((xs.length : Int) == 0) = false := beq_eq_false_iff_ne.2 (by omega)
    have HR : Hid (true = rightZ true xs) := Lib.hid (by unfold rightZ; rw [hq, decide_eq_true (by omega)]; rfl)
    clear hq p h0
    go_enter Tryz.func79, Tryz.ntmps79
    go_wp2_with fail
    refine (Tryz.natRight (h.ext E0)).mono ?_
    rintro e w1 ⟨rfl, rfl⟩
    rw [HQ.out]; go_wp2
    all_goals go_ret
    all_goals exact ⟨ret_b HR.out, E0⟩

/-- a small number -/
def smallN (N : Nat) : Nat := if N < B64 then N else 0

def smallB (N : Nat) : Bool := decide (N < B64)

set_option maxHeartbeats 400000 in
theorem Tryz.natSmall {v : Value} {N : Nat} {w : World} (h : Nw w v N) :
  Calls Tryz.prog 81 #[v] w fun e w' => e = .returned (.tuple #[.int .u64 ((smallN N : Nat) : Int), .bool (smallB N)]) ∧ w = w' := by
 obtain ⟨xs, ⟨a, b, o, cap, rfl, hs, hl⟩, hn, he⟩ := h
 have hlen := fun L => len_le_iff (by rw [B64_eq]; omega) hl hn L
 match xs, hs, hl, hn, he, hlen with
 | [], hs, hl, hn, he, hlen =>
  have H1 : Hid (smallN N = 0) := Lib.hid (by rw [← he]; unfold smallN; split <;> rfl)
  have H2 : Hid (smallB N = true) := Lib.hid (by rw [← he]; exact decide_eq_true B64_pos)
  clear hs hl hn he hlen
  go_enter Tryz.func81, Tryz.ntmps81
  go_wp2; go_ret2
  exact ⟨by rw [H1.out, H2.out]; rfl, rfl⟩
 | [x], hs, hl, hn, he, hlen =>
  obtain rfl := hs.addr (by simp)
  have hc := hs.cell (i := 0) (by simp)
  have hxb := lg_lt hl 0
  have hx : ev B64 [x] = lg [x] 0 := ev_single _ _
  have H1 : Hid (smallN N = lg [x] 0) := Lib.hid (by rw [← he, hx]; unfold smallN; rw [if_pos hxb])
  have H2 : Hid (smallB N = true) := Lib.hid (by rw [← he, hx]; exact decide_eq_true hxb)
  generalize lg [x] 0 = y at *
  clear hs hl hn he hlen hx hxb
  simp only [Nat.add_zero] at hc
  go_enter Tryz.func81, Tryz.ntmps81
  go_wp2; go_ret2
  exact ⟨by rw [H1.out, H2.out]; rfl, rfl⟩
 | x :: y :: r, hs, hl, hn, he, hlen =>
  have hbig : ¬ N < B64 := fun hlt => by
   have := (hlen 1).2 (by rw [he, Nat.pow_one]; exact hlt)
   simp at this
  have H1 : Hid (smallN N = 0) := Lib.hid (if_neg hbig)
  have H2 : Hid (smallB N = false) := Lib.hid (decide_eq_false hbig)
  have l1 : (((x :: y :: r).length : Int) == 0) = false := beq_eq_false_iff_ne.2 (by simp; omega)
  have l2 : (((x :: y :: r).length : Int) == 1) = false := beq_eq_false_iff_ne.2 (by simp; omega)
  generalize (x :: y :: r).length = n at *
  clear hs hl hn he hlen hbig
  go_enter Tryz.func81, Tryz.ntmps81
  go_wp2; go_ret2
  exact ⟨by rw [H1.out, H2.out]; rfl, rfl⟩

set_option maxRecDepth 100000 in
set_option maxHeartbeats 400000 in
theorem Tryz.refRRight {b1 : Bool} {a1 : Option Addr} {n1 c1 : Nat} {a2 : Option Addr} {n2 c2 L : Nat} {xs ys : List Nat} {w : World} (h1 : Nt w (.slice a1 n1 c1) xs) (h2 : Nt w (.slice a2 n2 c2) ys) (l1 : n1 ≤ L) (l2 : n2 ≤ L) (hL : L ≤ 300) :
  Calls Tryz.prog 40 #[.agg #[.bool b1, .slice a1 n1 c1, .slice a2 n2 c2]] w fun e w' => e = .returned (.bool (rightR b1 xs ys)) ∧ Ext w w' := by
 have ln1 := h1.slice
 have ln2 := h2.slice
 cases hq : rightZ b1 xs
 ·have HQ := Lib.hid hq
  have HR : Hid (false = rightR b1 xs ys) := Lib.hid (by unfold rightR; rw [hq]; rfl)
  clear hq ln1 ln2
  obtain ⟨W0, hW0⟩ : ∃ W0, W0 = (w.alloc (.cells #[.bool b1, .slice a1 n1 c1, .slice a2 n2 c2] 27)) := ⟨_, rfl⟩
  have E0 : Ext w W0 := by rw [hW0]; exact (Ext.alloc1 w (.cells #[.bool b1, .slice a1 n1 c1, .slice a2 n2 c2] 27))
  replace h1 : Nt W0 (.slice a1 n1 c1) xs := h1.ext E0
  replace h2 : Nt W0 (.slice a2 n2 c2) ys := h2.ext E0
  have p1 : Bx3 W0 w.heap.size 27 (.bool b1) (.slice a1 n1 c1) (.slice a2 n2 c2) := by rw [hW0]; exact (Bx3.new w 27 (.bool b1) (.slice a1 n1 c1) (.slice a2 n2 c2))
  go_enter Tryz.func40, Tryz.ntmps40
  obtain ⟨kp1_0, kp1_1, kp1_2⟩ := p1.c3
  go_wp2_with fail
  rw [← hW0]
  clear hW0; clear kp1_0 kp1_1 kp1_2
  refine (Tryz.refZRightB h1).mono ?_
  rintro e Wc ⟨rfl, hE⟩
  rw [HQ.out]
  replace E0 : Ext w Wc := (Ext.trans E0 hE)
  replace h1 : Nt Wc (.slice a1 n1 c1) xs := (h1.ext hE)
  replace h2 : Nt Wc (.slice a2 n2 c2) ys := (h2.ext hE)
  replace p1 : Bx3 Wc w.heap.size 27 (.bool b1) (.slice a1 n1 c1) (.slice a2 n2 c2) := (p1.ext hE)
  clear hE
  obtain ⟨kp1_0, kp1_1, kp1_2⟩ := p1.c3
  go_wp2
  all_goals go_ret
  all_goals exact ⟨ret_b HR.out, E0⟩
 ·have HQ := Lib.hid hq
  cases hp : normB ys
  ·have HP := Lib.hid hp
   have HR : Hid (false = rightR b1 xs ys) := Lib.hid (by unfold rightR; rw [hq, hp]; rfl)
   clear hq hp ln1 ln2
   obtain ⟨W0, hW0⟩ : ∃ W0, W0 = (w.alloc (.cells #[.bool b1, .slice a1 n1 c1, .slice a2 n2 c2] 27)) := ⟨_, rfl⟩
   have E0 : Ext w W0 := by rw [hW0]; exact (Ext.alloc1 w (.cells #[.bool b1, .slice a1 n1 c1, .slice a2 n2 c2] 27))
   replace h1 : Nt W0 (.slice a1 n1 c1) xs := h1.ext E0
   replace h2 : Nt W0 (.slice a2 n2 c2) ys := h2.ext E0
   have p1 : Bx3 W0 w.heap.size 27 (.bool b1) (.slice a1 n1 c1) (.slice a2 n2 c2) := by rw [hW0]; exact (Bx3.new w 27 (.bool b1) (.slice a1 n1 c1) (.slice a2 n2 c2))
   go_enter Tryz.func40, Tryz.ntmps40
   obtain ⟨kp1_0, kp1_1, kp1_2⟩ := p1.c3
   go_wp2_with fail
   rw [← hW0]
   clear hW0; clear kp1_0 kp1_1 kp1_2
   refine (Tryz.refZRightB h1).mono ?_
   rintro e Wc ⟨rfl, hE⟩
   rw [HQ.out]
   replace E0 : Ext w Wc := (Ext.trans E0 hE)
   replace h1 : Nt Wc (.slice a1 n1 c1) xs := (h1.ext hE)
   replace h2 : Nt Wc (.slice a2 n2 c2) ys := (h2.ext hE)
   replace p1 : Bx3 Wc w.heap.size 27 (.bool b1) (.slice a1 n1 c1) (.slice a2 n2 c2) := (p1.ext hE)
   clear hE
   obtain ⟨kp1_0, kp1_1, kp1_2⟩ := p1.c3
   go_wp2_with fail
   clear kp1_0 kp1_1 kp1_2
   refine (Tryz.refRight h2).mono ?_
   rintro e Wc ⟨rfl, rfl⟩
   rw [HP.out]
   obtain ⟨kp1_0, kp1_1, kp1_2⟩ := p1.c3
   go_wp2
   all_goals go_ret
   all_goals exact ⟨ret_b HR.out, E0⟩
  ·have HP := Lib.hid hp
   by_cases h0 : n2 = 0
   ·have h0' : ((n2 : Int) == 0) = true := by simp [h0]
    have HR : Hid (false = rightR b1 xs ys) := Lib.hid (by unfold rightR; rw [hq, hp, ← ln2, h0]; rfl)
    clear hq hp ln1 ln2 h0
    obtain ⟨W0, hW0⟩ : ∃ W0, W0 = (w.alloc (.cells #[.bool b1, .slice a1 n1 c1, .slice a2 n2 c2] 27)) := ⟨_, rfl⟩
    have E0 : Ext w W0 := by rw [hW0]; exact (Ext.alloc1 w (.cells #[.bool b1, .slice a1 n1 c1, .slice a2 n2 c2] 27))
    replace h1 : Nt W0 (.slice a1 n1 c1) xs := h1.ext E0
    replace h2 : Nt W0 (.slice a2 n2 c2) ys := h2.ext E0
    have p1 : Bx3 W0 w.heap.size 27 (.bool b1) (.slice a1 n1 c1) (.slice a2 n2 c2) := by rw [hW0]; exact (Bx3.new w 27 (.bool b1) (.slice a1 n1 c1) (.slice a2 n2 c2))
    go_enter Tryz.func40, Tryz.ntmps40
    obtain ⟨kp1_0, kp1_1, kp1_2⟩ := p1.c3
    go_wp2_with fail
    rw [← hW0]
    clear hW0; clear kp1_0 kp1_1 kp1_2
    refine (Tryz.refZRightB h1).mono ?_
    rintro e Wc ⟨rfl, hE⟩
    rw [HQ.out]
    replace E0 : Ext w Wc := (Ext.trans E0 hE)
    replace h1 : Nt Wc (.slice a1 n1 c1) xs := (h1.ext hE)
    replace h2 : Nt Wc (.slice a2 n2 c2) ys := (h2.ext hE)
    replace p1 : Bx3 Wc w.heap.size 27 (.bool b1) (.slice a1 n1 c1) (.slice a2 n2 c2) := (p1.ext hE)
    clear hE
    obtain ⟨kp1_0, kp1_1, kp1_2⟩ := p1.c3
    go_wp2_with fail
    clear kp1_0 kp1_1 kp1_2
    refine (Tryz.refRight h2).mono ?_
    rintro e Wc ⟨rfl, rfl⟩
    rw [HP.out]
    obtain ⟨kp1_0, kp1_1, kp1_2⟩ := p1.c3
    go_wp2
    all_goals go_ret
    all_goals exact ⟨ret_b HR.out, E0⟩
   ·have h0' : ((n2 : Int) == 0) = false := beq_eq_false_iff_ne.2 (by omega)
    obtain ⟨X, hX⟩ : ∃ X, X = ev B64 xs := ⟨_, rfl⟩
    obtain ⟨Y, hY⟩ : ∃ Y, Y = ev B64 ys := ⟨_, rfl⟩
    have HR : Hid (decide (Nat.gcd X Y = 1) = rightR b1 xs ys) := Lib.hid (by unfold rightR; rw [hq, hp, ← ln2, decide_eq_true (by omega : 0 < n2), hX, hY]; simp)
    have g1 : Nw w (.slice a1 n1 c1) X := by rw [hX]; exact h1.nw (by unfold rightZ at hq; rw [Bool.and_eq_true] at hq; exact hq.1)
    have g2 : Nw w (.slice a2 n2 c2) Y := by rw [hY]; exact h2.nw hp
    have S1 : Sm L X := by rw [hX]; exact Nat.lt_of_lt_of_le (ev_lt h1.lim) (Nat.pow_le_pow_right B64_pos (by omega))
    have S2 : Sm L Y := by rw [hY]; exact Nat.lt_of_lt_of_le (ev_lt h2.lim) (Nat.pow_le_pow_right B64_pos (by omega))
    have B1 : Hid (1 < B64) := Lib.hid (by rw [B64_eq]; omega)
    have HY0 : Hid (0 < Y) := Lib.hid (Nat.pos_of_ne_zero (fun e => by have := (Norm.zero_iff B64_pos (normB_iff.1 hp)).1 (hY ▸ e); omega))
    clear hq hp ln1 ln2 h0 hX hY
    obtain ⟨W0, hW0⟩ : ∃ W0, W0 = (w.alloc (.cells #[.bool b1, .slice a1 n1 c1, .slice a2 n2 c2] 27)) := ⟨_, rfl⟩
    have E0 : Ext w W0 := by rw [hW0]; exact (Ext.alloc1 w (.cells #[.bool b1, .slice a1 n1 c1, .slice a2 n2 c2] 27))
    replace h1 : Nt W0 (.slice a1 n1 c1) xs := h1.ext E0
    replace h2 : Nt W0 (.slice a2 n2 c2) ys := h2.ext E0
    replace g1 : Nw W0 (.slice a1 n1 c1) X := g1.ext E0
    replace g2 : Nw W0 (.slice a2 n2 c2) Y := g2.ext E0
    have p1 : Bx3 W0 w.heap.size 27 (.bool b1) (.slice a1 n1 c1) (.slice a2 n2 c2) := by rw [hW0]; exact (Bx3.new w 27 (.bool b1) (.slice a1 n1 c1) (.slice a2 n2 c2))
    go_enter Tryz.func40, Tryz.ntmps40
    obtain ⟨kp1_0, kp1_1, kp1_2⟩ := p1.c3
    go_wp2_with fail
    rw [← hW0]
    clear hW0; clear kp1_0 kp1_1 kp1_2
    refine (Tryz.refZRightB h1).mono ?_
    rintro e Wc ⟨rfl, hE⟩
    rw [HQ.out]
    replace E0 : Ext w Wc := (Ext.trans E0 hE)
    replace h1 : Nt Wc (.slice a1 n1 c1) xs := (h1.ext hE)
    replace h2 : Nt Wc (.slice a2 n2 c2) ys := (h2.ext hE)
    replace g1 : Nw Wc (.slice a1 n1 c1) X := (g1.ext hE)
    replace g2 : Nw Wc (.slice a2 n2 c2) Y := (g2.ext hE)
    replace p1 : Bx3 Wc w.heap.size 27 (.bool b1) (.slice a1 n1 c1) (.slice a2 n2 c2) := (p1.ext hE)
    clear hE
    obtain ⟨kp1_0, kp1_1, kp1_2⟩ := p1.c3
    go_wp2_with fail
    clear kp1_0 kp1_1 kp1_2
    refine (Tryz.refRight h2).mono ?_
    rintro e Wc ⟨rfl, rfl⟩
    rw [HP.out]
    obtain ⟨kp1_0, kp1_1, kp1_2⟩ := p1.c3
    go_wp2_with fail
    clear kp1_0 kp1_1 kp1_2
    refine (Tryz.refGcd g1 g2 S1 S2 hL).mono ?_
    rintro e Wd ⟨v3, rfl, g3, hE⟩
    replace E0 : Ext w Wd := (Ext.trans E0 hE)
    replace h1 : Nt Wd (.slice a1 n1 c1) xs := (h1.ext hE)
    replace h2 : Nt Wd (.slice a2 n2 c2) ys := (h2.ext hE)
    replace g1 : Nw Wd (.slice a1 n1 c1) X := (g1.ext hE)
    replace g2 : Nw Wd (.slice a2 n2 c2) Y := (g2.ext hE)
    replace p1 : Bx3 Wd w.heap.size 27 (.bool b1) (.slice a1 n1 c1) (.slice a2 n2 c2) := (p1.ext hE)
    clear hE
    obtain ⟨kp1_0, kp1_1, kp1_2⟩ := p1.c3
    go_wp2_with fail
    clear kp1_0 kp1_1 kp1_2
    refine (Tryz.refOf 1 _ B1.out).mono ?_
    rintro e We ⟨v4, rfl, g4, hE, -⟩
    replace E0 : Ext w We := (Ext.trans E0 hE)
    replace h1 : Nt We (.slice a1 n1 c1) xs := (h1.ext hE)
    replace h2 : Nt We (.slice a2 n2 c2) ys := (h2.ext hE)
    replace g1 : Nw We (.slice a1 n1 c1) X := (g1.ext hE)
    replace g2 : Nw We (.slice a2 n2 c2) Y := (g2.ext hE)
    replace p1 : Bx3 We w.heap.size 27 (.bool b1) (.slice a1 n1 c1) (.slice a2 n2 c2) := (p1.ext hE)
    replace g3 : Nw We v3 (Nat.gcd X Y) := (g3.ext hE)
    clear hE
    obtain ⟨kp1_0, kp1_1, kp1_2⟩ := p1.c3
    go_wp2_with fail
    clear kp1_0 kp1_1 kp1_2
    refine (Tryz.refSame g3 g4).mono ?_
    rintro e Wf ⟨rfl, hE⟩
    rw [HR.out]
    replace E0 : Ext w Wf := (Ext.trans E0 hE)
    replace h1 : Nt Wf (.slice a1 n1 c1) xs := (h1.ext hE)
    replace h2 : Nt Wf (.slice a2 n2 c2) ys := (h2.ext hE)
    replace g1 : Nw Wf (.slice a1 n1 c1) X := (g1.ext hE)
    replace g2 : Nw Wf (.slice a2 n2 c2) Y := (g2.ext hE)
    replace p1 : Bx3 Wf w.heap.size 27 (.bool b1) (.slice a1 n1 c1) (.slice a2 n2 c2) := (p1.ext hE)
    replace g3 : Nw Wf v3 (Nat.gcd X Y) := (g3.ext hE)
    replace g4 : Nw Wf v4 1 := (g4.ext hE)
    clear hE
    obtain ⟨kp1_0, kp1_1, kp1_2⟩ := p1.c3
    go_wp2
    all_goals go_ret
    all_goals exact ⟨rfl, E0⟩

set_option maxRecDepth 100000 in
set_option maxHeartbeats 400000 in
theorem Tryz.ratRight {b1 : Bool} {a1 : Option Addr} {n1 c1 : Nat} {a2 : Option Addr} {n2 c2 L : Nat} {xs ys : List Nat} {w : World} (h1 : Nt w (.slice a1 n1 c1) xs) (h2 : Nt w (.slice a2 n2 c2) ys) (l1 : n1 ≤ L) (l2 : n2 ≤ L) (hL : L ≤ 300) :
  Calls Tryz.prog 42 #[.agg #[.bool b1, .slice a1 n1 c1, .slice a2 n2 c2]] w fun e w' => e = .returned (.bool (rightR b1 xs ys)) ∧ Ext w w' := by
 have ln1 := h1.slice
 have ln2 := h2.slice
 cases hq : rightZ b1 xs
 ·have HQ := Lib.hid hq
  have HR : Hid (false = rightR b1 xs ys) := Lib.hid (by unfold rightR; rw [hq]; rfl)
  clear hq ln1 ln2
  obtain ⟨W0, hW0⟩ : ∃ W0, W0 = (w.alloc (.cells #[.bool b1, .slice a1 n1 c1, .slice a2 n2 c2] 27)) := ⟨_, rfl⟩
  have E0 : Ext w W0 := by rw [hW0]; exact (Ext.alloc1 w (.cells #[.bool b1, .slice a1 n1 c1, .slice a2 n2 c2] 27))
  replace h1 : Nt W0 (.slice a1 n1 c1) xs := h1.ext E0
  replace h2 : Nt W0 (.slice a2 n2 c2) ys := h2.ext E0
  have p1 : Bx3 W0 w.heap.size 27 (.bool b1) (.slice a1 n1 c1) (.slice a2 n2 c2) := by rw [hW0]; exact (Bx3.new w 27 (.bool b1) (.slice a1 n1 c1) (.slice a2 n2 c2))
  go_enter Tryz.func42, Tryz.ntmps42
  obtain ⟨kp1_0, kp1_1, kp1_2⟩ := p1.c3
  go_wp2_with fail
  rw [← hW0]
  clear hW0; clear kp1_0 kp1_1 kp1_2
  refine (Tryz.zedRight h1).mono ?_
  rintro e Wc ⟨rfl, hE⟩
  rw [HQ.out]
  replace E0 : Ext w Wc := (Ext.trans E0 hE)
  replace h1 : Nt Wc (.slice a1 n1 c1) xs := (h1.ext hE)
  replace h2 : Nt Wc (.slice a2 n2 c2) ys := (h2.ext hE)
  replace p1 : Bx3 Wc w.heap.size 27 (.bool b1) (.slice a1 n1 c1) (.slice a2 n2 c2) := (p1.ext hE)
  clear hE
  obtain ⟨kp1_0, kp1_1, kp1_2⟩ := p1.c3
  go_wp2
  all_goals go_ret
  all_goals exact ⟨ret_b HR.out, E0⟩
 ·have HQ := Lib.hid hq
  cases hp : normB ys
  ·have HP := Lib.hid hp
   have HR : Hid (false = rightR b1 xs ys) := Lib.hid (by unfold rightR; rw [hq, hp]; rfl)
   clear hq hp ln1 ln2
   obtain ⟨W0, hW0⟩ : ∃ W0, W0 = (w.alloc (.cells #[.bool b1, .slice a1 n1 c1, .slice a2 n2 c2] 27)) := ⟨_, rfl⟩
   have E0 : Ext w W0 := by rw [hW0]; exact (Ext.alloc1 w (.cells #[.bool b1, .slice a1 n1 c1, .slice a2 n2 c2] 27))
   replace h1 : Nt W0 (.slice a1 n1 c1) xs := h1.ext E0
   replace h2 : Nt W0 (.slice a2 n2 c2) ys := h2.ext E0
   have p1 : Bx3 W0 w.heap.size 27 (.bool b1) (.slice a1 n1 c1) (.slice a2 n2 c2) := by rw [hW0]; exact (Bx3.new w 27 (.bool b1) (.slice a1 n1 c1) (.slice a2 n2 c2))
   go_enter Tryz.func42, Tryz.ntmps42
   obtain ⟨kp1_0, kp1_1, kp1_2⟩ := p1.c3
   go_wp2_with fail
   rw [← hW0]
   clear hW0; clear kp1_0 kp1_1 kp1_2
   refine (Tryz.zedRight h1).mono ?_
   rintro e Wc ⟨rfl, hE⟩
   rw [HQ.out]
   replace E0 : Ext w Wc := (Ext.trans E0 hE)
   replace h1 : Nt Wc (.slice a1 n1 c1) xs := (h1.ext hE)
   replace h2 : Nt Wc (.slice a2 n2 c2) ys := (h2.ext hE)
   replace p1 : Bx3 Wc w.heap.size 27 (.bool b1) (.slice a1 n1 c1) (.slice a2 n2 c2) := (p1.ext hE)
   clear hE
   obtain ⟨kp1_0, kp1_1, kp1_2⟩ := p1.c3
   go_wp2_with fail
   clear kp1_0 kp1_1 kp1_2
   refine (Tryz.natRight h2).mono ?_
   rintro e Wc ⟨rfl, rfl⟩
   rw [HP.out]
   obtain ⟨kp1_0, kp1_1, kp1_2⟩ := p1.c3
   go_wp2
   all_goals go_ret
   all_goals exact ⟨ret_b HR.out, E0⟩
  ·have HP := Lib.hid hp
   by_cases h0 : n2 = 0
   ·have h0' : ((n2 : Int) == 0) = true := by simp [h0]
    have HR : Hid (false = rightR b1 xs ys) := Lib.hid (by unfold rightR; rw [hq, hp, ← ln2, h0]; rfl)
    clear hq hp ln1 ln2 h0
    obtain ⟨W0, hW0⟩ : ∃ W0, W0 = (w.alloc (.cells #[.bool b1, .slice a1 n1 c1, .slice a2 n2 c2] 27)) := ⟨_, rfl⟩
    have E0 : Ext w W0 := by rw [hW0]; exact (Ext.alloc1 w (.cells #[.bool b1, .slice a1 n1 c1, .slice a2 n2 c2] 27))
    replace h1 : Nt W0 (.slice a1 n1 c1) xs := h1.ext E0
    replace h2 : Nt W0 (.slice a2 n2 c2) ys := h2.ext E0
    have p1 : Bx3 W0 w.heap.size 27 (.bool b1) (.slice a1 n1 c1) (.slice a2 n2 c2) := by rw [hW0]; exact (Bx3.new w 27 (.bool b1) (.slice a1 n1 c1) (.slice a2 n2 c2))
    go_enter Tryz.func42, Tryz.ntmps42
    obtain ⟨kp1_0, kp1_1, kp1_2⟩ := p1.c3
    go_wp2_with fail
    rw [← hW0]
    clear hW0; clear kp1_0 kp1_1 kp1_2
    refine (Tryz.zedRight h1).mono ?_
    rintro e Wc ⟨rfl, hE⟩
    rw [HQ.out]
    replace E0 : Ext w Wc := (Ext.trans E0 hE)
    replace h1 : Nt Wc (.slice a1 n1 c1) xs := (h1.ext hE)
    replace h2 : Nt Wc (.slice a2 n2 c2) ys := (h2.ext hE)
    replace p1 : Bx3 Wc w.heap.size 27 (.bool b1) (.slice a1 n1 c1) (.slice a2 n2 c2) := (p1.ext hE)
    clear hE
    obtain ⟨kp1_0, kp1_1, kp1_2⟩ := p1.c3
    go_wp2_with fail
    clear kp1_0 kp1_1 kp1_2
    refine (Tryz.natRight h2).mono ?_
    rintro e Wc ⟨rfl, rfl⟩
    rw [HP.out]
    obtain ⟨kp1_0, kp1_1, kp1_2⟩ := p1.c3
    go_wp2
    all_goals go_ret
    all_goals exact ⟨ret_b HR.out, E0⟩
   ·have h0' : ((n2 : Int) == 0) = false := beq_eq_false_iff_ne.2 (by omega)
    obtain ⟨X, hX⟩ : ∃ X, X = ev B64 xs := ⟨_, rfl⟩
    obtain ⟨Y, hY⟩ : ∃ Y, Y = ev B64 ys := ⟨_, rfl⟩
    have HR : Hid (decide (Nat.gcd X Y = 1) = rightR b1 xs ys) := Lib.hid (by unfold rightR; rw [hq, hp, ← ln2, decide_eq_true (by omega : 0 < n2), hX, hY]; simp)
    have g1 : Nw w (.slice a1 n1 c1) X := by rw [hX]; exact h1.nw (by unfold rightZ at hq; rw [Bool.and_eq_true] at hq; exact hq.1)
    have g2 : Nw w (.slice a2 n2 c2) Y := by rw [hY]; exact h2.nw hp
    have S1 : Sm L X := by rw [hX]; exact Nat.lt_of_lt_of_le (ev_lt h1.lim) (Nat.pow_le_pow_right B64_pos (by omega))
    have S2 : Sm L Y := by rw [hY]; exact Nat.lt_of_lt_of_le (ev_lt h2.lim) (Nat.pow_le_pow_right B64_pos (by omega))
    have B1 : Hid (1 < B64) := Lib.hid (by rw [B64_eq]; omega)
    have HY0 : Hid (0 < Y) := Lib.hid (Nat.pos_of_ne_zero (fun e => by have := (Norm.zero_iff B64_pos (normB_iff.1 hp)).1 (hY ▸ e); omega))
    clear hq hp ln1 ln2 h0 hX hY
    obtain ⟨W0, hW0⟩ : ∃ W0, W0 = (w.alloc (.cells #[.bool b1, .slice a1 n1 c1, .slice a2 n2 c2] 27)) := ⟨_, rfl⟩
    have E0 : Ext w W0 := by rw [hW0]; exact (Ext.alloc1 w (.cells #[.bool b1, .slice a1 n1 c1, .slice a2 n2 c2] 27))
    replace h1 : Nt W0 (.slice a1 n1 c1) xs := h1.ext E0
    replace h2 : Nt W0 (.slice a2 n2 c2) ys := h2.ext E0
    replace g1 : Nw W0 (.slice a1 n1 c1) X := g1.ext E0
    replace g2 : Nw W0 (.slice a2 n2 c2) Y := g2.ext E0
    have p1 : Bx3 W0 w.heap.size 27 (.bool b1) (.slice a1 n1 c1) (.slice a2 n2 c2) := by rw [hW0]; exact (Bx3.new w 27 (.bool b1) (.slice a1 n1 c1) (.slice a2 n2 c2))
    go_enter Tryz.func42, Tryz.ntmps42
    obtain ⟨kp1_0, kp1_1, kp1_2⟩ := p1.c3
    go_wp2_with fail
    rw [← hW0]
    clear hW0; clear kp1_0 kp1_1 kp1_2
    refine (Tryz.zedRight h1).mono ?_
    rintro e Wc ⟨rfl, hE⟩
    rw [HQ.out]
    replace E0 : Ext w Wc := (Ext.trans E0 hE)
    replace h1 : Nt Wc (.slice a1 n1 c1) xs := (h1.ext hE)
    replace h2 : Nt Wc (.slice a2 n2 c2) ys := (h2.ext hE)
    replace g1 : Nw Wc (.slice a1 n1 c1) X := (g1.ext hE)
    replace g2 : Nw Wc (.slice a2 n2 c2) Y := (g2.ext hE)
    replace p1 : Bx3 Wc w.heap.size 27 (.bool b1) (.slice a1 n1 c1) (.slice a2 n2 c2) := (p1.ext hE)
    clear hE
    obtain ⟨kp1_0, kp1_1, kp1_2⟩ := p1.c3
    go_wp2_with fail
    clear kp1_0 kp1_1 kp1_2
    refine (Tryz.natRight h2).mono ?_
    rintro e Wc ⟨rfl, rfl⟩
    rw [HP.out]
    obtain ⟨kp1_0, kp1_1, kp1_2⟩ := p1.c3
    go_wp2_with fail
    clear kp1_0 kp1_1 kp1_2
    refine (Tryz.divGcd g1 g2 S1 S2 (by omega)).mono ?_
    rintro e Wd ⟨v3, rfl, g3, hE⟩
    replace E0 : Ext w Wd := (Ext.trans E0 hE)
    replace h1 : Nt Wd (.slice a1 n1 c1) xs := (h1.ext hE)
    replace h2 : Nt Wd (.slice a2 n2 c2) ys := (h2.ext hE)
    replace g1 : Nw Wd (.slice a1 n1 c1) X := (g1.ext hE)
    replace g2 : Nw Wd (.slice a2 n2 c2) Y := (g2.ext hE)
    replace p1 : Bx3 Wd w.heap.size 27 (.bool b1) (.slice a1 n1 c1) (.slice a2 n2 c2) := (p1.ext hE)
    clear hE
    obtain ⟨sv, hsv⟩ : ∃ sv, sv = smallN (Nat.gcd X Y) := ⟨_, rfl⟩
    obtain ⟨sb, hsb⟩ : ∃ sb, sb = smallB (Nat.gcd X Y) := ⟨_, rfl⟩
    have HG : Hid (((sv : Int) == 1) = rightR b1 xs ys) := Lib.hid (by rw [← HR.out, hsv, Bool.eq_iff_iff]; have h := B1.out; unfold smallN; split <;> simp <;> omega)
    have HSV := Lib.hid hsv
    have HSB := Lib.hid hsb
    clear hsv hsb
    obtain ⟨kp1_0, kp1_1, kp1_2⟩ := p1.c3
    go_wp2_with fail
    clear kp1_0 kp1_1 kp1_2
    refine (Tryz.natSmall g3).mono ?_
    rintro e Wd ⟨rfl, rfl⟩
    rw [← HSV.out, ← HSB.out]
    obtain ⟨kp1_0, kp1_1, kp1_2⟩ := p1.c3
    go_wp2
    all_goals go_ret
    all_goals exact ⟨ret_b HG.out, E0⟩

set_option maxRecDepth 100000 in
set_option maxHeartbeats 400000 in
theorem Tryz.refRFew {b1 : Bool} {a1 : Option Addr} {n1 c1 : Nat} {a2 : Option Addr} {n2 c2 : Nat} {xs ys : List Nat} {w : World} (h1 : Nt w (.slice a1 n1 c1) xs) (h2 : Nt w (.slice a2 n2 c2) ys) (L : Nat) (hL : L ≤ 300) :
  Calls Tryz.prog 10 #[.agg #[.bool b1, .slice a1 n1 c1, .slice a2 n2 c2], .int .i64 (L : Int)] w fun e w' => e = .returned (.bool (fewR b1 xs ys (L : Int))) ∧ Ext w w' := by
 have ln1 := h1.slice
 have ln2 := h2.slice
 by_cases hm : n1 ≤ L
 ·have hmI : (n1 : Int) ≤ (L : Int) := by omega
  by_cases hk : n2 ≤ L
  ·have hkI : (n2 : Int) ≤ (L : Int) := by omega
   have HR : Hid (rightR b1 xs ys = fewR b1 xs ys (L : Int)) := Lib.hid (by unfold fewR; rw [← ln1, ← ln2, decide_eq_true hmI, decide_eq_true hkI, Bool.true_and, Bool.true_and])
   clear ln1 ln2
   obtain ⟨W0, hW0⟩ : ∃ W0, W0 = (w.alloc (.cells #[.bool b1, .slice a1 n1 c1, .slice a2 n2 c2] 27)) := ⟨_, rfl⟩
   have E0 : Ext w W0 := by rw [hW0]; exact (Ext.alloc1 w (.cells #[.bool b1, .slice a1 n1 c1, .slice a2 n2 c2] 27))
   replace h1 : Nt W0 (.slice a1 n1 c1) xs := h1.ext E0
   replace h2 : Nt W0 (.slice a2 n2 c2) ys := h2.ext E0
   have p2 : Bx3 W0 w.heap.size 27 (.bool b1) (.slice a1 n1 c1) (.slice a2 n2 c2) := by rw [hW0]; exact (Bx3.new w 27 (.bool b1) (.slice a1 n1 c1) (.slice a2 n2 c2))
   go_enter Tryz.func10, Tryz.ntmps10
   obtain ⟨kp2_0, kp2_1, kp2_2⟩ := p2.c3
   go_wp2_with fail
   rw [← hW0]
   clear hW0; clear kp2_0 kp2_1 kp2_2
   refine (Tryz.refRRight h1 h2 hm hk hL).mono ?_
   rintro e Wc ⟨rfl, hE⟩
   replace E0 : Ext w Wc := (Ext.trans E0 hE)
   replace h1 : Nt Wc (.slice a1 n1 c1) xs := (h1.ext hE)
   replace h2 : Nt Wc (.slice a2 n2 c2) ys := (h2.ext hE)
   replace p2 : Bx3 Wc w.heap.size 27 (.bool b1) (.slice a1 n1 c1) (.slice a2 n2 c2) := (p2.ext hE)
   clear hE; rw [HR.out]
   obtain ⟨kp2_0, kp2_1, kp2_2⟩ := p2.c3
   go_wp2
   all_goals go_ret
   all_goals exact ⟨rfl, E0⟩
  ·have hkI : ¬ (n2 : Int) ≤ (L : Int) := by omega
   have HR : Hid (false = fewR b1 xs ys (L : Int)) := Lib.hid (by unfold fewR; rw [← ln1, ← ln2, decide_eq_false hkI]; simp)
   have hkd : decide (n2 ≤ L) = false := decide_eq_false hk
   have hkd2 : decide ((n2 : Int) ≤ (L : Int)) = false := decide_eq_false hkI
   clear ln1 ln2
   obtain ⟨W0, hW0⟩ : ∃ W0, W0 = (w.alloc (.cells #[.bool b1, .slice a1 n1 c1, .slice a2 n2 c2] 27)) := ⟨_, rfl⟩
   have E0 : Ext w W0 := by rw [hW0]; exact (Ext.alloc1 w (.cells #[.bool b1, .slice a1 n1 c1, .slice a2 n2 c2] 27))
   replace h1 : Nt W0 (.slice a1 n1 c1) xs := h1.ext E0
   replace h2 : Nt W0 (.slice a2 n2 c2) ys := h2.ext E0
   have p2 : Bx3 W0 w.heap.size 27 (.bool b1) (.slice a1 n1 c1) (.slice a2 n2 c2) := by rw [hW0]; exact (Bx3.new w 27 (.bool b1) (.slice a1 n1 c1) (.slice a2 n2 c2))
   go_enter Tryz.func10, Tryz.ntmps10
   obtain ⟨kp2_0, kp2_1, kp2_2⟩ := p2.c3
   go_wp2
   all_goals go_ret
   all_goals exact ⟨ret_b HR.out, by rw [← hW0]; exact E0⟩
 ·have hmI : ¬ (n1 : Int) ≤ (L : Int) := by omega
  have HR : Hid (false = fewR b1 xs ys (L : Int)) := Lib.hid (by unfold fewR; rw [← ln1, decide_eq_false hmI]; simp)
  have hkd : decide (n1 ≤ L) = false := decide_eq_false hm
  have hkd2 : decide ((n1 : Int) ≤ (L : Int)) = false := decide_eq_false hmI
  clear ln1 ln2
  obtain ⟨W0, hW0⟩ : ∃ W0, W0 = (w.alloc (.cells #[.bool b1, .slice a1 n1 c1, .slice a2 n2 c2] 27)) := ⟨_, rfl⟩
  have E0 : Ext w W0 := by rw [hW0]; exact (Ext.alloc1 w (.cells #[.bool b1, .slice a1 n1 c1, .slice a2 n2 c2] 27))
  replace h1 : Nt W0 (.slice a1 n1 c1) xs := h1.ext E0
  replace h2 : Nt W0 (.slice a2 n2 c2) ys := h2.ext E0
  have p2 : Bx3 W0 w.heap.size 27 (.bool b1) (.slice a1 n1 c1) (.slice a2 n2 c2) := by rw [hW0]; exact (Bx3.new w 27 (.bool b1) (.slice a1 n1 c1) (.slice a2 n2 c2))
  go_enter Tryz.func10, Tryz.ntmps10
  obtain ⟨kp2_0, kp2_1, kp2_2⟩ := p2.c3
  go_wp2
  all_goals go_ret
  all_goals exact ⟨ret_b HR.out, by rw [← hW0]; exact E0⟩

end Go.Rt
