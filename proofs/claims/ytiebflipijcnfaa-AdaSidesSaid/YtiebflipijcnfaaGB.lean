/-
  Contracts of the references' small functions on limbs: Right, Few, Of, Cmp, Same.
  Contracts of the references' halves, whole and at.
  Contracts of the references' sums, differences, products.
  The reference's product.
  Plain mathematics of binary figures, shifts and long division.
  Contracts of the references' Bits, power, bit, Shl.
  The reference's Shr.
  The reference's DivMod, Gcd, Goes.
  The reference's Gcd and Goes.
-/
import Derived.Test.YtiebflipijcnfaaGA
namespace Go.Rt
open Go.RowKit Go.Proofs

def normB (xs : List Nat) : Bool := xs.length == 0 || lg xs (xs.length - 1) != 0

theorem normB_iff {xs : List Nat} : normB xs = true ↔ Norm xs := by simp [normB, Norm, lg]

end Go.Rt

namespace Go.Rt
open Go.RowKit Go.Proofs

/-- a slice of figures of 32 bits, as the references keep them -/
def Hv (w : World) (v : Value) (l : List Nat) : Prop := Nt w v l ∧ Lim B32 l

theorem Hv.ext {w w' : World} (h : Ext w w') {v : Value} {l : List Nat} (k : Hv w v l) : Hv w' v l := ⟨k.1.ext h, k.2⟩

end Go.Rt

namespace Go.Rt

open Go.RowKit Go.Proofs

end Go.Rt

namespace Go.Rt
open Go.RowKit Go.Proofs

end Go.Rt

namespace Go.Rt

/-- how many binary figures a number has -/
def bl (N : Nat) : Nat := if N = 0 then 0 else N.log2 + 1

theorem bl_lt (N : Nat) : N < 2 ^ bl N := by
 unfold bl
 split
 ·subst_vars; decide
 ·exact Nat.lt_log2_self

theorem bl_ge {N : Nat} (h : N ≠ 0) : 2 ^ (bl N - 1) ≤ N ∧ 0 < bl N := by
 unfold bl
 rw [if_neg h]
 exact ⟨Nat.log2_self_le h, by omega⟩

theorem bl_unique {N k : Nat} (h1 : N < 2 ^ (k + 1)) (h2 : 2 ^ k ≤ N) : bl N = k + 1 := by
 have hne : N ≠ 0 := by have := Nat.two_pow_pos k; omega
 have a := bl_lt N
 obtain ⟨b, c⟩ := bl_ge hne
 have d1 : k < bl N := (Nat.pow_lt_pow_iff_right (a := 2) (by omega)).1 (Nat.lt_of_le_of_lt h2 a)
 have d2 : bl N - 1 < k + 1 := (Nat.pow_lt_pow_iff_right (a := 2) (by omega)).1 (Nat.lt_of_le_of_lt b h1)
 omega

theorem bl_le_iff (N k : Nat) : bl N ≤ k ↔ N < 2 ^ k := by
 constructor
 ·intro h; exact Nat.lt_of_lt_of_le (bl_lt N) (Nat.pow_le_pow_right (by omega) h)
 ·intro h
  rcases Nat.eq_zero_or_pos N with rfl | hp
  ·simp [bl]
  ·obtain ⟨b, c⟩ := bl_ge (N := N) (by omega)
   have : bl N - 1 < k := (Nat.pow_lt_pow_iff_right (a := 2) (by omega)).1 (Nat.lt_of_le_of_lt b h)
   omega

theorem bl_half {N : Nat} (h : 0 < N) : bl N = bl (N / 2) + 1 := by
 rcases Nat.eq_zero_or_pos (N / 2) with h0 | hp
 ·have : N = 1 := by omega
  subst this; decide
 ·obtain ⟨b, c⟩ := bl_ge (N := N / 2) (by omega)
  have a := bl_lt (N / 2)
  refine bl_unique (k := bl (N / 2)) ?_ ?_
  ·rw [Nat.pow_succ]; omega
  ·rw [show bl (N / 2) = bl (N / 2) - 1 + 1 from by omega, Nat.pow_succ]; omega

theorem bl_sm {N L : Nat} (h : Sm L N) : bl N ≤ 64 * L := by
 rw [bl_le_iff]
 unfold Sm at h
 rwa [B64_two, ← Nat.pow_mul] at h

theorem pow64 (k : Nat) : B64 ^ k = 2 ^ (64 * k) := by rw [B64_two, ← Nat.pow_mul]

/-- the figures of a row: those of its last limb, and 64 for each below it -/
theorem bl_ev {xs : List Nat} {k : Nat} (hl : Lim B64 xs) (hn : Norm xs) (hk : xs.length = k + 1) : bl (ev B64 xs) = 64 * k + bl (xs.getD k 0) ∧ 0 < xs.getD k 0 := by
 have hne : xs.getD k 0 ≠ 0 := by
  rcases hn with h | h
  ·omega
  ·rwa [show xs.length - 1 = k from by omega] at h
 have e := ev_take_succ (b := B64) (xs := xs) (k := k) (by omega)
 rw [show k + 1 = xs.length from hk.symm, List.take_length] at e
 have hlt := ev_lt (hl.take k)
 rw [List.length_take, Nat.min_eq_left (by omega)] at hlt
 obtain ⟨a, c⟩ := bl_ge hne
 have b := bl_lt (xs.getD k 0)
 refine ⟨?_, by omega⟩
 rw [show 64 * k + bl (xs.getD k 0) = (64 * k + (bl (xs.getD k 0) - 1)) + 1 from by omega]
 generalize xs.getD k 0 = t at *
 rw [pow64] at e hlt
 refine bl_unique ?_ ?_
 ·rw [show 64 * k + (bl t - 1) + 1 = 64 * k + bl t from by omega, Nat.pow_add, e]
  have h2 : 2 ^ (64 * k) * (t + 1) ≤ 2 ^ (64 * k) * 2 ^ bl t := Nat.mul_le_mul_left _ b
  rw [Nat.mul_add, Nat.mul_one] at h2
  omega
 ·rw [Nat.pow_add, e]
  have h2 : 2 ^ (64 * k) * 2 ^ (bl t - 1) ≤ 2 ^ (64 * k) * t := Nat.mul_le_mul_left _ a
  omega

/-- a limb of a number: what is left of it above -/
theorem limb_div {xs : List Nat} (hl : Lim B64 xs) (k : Nat) : xs.getD k 0 = ev B64 xs / B64 ^ k % B64 := by
 rcases Nat.lt_or_ge k xs.length with h | h
 ·have e := ev_split (b := B64) xs k (by omega)
  rw [drop_cons h, ev_cons] at e
  have hlt := ev_lt (hl.take k)
  rw [List.length_take, Nat.min_eq_left (by omega)] at hlt
  rw [e, Nat.add_mul_div_left _ _ (Nat.pow_pos B64_pos), Nat.div_eq_of_lt hlt, Nat.zero_add, Nat.add_mul_mod_self_left, Nat.mod_eq_of_lt (hl.getD B64_pos k)]
 ·rw [Nat.div_eq_of_lt (Nat.lt_of_lt_of_le (ev_lt hl) (Nat.pow_le_pow_right B64_pos h)), Nat.zero_mod, List.getD_eq_getElem?_getD, List.getElem?_eq_none h]; rfl

/-! long division, bit by bit: I binary figures are still to come -/

def qp (N M I : Nat) : Nat := N / 2 ^ I / M

/-- what stands in the quotient's row -/
def qrow (N M I : Nat) : Nat := B64 ^ (I / 64) * (qp N M I / 2 ^ (64 - I % 64) * B64 + qp N M I % 2 ^ (64 - I % 64))

theorem half_bit (N i : Nat) : N / 2 ^ i = 2 * (N / 2 ^ (i + 1)) + N / 2 ^ i % 2 := by
 rw [Nat.pow_succ, ← Nat.div_div_eq_div_mul]; omega

/-- one figure more: the rest, and the quotient's figure -/
theorem div_bit {N M i r : Nat} (hM : 0 < M) (hr : r = N / 2 ^ (i + 1) % M) :
  (2 * r + N / 2 ^ i % 2 < M → N / 2 ^ i % M = 2 * r + N / 2 ^ i % 2 ∧ qp N M i = 2 * qp N M (i + 1)) ∧
  (M ≤ 2 * r + N / 2 ^ i % 2 → N / 2 ^ i % M = 2 * r + N / 2 ^ i % 2 - M ∧ qp N M i = 2 * qp N M (i + 1) + 1) := by
 have h := half_bit N i
 unfold qp
 generalize N / 2 ^ i = T at *
 generalize N / 2 ^ (i + 1) = S at *
 have hS := Nat.div_add_mod S M
 rw [← hr] at hS
 have hrM : r < M := by rw [hr]; exact Nat.mod_lt _ hM
 generalize S / M = q at *
 have hb : T % 2 < 2 := Nat.mod_lt _ (by omega)
 generalize T % 2 = c at *
 have e : T = M * (2 * q) + (2 * r + c) := by
  rw [h, ← hS, Nat.mul_left_comm M 2 q]; omega
 constructor
 ·intro hlt
  rw [e]
  constructor
  ·rw [Nat.mul_add_mod, Nat.mod_eq_of_lt hlt]
  ·rw [Nat.mul_add_div hM, Nat.div_eq_of_lt hlt, Nat.add_zero]
 ·intro hge
  have e2 : T = M * (2 * q + 1) + (2 * r + c - M) := by rw [e, Nat.mul_add M (2 * q) 1]; omega
  rw [e2]
  constructor
  ·rw [Nat.mul_add_mod, Nat.mod_eq_of_lt (by omega)]
  ·rw [Nat.mul_add_div hM, Nat.div_eq_of_lt (by omega), Nat.add_zero]

/-- the quotient's row, one figure on: what its limb becomes -/
theorem qrow_bit {N M i d v : Nat} {q : List Nat} (hd : d < 2) (hq : qp N M i = 2 * qp N M (i + 1) + d) (hi : i / 64 < q.length)
  (h1 : q.getD ((i + 1) / 64) 0 = qp N M (i + 1) % 2 ^ (64 - (i + 1) % 64)) (h2 : ∀ j, j < (i + 1) / 64 → q.getD j 0 = 0) (h3 : ev B64 q = qrow N M (i + 1))
  (hv : v = 2 * q.getD (i / 64) 0 + d) :
  v < B64 ∧ (q.set (i / 64) v).getD (i / 64) 0 = qp N M i % 2 ^ (64 - i % 64) ∧ ev B64 (q.set (i / 64) v) = qrow N M i := by
 have hs := ev_set B64 q (i / 64) v hi
 rw [getD_set_eq hi]
 unfold qrow at *
 generalize qp N M i = Q at *
 generalize qp N M (i + 1) = P at *
 subst hq
 by_cases hm : (i + 1) % 64 = 0
 ·have e1 : (i + 1) / 64 = i / 64 + 1 := by omega
  have e2 : i % 64 = 63 := by omega
  have hz : q.getD (i / 64) 0 = 0 := h2 _ (by omega)
  rw [hz] at hv hs
  rw [hm, e1] at h3
  rw [e2]
  rw [h3] at hs
  have hv' : v = d := by omega
  subst hv'
  refine ⟨by rw [B64_eq]; omega, by simp; omega, ?_⟩
  have e3 : (2 * P + v) / 2 = P := by omega
  have e4 : (2 * P + v) % 2 = v := by omega
  simp only [show 64 - 63 = 1 from rfl, Nat.pow_one, e3, e4]
  rw [Nat.mul_zero, Nat.add_zero, ← B64_two, Nat.mul_comm (P / B64) B64, Nat.div_add_mod] at hs
  rw [hs, Nat.pow_succ, Nat.mul_add, Nat.mul_comm P B64, Nat.mul_assoc]
 ·have e1 : (i + 1) / 64 = i / 64 := by omega
  have e2 : (i + 1) % 64 = i % 64 + 1 := by omega
  rw [e1, e2] at h1
  rw [e1, e2] at h3
  obtain ⟨e, he⟩ : ∃ e, 64 - (i % 64 + 1) = e := ⟨_, rfl⟩
  have he' : 64 - i % 64 = e + 1 := by omega
  rw [he] at h1 h3
  rw [he']
  have p1 : 2 ^ (e + 1) = 2 * 2 ^ e := by rw [Nat.pow_succ]; omega
  have pp := Nat.two_pow_pos e
  have hdm := Nat.div_add_mod P (2 ^ e)
  have hlt := Nat.mod_lt P pp
  have hdiv : (2 * P + d) / 2 ^ (e + 1) = P / 2 ^ e := by
   rw [p1, ← Nat.div_div_eq_div_mul]; congr 1; omega
  have hmod : (2 * P + d) % 2 ^ (e + 1) = 2 * (P % 2 ^ e) + d := by
   have := Nat.div_add_mod (2 * P + d) (2 ^ (e + 1))
   rw [hdiv] at this
   rw [p1, Nat.mul_assoc] at this
   rw [p1]
   generalize 2 ^ e = E at *
   generalize P / E = A at *
   generalize P % E = Bm at *
   omega
  rw [hdiv, hmod]
  rw [h1] at hv hs
  refine ⟨?_, hv, ?_⟩
  ·have : 2 ^ (e + 1) ≤ 2 ^ 64 := Nat.pow_le_pow_right (by omega) (by omega)
   rw [B64_two]
   omega
  ·rw [h3, Nat.mul_add] at hs
   rw [← hv, Nat.mul_add]
   omega

theorem qp_start {N M I : Nat} (h : N / 2 ^ I < M) : qp N M I = 0 ∧ N / 2 ^ I % M = N / 2 ^ I ∧ qrow N M I = 0 := by
 have e : qp N M I = 0 := Nat.div_eq_of_lt h
 refine ⟨e, Nat.mod_eq_of_lt h, ?_⟩
 unfold qrow; rw [e]; simp

/-! shifts down -/

theorem shr_limb {xs : List Nat} (hl : Lim B64 xs) (i b : Nat) (hb : b < 64) :
  (xs.getD i 0 + B64 * xs.getD (i + 1) 0) / 2 ^ b % B64 = ev B64 xs / 2 ^ (64 * i + b) % B64 := by
 rw [limb_div hl i, limb_div hl (i + 1), show B64 ^ (i + 1) = B64 ^ i * B64 from rfl, ← Nat.div_div_eq_div_mul, show 2 ^ (64 * i + b) = B64 ^ i * 2 ^ b from by rw [Nat.pow_add, pow64], ← Nat.div_div_eq_div_mul]
 generalize ev B64 xs / B64 ^ i = X
 have h1 := Nat.mod_add_div X B64
 have h2 := Nat.mod_add_div (X / B64) B64
 obtain ⟨c, hc⟩ : ∃ c, B64 = 2 ^ b * c := ⟨2 ^ (64 - b), by rw [← Nat.pow_add, B64_two]; congr 1; omega⟩
 generalize X % B64 = p at *
 generalize X / B64 % B64 = q at *
 generalize X / B64 / B64 = z at *
 have e : X = (p + B64 * q) + 2 ^ b * (c * (B64 * z)) := by
  rw [← Nat.mul_assoc (2 ^ b) c, ← hc, ← h1, ← h2, Nat.mul_add]; omega
 rw [e, Nat.add_mul_div_left _ _ (Nat.two_pow_pos b), Nat.mul_left_comm c, Nat.add_mul_mod_self_left]

/-! shifts up -/

theorem shl_fig {x c b : Nat} (hx : x < B64) (hc : c < 2 ^ b) (hb : b < 64) :
  (x * 2 ^ b % B64 + c) + B64 * (x / 2 ^ (64 - b)) = x * 2 ^ b + c ∧ x * 2 ^ b % B64 + c < B64 ∧ x / 2 ^ (64 - b) < 2 ^ b ∧ x * 2 ^ b % B64 = (x % 2 ^ (64 - b)) * 2 ^ b := by
 have hB : B64 = 2 ^ (64 - b) * 2 ^ b := by rw [← Nat.pow_add, B64_two]; congr 1; omega
 have e1 : x * 2 ^ b % B64 = (x % 2 ^ (64 - b)) * 2 ^ b := by rw [hB, Nat.mul_mod_mul_right]
 have hm := Nat.mod_add_div x (2 ^ (64 - b))
 have hlt := Nat.mod_lt x (Nat.two_pow_pos (64 - b))
 rw [e1, hB]
 rw [hB] at hx
 have hd : x / 2 ^ (64 - b) < 2 ^ b := Nat.div_lt_of_lt_mul hx
 generalize x / 2 ^ (64 - b) = q at *
 generalize x % 2 ^ (64 - b) = r at *
 generalize 2 ^ (64 - b) = E at *
 generalize 2 ^ b = D at *
 have h1 : (r + 1) * D ≤ E * D := Nat.mul_le_mul_right _ hlt
 rw [Nat.add_mul, Nat.one_mul] at h1
 refine ⟨?_, by omega, hd, rfl⟩
 rw [← hm, Nat.add_mul, Nat.mul_right_comm E q D]; omega

theorem shl_step {xs l : List Nat} {k j c y d : Nat} (hll : l.length = k / 64 + j) (he : ev B64 l + B64 ^ (k / 64 + j) * c = ev B64 (xs.take j) * 2 ^ k)
  (hy : y + B64 * d = xs.getD j 0 * 2 ^ (k % 64) + c) : ev B64 (l ++ [y]) + B64 ^ (k / 64 + (j + 1)) * d = ev B64 (xs.take (j + 1)) * 2 ^ k := by
 rw [ev_snoc, hll, ev_take_succ', Nat.add_mul, ← he]
 have h1 : B64 ^ (k / 64 + j) * (y + B64 * d) = B64 ^ (k / 64 + j) * (xs.getD j 0 * 2 ^ (k % 64) + c) := by rw [hy]
 rw [Nat.mul_add, Nat.mul_add, ← Nat.mul_assoc, show B64 ^ (k / 64 + j) * B64 = B64 ^ (k / 64 + (j + 1)) from rfl] at h1
 have h2 : B64 ^ j * xs.getD j 0 * 2 ^ k = B64 ^ (k / 64 + j) * (xs.getD j 0 * 2 ^ (k % 64)) := by
  have e : 2 ^ k = B64 ^ (k / 64) * 2 ^ (k % 64) := by rw [pow64, ← Nat.pow_add, Nat.div_add_mod]
  rw [e, Nat.pow_add, Nat.mul_assoc (B64 ^ j), Nat.mul_left_comm (xs.getD j 0), ← Nat.mul_assoc, Nat.mul_comm (B64 ^ j)]
 omega

theorem shl_end {xs l : List Nat} {k c m : Nat} (hll : l.length = m) (he : ev B64 l + B64 ^ m * c = ev B64 (xs.take xs.length) * 2 ^ k) : ev B64 (l ++ [c]) = ev B64 xs * 2 ^ k := by
 rw [List.take_length] at he
 rw [ev_snoc, hll, he]

end Go.Rt

namespace Go.Rt

open Go.RowKit Go.Proofs

/-- the error of a shift -/
def shE (n : Int) : Int := if n < 0 ∨ 20000 < n then 1 else 0

/-- a shift up, a shift down: nought where it is refused -/
def shlV (N : Nat) (n : Int) : Nat := if n < 0 ∨ 20000 < n then 0 else N * 2 ^ n.toNat

def shrV (N : Nat) (n : Int) : Nat := if n < 0 ∨ 20000 < n then 0 else N / 2 ^ n.toNat

end Go.Rt

namespace Go.Rt

open Go.RowKit Go.Proofs

end Go.Rt

namespace Go.Rt

open Go.RowKit Go.Proofs

/-- a quotient, what is left, and the error -/
def dvR (N M : Nat) : Nat := if M = 0 then 0 else N % M

def dvE (M : Nat) : Int := if M = 0 then 4 else 0

theorem dvR_pos {N M : Nat} (h : 0 < M) : dvR N M = N % M := if_neg (by omega)

theorem dvE_pos {M : Nat} (h : 0 < M) : dvE M = 0 := if_neg (by omega)

/-- what holds ahead of a round: I binary figures are still to come -/
structure DivR (N M I len : Nat) (qs : List Nat) (R : Nat) : Prop where
 rest : R = N / 2 ^ I % M
 len : qs.length = len
 limb : qs.getD (I / 64) 0 = qp N M I % 2 ^ (64 - I % 64)
 low : ∀ j, j < I / 64 → qs.getD j 0 = 0
 val : ev B64 qs = qrow N M I

theorem DivR.start {N M I n : Nat} (h : N / 2 ^ I < M) : DivR N M I n (List.replicate n 0) (N / 2 ^ I) :=
 let ⟨a, b, c⟩ := qp_start h
 ⟨b.symm, by simp, by rw [a]; simp [List.getElem?_replicate]; split <;> simp, fun j _ => by simp [List.getElem?_replicate]; split <;> simp, by rw [c, ev_zeros]⟩

theorem DivR.low' {N M i n R : Nat} {qs : List Nat} (h : DivR N M (i + 1) n qs R) (v : Nat) : ∀ j, j < i / 64 → (qs.set (i / 64) v).getD j 0 = 0 := fun j hj => by
 rw [getD_set_ne (by omega)]; exact h.low j (by omega)

theorem DivR.step {N M i n R T d v : Nat} {qs : List Nat} (h : DivR N M (i + 1) n qs R) (hM : 0 < M) (hi : i / 64 < n) (hT : T = 2 * R + N / 2 ^ i % 2)
  (hd : d = if T < M then 0 else 1) (hv : v = 2 * qs.getD (i / 64) 0 + d) :
  v < B64 ∧ DivR N M i n (qs.set (i / 64) v) (if T < M then T else T - M) := by
 obtain ⟨a, b⟩ := div_bit (i := i) hM h.rest
 rw [← hT] at a b
 by_cases hlt : T < M
 ·obtain ⟨e1, e2⟩ := a hlt
  rw [if_pos hlt] at hd ⊢
  obtain ⟨c1, c2, c3⟩ := qrow_bit (d := d) (by omega) (by rw [hd]; exact e2) (by rw [h.len]; exact hi) h.limb h.low h.val hv
  exact ⟨c1, ⟨e1.symm, by rw [List.length_set]; exact h.len, c2, h.low' v, c3⟩⟩
 ·obtain ⟨e1, e2⟩ := b (by omega)
  rw [if_neg hlt] at hd ⊢
  obtain ⟨c1, c2, c3⟩ := qrow_bit (d := d) (by omega) (by rw [hd]; exact e2) (by rw [h.len]; exact hi) h.limb h.low h.val hv
  exact ⟨c1, ⟨e1.symm, by rw [List.length_set]; exact h.len, c2, h.low' v, c3⟩⟩

end Go.Rt

namespace Go.Rt
open Go.RowKit Go.Proofs

theorem Nt.unique {w : World} {v : Value} {xs ys : List Nat} (h : Nt w v xs) (k : Nt w v ys) : xs = ys := by
 obtain ⟨a, b, o, cap, rfl, hs, hl⟩ := h
 obtain ⟨a', b', o', cap', e, hs', hl'⟩ := k
 simp only [Value.slice.injEq] at e
 obtain ⟨rfl, e2, rfl⟩ := e
 apply List.ext_getElem e2
 intro i h1 h2
 have c1 := hs.cell h1
 have c2 := hs'.cell h2
 have ea : (⟨b, o, none⟩ : Addr) = ⟨b', o', none⟩ := by
  have := (hs.addr (by omega)).symm.trans (hs'.addr (by omega))
  simpa using this
 simp only [Addr.mk.injEq, and_true] at ea
 obtain ⟨rfl, rfl⟩ := ea
 rw [c1] at c2
 simp only [Option.some.injEq, Value.int.injEq, true_and, Int.natCast_inj] at c2
 rwa [lg_eq h1, lg_eq h2] at c2

theorem Nw.unique {w : World} {v : Value} {N M : Nat} (h : Nw w v N) (k : Nw w v M) : N = M := by
 obtain ⟨xs, h1, _, rfl⟩ := h
 obtain ⟨ys, k1, _, rfl⟩ := k
 rw [h1.unique k1]

/-- the number that a slice reads as: for a loop's measure -/
noncomputable def numOf (w : World) (v : Value) : Nat := Classical.epsilon (Nw w v)

theorem numOf_eq {w : World} {v : Value} {N : Nat} (h : Nw w v N) : numOf w v = N := (Classical.epsilon_spec (p := Nw w v) ⟨N, h⟩).unique h

theorem gcd_step {A B : Nat} : Nat.gcd A B = Nat.gcd B (A % B) := by rw [Nat.gcd_comm A B, Nat.gcd_rec B A, Nat.gcd_comm]

end Go.Rt
