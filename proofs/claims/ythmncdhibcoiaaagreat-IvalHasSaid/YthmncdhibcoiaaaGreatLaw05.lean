/-
 The laws of chapter 05 (fractions): their walks.
-/
import Derived.Test.YthmncdhibcoiaaaGreatSqz
import Derived.Test.YthmncdhibcoiaaaGreatZCmp

namespace Go.Rt

open Go.RowKit Go.Proofs

theorem Tryz.refRSameT {v1 v2 : Value} {x y : Rat} {w : World} (h1 : Rw w v1 x) (h2 : Rw w v2 y) (e : x = y) : Calls Tryz.prog 44 #[v1, v2] w fun e w' => e = .returned (.bool true) ∧ Ext w w' := by
 have := Tryz.refRSame h1 h2
 rwa [decide_eq_true e] at this

/-- which is greater -/
def cmpR (x y : Rat) : Int := if x < y then -1 else if y < x then 1 else 0

theorem Tryz.ratCmpR {v1 v2 : Value} {x y : Rat} {L : Nat} {w : World} (h1 : Rw w v1 x) (h2 : Rw w v2 y) (s1 : SmR L x) (s2 : SmR L y) (hL : L ≤ 1000) {c : Int} (hc : cmpR x y = c) :
  Calls Tryz.prog 43 #[v1, v2] w fun e w' => e = .returned (.int .i64 c) ∧ Ext w w' := by subst hc; exact Tryz.ratCmp h1 h2 s1 s2 (by omega)

theorem Tryz.refRCmpR {v1 v2 : Value} {x y : Rat} {L : Nat} {w : World} (h1 : Rw w v1 x) (h2 : Rw w v2 y) (s1 : SmR L x) (s2 : SmR L y) (hL : L ≤ 1000) {c : Int} (hc : cmpR x y = c) :
  Calls Tryz.prog 26 #[v1, v2] w fun e w' => e = .returned (.int .i64 c) ∧ Ext w w' := by subst hc; exact Tryz.refRCmp h1 h2 s1.1 s1.2 s2.1 s2.2 (by omega)

theorem rw_right {W : World} {b : Bool} {a : Option Addr} {n c : Nat} {a' : Option Addr} {n' c' L : Nat} {x : Rat} (h : Rw W (.agg #[.bool b, .slice a n c, .slice a' n' c']) x) (s : SmR L x) :
  ∃ xs ys, Nt W (.slice a n c) xs ∧ Nt W (.slice a' n' c') ys ∧ n ≤ L ∧ n' ≤ L ∧ rightR b xs ys = true := by
 obtain ⟨xs, h1, h2, h3, l1⟩ := h.top.num.lens s.1
 obtain ⟨ys, k1, k2, k3, l2⟩ := h.den.lens s.2
 have e1 := h1.slice
 have e2 := k1.slice
 refine ⟨xs, ys, h1, k1, by omega, by omega, ?_⟩
 have hb := h.top.neg.out
 have hy : 0 < ys.length := by
  have := (Norm.zero_iff B64_pos k2)
  have := x.den_nz
  omega
 have hg : Nat.gcd (ev B64 xs) (ev B64 ys) = 1 := by rw [h3, k3]; exact x.reduced
 unfold rightR rightZ
 rw [normB_iff.2 h2, normB_iff.2 k2, decide_eq_true hy, decide_eq_true hg, hb]
 have hz := Norm.zero_iff B64_pos h2
 by_cases hx : x.num < 0
 ·rw [decide_eq_true hx, decide_eq_true (by omega)]; rfl
 ·rw [decide_eq_false hx]; simp

theorem Tryz.ratRightT {v : Value} {L : Nat} {x : Rat} {w : World} (h : Rw w v x) (s : SmR L x) (hL : L ≤ 300) : Calls Tryz.prog 42 #[v] w fun e w' => e = .returned (.bool true) ∧ Ext w w' := by
 have h' := h
 obtain ⟨b, a, n, c, a', n', c', rfl, -⟩ := h
 obtain ⟨xs, ys, h1, h2, l1, l2, hr⟩ := rw_right h' s
 have := Tryz.ratRight (b1 := b) h1 h2 l1 l2 hL
 rwa [hr] at this

theorem Tryz.refRRightT {v : Value} {L : Nat} {x : Rat} {w : World} (h : Rw w v x) (s : SmR L x) (hL : L ≤ 300) : Calls Tryz.prog 40 #[v] w fun e w' => e = .returned (.bool true) ∧ Ext w w' := by
 have h' := h
 obtain ⟨b, a, n, c, a', n', c', rfl, -⟩ := h
 obtain ⟨xs, ys, h1, h2, l1, l2, hr⟩ := rw_right h' s
 have := Tryz.refRRight (b1 := b) h1 h2 l1 l2 hL
 rwa [hr] at this

end Go.Rt
