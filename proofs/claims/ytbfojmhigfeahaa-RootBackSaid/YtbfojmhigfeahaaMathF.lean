/-
  Plain law: a digit of the long division, by a guess out of three limbs over two.
-/
import Derived.Test.YtbfojmhigfeahaaTaken
namespace Go.Rt

theorem pow_succ_pred {b k : Nat} (h : 0 < k) : b ^ k = b ^ (k - 1) * b := by
  obtain ⟨m, rfl⟩ : ∃ m, k = m + 1 := ⟨k - 1, by omega⟩
  rw [Nat.add_sub_cancel, Nat.pow_succ]

/-- the guess is one too great at most -/
theorem guess_fit {a b c t n0 g V W vl wl P : Nat} (hG : guessR a b c t n0 g) (hV : V = (t * B64 + n0) * P + vl) (hW : W = ((a * B64 + b) * B64 + c) * P + wl) (hvl : vl < P) (ht : 0 < t) (hwl : wl < P) (hVB : W < V * B64) :
    g * V ≤ W + V ∧ W < (g + 1) * V := by
  obtain ⟨h1, h2, h3⟩ := hG
  constructor
  · have e1 : g * V = g * (t * B64 + n0) * P + g * vl := by rw [hV, Nat.mul_add, Nat.mul_assoc]
    have e2 : g * (t * B64 + n0) * P ≤ ((a * B64 + b) * B64 + c) * P := Nat.mul_le_mul_right _ h2
    have e3 : g * vl ≤ B64 * P := Nat.mul_le_mul (Nat.le_of_lt h1) (Nat.le_of_lt hvl)
    have e4 : B64 * P ≤ (t * B64 + n0) * P := Nat.mul_le_mul_right _ (by have := Nat.mul_le_mul_right B64 ht; omega)
    omega
  · rcases h3 with h3 | h3
    · rw [h3, Nat.mul_comm]; exact hVB
    · have e2 : ((a * B64 + b) * B64 + c + 1) * P ≤ (g + 1) * (t * B64 + n0) * P := Nat.mul_le_mul_right _ h3
      rw [Nat.add_mul _ 1, Nat.one_mul] at e2
      have e1 : (g + 1) * V = (g + 1) * (t * B64 + n0) * P + (g + 1) * vl := by rw [hV, Nat.mul_add, Nat.mul_assoc]
      omega

/-- the digit -/
theorem digit_is {g q V W W' : Nat} (hV : 0 < V) (h : W' + q * V = W) (hq : q = g ∨ (q + 1 = g ∧ W < g * V)) (hlt : W < (g + 1) * V) : q = W / V ∧ W' = W % V := by
  have hW' : W' < V := by
    rcases hq with rfl | ⟨h1, h2⟩
    · rw [Nat.add_mul, Nat.one_mul] at hlt; omega
    · rw [← h1, Nat.add_mul, Nat.one_mul] at h2; omega
  have e : W = W' + V * q := by rw [← h, Nat.mul_comm]
  constructor
  · rw [e, Nat.add_mul_div_left _ _ hV, Nat.div_eq_of_lt hW', Nat.zero_add]
  · rw [e, Nat.add_mul_mod_self_left, Nat.mod_eq_of_lt hW']

/-- a row's number by a window and what lies below it -/
theorem ev_win {R : List Nat} {k m : Nat} (h : ∀ i, k + m ≤ i → R.getD i 0 = 0) (hk : k ≤ R.length) : ev B64 R = ev B64 (R.take k) + B64 ^ k * win R k m := by
  rw [ev_split R k hk]
  congr 2
  unfold win
  rcases Nat.le_total (R.drop k).length m with h1 | h1
  · rw [List.take_of_length_le h1]
  · rw [bare_take h1 fun i h2 h3 => by rw [List.getD_eq_getElem?_getD, List.getElem?_drop, ← List.getD_eq_getElem?_getD]; exact h _ (by omega)]

/-- limbs above a bound on the number are noughts -/
theorem high_zero {R : List Nat} {m : Nat} (hR : Lim B64 R) (h : ev B64 R < B64 ^ m) (i : Nat) (hi : m ≤ i) : R.getD i 0 = 0 := by
  rw [limb_div hR i, Nat.div_eq_of_lt (Nat.lt_of_lt_of_le h (Nat.pow_le_pow_right B64_pos hi)), Nat.zero_mod]

/-- the window's three highest limbs -/
theorem win_top {R : List Nat} {o m : Nat} (hR : Lim B64 R) : win R o (m + 3) = ((R.getD (o + (m + 2)) 0 * B64 + R.getD (o + (m + 1)) 0) * B64 + R.getD (o + m) 0) * B64 ^ m + win R o m ∧ win R o m < B64 ^ m := by
  refine ⟨?_, win_lt hR o m⟩
  rw [win_succ, win_succ, win_succ, Nat.pow_succ, Nat.pow_succ, Nat.pow_succ]
  generalize B64 ^ m = P
  generalize R.getD (o + (m + 2)) 0 = x
  generalize R.getD (o + (m + 1)) 0 = y
  generalize R.getD (o + m) 0 = z
  rw [Nat.add_mul _ z, Nat.add_mul (x * B64) y, Nat.add_mul _ _ P]
  simp only [Nat.mul_comm, Nat.mul_left_comm]
  omega
/-- the divisor's two highest limbs -/
theorem ev_top {vs : List Nat} {m : Nat} (hv : Lim B64 vs) (hl : vs.length = m + 2) : ev B64 vs = (vs.getD (m + 1) 0 * B64 + vs.getD m 0) * B64 ^ m + ev B64 (vs.take m) ∧ ev B64 (vs.take m) < B64 ^ m := by
  constructor
  · have h1 := ev_take_succ (b := B64) (xs := vs) (k := m + 1) (by omega)
    rw [show m + 1 + 1 = vs.length from by omega, List.take_length, ev_take_succ (by omega)] at h1
    rw [h1, Nat.pow_succ, Nat.add_mul]
    simp only [Nat.mul_assoc, Nat.mul_comm, Nat.mul_left_comm]
    omega
  · have := ev_lt (hv.take m)
    rwa [List.length_take, Nat.min_eq_left (by omega)] at this

/-- the row ahead of a round, and the digits so far: X by V, the places from i on -/
def dmR (X V i : Nat) (R : List Nat) : Prop := ev B64 R = X % (V * B64 ^ i)

/-- what a round needs -/
theorem dm_need {X V k m : Nat} {R vs : List Nat} (hI : dmR X V (k + 1) R) (hR : Lim B64 R) (hv : Lim B64 vs) (hl : vs.length = m + 2) (hV : ev B64 vs = V) (hVp : 0 < V) (hk : k ≤ R.length) :
    ev B64 R = ev B64 (R.take k) + B64 ^ k * win R k (m + 3) ∧ ev B64 (R.take k) < B64 ^ k ∧ win R k (m + 3) < V * B64 ∧ lg R (k + (m + 2)) ≤ lg vs (m + 1) := by
  have hlt : ev B64 R < V * B64 ^ (k + 1) := by rw [hI]; exact Nat.mod_lt _ (Nat.mul_pos hVp (Nat.pow_pos B64_pos))
  have hVlt := ev_lt hv
  rw [hV, hl] at hVlt
  have hz : ∀ i, k + (m + 3) ≤ i → R.getD i 0 = 0 := fun i hi => by
    refine high_zero hR (m := k + (m + 3)) (Nat.lt_of_lt_of_le hlt ?_) i hi
    have : V * B64 ^ (k + 1) ≤ B64 ^ (m + 2) * B64 ^ (k + 1) := Nat.mul_le_mul_right _ (Nat.le_of_lt hVlt)
    rw [← Nat.pow_add] at this
    rwa [show k + (m + 3) = m + 2 + (k + 1) from by omega]
  have he := ev_win hz hk
  have hlow : ev B64 (R.take k) < B64 ^ k := by
    have := ev_lt (hR.take k)
    rwa [List.length_take, Nat.min_eq_left hk] at this
  have hW : win R k (m + 3) < V * B64 := by
    rw [he, Nat.pow_succ] at hlt
    have h3 : B64 ^ k * win R k (m + 3) < B64 ^ k * (V * B64) := by
      have e : B64 ^ k * (V * B64) = V * (B64 ^ k * B64) := Nat.mul_left_comm _ _ _
      omega
    exact Nat.lt_of_mul_lt_mul_left h3
  refine ⟨he, hlow, hW, ?_⟩
  obtain ⟨t1, t2⟩ := win_top (o := k) (m := m) hR
  obtain ⟨u1, u2⟩ := ev_top hv hl
  unfold lg
  rcases Nat.lt_or_ge (vs.getD (m + 1) 0) (R.getD (k + (m + 2)) 0) with h | h
  · exfalso
    have hb := hv.getD B64_pos m
    rw [hV] at u1
    have e1 : V < (vs.getD (m + 1) 0 + 1) * B64 * B64 ^ m := by
      have : (vs.getD (m + 1) 0 * B64 + vs.getD m 0 + 1) * B64 ^ m ≤ (vs.getD (m + 1) 0 + 1) * B64 * B64 ^ m := Nat.mul_le_mul_right _ (by rw [Nat.add_mul _ 1]; omega)
      rw [Nat.add_mul _ 1, Nat.one_mul] at this
      omega
    have e2 : (vs.getD (m + 1) 0 + 1) * B64 * B64 * B64 ^ m ≤ win R k (m + 3) := by
      have h2 : (vs.getD (m + 1) 0 + 1) * B64 * B64 ≤ R.getD (k + (m + 2)) 0 * B64 * B64 := Nat.mul_le_mul_right _ (Nat.mul_le_mul_right _ h)
      have h3 : (R.getD (k + (m + 2)) 0 * B64) * B64 ≤ (R.getD (k + (m + 2)) 0 * B64 + R.getD (k + (m + 1)) 0) * B64 := Nat.mul_le_mul_right _ (by omega)
      have h4 : (vs.getD (m + 1) 0 + 1) * B64 * B64 * B64 ^ m ≤ ((R.getD (k + (m + 2)) 0 * B64 + R.getD (k + (m + 1)) 0) * B64 + R.getD (k + m) 0) * B64 ^ m := Nat.mul_le_mul_right _ (by omega)
      omega
    have e3 : V * B64 < (vs.getD (m + 1) 0 + 1) * B64 * B64 ^ m * B64 := Nat.mul_lt_mul_of_pos_right e1 B64_pos
    rw [Nat.mul_right_comm _ (B64 ^ m) B64] at e3
    omega
  · exact h

/-- and what it leaves -/
theorem dm_step {X V k m q : Nat} {R R' : List Nat} (hI : dmR X V (k + 1) R)
    (he : ev B64 R = ev B64 (R.take k) + B64 ^ k * win R k (m + 3)) (hlow : ev B64 (R.take k) < B64 ^ k)
    (hlen : R'.length = R.length) (hout : ∀ i, i < k ∨ k + (m + 2) + 1 ≤ i → R'.getD i 0 = R.getD i 0) (hz : ∀ i, k + (m + 3) ≤ i → R.getD i 0 = 0) (hk : k ≤ R.length)
    (hq : q = win R k (m + 3) / V) (hw : win R' k (m + 3) = win R k (m + 3) % V) :
    dmR X V k R' ∧ q = X / V / B64 ^ k % B64 := by
  have he' := ev_win (k := k) (m := m + 3) (fun i hi => by rw [hout i (by omega)]; exact hz i hi) (by omega)
  have htk : R'.take k = R.take k := by
    refine List.ext_getElem (by simp [hlen]) fun i h1 h2 => ?_
    rw [List.length_take] at h1 h2
    rw [List.getElem_take, List.getElem_take]
    have := hout i (by omega)
    rw [List.getD_eq_getElem?_getD, List.getD_eq_getElem?_getD, List.getElem?_eq_getElem (by omega), List.getElem?_eq_getElem (by omega)] at this
    exact this
  unfold dmR at *
  have hP : 0 < B64 ^ k := Nat.pow_pos B64_pos
  have hdiv : ev B64 R / B64 ^ k = win R k (m + 3) := by
    rw [he, Nat.add_mul_div_left _ _ hP, Nat.div_eq_of_lt hlow, Nat.zero_add]
  constructor
  · rw [he', htk, hw]
    have h1 : X % (V * B64 ^ k) = ev B64 R % (V * B64 ^ k) := by
      rw [hI, Nat.pow_succ, ← Nat.mul_assoc, Nat.mod_mul_right_mod]
    rw [h1, Nat.mul_comm V, Nat.mod_mul, hdiv]
    have h2 : ev B64 R % B64 ^ k = ev B64 (R.take k) := by
      rw [he, Nat.add_mul_mod_self_left, Nat.mod_eq_of_lt hlow]
    rw [h2]
  · rw [hq, ← hdiv, hI, Nat.div_div_eq_div_mul, Nat.div_div_eq_div_mul, Nat.pow_succ, ← Nat.mul_assoc, Nat.mul_comm (B64 ^ k) V, Nat.mod_mul_right_div_self]
end Go.Rt
