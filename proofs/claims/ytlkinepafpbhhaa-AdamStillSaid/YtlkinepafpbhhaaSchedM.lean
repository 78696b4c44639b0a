/-
  Plain laws on schedules: what a step's rate is.
-/
import Derived.Test.YtlkinepafpbhhaaFixM
import Derived.Test.YtlkinepafpbhhaaGE
namespace Go.Rt
open Go

theorem qdiv_mono {a b c : Rat} (hc : 0 < c) (h : a ≤ b) : a / c ≤ b / c := by
  have hi : 0 ≤ c⁻¹ := by
    have h1 : c⁻¹ * c = 1 := Rat.inv_mul_cancel _ (by intro e; rw [e] at hc; exact absurd hc (by decide))
    cases Rat.le_total (a := 0) (b := c⁻¹) with
    | inl h => exact h
    | inr h2 =>
      have := Rat.mul_le_mul_of_nonneg_right h2 (Rat.le_of_lt hc)
      rw [h1, Rat.zero_mul] at this
      exact absurd this (by decide)
  rw [Rat.div_def, Rat.div_def]
  exact Rat.mul_le_mul_of_nonneg_right h hi

theorem natR_pos {d : Nat} (hd : 0 < d) : (0 : Rat) < (d : Rat) := by exact_mod_cast hd

/-- a ratio, rounded -/
def ratioV (a : Int) (d : Nat) : Int := nearR ((a : Rat) / (d : Rat))

theorem ratio_mono {a b : Int} {d : Nat} (hd : 0 < d) (h : a ≤ b) : ratioV a d ≤ ratioV b d :=
  near_mono (qdiv_mono (natR_pos hd) (Rat.intCast_le_intCast.2 h))

theorem ratio_whole (n : Int) {d : Nat} (hd : 0 < d) : ratioV (n * (d : Int)) d = n := by
  unfold ratioV
  rw [Rat.intCast_mul, Rat.intCast_natCast, Rat.mul_div_cancel (by have := natR_pos hd; grind), near_int]

theorem ratio_zero {d : Nat} (hd : 0 < d) : ratioV 0 d = 0 := by
  have := ratio_whole 0 hd
  rwa [Int.zero_mul] at this

theorem ratio_nonneg {a : Int} {d : Nat} (hd : 0 < d) (h : 0 ≤ a) : 0 ≤ ratioV a d := by
  have := ratio_mono hd h
  rwa [ratio_zero hd] at this

theorem ratio_le {a n : Int} {d : Nat} (hd : 0 < d) (h : a ≤ n * (d : Int)) : ratioV a d ≤ n := by
  have := ratio_mono hd h
  rwa [ratio_whole n hd] at this

theorem ratio_far (a : Int) {d : Nat} (hd : 0 < d) : 2 * (ratioV a d * (d : Int) - a) ≤ (d : Int) ∧ -(d : Int) ≤ 2 * (ratioV a d * (d : Int) - a) := by
  obtain ⟨h1, h2, -⟩ := near_is ((a : Rat) / (d : Rat))
  have hp := natR_pos hd
  have e : (a : Rat) / (d : Rat) * (d : Rat) = a := Rat.div_mul_cancel (by grind)
  unfold ratioV
  generalize nearR ((a : Rat) / (d : Rat)) = n at *
  have k1 := Rat.mul_le_mul_of_nonneg_right h1 (Rat.le_of_lt hp)
  have k2 := Rat.mul_le_mul_of_nonneg_right h2 (Rat.le_of_lt hp)
  generalize (a : Rat) / (d : Rat) = y at *
  have c1 : ((2 * (n * (d : Int) - a) : Int) : Rat) ≤ (((d : Nat) : Int) : Rat) := by
    rw [Rat.intCast_mul, Rat.intCast_sub, Rat.intCast_mul, Rat.intCast_natCast, ← e]
    have : ((2 : Int) : Rat) = 2 := rfl
    rw [this]
    grind
  have c2 : ((-(d : Int) : Int) : Rat) ≤ ((2 * (n * (d : Int) - a) : Int) : Rat) := by
    rw [Rat.intCast_mul, Rat.intCast_sub, Rat.intCast_mul, Rat.intCast_neg, Rat.intCast_natCast, ← e]
    have : ((2 : Int) : Rat) = 2 := rfl
    rw [this]
    grind
  exact ⟨Rat.intCast_le_intCast.1 c1, Rat.intCast_le_intCast.1 c2⟩

/-! ### a step's rate -/

noncomputable def slowV (B W t : Nat) : Nat := rt (B * B * max W 1 / t) 2

def dropV (R K : Nat) (x : Int) : Nat → Int
  | 0 => x
  | n + 1 => ratioV (dropV R K x n * (R : Int)) (2 ^ K)

def shareV (D : Int) (L P l : Nat) : Int := ratioV (D * ((l ^ P : Nat) : Int)) (L ^ P)

noncomputable def rateV (kd b r e w v l p : Int) (t K : Nat) : Int :=
  if (t : Int) ≤ w then ratioV (b * (t : Int)) w.toNat
  else if kd = 1 then ((slowV b.toNat w.toNat t : Nat) : Int)
  else if kd = 2 then dropV r.toNat K b (min ((t - w.toNat) / v.toNat) 200)
  else if kd = 3 then e + shareV (b - e) l.toNat p.toNat (l.toNat - t)
  else b

/-- is a schedule right? -/
def rightS (kd b r e w v l p f : Int) : Bool :=
  decide (0 ≤ f ∧ f ≤ 40 ∧ 0 ≤ kd ∧ kd ≤ 3 ∧ 0 ≤ b ∧ 0 ≤ w ∧ w ≤ 1000000 ∧ (kd = 2 → 1 ≤ v ∧ v ≤ 1000000 ∧ 0 ≤ r ∧ r ≤ ((2 ^ f.toNat : Nat) : Int)) ∧ (kd = 3 → 1 ≤ l ∧ l ≤ 1000000 ∧ 1 ≤ p ∧ p ≤ 8 ∧ 0 ≤ e ∧ e ≤ b))

theorem rightS_iff {kd b r e w v l p f : Int} : rightS kd b r e w v l p f = true ↔ (0 ≤ f ∧ f ≤ 40 ∧ 0 ≤ kd ∧ kd ≤ 3 ∧ 0 ≤ b ∧ 0 ≤ w ∧ w ≤ 1000000 ∧ (kd = 2 → 1 ≤ v ∧ v ≤ 1000000 ∧ 0 ≤ r ∧ r ≤ ((2 ^ f.toNat : Nat) : Int)) ∧ (kd = 3 → 1 ≤ l ∧ l ≤ 1000000 ∧ 1 ≤ p ∧ p ≤ 8 ∧ 0 ≤ e ∧ e ≤ b)) := by
  unfold rightS
  exact decide_eq_true_iff

theorem slow_is (B W t : Nat) (ht : 0 < t) : slowV B W t * slowV B W t * t ≤ B * B * max W 1 ∧ B * B * max W 1 < (slowV B W t + 1) * (slowV B W t + 1) * t := by
  have h := rt_is (B * B * max W 1 / t) (k := 2) (by omega)
  unfold IsRt at h
  unfold slowV
  generalize rt (B * B * max W 1 / t) 2 = r at *
  generalize B * B * max W 1 = N at *
  rw [Nat.pow_two, Nat.pow_two] at h
  exact ⟨(Nat.le_div_iff_mul_le ht).1 h.1, (Nat.div_lt_iff_lt_mul ht).1 h.2⟩

theorem slow_le {B W t : Nat} (h1 : 0 < t) (h2 : W < t) : slowV B W t ≤ B := by
  have h := (slow_is B W t h1).1
  apply Classical.byContradiction
  intro hn
  have h3 : B + 1 ≤ slowV B W t := by omega
  have h4 : (B + 1) * (B + 1) ≤ slowV B W t * slowV B W t := Nat.mul_le_mul h3 h3
  have h5 : max W 1 ≤ t := by omega
  have h6 := Nat.mul_le_mul_right t h4
  have h7 := Nat.mul_le_mul_left (B * B) h5
  have h8 : B * B * t < (B + 1) * (B + 1) * t := Nat.mul_lt_mul_of_pos_right (Nat.mul_lt_mul_of_lt_of_le (by omega) (by omega) (by omega)) h1
  omega

theorem rt_up {A B : Nat} (h : A ≤ B) : rt A 2 ≤ rt B 2 := (le_rt_iff (by omega)).2 (Nat.le_trans (rt_is A (k := 2) (by omega)).1 h)

theorem slow_down {B W t u : Nat} (h1 : 0 < t) (h : t ≤ u) : slowV B W u ≤ slowV B W t := rt_up (Nat.div_le_div_left h h1)

theorem slow_up {B C W t : Nat} (h : C ≤ B) : slowV C W t ≤ slowV B W t := rt_up (Nat.div_le_div_right (Nat.mul_le_mul_right _ (Nat.mul_le_mul h h)))

theorem slow_first (B : Nat) : slowV B 0 1 = B := by
  unfold slowV
  exact rt_eq (by omega) ⟨by rw [Nat.pow_two]; simp, by rw [Nat.pow_two]; simp; rw [Nat.add_mul, Nat.mul_add]; omega⟩

theorem drop_bounds {R K : Nat} (hR : R ≤ 2 ^ K) {x : Int} (hx : 0 ≤ x) : ∀ n, 0 ≤ dropV R K x n ∧ dropV R K x n ≤ x
  | 0 => ⟨hx, Int.le_refl _⟩
  | n + 1 => by
    obtain ⟨h1, h2⟩ := drop_bounds hR hx n
    have hp : 0 < 2 ^ K := Nat.two_pow_pos K
    have h3 : dropV R K x n * (R : Int) ≤ dropV R K x n * ((2 ^ K : Nat) : Int) := Int.mul_le_mul_of_nonneg_left (by exact_mod_cast hR) h1
    unfold dropV
    exact ⟨ratio_nonneg hp (Int.mul_nonneg h1 (by omega)), Int.le_trans (ratio_le hp h3) h2⟩

theorem drop_step {R K : Nat} (hR : R ≤ 2 ^ K) {x : Int} (hx : 0 ≤ x) (n : Nat) : dropV R K x (n + 1) ≤ dropV R K x n := by
  obtain ⟨h1, -⟩ := drop_bounds hR hx n
  have h3 : dropV R K x n * (R : Int) ≤ dropV R K x n * ((2 ^ K : Nat) : Int) := Int.mul_le_mul_of_nonneg_left (by exact_mod_cast hR) h1
  exact ratio_le (Nat.two_pow_pos K) h3

theorem drop_down {R K : Nat} (hR : R ≤ 2 ^ K) {x : Int} (hx : 0 ≤ x) {n m : Nat} (h : n ≤ m) : dropV R K x m ≤ dropV R K x n := by
  induction h with
  | refl => exact Int.le_refl _
  | step _ ih => exact Int.le_trans (drop_step hR hx _) ih

theorem drop_one {K : Nat} {x : Int} : ∀ n, dropV (2 ^ K) K x n = x
  | 0 => rfl
  | n + 1 => by
    unfold dropV
    rw [drop_one n, ratio_whole _ (Nat.two_pow_pos K)]

theorem share_bounds {D : Int} {L P l : Nat} (hD : 0 ≤ D) (hL : 0 < L) (hl : l ≤ L) : 0 ≤ shareV D L P l ∧ shareV D L P l ≤ D := by
  have hp : 0 < L ^ P := Nat.pow_pos hL
  have h1 : ((l ^ P : Nat) : Int) ≤ ((L ^ P : Nat) : Int) := by exact_mod_cast Nat.pow_le_pow_left hl P
  unfold shareV
  exact ⟨ratio_nonneg hp (Int.mul_nonneg hD (by omega)), ratio_le hp (Int.mul_le_mul_of_nonneg_left h1 hD)⟩

theorem share_up {D : Int} {L P l m : Nat} (hD : 0 ≤ D) (hL : 0 < L) (h : l ≤ m) : shareV D L P l ≤ shareV D L P m := by
  have h1 : ((l ^ P : Nat) : Int) ≤ ((m ^ P : Nat) : Int) := by exact_mod_cast Nat.pow_le_pow_left h P
  exact ratio_mono (Nat.pow_pos hL) (Int.mul_le_mul_of_nonneg_left h1 hD)

theorem share_none {D : Int} {L P : Nat} (hL : 0 < L) (hP : 0 < P) : shareV D L P 0 = 0 := by
  unfold shareV
  rw [Nat.zero_pow hP, show ((0 : Nat) : Int) = 0 from rfl, Int.mul_zero]
  exact ratio_zero (Nat.pow_pos hL)

/-! ### of a right schedule -/
section
variable {kd b r e w v l p f : Int} {K : Nat}
theorem rate_warm {t : Nat} (h : (t : Int) ≤ w) : rateV kd b r e w v l p t K = ratioV (b * (t : Int)) w.toNat := if_pos h

theorem rate_const {t : Nat} (h : ¬ (t : Int) ≤ w) (hk : kd = 0) : rateV kd b r e w v l p t K = b := by
  unfold rateV
  rw [if_neg h, if_neg (by omega), if_neg (by omega), if_neg (by omega)]

theorem rate_slow {t : Nat} (h : ¬ (t : Int) ≤ w) (hk : kd = 1) : rateV kd b r e w v l p t K = ((slowV b.toNat w.toNat t : Nat) : Int) := by
  unfold rateV
  rw [if_neg h, if_pos hk]

theorem rate_drop {t : Nat} (h : ¬ (t : Int) ≤ w) (hk : kd = 2) : rateV kd b r e w v l p t K = dropV r.toNat K b (min ((t - w.toNat) / v.toNat) 200) := by
  unfold rateV
  rw [if_neg h, if_neg (by omega), if_pos hk]

theorem rate_poly {t : Nat} (h : ¬ (t : Int) ≤ w) (hk : kd = 3) : rateV kd b r e w v l p t K = e + shareV (b - e) l.toNat p.toNat (l.toNat - t) := by
  unfold rateV
  rw [if_neg h, if_neg (by omega), if_neg (by omega), if_pos hk]

theorem rate_bounds (hR : rightS kd b r e w v l p (K : Int) = true) {t : Nat} (ht : 1 ≤ t) : 0 ≤ rateV kd b r e w v l p t K ∧ rateV kd b r e w v l p t K ≤ b ∧ (kd = 3 → ¬ (t : Int) ≤ w → e ≤ rateV kd b r e w v l p t K) := by
  obtain ⟨-, -, hk0, hk3, hb, hw, -, h2, h3⟩ := rightS_iff.1 hR
  rw [Int.toNat_natCast] at h2
  by_cases hc : (t : Int) ≤ w
  · rw [rate_warm hc]
    have hd : 0 < w.toNat := by omega
    refine ⟨ratio_nonneg hd (Int.mul_nonneg hb (by omega)), ratio_le hd (Int.mul_le_mul_of_nonneg_left (by omega) hb), fun _ h => absurd hc h⟩
  · have hcs : kd = 0 ∨ kd = 1 ∨ kd = 2 ∨ kd = 3 := by omega
    rcases hcs with k | k | k | k
    · rw [rate_const hc k]; exact ⟨hb, Int.le_refl _, fun h => by omega⟩
    · rw [rate_slow hc k]
      have := slow_le (B := b.toNat) (W := w.toNat) (t := t) (by omega) (by omega)
      exact ⟨by omega, by omega, fun h => by omega⟩
    · rw [rate_drop hc k]
      obtain ⟨hv, -, hr, hr2⟩ := h2 k
      have := drop_bounds (R := r.toNat) (K := K) (by omega) hb (min ((t - w.toNat) / v.toNat) 200)
      exact ⟨this.1, this.2, fun h => by omega⟩
    · rw [rate_poly hc k]
      obtain ⟨hl, -, hp, -, he, hbe⟩ := h3 k
      have := share_bounds (D := b - e) (L := l.toNat) (P := p.toNat) (l := l.toNat - t) (by omega) (by omega) (by omega)
      exact ⟨by omega, by omega, fun _ _ => by omega⟩

theorem rate_falls (hR : rightS kd b r e w v l p (K : Int) = true) {t u : Nat} (ht : 1 ≤ t) (htu : t ≤ u) (hc : ¬ (t : Int) ≤ w) : rateV kd b r e w v l p u K ≤ rateV kd b r e w v l p t K := by
  obtain ⟨-, -, hk0, hk3, hb, hw, -, h2, h3⟩ := rightS_iff.1 hR
  rw [Int.toNat_natCast] at h2
  have hu : ¬ (u : Int) ≤ w := by omega
  have hcs : kd = 0 ∨ kd = 1 ∨ kd = 2 ∨ kd = 3 := by omega
  rcases hcs with k | k | k | k
  · rw [rate_const hc k, rate_const hu k]; exact Int.le_refl _
  · rw [rate_slow hc k, rate_slow hu k]
    have := slow_down (B := b.toNat) (W := w.toNat) (by omega) htu
    omega
  · rw [rate_drop hc k, rate_drop hu k]
    obtain ⟨hv, -, hr, hr2⟩ := h2 k
    refine drop_down (by omega) hb ?_
    have : (t - w.toNat) / v.toNat ≤ (u - w.toNat) / v.toNat := Nat.div_le_div_right (by omega)
    omega
  · rw [rate_poly hc k, rate_poly hu k]
    obtain ⟨hl, -, hp, -, he, hbe⟩ := h3 k
    have := share_up (D := b - e) (L := l.toNat) (P := p.toNat) (l := l.toNat - u) (m := l.toNat - t) (by omega) (by omega) (by omega)
    omega

theorem rate_rises {t u : Nat} (hb : 0 ≤ b) (htu : t ≤ u) (ht : 1 ≤ t) (hu : (u : Int) ≤ w) : rateV kd b r e w v l p t K ≤ rateV kd b r e w v l p u K := by
  rw [rate_warm hu, rate_warm (by omega)]
  exact ratio_mono (by omega) (Int.mul_le_mul_of_nonneg_left (by omega) hb)

theorem rate_top {W : Nat} (hW : 1 ≤ W) : rateV kd b r e (W : Int) v l p W K = b := by
  rw [rate_warm (Int.le_refl _), Int.toNat_natCast]
  exact ratio_whole b (by omega)
end
theorem rate_end {kd b r e w v l p f : Int} {K T : Nat} (hR : rightS kd b r e w v l p f = true) (h : ¬ (T : Int) ≤ w) (hk : kd = 3) (hT : ¬ (T : Int) < l) : rateV kd b r e w v l p T K = e := by
  obtain ⟨-, -, -, -, -, -, -, -, h3⟩ := rightS_iff.1 hR
  obtain ⟨hl, -, hp, -⟩ := h3 hk
  rw [rate_poly h hk, show l.toNat - T = 0 by omega, share_none (by omega) (by omega), Int.add_zero]
end Go.Rt
