/-
  Adam in numbers: sums, products, quotients that may not be there; a place's step; what is right.
-/
import Derived.Test.YtgnmaeolgfijpaaGS

namespace Go.Rt

structure AdamP where
  lr : Int
  b1 : Int
  b2 : Int
  eps : Int
  wd : Int
  ap : Bool

def okZ (z : Int) : Option Int := if fits z = true then some z else none

theorem okZ_some {z y : Int} (h : okZ z = some y) : fits z = true ∧ z = y := by
  unfold okZ at h
  split at h
  · exact ⟨‹_›, by simpa using h⟩
  · cases h

theorem okZ_fits {z y : Int} (h : okZ z = some y) : -9223372036854775808 ≤ y ∧ y < 9223372036854775808 := by
  obtain ⟨h1, rfl⟩ := okZ_some h
  exact fits_iff.1 h1

theorem okZ_in {z : Int} (h1 : -9223372036854775808 ≤ z) (h2 : z < 9223372036854775808) : okZ z = some z := if_pos (fits_iff.2 ⟨h1, h2⟩)

def mulZ (K : Nat) (a b : Int) : Int := ratioV (a * b) (2 ^ K)

def divZ (K : Nat) (a b : Int) : Int := nearR (((a * ((2 ^ K : Nat) : Int) : Int) : Rat) / (b : Rat))

def mulO (K : Nat) (a b : Int) : Option Int := okZ (mulZ K a b)

def divO (K : Nat) (a b : Int) : Option Int := okZ (divZ K a b)

def addO (a b : Int) : Option Int := okZ (a + b)

def subO (a b : Int) : Option Int := okZ (a - b)

noncomputable def rootW (K : Nat) (a : Int) : Int := ((rt (a.toNat * 2 ^ K) 2 : Nat) : Int)

def oneZ (K : Nat) : Int := ((2 ^ K : Nat) : Int)

theorem one_pos (K : Nat) : 0 < oneZ K := by unfold oneZ; have := Nat.pow_pos (n := K) (show 0 < 2 by omega); omega

theorem one_max {K : Nat} (h : K ≤ 40) : oneZ K ≤ 1099511627776 := by
  unfold oneZ
  have : 2 ^ K ≤ 1099511627776 := Nat.le_trans (Nat.pow_le_pow_right (by omega) h) (by decide)
  omega

def mixO (K : Nat) (be a b : Int) : Option Int := (mulO K be a).bind fun x => (mulO K (oneZ K - be) b).bind fun y => addO x y

/-- what a place's gradient is taken as -/
def gradO (K : Nat) (A : AdamP) (w g : Int) : Option Int := if A.ap = true then some g else (mulO K A.wd w).bind fun t => addO g t

def lessO (K : Nat) (A : AdamP) (w n : Int) : Option Int := if A.ap = true then (mulO K A.lr A.wd).bind fun q => (mulO K q w).bind fun r => subO n r else some n

noncomputable def placeO (K : Nat) (A : AdamP) (p0 p1 w m v g : Int) : Option (Int × Int × Int) :=
  (gradO K A w g).bind fun d =>
  (mixO K A.b1 m d).bind fun m' =>
  (mulO K d d).bind fun q =>
  (mixO K A.b2 v q).bind fun v' =>
  (divO K m' (oneZ K - p0)).bind fun x =>
  (divO K v' (oneZ K - p1)).bind fun y =>
  (addO (rootW K y) A.eps).bind fun s =>
  (divO K x s).bind fun u =>
  (mulO K A.lr u).bind fun t =>
  (subO w t).bind fun n =>
  (lessO K A w n).bind fun n' =>
  some (n', m', v')

/-- which Adams are right -/
def rightA (A : AdamP) (f : Int) : Bool :=
  decide (0 ≤ f ∧ f ≤ 40 ∧ 0 ≤ A.lr ∧ 0 < A.eps ∧ 0 ≤ A.b1 ∧ A.b1 < oneZ f.toNat ∧ 0 ≤ A.b2 ∧ A.b2 < oneZ f.toNat ∧ 0 ≤ A.wd ∧ A.wd ≤ oneZ f.toNat)

theorem rightA_iff {A : AdamP} {f : Int} : rightA A f = true ↔ (0 ≤ f ∧ f ≤ 40 ∧ 0 ≤ A.lr ∧ 0 < A.eps ∧ 0 ≤ A.b1 ∧ A.b1 < oneZ f.toNat ∧ 0 ≤ A.b2 ∧ A.b2 < oneZ f.toNat ∧ 0 ≤ A.wd ∧ A.wd ≤ oneZ f.toNat) := by unfold rightA; exact decide_eq_true_iff

def mayB (K : Nat) (p : Int) : Bool := decide (0 ≤ p ∧ p < oneZ K)

theorem mulZ_nonneg {K : Nat} {a b : Int} (ha : 0 ≤ a) (hb : 0 ≤ b) : 0 ≤ mulZ K a b := ratio_nonneg (Nat.pow_pos (by omega)) (Int.mul_nonneg ha hb)

theorem divZ_ratio (K : Nat) (a : Int) {b : Int} (hb : 0 < b) : divZ K a b = ratioV (a * oneZ K) b.toNat := by
  obtain ⟨n, rfl⟩ := Int.eq_ofNat_of_zero_le (Int.le_of_lt hb)
  rfl

theorem divZ_nonneg {K : Nat} {a b : Int} (ha : 0 ≤ a) (hb : 0 < b) : 0 ≤ divZ K a b := by
  rw [divZ_ratio K a hb]
  exact ratio_nonneg (by omega) (Int.mul_nonneg ha (Int.le_of_lt (one_pos K)))

theorem rootW_nonneg (K : Nat) (a : Int) : 0 ≤ rootW K a := by unfold rootW; omega

theorem mixO_nonneg {K : Nat} {be a b y : Int} (h : mixO K be a b = some y) (h1 : 0 ≤ be) (h2 : be ≤ oneZ K) (ha : 0 ≤ a) (hb : 0 ≤ b) : 0 ≤ y := by
  unfold mixO at h
  simp only [Option.bind_eq_some_iff] at h
  obtain ⟨x, hx, z, hz, h⟩ := h
  obtain ⟨-, rfl⟩ := okZ_some hx
  obtain ⟨-, rfl⟩ := okZ_some hz
  obtain ⟨-, rfl⟩ := okZ_some h
  have := mulZ_nonneg (K := K) h1 ha
  have := mulZ_nonneg (K := K) (show 0 ≤ oneZ K - be by omega) hb
  omega

end Go.Rt
