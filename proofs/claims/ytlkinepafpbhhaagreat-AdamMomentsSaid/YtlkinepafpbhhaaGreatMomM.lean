/-
  Plain laws on a step's moments: how far they are from what is exact.
-/
import Derived.Test.YtlkinepafpbhhaaGreatAdamS
namespace Go.Rt
open Go Go.RowKit Go.Proofs

theorem P2_ne0 (K : Nat) : P2 K ≠ 0 := fun e => by
  have h := P2_pos K
  rw [e] at h
  exact absurd h (by decide)

/-- a mantissa's number -/
def numR (K : Nat) (n : Int) : Rat := (n : Rat) / P2 K

/-- a beta's share of one number, and of another one what it is less than 1 -/
def shareR (K : Nat) (be : Int) (a b : Rat) : Rat := numR K be * a + (((1 : Int) : Rat) - numR K be) * b

theorem numR_mul (K : Nat) (n : Int) : numR K n * P2 K = (n : Rat) := Rat.div_mul_cancel (P2_ne0 K)

theorem oneZ_P2 (K : Nat) : ((oneZ K : Int) : Rat) = P2 K := rfl

theorem numR_less (K : Nat) (be : Int) : numR K (oneZ K - be) = ((1 : Int) : Rat) - numR K be := by
  have h1 := numR_mul K (oneZ K - be)
  have h2 := numR_mul K be
  rw [Rat.intCast_sub, oneZ_P2] at h1
  have hp := P2_pos K
  rw [show ((1 : Int) : Rat) = 1 from rfl]
  generalize numR K (oneZ K - be) = x at *
  generalize numR K be = y at *
  have h3 : (x - (1 - y)) * P2 K = 0 := by grind
  rcases Rat.mul_eq_zero.1 h3 with h | h
  · grind
  · exact absurd h (P2_ne0 K)

theorem numR_pos {K : Nat} {n : Int} (h : 0 ≤ n) : 0 ≤ numR K n := by
  refine Rat.le_of_mul_le_mul_right (c := P2 K) ?_ (P2_pos K)
  rw [numR_mul, Rat.zero_mul]
  exact Rat.intCast_le_intCast.2 h

theorem numR_le {K : Nat} {n : Int} (h : n ≤ oneZ K) : numR K n ≤ 1 := by
  refine Rat.le_of_mul_le_mul_right (c := P2 K) ?_ (P2_pos K)
  rw [numR_mul, Rat.one_mul, ← oneZ_P2]
  exact Rat.intCast_le_intCast.2 h

theorem mul_near {K : Nat} {a b y : Int} (h : mulO K a b = some y) : -1 ≤ 2 * (numR K a * numR K b * P2 K - y) ∧ 2 * (numR K a * numR K b * P2 K - y) ≤ 1 := by
  obtain ⟨-, h⟩ := okZ_some h
  have hn := near_is (((a * b : Int) : Rat) / ((2 ^ K : Nat) : Rat))
  have hy : nearR (((a * b : Int) : Rat) / ((2 ^ K : Nat) : Rat)) = y := h
  rw [hy] at hn
  have e : ((a * b : Int) : Rat) / ((2 ^ K : Nat) : Rat) = numR K a * numR K b * P2 K := by
    have h1 := numR_mul K a
    have h2 := numR_mul K b
    have h3 : ((a * b : Int) : Rat) / P2 K * P2 K = ((a * b : Int) : Rat) := Rat.div_mul_cancel (P2_ne0 K)
    rw [Rat.intCast_mul] at h3
    rw [show ((2 ^ K : Nat) : Rat) = P2 K from rfl, Rat.intCast_mul]
    generalize (a : Rat) * (b : Rat) / P2 K = z at *
    generalize numR K a = x at *
    generalize numR K b = y at *
    have h4 : (z - x * y * P2 K) * P2 K = 0 := by grind
    rcases Rat.mul_eq_zero.1 h4 with h | h
    · grind
    · exact absurd h (P2_ne0 K)
  rw [e] at hn
  exact ⟨hn.1, hn.2.1⟩

theorem mix_near {K : Nat} {be a b z : Int} (h : mixO K be a b = some z) : -2 ≤ 2 * (shareR K be (numR K a) (numR K b) * P2 K - z) ∧ 2 * (shareR K be (numR K a) (numR K b) * P2 K - z) ≤ 2 := by
  unfold mixO at h
  simp only [Option.bind_eq_some_iff] at h
  obtain ⟨x, hx, y, hy, h⟩ := h
  obtain ⟨-, rfl⟩ := okZ_some h
  have h1 := mul_near hx
  have h2 := mul_near hy
  rw [numR_less] at h2
  unfold shareR
  rw [Rat.intCast_add]
  generalize numR K be = X at *
  generalize numR K a = A at *
  generalize numR K b = B at *
  generalize P2 K = p at *
  generalize ((1 : Int) : Rat) - X = Y at *
  constructor <;> grind

theorem sq_near {K : Nat} {be v d q z : Int} (hq : mulO K d d = some q) (h : mixO K be v q = some z) (h0 : 0 ≤ be) (h1 : be ≤ oneZ K) :
    -3 ≤ 2 * (shareR K be (numR K v) (numR K d * numR K d) * P2 K - z) ∧ 2 * (shareR K be (numR K v) (numR K d * numR K d) * P2 K - z) ≤ 3 := by
  have k1 := mix_near h
  have k2 := mul_near hq
  have k3 := numR_mul K q
  have k4 := numR_pos (K := K) h0
  have k5 := numR_le (K := K) h1
  unfold shareR at k1 ⊢
  rw [show ((1 : Int) : Rat) = 1 from rfl] at k1 ⊢
  generalize numR K be = X at *
  generalize numR K v = V at *
  generalize numR K q = Q at *
  generalize numR K d * numR K d = D at *
  generalize P2 K = p at *
  have e1 : 0 ≤ (1 - X) * (1 - 2 * (D * p - q)) := Rat.mul_nonneg (by grind) (by grind)
  have e2 : 0 ≤ (1 - X) * (1 + 2 * (D * p - q)) := Rat.mul_nonneg (by grind) (by grind)
  have e3 : (X * V + (1 - X) * D) * p - z = (X * V + (1 - X) * Q) * p - z + (1 - X) * (D * p - q) := by grind
  rw [e3]
  generalize (X * V + (1 - X) * Q) * p - (z : Rat) = s at *
  have e4 : (1 - X) * (1 - 2 * (D * p - q)) = (1 - X) - 2 * ((1 - X) * (D * p - q)) := by grind
  have e5 : (1 - X) * (1 + 2 * (D * p - q)) = (1 - X) + 2 * ((1 - X) * (D * p - q)) := by grind
  rw [e4] at e1
  rw [e5] at e2
  generalize (1 - X) * (D * p - q) = t at *
  constructor <;> grind

theorem far_near {K : Nat} {n hv : Int} {e : Rat} (h1 : -(hv : Rat) ≤ 2 * (e * P2 K - n)) (h2 : 2 * (e * P2 K - n) ≤ (hv : Rat)) :
    Rat.abs (numR K n - e) + Rat.abs (numR K n - e) ≤ (hv : Rat) * numR K 1 := by
  have k1 := numR_mul K n
  have k2 := numR_mul K 1
  rw [show ((1 : Int) : Rat) = 1 from rfl] at k2
  have key : ∀ a : Rat, 2 * (a * P2 K) ≤ hv → a + a ≤ (hv : Rat) * numR K 1 := fun a ha => by
    refine Rat.le_of_mul_le_mul_right (c := P2 K) ?_ (P2_pos K)
    have e1 : (hv : Rat) * numR K 1 * P2 K = hv := by rw [Rat.mul_assoc, k2, Rat.mul_one]
    rw [e1]
    grind
  unfold Rat.abs
  split
  · exact key _ (by grind)
  · exact key _ (by grind)

theorem grad_is {K : Nat} {A : AdamP} {w g d : Int} (h : gradO K A w g = some d) (hd : A.ap = true ∨ A.wd = 0) : d = g := by
  unfold gradO at h
  split at h
  · cases h; rfl
  · rcases hd with hd | hd
    · rename_i hn; exact absurd hd hn
    · rw [hd, mulO_zero', Option.bind_some] at h
      obtain ⟨-, h⟩ := okZ_some h
      omega

theorem moments_near {A : AdamP} {f p0 p1 : Int} {lw lm lv lg : List Int} {K : Nat} (hK : f = (K : Int)) (h : stepE A f p0 p1 lw lm lv lg = 0) (hd : A.ap = true ∨ A.wd = 0) {i : Nat} (hi : i < lw.length) :
    (Rat.abs (numR K (p2of (stepP A f p0 p1 lw lm lv lg i)) - shareR K A.b1 (numR K (atL lm i)) (numR K (atL lg i))) + Rat.abs (numR K (p2of (stepP A f p0 p1 lw lm lv lg i)) - shareR K A.b1 (numR K (atL lm i)) (numR K (atL lg i))) ≤ ((2 : Int) : Rat) * numR K 1) ∧
    (Rat.abs (numR K (p3of (stepP A f p0 p1 lw lm lv lg i)) - shareR K A.b2 (numR K (atL lv i)) (numR K (atL lg i) * numR K (atL lg i))) + Rat.abs (numR K (p3of (stepP A f p0 p1 lw lm lv lg i)) - shareR K A.b2 (numR K (atL lv i)) (numR K (atL lg i) * numR K (atL lg i))) ≤ ((3 : Int) : Rat) * numR K 1) ∧
    0 ≤ p3of (stepP A f p0 p1 lw lm lv lg i) := by
  have hok := stepE_zero.1 h
  have hr := rightA_iff.1 hok.right
  have hKK : f.toNat = K := by omega
  obtain ⟨n, m, v, e, -, e2, e3⟩ := place_at h hi
  obtain ⟨d, q, -, -, -, -, -, -, g1, g2, g3, g4, -⟩ := place_parts e
  obtain rfl := grad_is g1 hd
  rw [e2, e3]
  rw [hKK] at g2 g3 g4 hr
  have k1 := mix_near g2
  have k2 := sq_near g3 g4 hr.2.2.2.2.2.2.1 (by omega)
  refine ⟨far_near (by rw [show ((2 : Int) : Rat) = 2 from rfl]; exact k1.1) (by rw [show ((2 : Int) : Rat) = 2 from rfl]; exact k1.2), far_near (by rw [show ((3 : Int) : Rat) = 3 from rfl]; exact k2.1) (by rw [show ((3 : Int) : Rat) = 3 from rfl]; exact k2.2), ?_⟩
  refine mixO_nonneg g4 hr.2.2.2.2.2.2.1 (by omega) (negB_at hok.neg (by rw [hok.v]; exact hi)) ?_
  obtain ⟨-, rfl⟩ := okZ_some g3
  refine ratio_nonneg (Nat.pow_pos (by omega)) ?_
  rcases Int.le_total 0 (atL lg i) with hs | hs
  · exact Int.mul_nonneg hs hs
  · exact Int.mul_nonneg_of_nonpos_of_nonpos hs hs

end Go.Rt
