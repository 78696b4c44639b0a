/-
  A mean in plain numbers: between the least and the greatest; half a step from what is exact.
-/
import Derived.Test.YtfgmfhdcdhanbaaClipD
namespace Go.Rt
open Go Go.RowKit Go.Proofs

/-- the least and the greatest at place k among the first rows (the first row's own ahead of all) -/
def minK (ls : List (List Int)) (k : Nat) : Nat → Int
  | 0 => atL (atR ls 0) k
  | j + 1 => min (minK ls k j) (atL (atR ls j) k)

def maxK (ls : List (List Int)) (k : Nat) : Nat → Int
  | 0 => atL (atR ls 0) k
  | j + 1 => max (maxK ls k j) (atL (atR ls j) k)

theorem minK_sum (ls : List (List Int)) (k : Nat) : ∀ j, j ≤ ls.length → ∀ i, i ≤ j → (i : Int) * minK ls k j ≤ colS (ls.take i) k ∧ colS (ls.take i) k ≤ (i : Int) * maxK ls k j := by
  have hm : ∀ j i, i < j → minK ls k j ≤ atL (atR ls i) k ∧ atL (atR ls i) k ≤ maxK ls k j := by
    intro j
    induction j with
    | zero => intro i hi; omega
    | succ j ih =>
      intro i hi
      unfold minK maxK
      rcases Nat.lt_or_ge i j with h | h
      · have := ih i h
        omega
      · obtain rfl : i = j := by omega
        omega
  intro j hj i
  induction i with
  | zero => intro _; simp [colS]
  | succ i ih =>
    intro hi
    have h1 := ih (by omega)
    have h2 := hm j i (by omega)
    rw [colS_take (by omega)]
    have e1 : ((i + 1 : Nat) : Int) * minK ls k j = (i : Int) * minK ls k j + minK ls k j := by rw [Int.natCast_succ, Int.add_mul, Int.one_mul]
    have e2 : ((i + 1 : Nat) : Int) * maxK ls k j = (i : Int) * maxK ls k j + maxK ls k j := by rw [Int.natCast_succ, Int.add_mul, Int.one_mul]
    rw [e1, e2]
    omega

theorem minK_i64 {ls : List (List Int)} (h : ∀ x ∈ ls.flatten, I64 x) (k : Nat) : ∀ j, j ≤ ls.length → 0 < ls.length → I64 (minK ls k j) ∧ I64 (maxK ls k j) := by
  have ha : ∀ i, i < ls.length → I64 (atL (atR ls i) k) := fun i hi => atL_i64 (fun x hx => h x (List.mem_flatten.2 ⟨_, atR_mem hi, hx⟩)) k
  intro j
  induction j with
  | zero => intro _ h0; exact ⟨ha 0 h0, ha 0 h0⟩
  | succ j ih =>
    intro hj h0
    have h1 := ih (by omega) h0
    have h2 := ha j (by omega)
    unfold minK maxK
    unfold I64 at *
    omega

theorem mean_mid {S : Int} {n : Nat} {lo hi : Int} (hn : 0 < n) (h1 : (n : Int) * lo ≤ S) (h2 : S ≤ (n : Int) * hi) : lo ≤ nearR (mkRat S n * P2 0) ∧ nearR (mkRat S n * P2 0) ≤ hi := by
  rw [P2_zero, Rat.mul_one, Rat.mkRat_eq_div]
  have hq : (0 : Rat) < (n : Rat) := by exact_mod_cast hn
  have e1 : (lo : Rat) ≤ (S : Rat) / (n : Rat) := by
    refine Rat.le_of_mul_le_mul_right ?_ hq
    rw [Rat.div_mul_cancel (fun h0 => by rw [h0] at hq; exact absurd hq (by decide))]
    have : ((lo * (n : Int) : Int) : Rat) ≤ (S : Rat) := by rw [Rat.intCast_le_intCast]; rw [Int.mul_comm]; exact h1
    rw [Rat.intCast_mul] at this
    exact this
  have e2 : (S : Rat) / (n : Rat) ≤ (hi : Rat) := by
    refine Rat.le_of_mul_le_mul_right ?_ hq
    rw [Rat.div_mul_cancel (fun h0 => by rw [h0] at hq; exact absurd hq (by decide))]
    have : (S : Rat) ≤ ((hi * (n : Int) : Int) : Rat) := by rw [Rat.intCast_le_intCast]; rw [Int.mul_comm]; exact h2
    rw [Rat.intCast_mul] at this
    exact this
  have m1 := near_mono e1
  have m2 := near_mono e2
  rw [near_int] at m1 m2
  exact ⟨m1, m2⟩

theorem mean_half {S : Int} {n : Nat} (hn : 0 < n) : (nearR (mkRat S n * P2 0) * (n : Int) - S).natAbs + (nearR (mkRat S n * P2 0) * (n : Int) - S).natAbs ≤ n := by
  rw [P2_zero, Rat.mul_one, Rat.mkRat_eq_div]
  obtain ⟨h1, h2, -⟩ := near_is ((S : Rat) / (n : Rat))
  obtain ⟨q, hq⟩ : ∃ q, q = nearR ((S : Rat) / (n : Rat)) := ⟨_, rfl⟩
  rw [← hq] at h1 h2 ⊢
  have hp : (0 : Rat) < (n : Rat) := by exact_mod_cast hn
  have e : (S : Rat) / (n : Rat) * (n : Rat) = (S : Rat) := Rat.div_mul_cancel (by intro h0; rw [h0] at hp; exact absurd hp (by decide))
  obtain ⟨y, hy⟩ : ∃ y, y = (S : Rat) / (n : Rat) := ⟨_, rfl⟩
  rw [← hy] at h1 h2 e
  have a1 : -(n : Rat) ≤ 2 * ((S : Rat) - (q : Rat) * (n : Rat)) := by
    have := Rat.mul_le_mul_of_nonneg_right h1 (Rat.le_of_lt hp)
    grind
  have a2 : 2 * ((S : Rat) - (q : Rat) * (n : Rat)) ≤ (n : Rat) := by
    have := Rat.mul_le_mul_of_nonneg_right h2 (Rat.le_of_lt hp)
    grind
  have b1 : -(n : Int) ≤ 2 * (S - q * (n : Int)) := by
    refine Rat.intCast_le_intCast.1 ?_
    rw [Rat.intCast_neg, Rat.intCast_mul, Rat.intCast_sub, Rat.intCast_mul, Rat.intCast_natCast]
    exact a1
  have b2 : 2 * (S - q * (n : Int)) ≤ (n : Int) := by
    refine Rat.intCast_le_intCast.1 ?_
    rw [Rat.intCast_mul, Rat.intCast_sub, Rat.intCast_mul, Rat.intCast_natCast]
    exact a2
  omega

/-- what a mean is to be -/
theorem mean_is {ls : List (List Int)} (h : ∀ x ∈ ls.flatten, I64 x) (hn : 0 < ls.length) (k : Nat) :
    minK ls k ls.length ≤ meanV ls k ∧ meanV ls k ≤ maxK ls k ls.length ∧ (meanV ls k * (ls.length : Int) - colS ls k).natAbs + (meanV ls k * (ls.length : Int) - colS ls k).natAbs ≤ ls.length := by
  have h1 := minK_sum ls k ls.length (Nat.le_refl _) ls.length (Nat.le_refl _)
  rw [List.take_length] at h1
  obtain ⟨m1, m2⟩ := mean_mid hn h1.1 h1.2
  obtain ⟨i1, i2⟩ := minK_i64 h k ls.length (Nat.le_refl _) hn
  have hf : meanV ls k = nearR (mkRat (colS ls k) ls.length * P2 0) := by
    unfold meanV fitV fits
    rw [if_pos]
    simp only [decide_eq_true_eq]
    unfold I64 at i1 i2
    omega
  rw [hf]
  exact ⟨m1, m2, mean_half hn⟩

theorem mean_one {ls : List (List Int)} (h : ∀ x ∈ ls.flatten, I64 x) (hn : ls.length = 1) : meanL ls = atR ls 0 := by
  have hv : ∀ k, meanV ls k = atL (atR ls 0) k := fun k => by
    have h1 := mean_is h (by omega) k
    rw [hn] at h1
    have e1 : minK ls k 1 = atL (atR ls 0) k := by unfold minK; simp [minK]
    have e2 : maxK ls k 1 = atL (atR ls 0) k := by unfold maxK; simp [maxK]
    rw [e1, e2] at h1
    omega
  unfold meanL
  refine List.ext_getElem (by simp) fun i h1 h2 => ?_
  simp only [List.getElem_map, List.getElem_range]
  rw [hv i, atL_eq h2]
end Go.Rt
