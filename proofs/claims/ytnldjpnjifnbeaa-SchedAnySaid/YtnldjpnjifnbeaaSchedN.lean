/-
  Plain laws on schedules: any fraction bits, no warming, a lesser Base.
-/
import Derived.Test.YtnldjpnjifnbeaaSchedM
namespace Go.Rt
open Go

section
variable {kd b r e w v l p f g : Int} {K J : Nat}
theorem rate_any (hk : kd ≠ 2) (t : Nat) : rateV kd b r e w v l p t J = rateV kd b r e w v l p t K := by
  unfold rateV
  rw [if_neg hk, if_neg hk]

theorem rate_first (hk : kd = 0 ∨ kd = 1) (hb : 0 ≤ b) : rateV kd b r e 0 v l p 1 K = b := by
  rcases hk with h | h
  · rw [rate_const (by omega) h]
  · rw [rate_slow (by omega) h, show (0 : Int).toNat = 0 from rfl, slow_first]
    omega

theorem rate_less {c : Int} {e' : Int} (hk : kd = 0 ∨ kd = 1) (_hc : 0 ≤ c) (hcb : c ≤ b) (hw : 0 ≤ w) {t : Nat} (ht : 1 ≤ t) : rateV kd c r e' w v l p t K ≤ rateV kd b r e w v l p t K := by
  by_cases h : (t : Int) ≤ w
  · rw [rate_warm h, rate_warm h]
    exact ratio_mono (by omega) (Int.mul_le_mul_of_nonneg_right hcb (by omega))
  · rcases hk with k | k
    · rw [rate_const h k, rate_const h k]; exact hcb
    · rw [rate_slow h k, rate_slow h k]
      have := slow_up (W := w.toNat) (t := t) (show c.toNat ≤ b.toNat by omega)
      omega

theorem right_first (h : rightS kd b r e w v l p f = true) : rightS kd b r e 0 v l p f = true := by
  have := rightS_iff.1 h
  exact rightS_iff.2 ⟨this.1, this.2.1, this.2.2.1, this.2.2.2.1, this.2.2.2.2.1, by omega, by omega, this.2.2.2.2.2.2.2.1, this.2.2.2.2.2.2.2.2⟩

theorem right_less {c : Int} (h : rightS kd b r e w v l p f = true) (hc : 0 ≤ c) : rightS kd c r 0 w v l p f = true := by
  have := rightS_iff.1 h
  exact rightS_iff.2 ⟨this.1, this.2.1, this.2.2.1, this.2.2.2.1, hc, this.2.2.2.2.2.1, this.2.2.2.2.2.2.1, this.2.2.2.2.2.2.2.1, fun k => by
    have := this.2.2.2.2.2.2.2.2 k
    exact ⟨this.1, this.2.1, this.2.2.1, this.2.2.2.1, by omega, hc⟩⟩

theorem right_pow (hk : kd ≠ 2) (h : rightS kd b r e w v l p f = true) (hg : 0 ≤ g ∧ g ≤ 40) : rightS kd b r e w v l p g = true := by
  have := rightS_iff.1 h
  exact rightS_iff.2 ⟨hg.1, hg.2, this.2.2.1, this.2.2.2.1, this.2.2.2.2.1, this.2.2.2.2.2.1, this.2.2.2.2.2.2.1, fun k => absurd k hk, this.2.2.2.2.2.2.2.2⟩
end
end Go.Rt
