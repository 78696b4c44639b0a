/-
  cmp.Compare at int and at uint64; nat.Cmp.
-/
import Derived.Test.YtbfojmhigfeahaaBack
namespace Go.Rt
open Go.RowKit Go.Shelf Go.Proofs
attribute [local go_sem] Oper.semAt_some

/-- which is greater -/
def cmpI (x y : Int) : Int := if x < y then -1 else if y < x then 1 else 0

theorem cmpI_lt {x y : Int} (h : x < y) : cmpI x y = -1 := if_pos h
theorem cmpI_gt {x y : Int} (h : y < x) : cmpI x y = 1 := by unfold cmpI; rw [if_neg (by omega), if_pos h]
theorem cmpI_eq {x y : Int} (h : x = y) : cmpI x y = 0 := by unfold cmpI; rw [if_neg (by omega), if_neg (by omega)]
theorem cmpI_bd (x y : Int) : -1 ≤ cmpI x y ∧ cmpI x y ≤ 1 := by unfold cmpI; split <;> (try split) <;> omega
theorem cmpI_zero {x y : Int} : cmpI x y = 0 ↔ x = y := by unfold cmpI; split <;> (try split) <;> omega
theorem cmpI_neg {x y : Int} : cmpI x y < 0 ↔ x < y := by unfold cmpI; split <;> (try split) <;> omega
theorem cmpI_pos {x y : Int} : 0 < cmpI x y ↔ y < x := by unfold cmpI; split <;> (try split) <;> omega

set_option maxHeartbeats 400000 in
theorem Try.compareI (x y : Int) (w : World) : Calls Try.prog 86 #[.int .i64 x, .int .i64 y] w fun e w' => e = .returned (.int .i64 (cmpI x y)) ∧ w = w' := by
  have hx : (x != x) = false := by simp
  have hy : (y != y) = false := by simp
  rcases Int.lt_trichotomy x y with h | h | h
  · have H := Lib.hid (cmpI_lt h)
    go_enter Try.func86, Try.ntmps86
    go_wp2
    all_goals go_ret
    all_goals exact ⟨ret_i H.out.symm, rfl⟩
  · subst h
    have H := Lib.hid (cmpI_eq (rfl : x = x))
    go_enter Try.func86, Try.ntmps86
    go_wp2
    all_goals go_ret
    all_goals exact ⟨ret_i H.out.symm, rfl⟩
  · have H := Lib.hid (cmpI_gt h)
    go_enter Try.func86, Try.ntmps86
    go_wp2
    all_goals go_ret
    all_goals exact ⟨ret_i H.out.symm, rfl⟩

set_option maxHeartbeats 400000 in
theorem Try.compareU (x y : Int) (w : World) : Calls Try.prog 88 #[.int .u64 x, .int .u64 y] w fun e w' => e = .returned (.int .i64 (cmpI x y)) ∧ w = w' := by
  have hx : (x != x) = false := by simp
  have hy : (y != y) = false := by simp
  rcases Int.lt_trichotomy x y with h | h | h
  · have H := Lib.hid (cmpI_lt h)
    go_enter Try.func88, Try.ntmps88
    go_wp2
    all_goals go_ret
    all_goals exact ⟨ret_i H.out.symm, rfl⟩
  · subst h
    have H := Lib.hid (cmpI_eq (rfl : x = x))
    go_enter Try.func88, Try.ntmps88
    go_wp2
    all_goals go_ret
    all_goals exact ⟨ret_i H.out.symm, rfl⟩
  · have H := Lib.hid (cmpI_gt h)
    go_enter Try.func88, Try.ntmps88
    go_wp2
    all_goals go_ret
    all_goals exact ⟨ret_i H.out.symm, rfl⟩

end Go.Rt
