/-
  Numbers of a fixed point: size, sided, by.
-/
import Derived.Test.YtfgmfhdcdhanbaaGreatGS
import Derived.Test.YtfgmfhdcdhanbaaGreatMul64
import Derived.Test.YtfgmfhdcdhanbaaGreatDiv64
import Derived.Test.YtfgmfhdcdhanbaaGreatGF
namespace Go.Rt
open Go.RowKit Go.Proofs

/-- is there such an f? -/
def fracB (f : Int) : Bool := decide (0 ≤ f ∧ f ≤ 40)

set_option maxHeartbeats 400000 in
theorem Tryz.fixIsFrac (f : Int) (w : World) : Calls Tryz.prog 48 #[.int .i64 f] w fun e w' => e = .returned (.bool (fracB f)) ∧ w = w' := by
  by_cases h1 : 0 ≤ f
  · by_cases h2 : f ≤ 40
    · have HR : Hid (true = fracB f) := Lib.hid (decide_eq_true (p := 0 ≤ f ∧ f ≤ 40) ⟨h1, h2⟩).symm
      go_enter Tryz.func48, Tryz.ntmps48
      go_wp2
      all_goals go_ret
      all_goals exact ⟨ret_b HR.out, rfl⟩
    · have HR : Hid (false = fracB f) := Lib.hid (decide_eq_false (p := 0 ≤ f ∧ f ≤ 40) (fun h => h2 h.2)).symm
      have h2' : decide (f ≤ 40) = false := decide_eq_false h2
      go_enter Tryz.func48, Tryz.ntmps48
      go_wp2
      all_goals go_ret
      all_goals exact ⟨ret_b HR.out, rfl⟩
  · have HR : Hid (false = fracB f) := Lib.hid (decide_eq_false (p := 0 ≤ f ∧ f ≤ 40) (fun h => h1 h.1)).symm
    have h1' : decide (0 ≤ f) = false := decide_eq_false h1
    go_enter Tryz.func48, Tryz.ntmps48
    go_wp2
    all_goals go_ret
    all_goals exact ⟨ret_b HR.out, rfl⟩

end Go.Rt
