/-
 Schedules: which are right, by the program and by the reference.
-/
import Derived.Test.YtkbalokicnogbaaGreatGY
import Derived.Test.YtkbalokicnogbaaGreatGS
import Derived.Test.YtkbalokicnogbaaGreatGG

namespace Go.Rt

open Go Go.RowKit Go.Proofs

set_option maxRecDepth 100000 in
set_option maxHeartbeats 4000000 in
theorem Tryz.refOne15 (K : Nat) (hK : K ≤ 40) (w : World) : Calls Tryz.prog 75 #[.int .i64 (K : Int)] w fun e w' => e = .returned (.int .i64 ((2 ^ K : Nat) : Int)) ∧ Ext w w' := by
 go_enter Tryz.func75, Tryz.ntmps75
 go_wp2_with fail
 go_loopw [3, 4] (fun n i wr => ∃ k : Nat, n = .int .i64 ((2 ^ k : Nat) : Int) ∧ i = .int .i64 (k : Int) ∧ k ≤ K ∧ Ext w wr) (fun _ i _ => K - (intOf i).toNat)
 case atStart => exact ⟨0, rfl, rfl, by omega, Ext.refl w⟩
 case round =>
  obtain ⟨k, rfl, rfl, hk, hE⟩ := hrel
  by_cases hlt : k < K
  ·have hkI : (k : Int) < (K : Int) := by omega
   have hp : 2 ^ k ≤ 1099511627776 := Nat.le_trans (Nat.pow_le_pow_right (by omega) (show k ≤ 40 by omega)) (by decide)
   obtain ⟨P, hP⟩ : ∃ P, P = 2 ^ k := ⟨_, rfl⟩
   rw [← hP] at hp ⊢
   have hw : IntKind.i64.wrap ((P : Int) * 2) = ((2 * P : Nat) : Int) := by rw [IntKind.wrap_i64]; omega
   have HP : Hid (2 * P = 2 ^ (k + 1)) := Lib.hid (by rw [hP, Nat.pow_succ]; omega)
   clear hP hp
   go_wp2
   go_roundw
   case rel => exact ⟨k + 1, by rw [← HP.out]; first | rfl | (rw [hw]), by go_num, by omega, hE⟩
   case measure => simp [intOf]; omega
  ·obtain rfl : k = K := by omega
   go_wp2
   go_ret
   exact ⟨rfl, hE⟩

end Go.Rt
