/-
 Schedules: which are right, by the program and by the reference.
-/
import Derived.Test.YtdnhkjlhjopcgabSchedM
import Derived.Test.YtdnhkjlhjopcgabBoxA
import Derived.Test.YtdnhkjlhjopcgabGG
namespace Go.Rt
open Go Go.RowKit Go.Proofs

theorem BxA.cells8 {W : World} {b : Nat} {t : TypeId} {x0 x1 x2 x3 x4 x5 x6 x7 : Value} (h : BxA W b t #[x0, x1, x2, x3, x4, x5, x6, x7]) :
  W.cell? ⟨b, 0, none⟩ = some x0 ∧ W.cell? ⟨b, 1, none⟩ = some x1 ∧ W.cell? ⟨b, 2, none⟩ = some x2 ∧ W.cell? ⟨b, 3, none⟩ = some x3 ∧ W.cell? ⟨b, 4, none⟩ = some x4 ∧ W.cell? ⟨b, 5, none⟩ = some x5 ∧ W.cell? ⟨b, 6, none⟩ = some x6 ∧ W.cell? ⟨b, 7, none⟩ = some x7 :=
 ⟨h.cell 0 rfl, h.cell 1 rfl, h.cell 2 rfl, h.cell 3 rfl, h.cell 4 rfl, h.cell 5 rfl, h.cell 6 rfl, h.cell 7 rfl⟩

def inB (n lo hi : Int) : Bool := decide (lo ≤ n ∧ n ≤ hi)

theorem inB_t {n lo hi : Int} (h1 : lo ≤ n) (h2 : n ≤ hi) : inB n lo hi = true := decide_eq_true ⟨h1, h2⟩

theorem inB_f {n lo hi : Int} (h : ¬ (lo ≤ n ∧ n ≤ hi)) : inB n lo hi = false := decide_eq_false h

set_option maxRecDepth 100000 in
set_option maxHeartbeats 4000000 in
theorem Try.refOne15 (K : Nat) (hK : K ≤ 40) (w : World) : Calls Try.prog 23 #[.int .i64 (K : Int)] w fun e w' => e = .returned (.int .i64 ((2 ^ K : Nat) : Int)) ∧ Ext w w' := by
 go_enter Try.func23, Try.ntmps23
 go_wp2_with fail
 go_loopw [3, 4] (fun n i wr => ∃ k : Nat, n = .int .i64 ((2 ^ k : Nat) : Int) ∧ i = .int .i64 (k : Int) ∧ k ≤ K ∧ Ext w wr) (fun _ i _ => K - (intOf i).toNat)
 case atStart => exact ⟨0, rfl, rfl, by omega, Ext.refl w⟩
 case round =>
  obtain ⟨k, rfl, rfl, hk, hE⟩ := hrel
  by_cases hlt : k < K
  ·have hkI : (k : Int) < (K : Int) := by omega
   have hp : 2 ^ k ≤ 1099511627776 := Nat.le_trans (Nat.pow_le_pow_right (by omega) (show k ≤ 40 by omega)) (by decide)
   obtain ⟨P, hP⟩ : ∃ P, P = 2 ^ k := ⟨_, rfl⟩
   rw [← hP] at hp ⊢
   have hw : IntKind.i64.wrap ((P : Int) * 2) = ((2 * P : Nat) : Int) := by rw [IntKind.wrap_i64]; omega
   have HP : Hid (2 * P = 2 ^ (k + 1)) := Lib.hid (by rw [hP, Nat.pow_succ]; omega)
   clear hP hp
   go_wp2
   go_roundw
   case rel => exact ⟨k + 1, by rw [← HP.out]; first | rfl | (rw [hw]), by go_num, by omega, hE⟩
   case measure => simp [intOf]; omega
  ·obtain rfl : k = K := by omega
   go_wp2
   go_ret
   exact ⟨rfl, hE⟩

end Go.Rt
