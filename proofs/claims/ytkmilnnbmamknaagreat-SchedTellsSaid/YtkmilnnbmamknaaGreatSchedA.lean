/-
 Schedules: which are right, by the program and by the reference.
-/
import Derived.Test.YtkmilnnbmamknaaGreatSchedM
import Derived.Test.YtkmilnnbmamknaaGreatBoxA
import Derived.Test.YtkmilnnbmamknaaGreatGG
namespace Go.Rt
open Go Go.RowKit Go.Proofs

theorem BxA.cells8 {W : World} {b : Nat} {t : TypeId} {x0 x1 x2 x3 x4 x5 x6 x7 : Value} (h : BxA W b t #[x0, x1, x2, x3, x4, x5, x6, x7]) :
  W.cell? ⟨b, 0, none⟩ = some x0 ∧ W.cell? ⟨b, 1, none⟩ = some x1 ∧ W.cell? ⟨b, 2, none⟩ = some x2 ∧ W.cell? ⟨b, 3, none⟩ = some x3 ∧ W.cell? ⟨b, 4, none⟩ = some x4 ∧ W.cell? ⟨b, 5, none⟩ = some x5 ∧ W.cell? ⟨b, 6, none⟩ = some x6 ∧ W.cell? ⟨b, 7, none⟩ = some x7 :=
 ⟨h.cell 0 rfl, h.cell 1 rfl, h.cell 2 rfl, h.cell 3 rfl, h.cell 4 rfl, h.cell 5 rfl, h.cell 6 rfl, h.cell 7 rfl⟩

def inB (n lo hi : Int) : Bool := decide (lo ≤ n ∧ n ≤ hi)

theorem inB_t {n lo hi : Int} (h1 : lo ≤ n) (h2 : n ≤ hi) : inB n lo hi = true := decide_eq_true ⟨h1, h2⟩

theorem inB_f {n lo hi : Int} (h : ¬ (lo ≤ n ∧ n ≤ hi)) : inB n lo hi = false := decide_eq_false h

theorem Tryz.schedIn (n lo hi : Int) (w : World) : Calls Tryz.prog 9 #[.int .i64 n, .int .i64 lo, .int .i64 hi] w fun e w' => e = .returned (.bool (inB n lo hi)) ∧ w = w' := by
 by_cases h1 : lo ≤ n
 ·have h1d : decide (lo ≤ n) = true := decide_eq_true h1
  by_cases h2 : n ≤ hi
  ·have h2d : decide (n ≤ hi) = true := decide_eq_true h2
   have HR : Hid (inB n lo hi = true) := Lib.hid (inB_t h1 h2)
   go_enter Tryz.func9, Tryz.ntmps9
   go_wp2
   go_ret
   exact ⟨by rw [HR.out]; rfl, rfl⟩
  ·have h2d : decide (n ≤ hi) = false := decide_eq_false h2
   have HR : Hid (inB n lo hi = false) := Lib.hid (inB_f (fun h => h2 h.2))
   go_enter Tryz.func9, Tryz.ntmps9
   go_wp2
   go_ret
   exact ⟨by rw [HR.out]; rfl, rfl⟩
 ·have h1d : decide (lo ≤ n) = false := decide_eq_false h1
  have HR : Hid (inB n lo hi = false) := Lib.hid (inB_f (fun h => h1 h.1))
  go_enter Tryz.func9, Tryz.ntmps9
  go_wp2
  go_ret
  exact ⟨by rw [HR.out]; rfl, rfl⟩

theorem Tryz.refIn15 (n lo hi : Int) (w : World) : Calls Tryz.prog 15 #[.int .i64 n, .int .i64 lo, .int .i64 hi] w fun e w' => e = .returned (.bool (inB n lo hi)) ∧ w = w' := by
 by_cases h1 : lo ≤ n
 ·have h1d : decide (lo ≤ n) = true := decide_eq_true h1
  by_cases h2 : n ≤ hi
  ·have h2d : decide (n ≤ hi) = true := decide_eq_true h2
   have HR : Hid (inB n lo hi = true) := Lib.hid (inB_t h1 h2)
   go_enter Tryz.func15, Tryz.ntmps15
   go_wp2
   go_ret
   exact ⟨by rw [HR.out]; rfl, rfl⟩
  ·have h2d : decide (n ≤ hi) = false := decide_eq_false h2
   have HR : Hid (inB n lo hi = false) := Lib.hid (inB_f (fun h => h2 h.2))
   go_enter Tryz.func15, Tryz.ntmps15
   go_wp2
   go_ret
   exact ⟨by rw [HR.out]; rfl, rfl⟩
 ·have h1d : decide (lo ≤ n) = false := decide_eq_false h1
  have HR : Hid (inB n lo hi = false) := Lib.hid (inB_f (fun h => h1 h.1))
  go_enter Tryz.func15, Tryz.ntmps15
  go_wp2
  go_ret
  exact ⟨by rw [HR.out]; rfl, rfl⟩

set_option maxRecDepth 100000 in
set_option maxHeartbeats 4000000 in
theorem Tryz.refOne15 (K : Nat) (hK : K ≤ 40) (w : World) : Calls Tryz.prog 20 #[.int .i64 (K : Int)] w fun e w' => e = .returned (.int .i64 ((2 ^ K : Nat) : Int)) ∧ Ext w w' := by
 go_enter Tryz.func20, Tryz.ntmps20
 go_wp2_with fail
 go_loopw [3, 4] (fun n i wr => ∃ k : Nat, n = .int .i64 ((2 ^ k : Nat) : Int) ∧ i = .int .i64 (k : Int) ∧ k ≤ K ∧ Ext w wr) (fun _ i _ => K - (intOf i).toNat)
 case atStart => exact ⟨0, rfl, rfl, by omega, Ext.refl w⟩
 case round =>
  obtain ⟨k, rfl, rfl, hk, hE⟩ := hrel
  by_cases hlt : k < K
  ·have hkI : (k : Int) < (K : Int) := by omega
   have hp : 2 ^ k ≤ 1099511627776 := Nat.le_trans (Nat.pow_le_pow_right (by omega) (show k ≤ 40 by omega)) (by decide)
   obtain ⟨P, hP⟩ : ∃ P, P = 2 ^ k := ⟨_, rfl⟩
   rw [← hP] at hp ⊢
   have hw : IntKind.i64.wrap ((P : Int) * 2) = ((2 * P : Nat) : Int) := by rw [IntKind.wrap_i64]; omega
   have HP : Hid (2 * P = 2 ^ (k + 1)) := Lib.hid (by rw [hP, Nat.pow_succ]; omega)
   clear hP hp
   go_wp2
   go_roundw
   case rel => exact ⟨k + 1, by rw [← HP.out]; first | rfl | (rw [hw]), by go_num, by omega, hE⟩
   case measure => simp [intOf]; omega
  ·obtain rfl : k = K := by omega
   go_wp2
   go_ret
   exact ⟨rfl, hE⟩

set_option maxRecDepth 100000 in
set_option maxHeartbeats 16000000 in
theorem Tryz.refRight15 (kd bb rr ee ww vv ll pp ff : Int) (w : World) :
  Calls Tryz.prog 8 #[.agg #[.int .i64 kd, .int .i64 bb, .int .i64 rr, .int .i64 ee, .int .i64 ww, .int .i64 vv, .int .i64 ll, .int .i64 pp], .int .i64 ff] w fun e w' => e = .returned (.bool (rightS kd bb rr ee ww vv ll pp ff)) ∧ Ext w w' := by
 by_cases h0 : 0 ≤ ff ∧ ff ≤ 40
 ·by_cases h1 : 0 ≤ kd ∧ kd ≤ 3
  ·by_cases h2 : 0 ≤ bb
   ·have hb1 : ¬ bb < 0 := by omega
    have hb1d : decide (bb < 0) = false := decide_eq_false hb1
    by_cases h3 : 0 ≤ ww ∧ ww ≤ 1000000
    ·have hkc : kd = 0 ∨ kd = 1 ∨ kd = 2 ∨ kd = 3 := by omega
     rcases hkc with rfl | rfl | rfl | rfl
     ·have HR : Hid (rightS 0 bb rr ee ww vv ll pp ff = true) := Lib.hid (by rw [rightS_iff]; omega)
      have HI0 : Hid (inB ff 0 40 = true) := Lib.hid (inB_t (by omega) (by omega))
      have HI1 : Hid (inB 0 0 3 = true) := Lib.hid (inB_t (by omega) (by omega))
      have HI2 : Hid (inB ww 0 1000000 = true) := Lib.hid (inB_t (by omega) (by omega))
      obtain ⟨W0, hW0⟩ : ∃ W0, W0 = (w.alloc (.cells #[.int .i64 0, .int .i64 bb, .int .i64 rr, .int .i64 ee, .int .i64 ww, .int .i64 vv, .int .i64 ll, .int .i64 pp] 23)) := ⟨_, rfl⟩
      have E0 : Ext w W0 := by rw [hW0]; exact (Ext.alloc1 w (.cells #[.int .i64 0, .int .i64 bb, .int .i64 rr, .int .i64 ee, .int .i64 ww, .int .i64 vv, .int .i64 ll, .int .i64 pp] 23))
      have p2 : BxA W0 w.heap.size 23 #[.int .i64 0, .int .i64 bb, .int .i64 rr, .int .i64 ee, .int .i64 ww, .int .i64 vv, .int .i64 ll, .int .i64 pp] := by rw [hW0]; exact (BxA.new w 23 #[.int .i64 0, .int .i64 bb, .int .i64 rr, .int .i64 ee, .int .i64 ww, .int .i64 vv, .int .i64 ll, .int .i64 pp])
      go_enter Tryz.func8, Tryz.ntmps8
      obtain ⟨kp2_0, kp2_1, kp2_2, kp2_3, kp2_4, kp2_5, kp2_6, kp2_7⟩ := p2.cells8
      go_wp2_with fail
      rw [← hW0]
      clear hW0
      clear kp2_0 kp2_1 kp2_2 kp2_3 kp2_4 kp2_5 kp2_6 kp2_7
      refine (Tryz.refIn15 ff 0 40 _).mono ?_
      rintro e Wc ⟨rfl, rfl⟩
      rw [HI0.out]
      obtain ⟨kp2_0, kp2_1, kp2_2, kp2_3, kp2_4, kp2_5, kp2_6, kp2_7⟩ := p2.cells8
      go_wp2_with fail
      clear kp2_0 kp2_1 kp2_2 kp2_3 kp2_4 kp2_5 kp2_6 kp2_7
      refine (Tryz.refIn15 0 0 3 _).mono ?_
      rintro e Wc ⟨rfl, rfl⟩
      rw [HI1.out]
      obtain ⟨kp2_0, kp2_1, kp2_2, kp2_3, kp2_4, kp2_5, kp2_6, kp2_7⟩ := p2.cells8
      go_wp2_with fail
      clear kp2_0 kp2_1 kp2_2 kp2_3 kp2_4 kp2_5 kp2_6 kp2_7
      refine (Tryz.refIn15 ww 0 1000000 _).mono ?_
      rintro e Wc ⟨rfl, rfl⟩
      rw [HI2.out]
      obtain ⟨kp2_0, kp2_1, kp2_2, kp2_3, kp2_4, kp2_5, kp2_6, kp2_7⟩ := p2.cells8
      go_wp2
      go_ret
      exact ⟨by rw [HR.out]; rfl, E0⟩
     ·have HR : Hid (rightS 1 bb rr ee ww vv ll pp ff = true) := Lib.hid (by rw [rightS_iff]; omega)
      have HI0 : Hid (inB ff 0 40 = true) := Lib.hid (inB_t (by omega) (by omega))
      have HI1 : Hid (inB 1 0 3 = true) := Lib.hid (inB_t (by omega) (by omega))
      have HI2 : Hid (inB ww 0 1000000 = true) := Lib.hid (inB_t (by omega) (by omega))
      obtain ⟨W0, hW0⟩ : ∃ W0, W0 = (w.alloc (.cells #[.int .i64 1, .int .i64 bb, .int .i64 rr, .int .i64 ee, .int .i64 ww, .int .i64 vv, .int .i64 ll, .int .i64 pp] 23)) := ⟨_, rfl⟩
      have E0 : Ext w W0 := by rw [hW0]; exact (Ext.alloc1 w (.cells #[.int .i64 1, .int .i64 bb, .int .i64 rr, .int .i64 ee, .int .i64 ww, .int .i64 vv, .int .i64 ll, .int .i64 pp] 23))
      have p2 : BxA W0 w.heap.size 23 #[.int .i64 1, .int .i64 bb, .int .i64 rr, .int .i64 ee, .int .i64 ww, .int .i64 vv, .int .i64 ll, .int .i64 pp] := by rw [hW0]; exact (BxA.new w 23 #[.int .i64 1, .int .i64 bb, .int .i64 rr, .int .i64 ee, .int .i64 ww, .int .i64 vv, .int .i64 ll, .int .i64 pp])
      go_enter Tryz.func8, Tryz.ntmps8
      obtain ⟨kp2_0, kp2_1, kp2_2, kp2_3, kp2_4, kp2_5, kp2_6, kp2_7⟩ := p2.cells8
      go_wp2_with fail
      rw [← hW0]
      clear hW0
      clear kp2_0 kp2_1 kp2_2 kp2_3 kp2_4 kp2_5 kp2_6 kp2_7
      refine (Tryz.refIn15 ff 0 40 _).mono ?_
      rintro e Wc ⟨rfl, rfl⟩
      rw [HI0.out]
      obtain ⟨kp2_0, kp2_1, kp2_2, kp2_3, kp2_4, kp2_5, kp2_6, kp2_7⟩ := p2.cells8
      go_wp2_with fail
      clear kp2_0 kp2_1 kp2_2 kp2_3 kp2_4 kp2_5 kp2_6 kp2_7
      refine (Tryz.refIn15 1 0 3 _).mono ?_
      rintro e Wc ⟨rfl, rfl⟩
      rw [HI1.out]
      obtain ⟨kp2_0, kp2_1, kp2_2, kp2_3, kp2_4, kp2_5, kp2_6, kp2_7⟩ := p2.cells8
      go_wp2_with fail
      clear kp2_0 kp2_1 kp2_2 kp2_3 kp2_4 kp2_5 kp2_6 kp2_7
      refine (Tryz.refIn15 ww 0 1000000 _).mono ?_
      rintro e Wc ⟨rfl, rfl⟩
      rw [HI2.out]
      obtain ⟨kp2_0, kp2_1, kp2_2, kp2_3, kp2_4, kp2_5, kp2_6, kp2_7⟩ := p2.cells8
      go_wp2
      go_ret
      exact ⟨by rw [HR.out]; rfl, E0⟩
     ·obtain ⟨K, rfl⟩ := Int.eq_ofNat_of_zero_le (show 0 ≤ ff by omega)
      obtain ⟨P, hP⟩ : ∃ P, P = 2 ^ K := ⟨_, rfl⟩
      have hPb : P ≤ 1099511627776 := by rw [hP]; exact Nat.le_trans (Nat.pow_le_pow_right (by omega) (show K ≤ 40 by omega)) (by decide)
      have hsh : IntKind.i64.wrap (2 ^ K) = (P : Int) := by rw [show ((2 : Int) ^ K) = ((2 ^ K : Nat) : Int) by simp, ← hP, IntKind.wrap_i64]; omega
      by_cases h4 : 1 ≤ vv ∧ vv ≤ 1000000
      ·by_cases h5 : 0 ≤ rr
       ·have hr1d : decide (0 ≤ rr) = true := decide_eq_true (by assumption)
        by_cases h6 : rr ≤ (P : Int)
        ·have hr2d : decide (rr ≤ (P : Int)) = true := decide_eq_true (by assumption)
         have HR : Hid (rightS 2 bb rr ee ww vv ll pp (K : Int) = true) := Lib.hid (by rw [rightS_iff, Int.toNat_natCast, ← hP]; omega)
         have HI0 : Hid (inB (K : Int) 0 40 = true) := Lib.hid (inB_t (by omega) (by omega))
         have HI1 : Hid (inB 2 0 3 = true) := Lib.hid (inB_t (by omega) (by omega))
         have HI2 : Hid (inB ww 0 1000000 = true) := Lib.hid (inB_t (by omega) (by omega))
         have HI3 : Hid (inB vv 1 1000000 = true) := Lib.hid (inB_t (by omega) (by omega))
         have HP := Lib.hid hP
         clear hP
         obtain ⟨W0, hW0⟩ : ∃ W0, W0 = (w.alloc (.cells #[.int .i64 2, .int .i64 bb, .int .i64 rr, .int .i64 ee, .int .i64 ww, .int .i64 vv, .int .i64 ll, .int .i64 pp] 23)) := ⟨_, rfl⟩
         have E0 : Ext w W0 := by rw [hW0]; exact (Ext.alloc1 w (.cells #[.int .i64 2, .int .i64 bb, .int .i64 rr, .int .i64 ee, .int .i64 ww, .int .i64 vv, .int .i64 ll, .int .i64 pp] 23))
         have p2 : BxA W0 w.heap.size 23 #[.int .i64 2, .int .i64 bb, .int .i64 rr, .int .i64 ee, .int .i64 ww, .int .i64 vv, .int .i64 ll, .int .i64 pp] := by rw [hW0]; exact (BxA.new w 23 #[.int .i64 2, .int .i64 bb, .int .i64 rr, .int .i64 ee, .int .i64 ww, .int .i64 vv, .int .i64 ll, .int .i64 pp])
         go_enter Tryz.func8, Tryz.ntmps8
         obtain ⟨kp2_0, kp2_1, kp2_2, kp2_3, kp2_4, kp2_5, kp2_6, kp2_7⟩ := p2.cells8
         go_wp2_with fail
         rw [← hW0]
         clear hW0
         clear kp2_0 kp2_1 kp2_2 kp2_3 kp2_4 kp2_5 kp2_6 kp2_7
         refine (Tryz.refIn15 (K : Int) 0 40 _).mono ?_
         rintro e Wc ⟨rfl, rfl⟩
         rw [HI0.out]
         obtain ⟨kp2_0, kp2_1, kp2_2, kp2_3, kp2_4, kp2_5, kp2_6, kp2_7⟩ := p2.cells8
         go_wp2_with fail
         clear kp2_0 kp2_1 kp2_2 kp2_3 kp2_4 kp2_5 kp2_6 kp2_7
         refine (Tryz.refIn15 2 0 3 _).mono ?_
         rintro e Wc ⟨rfl, rfl⟩
         rw [HI1.out]
         obtain ⟨kp2_0, kp2_1, kp2_2, kp2_3, kp2_4, kp2_5, kp2_6, kp2_7⟩ := p2.cells8
         go_wp2_with fail
         clear kp2_0 kp2_1 kp2_2 kp2_3 kp2_4 kp2_5 kp2_6 kp2_7
         refine (Tryz.refIn15 ww 0 1000000 _).mono ?_
         rintro e Wc ⟨rfl, rfl⟩
         rw [HI2.out]
         obtain ⟨kp2_0, kp2_1, kp2_2, kp2_3, kp2_4, kp2_5, kp2_6, kp2_7⟩ := p2.cells8
         go_upto_region 4 with (fail)
         clear kp2_0 kp2_1 kp2_2 kp2_3 kp2_4 kp2_5 kp2_6 kp2_7
         have ltp2 := p2.lt
         have szw1 := Ext.size E0
         refine region_go [.one fun v _ => v = .pointer (some ⟨w.heap.size, 5, none⟩),
           .one fun v _ => v = .int .i64 vv,
           .one fun v _ => v = .bool true,
           .one fun v _ => v = .bool true,
           .one fun v _ => v = .pointer (some ⟨w.heap.size, 2, none⟩),
           .one fun v _ => v = .int .i64 rr,
           .one fun v _ => v = .bool true,
           .one fun v _ => v = .bool true,
           .one fun v _ => v = .bool true,
           .one fun v _ => v = .pointer (some ⟨w.heap.size, 2, none⟩),
           .one fun v _ => v = .int .i64 rr,
           .one fun v _ => v = .int .i64 (K : Int),
           .one fun v _ => v = .int .i64 (P : Int),
           .one fun v _ => v = .bool true,
           .one fun v _ => v = .bool true,
           .one fun v _ => v = .bool true]
          (fun W => Ext w W ∧ BxA W w.heap.size 23 #[.int .i64 2, .int .i64 bb, .int .i64 rr, .int .i64 ee, .int .i64 ww, .int .i64 vv, .int .i64 ll, .int .i64 pp] ∧ W0.heap.size ≤ W.heap.size) ⟨Good.is _, Good.is _, Good.is _, Good.is _, Good.is _, Good.is _, Good.is _, Good.is _, Good.is _, Good.is _, Good.is _, Good.is _, Good.is _, Good.is _, Good.is _, Good.is _, trivial⟩
          (fun W W1 hS hE => ⟨(Ext.trans hS.1 hE), (hS.2.1.ext hE), (Nat.le_trans hS.2.2 (Ext.size hE))⟩) ⟨E0, p2, Nat.le_refl _⟩ (by kernel_rfl) (by kernel_rfl) (by kernel_rfl) (by kernel_rfl) (A := ?A1) ?hA1 ?howe1 ?hfin1
         case hA1 =>
          intro vs
          simp only [putAll, Act.put, List.setIfInBounds_toArray, List.set_cons_zero, List.set_cons_succ, Nat.zero_add, Nat.reduceAdd]
          exact rfl
         case howe1 =>
          clear E0 p2
          intro hf
          refine ⟨owesE 0 [] hf rfl (by kernel_rfl) ?_, owesE 1 [0] hf rfl (by kernel_rfl) ?_, owesE 2 [1] hf rfl (by kernel_rfl) ?_, owesE 3 [2] hf rfl (by kernel_rfl) ?_, owesE 4 [3] hf rfl (by kernel_rfl) ?_, owesE 5 [3, 4] hf rfl (by kernel_rfl) ?_, owesE 6 [3, 5] hf rfl (by kernel_rfl) ?_, owesE 7 [3, 6] hf rfl (by kernel_rfl) ?_, owesE 8 [7] hf rfl (by kernel_rfl) ?_, owesE 9 [8] hf rfl (by kernel_rfl) ?_, owesE 10 [8, 9] hf rfl (by kernel_rfl) ?_, owesE 11 [8] hf rfl (by kernel_rfl) ?_, owesE 12 [8, 11] hf rfl (by kernel_rfl) ?_, owesE 13 [8, 10, 12] hf rfl (by kernel_rfl) ?_, owesE 14 [8, 13] hf rfl (by kernel_rfl) ?_, owesE 15 [14] hf rfl (by kernel_rfl) ?_, trivial⟩
          all_goals intro vs W hS hp hx KO hKO
          all_goals simp only [Act.put, List.setIfInBounds_toArray, List.set_cons_zero, List.set_cons_succ] at hKO
          ·go_simp
           exact hKO _ W (Ext.refl W) rfl
          ·have e0 := isOf hp.1
           simp only [e0] at hKO
           have fc5 := BxA.cell (hS.2.1) 5 (v := .int .i64 vv) rfl
           go_simp
           exact hKO _ W (Ext.refl W) rfl
          ·have e1 := isOf hp.1
           simp only [e1] at hKO
           go_simp
           refine (Tryz.refIn15 vv 1 1000000 _).mono ?_
           rintro e W1 ⟨rfl, rfl⟩
           rw [HI3.out]
           exact hKO _ W (Ext.refl W) rfl
          ·have e2 := isOf hp.1
           simp only [e2] at hKO
           go_simp
           exact hKO _ W (Ext.refl W) rfl
          ·have e3 := isOf hp.1
           simp only [e3] at hKO
           go_simp
           exact hKO _ W (Ext.refl W) rfl
          ·have e3 := isOf hp.1
           have e4 := isOf hp.2.1
           simp only [e3, e4] at hKO
           have fc2 := BxA.cell (hS.2.1) 2 (v := .int .i64 rr) rfl
           go_simp
           exact hKO _ W (Ext.refl W) rfl
          ·have e3 := isOf hp.1
           have e5 := isOf hp.2.1
           simp only [e3, e5] at hKO
           go_simp
           exact hKO _ W (Ext.refl W) rfl
          ·have e3 := isOf hp.1
           have e6 := isOf hp.2.1
           simp only [e3, e6] at hKO
           go_simp
           exact hKO _ W (Ext.refl W) rfl
          ·have e7 := isOf hp.1
           simp only [e7] at hKO
           go_simp
           exact hKO _ W (Ext.refl W) rfl
          ·have e8 := isOf hp.1
           simp only [e8] at hKO
           go_simp
           exact hKO _ W (Ext.refl W) rfl
          ·have e8 := isOf hp.1
           have e9 := isOf hp.2.1
           simp only [e8, e9] at hKO
           have fc2 := BxA.cell (hS.2.1) 2 (v := .int .i64 rr) rfl
           go_simp
           exact hKO _ W (Ext.refl W) rfl
          ·have e8 := isOf hp.1
           simp only [e8] at hKO
           go_simp
           exact hKO _ W (Ext.refl W) rfl
          ·have e8 := isOf hp.1
           have e11 := isOf hp.2.1
           simp only [e8, e11] at hKO
           go_simp
           refine (Tryz.refOne15 K (by omega) _).mono ?_
           rintro e W1 ⟨rfl, hE⟩
           rw [← HP.out]
           exact hKO _ W1 hE rfl
          ·have e8 := isOf hp.1
           have e10 := isOf hp.2.1
           have e12 := isOf hp.2.2.1
           simp only [e8, e10, e12] at hKO
           go_simp
           exact hKO _ W (Ext.refl W) rfl
          ·have e8 := isOf hp.1
           have e13 := isOf hp.2.1
           simp only [e8, e13] at hKO
           go_simp
           exact hKO _ W (Ext.refl W) rfl
          ·have e14 := isOf hp.1
           simp only [e14] at hKO
           go_simp
           exact hKO _ W (Ext.refl W) rfl
         intro vs W1 hS hp
         clear szw1 E0 p2
         obtain ⟨E0, p2, sz1⟩ := hS
         obtain ⟨h1_0, h1_1, h1_2, h1_3, h1_4, h1_5, h1_6, h1_7, h1_8, h1_9, h1_10, h1_11, h1_12, h1_13, h1_14, h1_15, -⟩ := hp
         replace h1_0 : vs 0 = .pointer (some ⟨w.heap.size, 5, none⟩) := h1_0
         replace h1_1 : vs 1 = .int .i64 vv := h1_1
         replace h1_2 : vs 2 = .bool true := h1_2
         replace h1_3 : vs 3 = .bool true := h1_3
         replace h1_4 : vs 4 = .pointer (some ⟨w.heap.size, 2, none⟩) := h1_4
         replace h1_5 : vs 5 = .int .i64 rr := h1_5
         replace h1_6 : vs 6 = .bool true := h1_6
         replace h1_7 : vs 7 = .bool true := h1_7
         replace h1_8 : vs 8 = .bool true := h1_8
         replace h1_9 : vs 9 = .pointer (some ⟨w.heap.size, 2, none⟩) := h1_9
         replace h1_10 : vs 10 = .int .i64 rr := h1_10
         replace h1_11 : vs 11 = .int .i64 (K : Int) := h1_11
         replace h1_12 : vs 12 = .int .i64 (P : Int) := h1_12
         replace h1_13 : vs 13 = .bool true := h1_13
         replace h1_14 : vs 14 = .bool true := h1_14
         replace h1_15 : vs 15 = .bool true := h1_15
         simp only [h1_0, h1_1, h1_2, h1_3, h1_4, h1_5, h1_6, h1_7, h1_8, h1_9, h1_10, h1_11, h1_12, h1_13, h1_14, h1_15]
         clear h1_0 h1_1 h1_2 h1_3 h1_4 h1_5 h1_6 h1_7 h1_8 h1_9 h1_10 h1_11 h1_12 h1_13 h1_14 h1_15
         obtain ⟨kp2_0, kp2_1, kp2_2, kp2_3, kp2_4, kp2_5, kp2_6, kp2_7⟩ := p2.cells8
         go_wp2
         go_ret
         exact ⟨by rw [HR.out]; rfl, E0⟩
        ·have hr2 : ¬ rr ≤ (P : Int) := by omega
         have hr2d : decide (rr ≤ (P : Int)) = false := decide_eq_false hr2
         have HR : Hid (rightS 2 bb rr ee ww vv ll pp (K : Int) = false) := Lib.hid (by refine Bool.eq_false_iff.2 (fun h => ?_); have := rightS_iff.1 h; rw [Int.toNat_natCast, ← hP] at this; omega)
         have HI0 : Hid (inB (K : Int) 0 40 = true) := Lib.hid (inB_t (by omega) (by omega))
         have HI1 : Hid (inB 2 0 3 = true) := Lib.hid (inB_t (by omega) (by omega))
         have HI2 : Hid (inB ww 0 1000000 = true) := Lib.hid (inB_t (by omega) (by omega))
         have HI3 : Hid (inB vv 1 1000000 = true) := Lib.hid (inB_t (by omega) (by omega))
         have HP := Lib.hid hP
         clear hP
         obtain ⟨W0, hW0⟩ : ∃ W0, W0 = (w.alloc (.cells #[.int .i64 2, .int .i64 bb, .int .i64 rr, .int .i64 ee, .int .i64 ww, .int .i64 vv, .int .i64 ll, .int .i64 pp] 23)) := ⟨_, rfl⟩
         have E0 : Ext w W0 := by rw [hW0]; exact (Ext.alloc1 w (.cells #[.int .i64 2, .int .i64 bb, .int .i64 rr, .int .i64 ee, .int .i64 ww, .int .i64 vv, .int .i64 ll, .int .i64 pp] 23))
         have p2 : BxA W0 w.heap.size 23 #[.int .i64 2, .int .i64 bb, .int .i64 rr, .int .i64 ee, .int .i64 ww, .int .i64 vv, .int .i64 ll, .int .i64 pp] := by rw [hW0]; exact (BxA.new w 23 #[.int .i64 2, .int .i64 bb, .int .i64 rr, .int .i64 ee, .int .i64 ww, .int .i64 vv, .int .i64 ll, .int .i64 pp])
         go_enter Tryz.func8, Tryz.ntmps8
         obtain ⟨kp2_0, kp2_1, kp2_2, kp2_3, kp2_4, kp2_5, kp2_6, kp2_7⟩ := p2.cells8
         go_wp2_with fail
         rw [← hW0]
         clear hW0
         clear kp2_0 kp2_1 kp2_2 kp2_3 kp2_4 kp2_5 kp2_6 kp2_7
         refine (Tryz.refIn15 (K : Int) 0 40 _).mono ?_
         rintro e Wc ⟨rfl, rfl⟩
         rw [HI0.out]
         obtain ⟨kp2_0, kp2_1, kp2_2, kp2_3, kp2_4, kp2_5, kp2_6, kp2_7⟩ := p2.cells8
         go_wp2_with fail
         clear kp2_0 kp2_1 kp2_2 kp2_3 kp2_4 kp2_5 kp2_6 kp2_7
         refine (Tryz.refIn15 2 0 3 _).mono ?_
         rintro e Wc ⟨rfl, rfl⟩
         rw [HI1.out]
         obtain ⟨kp2_0, kp2_1, kp2_2, kp2_3, kp2_4, kp2_5, kp2_6, kp2_7⟩ := p2.cells8
         go_wp2_with fail
         clear kp2_0 kp2_1 kp2_2 kp2_3 kp2_4 kp2_5 kp2_6 kp2_7
         refine (Tryz.refIn15 ww 0 1000000 _).mono ?_
         rintro e Wc ⟨rfl, rfl⟩
         rw [HI2.out]
         obtain ⟨kp2_0, kp2_1, kp2_2, kp2_3, kp2_4, kp2_5, kp2_6, kp2_7⟩ := p2.cells8
         go_upto_region 4 with (fail)
         clear kp2_0 kp2_1 kp2_2 kp2_3 kp2_4 kp2_5 kp2_6 kp2_7
         have ltp2 := p2.lt
         have szw2 := Ext.size E0
         refine region_go [.one fun v _ => v = .pointer (some ⟨w.heap.size, 5, none⟩),
           .one fun v _ => v = .int .i64 vv,
           .one fun v _ => v = .bool true,
           .one fun v _ => v = .bool true,
           .one fun v _ => v = .pointer (some ⟨w.heap.size, 2, none⟩),
           .one fun v _ => v = .int .i64 rr,
           .one fun v _ => v = .bool true,
           .one fun v _ => v = .bool true,
           .one fun v _ => v = .bool true,
           .one fun v _ => v = .pointer (some ⟨w.heap.size, 2, none⟩),
           .one fun v _ => v = .int .i64 rr,
           .one fun v _ => v = .int .i64 (K : Int),
           .one fun v _ => v = .int .i64 (P : Int),
           .one fun v _ => v = .bool false,
           .one fun v _ => v = .bool false,
           .one fun v _ => v = .bool false]
          (fun W => Ext w W ∧ BxA W w.heap.size 23 #[.int .i64 2, .int .i64 bb, .int .i64 rr, .int .i64 ee, .int .i64 ww, .int .i64 vv, .int .i64 ll, .int .i64 pp] ∧ W0.heap.size ≤ W.heap.size) ⟨Good.is _, Good.is _, Good.is _, Good.is _, Good.is _, Good.is _, Good.is _, Good.is _, Good.is _, Good.is _, Good.is _, Good.is _, Good.is _, Good.is _, Good.is _, Good.is _, trivial⟩
          (fun W W1 hS hE => ⟨(Ext.trans hS.1 hE), (hS.2.1.ext hE), (Nat.le_trans hS.2.2 (Ext.size hE))⟩) ⟨E0, p2, Nat.le_refl _⟩ (by kernel_rfl) (by kernel_rfl) (by kernel_rfl) (by kernel_rfl) (A := ?A2) ?hA2 ?howe2 ?hfin2
         case hA2 =>
          intro vs
          simp only [putAll, Act.put, List.setIfInBounds_toArray, List.set_cons_zero, List.set_cons_succ, Nat.zero_add, Nat.reduceAdd]
          exact rfl
         case howe2 =>
          clear E0 p2
          intro hf
          refine ⟨owesE 0 [] hf rfl (by kernel_rfl) ?_, owesE 1 [0] hf rfl (by kernel_rfl) ?_, owesE 2 [1] hf rfl (by kernel_rfl) ?_, owesE 3 [2] hf rfl (by kernel_rfl) ?_, owesE 4 [3] hf rfl (by kernel_rfl) ?_, owesE 5 [3, 4] hf rfl (by kernel_rfl) ?_, owesE 6 [3, 5] hf rfl (by kernel_rfl) ?_, owesE 7 [3, 6] hf rfl (by kernel_rfl) ?_, owesE 8 [7] hf rfl (by kernel_rfl) ?_, owesE 9 [8] hf rfl (by kernel_rfl) ?_, owesE 10 [8, 9] hf rfl (by kernel_rfl) ?_, owesE 11 [8] hf rfl (by kernel_rfl) ?_, owesE 12 [8, 11] hf rfl (by kernel_rfl) ?_, owesE 13 [8, 10, 12] hf rfl (by kernel_rfl) ?_, owesE 14 [8, 13] hf rfl (by kernel_rfl) ?_, owesE 15 [14] hf rfl (by kernel_rfl) ?_, trivial⟩
          all_goals intro vs W hS hp hx KO hKO
          all_goals simp only [Act.put, List.setIfInBounds_toArray, List.set_cons_zero, List.set_cons_succ] at hKO
          ·go_simp
           exact hKO _ W (Ext.refl W) rfl
          ·have e0 := isOf hp.1
           simp only [e0] at hKO
           have fc5 := BxA.cell (hS.2.1) 5 (v := .int .i64 vv) rfl
           go_simp
           exact hKO _ W (Ext.refl W) rfl
          ·have e1 := isOf hp.1
           simp only [e1] at hKO
           go_simp
           refine (Tryz.refIn15 vv 1 1000000 _).mono ?_
           rintro e W1 ⟨rfl, rfl⟩
           rw [HI3.out]
           exact hKO _ W (Ext.refl W) rfl
          ·have e2 := isOf hp.1
           simp only [e2] at hKO
           go_simp
           exact hKO _ W (Ext.refl W) rfl
          ·have e3 := isOf hp.1
           simp only [e3] at hKO
           go_simp
           exact hKO _ W (Ext.refl W) rfl
          ·have e3 := isOf hp.1
           have e4 := isOf hp.2.1
           simp only [e3, e4] at hKO
           have fc2 := BxA.cell (hS.2.1) 2 (v := .int .i64 rr) rfl
           go_simp
           exact hKO _ W (Ext.refl W) rfl
          ·have e3 := isOf hp.1
           have e5 := isOf hp.2.1
           simp only [e3, e5] at hKO
           go_simp
           exact hKO _ W (Ext.refl W) rfl
          ·have e3 := isOf hp.1
           have e6 := isOf hp.2.1
           simp only [e3, e6] at hKO
           go_simp
           exact hKO _ W (Ext.refl W) rfl
          ·have e7 := isOf hp.1
           simp only [e7] at hKO
           go_simp
           exact hKO _ W (Ext.refl W) rfl
          ·have e8 := isOf hp.1
           simp only [e8] at hKO
           go_simp
           exact hKO _ W (Ext.refl W) rfl
          ·have e8 := isOf hp.1
           have e9 := isOf hp.2.1
           simp only [e8, e9] at hKO
           have fc2 := BxA.cell (hS.2.1) 2 (v := .int .i64 rr) rfl
           go_simp
           exact hKO _ W (Ext.refl W) rfl
          ·have e8 := isOf hp.1
           simp only [e8] at hKO
           go_simp
           exact hKO _ W (Ext.refl W) rfl
          ·have e8 := isOf hp.1
           have e11 := isOf hp.2.1
           simp only [e8, e11] at hKO
           go_simp
           refine (Tryz.refOne15 K (by omega) _).mono ?_
           rintro e W1 ⟨rfl, hE⟩
           rw [← HP.out]
           exact hKO _ W1 hE rfl
          ·have e8 := isOf hp.1
           have e10 := isOf hp.2.1
           have e12 := isOf hp.2.2.1
           simp only [e8, e10, e12] at hKO
           go_simp
           exact hKO _ W (Ext.refl W) rfl
          ·have e8 := isOf hp.1
           have e13 := isOf hp.2.1
           simp only [e8, e13] at hKO
           go_simp
           exact hKO _ W (Ext.refl W) rfl
          ·have e14 := isOf hp.1
           simp only [e14] at hKO
           go_simp
           exact hKO _ W (Ext.refl W) rfl
         intro vs W2 hS hp
         clear szw2 E0 p2
         obtain ⟨E0, p2, sz2⟩ := hS
         obtain ⟨h2_0, h2_1, h2_2, h2_3, h2_4, h2_5, h2_6, h2_7, h2_8, h2_9, h2_10, h2_11, h2_12, h2_13, h2_14, h2_15, -⟩ := hp
         replace h2_0 : vs 0 = .pointer (some ⟨w.heap.size, 5, none⟩) := h2_0
         replace h2_1 : vs 1 = .int .i64 vv := h2_1
         replace h2_2 : vs 2 = .bool true := h2_2
         replace h2_3 : vs 3 = .bool true := h2_3
         replace h2_4 : vs 4 = .pointer (some ⟨w.heap.size, 2, none⟩) := h2_4
         replace h2_5 : vs 5 = .int .i64 rr := h2_5
         replace h2_6 : vs 6 = .bool true := h2_6
         replace h2_7 : vs 7 = .bool true := h2_7
         replace h2_8 : vs 8 = .bool true := h2_8
         replace h2_9 : vs 9 = .pointer (some ⟨w.heap.size, 2, none⟩) := h2_9
         replace h2_10 : vs 10 = .int .i64 rr := h2_10
         replace h2_11 : vs 11 = .int .i64 (K : Int) := h2_11
         replace h2_12 : vs 12 = .int .i64 (P : Int) := h2_12
         replace h2_13 : vs 13 = .bool false := h2_13
         replace h2_14 : vs 14 = .bool false := h2_14
         replace h2_15 : vs 15 = .bool false := h2_15
         simp only [h2_0, h2_1, h2_2, h2_3, h2_4, h2_5, h2_6, h2_7, h2_8, h2_9, h2_10, h2_11, h2_12, h2_13, h2_14, h2_15]
         clear h2_0 h2_1 h2_2 h2_3 h2_4 h2_5 h2_6 h2_7 h2_8 h2_9 h2_10 h2_11 h2_12 h2_13 h2_14 h2_15
         obtain ⟨kp2_0, kp2_1, kp2_2, kp2_3, kp2_4, kp2_5, kp2_6, kp2_7⟩ := p2.cells8
         go_wp2
         go_ret
         exact ⟨by rw [HR.out]; rfl, E0⟩
       ·have hr1 : ¬ 0 ≤ rr := by omega
        have hr1d : decide (0 ≤ rr) = false := decide_eq_false hr1
        have HR : Hid (rightS 2 bb rr ee ww vv ll pp (K : Int) = false) := Lib.hid (by refine Bool.eq_false_iff.2 (fun h => ?_); have := rightS_iff.1 h; rw [Int.toNat_natCast, ← hP] at this; omega)
        have HI0 : Hid (inB (K : Int) 0 40 = true) := Lib.hid (inB_t (by omega) (by omega))
        have HI1 : Hid (inB 2 0 3 = true) := Lib.hid (inB_t (by omega) (by omega))
        have HI2 : Hid (inB ww 0 1000000 = true) := Lib.hid (inB_t (by omega) (by omega))
        have HI3 : Hid (inB vv 1 1000000 = true) := Lib.hid (inB_t (by omega) (by omega))
        have HP := Lib.hid hP
        clear hP
        obtain ⟨W0, hW0⟩ : ∃ W0, W0 = (w.alloc (.cells #[.int .i64 2, .int .i64 bb, .int .i64 rr, .int .i64 ee, .int .i64 ww, .int .i64 vv, .int .i64 ll, .int .i64 pp] 23)) := ⟨_, rfl⟩
        have E0 : Ext w W0 := by rw [hW0]; exact (Ext.alloc1 w (.cells #[.int .i64 2, .int .i64 bb, .int .i64 rr, .int .i64 ee, .int .i64 ww, .int .i64 vv, .int .i64 ll, .int .i64 pp] 23))
        have p2 : BxA W0 w.heap.size 23 #[.int .i64 2, .int .i64 bb, .int .i64 rr, .int .i64 ee, .int .i64 ww, .int .i64 vv, .int .i64 ll, .int .i64 pp] := by rw [hW0]; exact (BxA.new w 23 #[.int .i64 2, .int .i64 bb, .int .i64 rr, .int .i64 ee, .int .i64 ww, .int .i64 vv, .int .i64 ll, .int .i64 pp])
        go_enter Tryz.func8, Tryz.ntmps8
        obtain ⟨kp2_0, kp2_1, kp2_2, kp2_3, kp2_4, kp2_5, kp2_6, kp2_7⟩ := p2.cells8
        go_wp2_with fail
        rw [← hW0]
        clear hW0
        clear kp2_0 kp2_1 kp2_2 kp2_3 kp2_4 kp2_5 kp2_6 kp2_7
        refine (Tryz.refIn15 (K : Int) 0 40 _).mono ?_
        rintro e Wc ⟨rfl, rfl⟩
        rw [HI0.out]
        obtain ⟨kp2_0, kp2_1, kp2_2, kp2_3, kp2_4, kp2_5, kp2_6, kp2_7⟩ := p2.cells8
        go_wp2_with fail
        clear kp2_0 kp2_1 kp2_2 kp2_3 kp2_4 kp2_5 kp2_6 kp2_7
        refine (Tryz.refIn15 2 0 3 _).mono ?_
        rintro e Wc ⟨rfl, rfl⟩
        rw [HI1.out]
        obtain ⟨kp2_0, kp2_1, kp2_2, kp2_3, kp2_4, kp2_5, kp2_6, kp2_7⟩ := p2.cells8
        go_wp2_with fail
        clear kp2_0 kp2_1 kp2_2 kp2_3 kp2_4 kp2_5 kp2_6 kp2_7
        refine (Tryz.refIn15 ww 0 1000000 _).mono ?_
        rintro e Wc ⟨rfl, rfl⟩
        rw [HI2.out]
        obtain ⟨kp2_0, kp2_1, kp2_2, kp2_3, kp2_4, kp2_5, kp2_6, kp2_7⟩ := p2.cells8
        go_upto_region 4 with (fail)
        clear kp2_0 kp2_1 kp2_2 kp2_3 kp2_4 kp2_5 kp2_6 kp2_7
        have ltp2 := p2.lt
        have szw3 := Ext.size E0
        refine region_go [.one fun v _ => v = .pointer (some ⟨w.heap.size, 5, none⟩),
          .one fun v _ => v = .int .i64 vv,
          .one fun v _ => v = .bool true,
          .one fun v _ => v = .bool true,
          .one fun v _ => v = .pointer (some ⟨w.heap.size, 2, none⟩),
          .one fun v _ => v = .int .i64 rr,
          .one fun v _ => v = .bool false,
          .one fun v _ => v = .bool false,
          .one fun v _ => v = .bool false,
          .one fun v _ => v = undef,
          .one fun v _ => v = undef,
          .one fun v _ => v = undef,
          .one fun v _ => v = undef,
          .one fun v _ => v = undef,
          .one fun v _ => v = .bool false,
          .one fun v _ => v = .bool false]
         (fun W => Ext w W ∧ BxA W w.heap.size 23 #[.int .i64 2, .int .i64 bb, .int .i64 rr, .int .i64 ee, .int .i64 ww, .int .i64 vv, .int .i64 ll, .int .i64 pp] ∧ W0.heap.size ≤ W.heap.size) ⟨Good.is _, Good.is _, Good.is _, Good.is _, Good.is _, Good.is _, Good.is _, Good.is _, Good.is _, Good.is _, Good.is _, Good.is _, Good.is _, Good.is _, Good.is _, Good.is _, trivial⟩
         (fun W W1 hS hE => ⟨(Ext.trans hS.1 hE), (hS.2.1.ext hE), (Nat.le_trans hS.2.2 (Ext.size hE))⟩) ⟨E0, p2, Nat.le_refl _⟩ (by kernel_rfl) (by kernel_rfl) (by kernel_rfl) (by kernel_rfl) (A := ?A3) ?hA3 ?howe3 ?hfin3
        case hA3 =>
         intro vs
         simp only [putAll, Act.put, List.setIfInBounds_toArray, List.set_cons_zero, List.set_cons_succ, Nat.zero_add, Nat.reduceAdd]
         exact rfl
        case howe3 =>
         clear E0 p2
         intro hf
         refine ⟨owesE 0 [] hf rfl (by kernel_rfl) ?_, owesE 1 [0] hf rfl (by kernel_rfl) ?_, owesE 2 [1] hf rfl (by kernel_rfl) ?_, owesE 3 [2] hf rfl (by kernel_rfl) ?_, owesE 4 [3] hf rfl (by kernel_rfl) ?_, owesE 5 [3, 4] hf rfl (by kernel_rfl) ?_, owesE 6 [3, 5] hf rfl (by kernel_rfl) ?_, owesE 7 [3, 6] hf rfl (by kernel_rfl) ?_, owesE 8 [7] hf rfl (by kernel_rfl) ?_, owesE 9 [8] hf rfl (by kernel_rfl) ?_, owesE 10 [8] hf rfl (by kernel_rfl) ?_, owesE 11 [8] hf rfl (by kernel_rfl) ?_, owesE 12 [8] hf rfl (by kernel_rfl) ?_, owesE 13 [8] hf rfl (by kernel_rfl) ?_, owesE 14 [8, 13] hf rfl (by kernel_rfl) ?_, owesE 15 [14] hf rfl (by kernel_rfl) ?_, trivial⟩
         all_goals intro vs W hS hp hx KO hKO
         all_goals simp only [Act.put, List.setIfInBounds_toArray, List.set_cons_zero, List.set_cons_succ] at hKO
         ·go_simp
          exact hKO _ W (Ext.refl W) rfl
         ·have e0 := isOf hp.1
          simp only [e0] at hKO
          have fc5 := BxA.cell (hS.2.1) 5 (v := .int .i64 vv) rfl
          go_simp
          exact hKO _ W (Ext.refl W) rfl
         ·have e1 := isOf hp.1
          simp only [e1] at hKO
          go_simp
          refine (Tryz.refIn15 vv 1 1000000 _).mono ?_
          rintro e W1 ⟨rfl, rfl⟩
          rw [HI3.out]
          exact hKO _ W (Ext.refl W) rfl
         ·have e2 := isOf hp.1
          simp only [e2] at hKO
          go_simp
          exact hKO _ W (Ext.refl W) rfl
         ·have e3 := isOf hp.1
          simp only [e3] at hKO
          go_simp
          exact hKO _ W (Ext.refl W) rfl
         ·have e3 := isOf hp.1
          have e4 := isOf hp.2.1
          simp only [e3, e4] at hKO
          have fc2 := BxA.cell (hS.2.1) 2 (v := .int .i64 rr) rfl
          go_simp
          exact hKO _ W (Ext.refl W) rfl
         ·have e3 := isOf hp.1
          have e5 := isOf hp.2.1
          simp only [e3, e5] at hKO
          go_simp
          exact hKO _ W (Ext.refl W) rfl
         ·have e3 := isOf hp.1
          have e6 := isOf hp.2.1
          simp only [e3, e6] at hKO
          go_simp
          exact hKO _ W (Ext.refl W) rfl
         ·have e7 := isOf hp.1
          simp only [e7] at hKO
          go_simp
          exact hKO _ W (Ext.refl W) rfl
         ·have e8 := isOf hp.1
          simp only [e8] at hKO
          go_simp
          exact hKO _ W (Ext.refl W) rfl
         ·have e8 := isOf hp.1
          simp only [e8] at hKO
          go_simp
          exact hKO _ W (Ext.refl W) rfl
         ·have e8 := isOf hp.1
          simp only [e8] at hKO
          go_simp
          exact hKO _ W (Ext.refl W) rfl
         ·have e8 := isOf hp.1
          simp only [e8] at hKO
          go_simp
          exact hKO _ W (Ext.refl W) rfl
         ·have e8 := isOf hp.1
          simp only [e8] at hKO
          go_simp
          exact hKO _ W (Ext.refl W) rfl
         ·have e8 := isOf hp.1
          have e13 := isOf hp.2.1
          simp only [e8, e13] at hKO
          go_simp
          exact hKO _ W (Ext.refl W) rfl
         ·have e14 := isOf hp.1
          simp only [e14] at hKO
          go_simp
          exact hKO _ W (Ext.refl W) rfl
        intro vs W3 hS hp
        clear szw3 E0 p2
        obtain ⟨E0, p2, sz3⟩ := hS
        obtain ⟨h3_0, h3_1, h3_2, h3_3, h3_4, h3_5, h3_6, h3_7, h3_8, h3_9, h3_10, h3_11, h3_12, h3_13, h3_14, h3_15, -⟩ := hp
        replace h3_0 : vs 0 = .pointer (some ⟨w.heap.size, 5, none⟩) := h3_0
        replace h3_1 : vs 1 = .int .i64 vv := h3_1
        replace h3_2 : vs 2 = .bool true := h3_2
        replace h3_3 : vs 3 = .bool true := h3_3
        replace h3_4 : vs 4 = .pointer (some ⟨w.heap.size, 2, none⟩) := h3_4
        replace h3_5 : vs 5 = .int .i64 rr := h3_5
        replace h3_6 : vs 6 = .bool false := h3_6
        replace h3_7 : vs 7 = .bool false := h3_7
        replace h3_8 : vs 8 = .bool false := h3_8
        replace h3_9 : vs 9 = undef := h3_9
        replace h3_10 : vs 10 = undef := h3_10
        replace h3_11 : vs 11 = undef := h3_11
        replace h3_12 : vs 12 = undef := h3_12
        replace h3_13 : vs 13 = undef := h3_13
        replace h3_14 : vs 14 = .bool false := h3_14
        replace h3_15 : vs 15 = .bool false := h3_15
        simp only [h3_0, h3_1, h3_2, h3_3, h3_4, h3_5, h3_6, h3_7, h3_8, h3_9, h3_10, h3_11, h3_12, h3_13, h3_14, h3_15]
        clear h3_0 h3_1 h3_2 h3_3 h3_4 h3_5 h3_6 h3_7 h3_8 h3_9 h3_10 h3_11 h3_12 h3_13 h3_14 h3_15
        obtain ⟨kp2_0, kp2_1, kp2_2, kp2_3, kp2_4, kp2_5, kp2_6, kp2_7⟩ := p2.cells8
        go_wp2
        go_ret
        exact ⟨by rw [HR.out]; rfl, E0⟩
      ·have HR : Hid (rightS 2 bb rr ee ww vv ll pp (K : Int) = false) := Lib.hid (by refine Bool.eq_false_iff.2 (fun h => ?_); have := rightS_iff.1 h; rw [Int.toNat_natCast, ← hP] at this; omega)
       have HI0 : Hid (inB (K : Int) 0 40 = true) := Lib.hid (inB_t (by omega) (by omega))
       have HI1 : Hid (inB 2 0 3 = true) := Lib.hid (inB_t (by omega) (by omega))
       have HI2 : Hid (inB ww 0 1000000 = true) := Lib.hid (inB_t (by omega) (by omega))
       have HI3 : Hid (inB vv 1 1000000 = false) := Lib.hid (inB_f (by omega))
       have HP := Lib.hid hP
       clear hP
       obtain ⟨W0, hW0⟩ : ∃ W0, W0 = (w.alloc (.cells #[.int .i64 2, .int .i64 bb, .int .i64 rr, .int .i64 ee, .int .i64 ww, .int .i64 vv, .int .i64 ll, .int .i64 pp] 23)) := ⟨_, rfl⟩
       have E0 : Ext w W0 := by rw [hW0]; exact (Ext.alloc1 w (.cells #[.int .i64 2, .int .i64 bb, .int .i64 rr, .int .i64 ee, .int .i64 ww, .int .i64 vv, .int .i64 ll, .int .i64 pp] 23))
       have p2 : BxA W0 w.heap.size 23 #[.int .i64 2, .int .i64 bb, .int .i64 rr, .int .i64 ee, .int .i64 ww, .int .i64 vv, .int .i64 ll, .int .i64 pp] := by rw [hW0]; exact (BxA.new w 23 #[.int .i64 2, .int .i64 bb, .int .i64 rr, .int .i64 ee, .int .i64 ww, .int .i64 vv, .int .i64 ll, .int .i64 pp])
       go_enter Tryz.func8, Tryz.ntmps8
       obtain ⟨kp2_0, kp2_1, kp2_2, kp2_3, kp2_4, kp2_5, kp2_6, kp2_7⟩ := p2.cells8
       go_wp2_with fail
       rw [← hW0]
       clear hW0
       clear kp2_0 kp2_1 kp2_2 kp2_3 kp2_4 kp2_5 kp2_6 kp2_7
       refine (Tryz.refIn15 (K : Int) 0 40 _).mono ?_
       rintro e Wc ⟨rfl, rfl⟩
       rw [HI0.out]
       obtain ⟨kp2_0, kp2_1, kp2_2, kp2_3, kp2_4, kp2_5, kp2_6, kp2_7⟩ := p2.cells8
       go_wp2_with fail
       clear kp2_0 kp2_1 kp2_2 kp2_3 kp2_4 kp2_5 kp2_6 kp2_7
       refine (Tryz.refIn15 2 0 3 _).mono ?_
       rintro e Wc ⟨rfl, rfl⟩
       rw [HI1.out]
       obtain ⟨kp2_0, kp2_1, kp2_2, kp2_3, kp2_4, kp2_5, kp2_6, kp2_7⟩ := p2.cells8
       go_wp2_with fail
       clear kp2_0 kp2_1 kp2_2 kp2_3 kp2_4 kp2_5 kp2_6 kp2_7
       refine (Tryz.refIn15 ww 0 1000000 _).mono ?_
       rintro e Wc ⟨rfl, rfl⟩
       rw [HI2.out]
       obtain ⟨kp2_0, kp2_1, kp2_2, kp2_3, kp2_4, kp2_5, kp2_6, kp2_7⟩ := p2.cells8
       go_upto_region 4 with (fail)
       clear kp2_0 kp2_1 kp2_2 kp2_3 kp2_4 kp2_5 kp2_6 kp2_7
       have ltp2 := p2.lt
       have szw4 := Ext.size E0
       refine region_go [.one fun v _ => v = .pointer (some ⟨w.heap.size, 5, none⟩),
         .one fun v _ => v = .int .i64 vv,
         .one fun v _ => v = .bool false,
         .one fun v _ => v = .bool false,
         .one fun v _ => v = undef,
         .one fun v _ => v = undef,
         .one fun v _ => v = undef,
         .one fun v _ => v = .bool false,
         .one fun v _ => v = .bool false,
         .one fun v _ => v = undef,
         .one fun v _ => v = undef,
         .one fun v _ => v = undef,
         .one fun v _ => v = undef,
         .one fun v _ => v = undef,
         .one fun v _ => v = .bool false,
         .one fun v _ => v = .bool false]
        (fun W => Ext w W ∧ BxA W w.heap.size 23 #[.int .i64 2, .int .i64 bb, .int .i64 rr, .int .i64 ee, .int .i64 ww, .int .i64 vv, .int .i64 ll, .int .i64 pp] ∧ W0.heap.size ≤ W.heap.size) ⟨Good.is _, Good.is _, Good.is _, Good.is _, Good.is _, Good.is _, Good.is _, Good.is _, Good.is _, Good.is _, Good.is _, Good.is _, Good.is _, Good.is _, Good.is _, Good.is _, trivial⟩
        (fun W W1 hS hE => ⟨(Ext.trans hS.1 hE), (hS.2.1.ext hE), (Nat.le_trans hS.2.2 (Ext.size hE))⟩) ⟨E0, p2, Nat.le_refl _⟩ (by kernel_rfl) (by kernel_rfl) (by kernel_rfl) (by kernel_rfl) (A := ?A4) ?hA4 ?howe4 ?hfin4
       case hA4 =>
        intro vs
        simp only [putAll, Act.put, List.setIfInBounds_toArray, List.set_cons_zero, List.set_cons_succ, Nat.zero_add, Nat.reduceAdd]
        exact rfl
       case howe4 =>
        clear E0 p2
        intro hf
        refine ⟨owesE 0 [] hf rfl (by kernel_rfl) ?_, owesE 1 [0] hf rfl (by kernel_rfl) ?_, owesE 2 [1] hf rfl (by kernel_rfl) ?_, owesE 3 [2] hf rfl (by kernel_rfl) ?_, owesE 4 [3] hf rfl (by kernel_rfl) ?_, owesE 5 [3] hf rfl (by kernel_rfl) ?_, owesE 6 [3] hf rfl (by kernel_rfl) ?_, owesE 7 [3, 6] hf rfl (by kernel_rfl) ?_, owesE 8 [7] hf rfl (by kernel_rfl) ?_, owesE 9 [8] hf rfl (by kernel_rfl) ?_, owesE 10 [8] hf rfl (by kernel_rfl) ?_, owesE 11 [8] hf rfl (by kernel_rfl) ?_, owesE 12 [8] hf rfl (by kernel_rfl) ?_, owesE 13 [8] hf rfl (by kernel_rfl) ?_, owesE 14 [8, 13] hf rfl (by kernel_rfl) ?_, owesE 15 [14] hf rfl (by kernel_rfl) ?_, trivial⟩
        all_goals intro vs W hS hp hx KO hKO
        all_goals simp only [Act.put, List.setIfInBounds_toArray, List.set_cons_zero, List.set_cons_succ] at hKO
        ·go_simp
         exact hKO _ W (Ext.refl W) rfl
        ·have e0 := isOf hp.1
         simp only [e0] at hKO
         have fc5 := BxA.cell (hS.2.1) 5 (v := .int .i64 vv) rfl
         go_simp
         exact hKO _ W (Ext.refl W) rfl
        ·have e1 := isOf hp.1
         simp only [e1] at hKO
         go_simp
         refine (Tryz.refIn15 vv 1 1000000 _).mono ?_
         rintro e W1 ⟨rfl, rfl⟩
         rw [HI3.out]
         exact hKO _ W (Ext.refl W) rfl
        ·have e2 := isOf hp.1
         simp only [e2] at hKO
         go_simp
         exact hKO _ W (Ext.refl W) rfl
        ·have e3 := isOf hp.1
         simp only [e3] at hKO
         go_simp
         exact hKO _ W (Ext.refl W) rfl
        ·have e3 := isOf hp.1
         simp only [e3] at hKO
         go_simp
         exact hKO _ W (Ext.refl W) rfl
        ·have e3 := isOf hp.1
         simp only [e3] at hKO
         go_simp
         exact hKO _ W (Ext.refl W) rfl
        ·have e3 := isOf hp.1
         have e6 := isOf hp.2.1
         simp only [e3, e6] at hKO
         go_simp
         exact hKO _ W (Ext.refl W) rfl
        ·have e7 := isOf hp.1
         simp only [e7] at hKO
         go_simp
         exact hKO _ W (Ext.refl W) rfl
        ·have e8 := isOf hp.1
         simp only [e8] at hKO
         go_simp
         exact hKO _ W (Ext.refl W) rfl
        ·have e8 := isOf hp.1
         simp only [e8] at hKO
         go_simp
         exact hKO _ W (Ext.refl W) rfl
        ·have e8 := isOf hp.1
         simp only [e8] at hKO
         go_simp
         exact hKO _ W (Ext.refl W) rfl
        ·have e8 := isOf hp.1
         simp only [e8] at hKO
         go_simp
         exact hKO _ W (Ext.refl W) rfl
        ·have e8 := isOf hp.1
         simp only [e8] at hKO
         go_simp
         exact hKO _ W (Ext.refl W) rfl
        ·have e8 := isOf hp.1
         have e13 := isOf hp.2.1
         simp only [e8, e13] at hKO
         go_simp
         exact hKO _ W (Ext.refl W) rfl
        ·have e14 := isOf hp.1
         simp only [e14] at hKO
         go_simp
         exact hKO _ W (Ext.refl W) rfl
       intro vs W4 hS hp
       clear szw4 E0 p2
       obtain ⟨E0, p2, sz4⟩ := hS
       obtain ⟨h4_0, h4_1, h4_2, h4_3, h4_4, h4_5, h4_6, h4_7, h4_8, h4_9, h4_10, h4_11, h4_12, h4_13, h4_14, h4_15, -⟩ := hp
       replace h4_0 : vs 0 = .pointer (some ⟨w.heap.size, 5, none⟩) := h4_0
       replace h4_1 : vs 1 = .int .i64 vv := h4_1
       replace h4_2 : vs 2 = .bool false := h4_2
       replace h4_3 : vs 3 = .bool false := h4_3
       replace h4_4 : vs 4 = undef := h4_4
       replace h4_5 : vs 5 = undef := h4_5
       replace h4_6 : vs 6 = undef := h4_6
       replace h4_7 : vs 7 = .bool false := h4_7
       replace h4_8 : vs 8 = .bool false := h4_8
       replace h4_9 : vs 9 = undef := h4_9
       replace h4_10 : vs 10 = undef := h4_10
       replace h4_11 : vs 11 = undef := h4_11
       replace h4_12 : vs 12 = undef := h4_12
       replace h4_13 : vs 13 = undef := h4_13
       replace h4_14 : vs 14 = .bool false := h4_14
       replace h4_15 : vs 15 = .bool false := h4_15
       simp only [h4_0, h4_1, h4_2, h4_3, h4_4, h4_5, h4_6, h4_7, h4_8, h4_9, h4_10, h4_11, h4_12, h4_13, h4_14, h4_15]
       clear h4_0 h4_1 h4_2 h4_3 h4_4 h4_5 h4_6 h4_7 h4_8 h4_9 h4_10 h4_11 h4_12 h4_13 h4_14 h4_15
       obtain ⟨kp2_0, kp2_1, kp2_2, kp2_3, kp2_4, kp2_5, kp2_6, kp2_7⟩ := p2.cells8
       go_wp2
       go_ret
       exact ⟨by rw [HR.out]; rfl, E0⟩
     ·by_cases h7 : 1 ≤ ll ∧ ll ≤ 1000000
      ·by_cases h8 : 1 ≤ pp ∧ pp ≤ 8
       ·by_cases h9 : 0 ≤ ee
        ·have he1d : decide (0 ≤ ee) = true := decide_eq_true (by assumption)
         by_cases h10 : ee ≤ bb
         ·have he2d : decide (ee ≤ bb) = true := decide_eq_true (by assumption)
          have HR : Hid (rightS 3 bb rr ee ww vv ll pp ff = true) := Lib.hid (by rw [rightS_iff]; omega)
          have HI0 : Hid (inB ff 0 40 = true) := Lib.hid (inB_t (by omega) (by omega))
          have HI1 : Hid (inB 3 0 3 = true) := Lib.hid (inB_t (by omega) (by omega))
          have HI2 : Hid (inB ww 0 1000000 = true) := Lib.hid (inB_t (by omega) (by omega))
          have HI3 : Hid (inB ll 1 1000000 = true) := Lib.hid (inB_t (by omega) (by omega))
          have HI4 : Hid (inB pp 1 8 = true) := Lib.hid (inB_t (by omega) (by omega))
          obtain ⟨W0, hW0⟩ : ∃ W0, W0 = (w.alloc (.cells #[.int .i64 3, .int .i64 bb, .int .i64 rr, .int .i64 ee, .int .i64 ww, .int .i64 vv, .int .i64 ll, .int .i64 pp] 23)) := ⟨_, rfl⟩
          have E0 : Ext w W0 := by rw [hW0]; exact (Ext.alloc1 w (.cells #[.int .i64 3, .int .i64 bb, .int .i64 rr, .int .i64 ee, .int .i64 ww, .int .i64 vv, .int .i64 ll, .int .i64 pp] 23))
          have p2 : BxA W0 w.heap.size 23 #[.int .i64 3, .int .i64 bb, .int .i64 rr, .int .i64 ee, .int .i64 ww, .int .i64 vv, .int .i64 ll, .int .i64 pp] := by rw [hW0]; exact (BxA.new w 23 #[.int .i64 3, .int .i64 bb, .int .i64 rr, .int .i64 ee, .int .i64 ww, .int .i64 vv, .int .i64 ll, .int .i64 pp])
          go_enter Tryz.func8, Tryz.ntmps8
          obtain ⟨kp2_0, kp2_1, kp2_2, kp2_3, kp2_4, kp2_5, kp2_6, kp2_7⟩ := p2.cells8
          go_wp2_with fail
          rw [← hW0]
          clear hW0
          clear kp2_0 kp2_1 kp2_2 kp2_3 kp2_4 kp2_5 kp2_6 kp2_7
          refine (Tryz.refIn15 ff 0 40 _).mono ?_
          rintro e Wc ⟨rfl, rfl⟩
          rw [HI0.out]
          obtain ⟨kp2_0, kp2_1, kp2_2, kp2_3, kp2_4, kp2_5, kp2_6, kp2_7⟩ := p2.cells8
          go_wp2_with fail
          clear kp2_0 kp2_1 kp2_2 kp2_3 kp2_4 kp2_5 kp2_6 kp2_7
          refine (Tryz.refIn15 3 0 3 _).mono ?_
          rintro e Wc ⟨rfl, rfl⟩
          rw [HI1.out]
          obtain ⟨kp2_0, kp2_1, kp2_2, kp2_3, kp2_4, kp2_5, kp2_6, kp2_7⟩ := p2.cells8
          go_wp2_with fail
          clear kp2_0 kp2_1 kp2_2 kp2_3 kp2_4 kp2_5 kp2_6 kp2_7
          refine (Tryz.refIn15 ww 0 1000000 _).mono ?_
          rintro e Wc ⟨rfl, rfl⟩
          rw [HI2.out]
          obtain ⟨kp2_0, kp2_1, kp2_2, kp2_3, kp2_4, kp2_5, kp2_6, kp2_7⟩ := p2.cells8
          go_wp2_with fail
          clear kp2_0 kp2_1 kp2_2 kp2_3 kp2_4 kp2_5 kp2_6 kp2_7
          refine (Tryz.refIn15 ll 1 1000000 _).mono ?_
          rintro e Wc ⟨rfl, rfl⟩
          rw [HI3.out]
          obtain ⟨kp2_0, kp2_1, kp2_2, kp2_3, kp2_4, kp2_5, kp2_6, kp2_7⟩ := p2.cells8
          go_wp2_with fail
          clear kp2_0 kp2_1 kp2_2 kp2_3 kp2_4 kp2_5 kp2_6 kp2_7
          refine (Tryz.refIn15 pp 1 8 _).mono ?_
          rintro e Wc ⟨rfl, rfl⟩
          rw [HI4.out]
          obtain ⟨kp2_0, kp2_1, kp2_2, kp2_3, kp2_4, kp2_5, kp2_6, kp2_7⟩ := p2.cells8
          go_wp2
          go_ret
          exact ⟨by rw [HR.out]; rfl, E0⟩
         ·have he2 : ¬ ee ≤ bb := by omega
          have he2d : decide (ee ≤ bb) = false := decide_eq_false he2
          have HR : Hid (rightS 3 bb rr ee ww vv ll pp ff = false) := Lib.hid (by refine Bool.eq_false_iff.2 (fun h => ?_); have := rightS_iff.1 h; omega)
          have HI0 : Hid (inB ff 0 40 = true) := Lib.hid (inB_t (by omega) (by omega))
          have HI1 : Hid (inB 3 0 3 = true) := Lib.hid (inB_t (by omega) (by omega))
          have HI2 : Hid (inB ww 0 1000000 = true) := Lib.hid (inB_t (by omega) (by omega))
          have HI3 : Hid (inB ll 1 1000000 = true) := Lib.hid (inB_t (by omega) (by omega))
          have HI4 : Hid (inB pp 1 8 = true) := Lib.hid (inB_t (by omega) (by omega))
          obtain ⟨W0, hW0⟩ : ∃ W0, W0 = (w.alloc (.cells #[.int .i64 3, .int .i64 bb, .int .i64 rr, .int .i64 ee, .int .i64 ww, .int .i64 vv, .int .i64 ll, .int .i64 pp] 23)) := ⟨_, rfl⟩
          have E0 : Ext w W0 := by rw [hW0]; exact (Ext.alloc1 w (.cells #[.int .i64 3, .int .i64 bb, .int .i64 rr, .int .i64 ee, .int .i64 ww, .int .i64 vv, .int .i64 ll, .int .i64 pp] 23))
          have p2 : BxA W0 w.heap.size 23 #[.int .i64 3, .int .i64 bb, .int .i64 rr, .int .i64 ee, .int .i64 ww, .int .i64 vv, .int .i64 ll, .int .i64 pp] := by rw [hW0]; exact (BxA.new w 23 #[.int .i64 3, .int .i64 bb, .int .i64 rr, .int .i64 ee, .int .i64 ww, .int .i64 vv, .int .i64 ll, .int .i64 pp])
          go_enter Tryz.func8, Tryz.ntmps8
          obtain ⟨kp2_0, kp2_1, kp2_2, kp2_3, kp2_4, kp2_5, kp2_6, kp2_7⟩ := p2.cells8
          go_wp2_with fail
          rw [← hW0]
          clear hW0
          clear kp2_0 kp2_1 kp2_2 kp2_3 kp2_4 kp2_5 kp2_6 kp2_7
          refine (Tryz.refIn15 ff 0 40 _).mono ?_
          rintro e Wc ⟨rfl, rfl⟩
          rw [HI0.out]
          obtain ⟨kp2_0, kp2_1, kp2_2, kp2_3, kp2_4, kp2_5, kp2_6, kp2_7⟩ := p2.cells8
          go_wp2_with fail
          clear kp2_0 kp2_1 kp2_2 kp2_3 kp2_4 kp2_5 kp2_6 kp2_7
          refine (Tryz.refIn15 3 0 3 _).mono ?_
          rintro e Wc ⟨rfl, rfl⟩
          rw [HI1.out]
          obtain ⟨kp2_0, kp2_1, kp2_2, kp2_3, kp2_4, kp2_5, kp2_6, kp2_7⟩ := p2.cells8
          go_wp2_with fail
          clear kp2_0 kp2_1 kp2_2 kp2_3 kp2_4 kp2_5 kp2_6 kp2_7
          refine (Tryz.refIn15 ww 0 1000000 _).mono ?_
          rintro e Wc ⟨rfl, rfl⟩
          rw [HI2.out]
          obtain ⟨kp2_0, kp2_1, kp2_2, kp2_3, kp2_4, kp2_5, kp2_6, kp2_7⟩ := p2.cells8
          go_wp2_with fail
          clear kp2_0 kp2_1 kp2_2 kp2_3 kp2_4 kp2_5 kp2_6 kp2_7
          refine (Tryz.refIn15 ll 1 1000000 _).mono ?_
          rintro e Wc ⟨rfl, rfl⟩
          rw [HI3.out]
          obtain ⟨kp2_0, kp2_1, kp2_2, kp2_3, kp2_4, kp2_5, kp2_6, kp2_7⟩ := p2.cells8
          go_wp2_with fail
          clear kp2_0 kp2_1 kp2_2 kp2_3 kp2_4 kp2_5 kp2_6 kp2_7
          refine (Tryz.refIn15 pp 1 8 _).mono ?_
          rintro e Wc ⟨rfl, rfl⟩
          rw [HI4.out]
          obtain ⟨kp2_0, kp2_1, kp2_2, kp2_3, kp2_4, kp2_5, kp2_6, kp2_7⟩ := p2.cells8
          go_wp2
          go_ret
          exact ⟨by rw [HR.out]; rfl, E0⟩
        ·have he1 : ¬ 0 ≤ ee := by omega
         have he1d : decide (0 ≤ ee) = false := decide_eq_false he1
         have HR : Hid (rightS 3 bb rr ee ww vv ll pp ff = false) := Lib.hid (by refine Bool.eq_false_iff.2 (fun h => ?_); have := rightS_iff.1 h; omega)
         have HI0 : Hid (inB ff 0 40 = true) := Lib.hid (inB_t (by omega) (by omega))
         have HI1 : Hid (inB 3 0 3 = true) := Lib.hid (inB_t (by omega) (by omega))
         have HI2 : Hid (inB ww 0 1000000 = true) := Lib.hid (inB_t (by omega) (by omega))
         have HI3 : Hid (inB ll 1 1000000 = true) := Lib.hid (inB_t (by omega) (by omega))
         have HI4 : Hid (inB pp 1 8 = true) := Lib.hid (inB_t (by omega) (by omega))
         obtain ⟨W0, hW0⟩ : ∃ W0, W0 = (w.alloc (.cells #[.int .i64 3, .int .i64 bb, .int .i64 rr, .int .i64 ee, .int .i64 ww, .int .i64 vv, .int .i64 ll, .int .i64 pp] 23)) := ⟨_, rfl⟩
         have E0 : Ext w W0 := by rw [hW0]; exact (Ext.alloc1 w (.cells #[.int .i64 3, .int .i64 bb, .int .i64 rr, .int .i64 ee, .int .i64 ww, .int .i64 vv, .int .i64 ll, .int .i64 pp] 23))
         have p2 : BxA W0 w.heap.size 23 #[.int .i64 3, .int .i64 bb, .int .i64 rr, .int .i64 ee, .int .i64 ww, .int .i64 vv, .int .i64 ll, .int .i64 pp] := by rw [hW0]; exact (BxA.new w 23 #[.int .i64 3, .int .i64 bb, .int .i64 rr, .int .i64 ee, .int .i64 ww, .int .i64 vv, .int .i64 ll, .int .i64 pp])
         go_enter Tryz.func8, Tryz.ntmps8
         obtain ⟨kp2_0, kp2_1, kp2_2, kp2_3, kp2_4, kp2_5, kp2_6, kp2_7⟩ := p2.cells8
         go_wp2_with fail
         rw [← hW0]
         clear hW0
         clear kp2_0 kp2_1 kp2_2 kp2_3 kp2_4 kp2_5 kp2_6 kp2_7
         refine (Tryz.refIn15 ff 0 40 _).mono ?_
         rintro e Wc ⟨rfl, rfl⟩
         rw [HI0.out]
         obtain ⟨kp2_0, kp2_1, kp2_2, kp2_3, kp2_4, kp2_5, kp2_6, kp2_7⟩ := p2.cells8
         go_wp2_with fail
         clear kp2_0 kp2_1 kp2_2 kp2_3 kp2_4 kp2_5 kp2_6 kp2_7
         refine (Tryz.refIn15 3 0 3 _).mono ?_
         rintro e Wc ⟨rfl, rfl⟩
         rw [HI1.out]
         obtain ⟨kp2_0, kp2_1, kp2_2, kp2_3, kp2_4, kp2_5, kp2_6, kp2_7⟩ := p2.cells8
         go_wp2_with fail
         clear kp2_0 kp2_1 kp2_2 kp2_3 kp2_4 kp2_5 kp2_6 kp2_7
         refine (Tryz.refIn15 ww 0 1000000 _).mono ?_
         rintro e Wc ⟨rfl, rfl⟩
         rw [HI2.out]
         obtain ⟨kp2_0, kp2_1, kp2_2, kp2_3, kp2_4, kp2_5, kp2_6, kp2_7⟩ := p2.cells8
         go_wp2_with fail
         clear kp2_0 kp2_1 kp2_2 kp2_3 kp2_4 kp2_5 kp2_6 kp2_7
         refine (Tryz.refIn15 ll 1 1000000 _).mono ?_
         rintro e Wc ⟨rfl, rfl⟩
         rw [HI3.out]
         obtain ⟨kp2_0, kp2_1, kp2_2, kp2_3, kp2_4, kp2_5, kp2_6, kp2_7⟩ := p2.cells8
         go_wp2_with fail
         clear kp2_0 kp2_1 kp2_2 kp2_3 kp2_4 kp2_5 kp2_6 kp2_7
         refine (Tryz.refIn15 pp 1 8 _).mono ?_
         rintro e Wc ⟨rfl, rfl⟩
         rw [HI4.out]
         obtain ⟨kp2_0, kp2_1, kp2_2, kp2_3, kp2_4, kp2_5, kp2_6, kp2_7⟩ := p2.cells8
         go_wp2
         go_ret
         exact ⟨by rw [HR.out]; rfl, E0⟩
       ·have HR : Hid (rightS 3 bb rr ee ww vv ll pp ff = false) := Lib.hid (by refine Bool.eq_false_iff.2 (fun h => ?_); have := rightS_iff.1 h; omega)
        have HI0 : Hid (inB ff 0 40 = true) := Lib.hid (inB_t (by omega) (by omega))
        have HI1 : Hid (inB 3 0 3 = true) := Lib.hid (inB_t (by omega) (by omega))
        have HI2 : Hid (inB ww 0 1000000 = true) := Lib.hid (inB_t (by omega) (by omega))
        have HI3 : Hid (inB ll 1 1000000 = true) := Lib.hid (inB_t (by omega) (by omega))
        have HI4 : Hid (inB pp 1 8 = false) := Lib.hid (inB_f (by omega))
        obtain ⟨W0, hW0⟩ : ∃ W0, W0 = (w.alloc (.cells #[.int .i64 3, .int .i64 bb, .int .i64 rr, .int .i64 ee, .int .i64 ww, .int .i64 vv, .int .i64 ll, .int .i64 pp] 23)) := ⟨_, rfl⟩
        have E0 : Ext w W0 := by rw [hW0]; exact (Ext.alloc1 w (.cells #[.int .i64 3, .int .i64 bb, .int .i64 rr, .int .i64 ee, .int .i64 ww, .int .i64 vv, .int .i64 ll, .int .i64 pp] 23))
        have p2 : BxA W0 w.heap.size 23 #[.int .i64 3, .int .i64 bb, .int .i64 rr, .int .i64 ee, .int .i64 ww, .int .i64 vv, .int .i64 ll, .int .i64 pp] := by rw [hW0]; exact (BxA.new w 23 #[.int .i64 3, .int .i64 bb, .int .i64 rr, .int .i64 ee, .int .i64 ww, .int .i64 vv, .int .i64 ll, .int .i64 pp])
        go_enter Tryz.func8, Tryz.ntmps8
        obtain ⟨kp2_0, kp2_1, kp2_2, kp2_3, kp2_4, kp2_5, kp2_6, kp2_7⟩ := p2.cells8
        go_wp2_with fail
        rw [← hW0]
        clear hW0
        clear kp2_0 kp2_1 kp2_2 kp2_3 kp2_4 kp2_5 kp2_6 kp2_7
        refine (Tryz.refIn15 ff 0 40 _).mono ?_
        rintro e Wc ⟨rfl, rfl⟩
        rw [HI0.out]
        obtain ⟨kp2_0, kp2_1, kp2_2, kp2_3, kp2_4, kp2_5, kp2_6, kp2_7⟩ := p2.cells8
        go_wp2_with fail
        clear kp2_0 kp2_1 kp2_2 kp2_3 kp2_4 kp2_5 kp2_6 kp2_7
        refine (Tryz.refIn15 3 0 3 _).mono ?_
        rintro e Wc ⟨rfl, rfl⟩
        rw [HI1.out]
        obtain ⟨kp2_0, kp2_1, kp2_2, kp2_3, kp2_4, kp2_5, kp2_6, kp2_7⟩ := p2.cells8
        go_wp2_with fail
        clear kp2_0 kp2_1 kp2_2 kp2_3 kp2_4 kp2_5 kp2_6 kp2_7
        refine (Tryz.refIn15 ww 0 1000000 _).mono ?_
        rintro e Wc ⟨rfl, rfl⟩
        rw [HI2.out]
        obtain ⟨kp2_0, kp2_1, kp2_2, kp2_3, kp2_4, kp2_5, kp2_6, kp2_7⟩ := p2.cells8
        go_wp2_with fail
        clear kp2_0 kp2_1 kp2_2 kp2_3 kp2_4 kp2_5 kp2_6 kp2_7
        refine (Tryz.refIn15 ll 1 1000000 _).mono ?_
        rintro e Wc ⟨rfl, rfl⟩
        rw [HI3.out]
        obtain ⟨kp2_0, kp2_1, kp2_2, kp2_3, kp2_4, kp2_5, kp2_6, kp2_7⟩ := p2.cells8
        go_wp2_with fail
        clear kp2_0 kp2_1 kp2_2 kp2_3 kp2_4 kp2_5 kp2_6 kp2_7
        refine (Tryz.refIn15 pp 1 8 _).mono ?_
        rintro e Wc ⟨rfl, rfl⟩
        rw [HI4.out]
        obtain ⟨kp2_0, kp2_1, kp2_2, kp2_3, kp2_4, kp2_5, kp2_6, kp2_7⟩ := p2.cells8
        go_wp2
        go_ret
        exact ⟨by rw [HR.out]; rfl, E0⟩
      ·have HR : Hid (rightS 3 bb rr ee ww vv ll pp ff = false) := Lib.hid (by refine Bool.eq_false_iff.2 (fun h => ?_); have := rightS_iff.1 h; omega)
       have HI0 : Hid (inB ff 0 40 = true) := Lib.hid (inB_t (by omega) (by omega))
       have HI1 : Hid (inB 3 0 3 = true) := Lib.hid (inB_t (by omega) (by omega))
       have HI2 : Hid (inB ww 0 1000000 = true) := Lib.hid (inB_t (by omega) (by omega))
       have HI3 : Hid (inB ll 1 1000000 = false) := Lib.hid (inB_f (by omega))
       obtain ⟨W0, hW0⟩ : ∃ W0, W0 = (w.alloc (.cells #[.int .i64 3, .int .i64 bb, .int .i64 rr, .int .i64 ee, .int .i64 ww, .int .i64 vv, .int .i64 ll, .int .i64 pp] 23)) := ⟨_, rfl⟩
       have E0 : Ext w W0 := by rw [hW0]; exact (Ext.alloc1 w (.cells #[.int .i64 3, .int .i64 bb, .int .i64 rr, .int .i64 ee, .int .i64 ww, .int .i64 vv, .int .i64 ll, .int .i64 pp] 23))
       have p2 : BxA W0 w.heap.size 23 #[.int .i64 3, .int .i64 bb, .int .i64 rr, .int .i64 ee, .int .i64 ww, .int .i64 vv, .int .i64 ll, .int .i64 pp] := by rw [hW0]; exact (BxA.new w 23 #[.int .i64 3, .int .i64 bb, .int .i64 rr, .int .i64 ee, .int .i64 ww, .int .i64 vv, .int .i64 ll, .int .i64 pp])
       go_enter Tryz.func8, Tryz.ntmps8
       obtain ⟨kp2_0, kp2_1, kp2_2, kp2_3, kp2_4, kp2_5, kp2_6, kp2_7⟩ := p2.cells8
       go_wp2_with fail
       rw [← hW0]
       clear hW0
       clear kp2_0 kp2_1 kp2_2 kp2_3 kp2_4 kp2_5 kp2_6 kp2_7
       refine (Tryz.refIn15 ff 0 40 _).mono ?_
       rintro e Wc ⟨rfl, rfl⟩
       rw [HI0.out]
       obtain ⟨kp2_0, kp2_1, kp2_2, kp2_3, kp2_4, kp2_5, kp2_6, kp2_7⟩ := p2.cells8
       go_wp2_with fail
       clear kp2_0 kp2_1 kp2_2 kp2_3 kp2_4 kp2_5 kp2_6 kp2_7
       refine (Tryz.refIn15 3 0 3 _).mono ?_
       rintro e Wc ⟨rfl, rfl⟩
       rw [HI1.out]
       obtain ⟨kp2_0, kp2_1, kp2_2, kp2_3, kp2_4, kp2_5, kp2_6, kp2_7⟩ := p2.cells8
       go_wp2_with fail
       clear kp2_0 kp2_1 kp2_2 kp2_3 kp2_4 kp2_5 kp2_6 kp2_7
       refine (Tryz.refIn15 ww 0 1000000 _).mono ?_
       rintro e Wc ⟨rfl, rfl⟩
       rw [HI2.out]
       obtain ⟨kp2_0, kp2_1, kp2_2, kp2_3, kp2_4, kp2_5, kp2_6, kp2_7⟩ := p2.cells8
       go_wp2_with fail
       clear kp2_0 kp2_1 kp2_2 kp2_3 kp2_4 kp2_5 kp2_6 kp2_7
       refine (Tryz.refIn15 ll 1 1000000 _).mono ?_
       rintro e Wc ⟨rfl, rfl⟩
       rw [HI3.out]
       obtain ⟨kp2_0, kp2_1, kp2_2, kp2_3, kp2_4, kp2_5, kp2_6, kp2_7⟩ := p2.cells8
       go_wp2
       go_ret
       exact ⟨by rw [HR.out]; rfl, E0⟩
    ·have HR : Hid (rightS kd bb rr ee ww vv ll pp ff = false) := Lib.hid (by refine Bool.eq_false_iff.2 (fun h => ?_); have := rightS_iff.1 h; omega)
     have HI0 : Hid (inB ff 0 40 = true) := Lib.hid (inB_t (by omega) (by omega))
     have HI1 : Hid (inB kd 0 3 = true) := Lib.hid (inB_t (by omega) (by omega))
     have HI2 : Hid (inB ww 0 1000000 = false) := Lib.hid (inB_f (by omega))
     obtain ⟨W0, hW0⟩ : ∃ W0, W0 = (w.alloc (.cells #[.int .i64 kd, .int .i64 bb, .int .i64 rr, .int .i64 ee, .int .i64 ww, .int .i64 vv, .int .i64 ll, .int .i64 pp] 23)) := ⟨_, rfl⟩
     have E0 : Ext w W0 := by rw [hW0]; exact (Ext.alloc1 w (.cells #[.int .i64 kd, .int .i64 bb, .int .i64 rr, .int .i64 ee, .int .i64 ww, .int .i64 vv, .int .i64 ll, .int .i64 pp] 23))
     have p2 : BxA W0 w.heap.size 23 #[.int .i64 kd, .int .i64 bb, .int .i64 rr, .int .i64 ee, .int .i64 ww, .int .i64 vv, .int .i64 ll, .int .i64 pp] := by rw [hW0]; exact (BxA.new w 23 #[.int .i64 kd, .int .i64 bb, .int .i64 rr, .int .i64 ee, .int .i64 ww, .int .i64 vv, .int .i64 ll, .int .i64 pp])
     go_enter Tryz.func8, Tryz.ntmps8
     obtain ⟨kp2_0, kp2_1, kp2_2, kp2_3, kp2_4, kp2_5, kp2_6, kp2_7⟩ := p2.cells8
     go_wp2_with fail
     rw [← hW0]
     clear hW0
     clear kp2_0 kp2_1 kp2_2 kp2_3 kp2_4 kp2_5 kp2_6 kp2_7
     refine (Tryz.refIn15 ff 0 40 _).mono ?_
     rintro e Wc ⟨rfl, rfl⟩
     rw [HI0.out]
     obtain ⟨kp2_0, kp2_1, kp2_2, kp2_3, kp2_4, kp2_5, kp2_6, kp2_7⟩ := p2.cells8
     go_wp2_with fail
     clear kp2_0 kp2_1 kp2_2 kp2_3 kp2_4 kp2_5 kp2_6 kp2_7
     refine (Tryz.refIn15 kd 0 3 _).mono ?_
     rintro e Wc ⟨rfl, rfl⟩
     rw [HI1.out]
     obtain ⟨kp2_0, kp2_1, kp2_2, kp2_3, kp2_4, kp2_5, kp2_6, kp2_7⟩ := p2.cells8
     go_wp2_with fail
     clear kp2_0 kp2_1 kp2_2 kp2_3 kp2_4 kp2_5 kp2_6 kp2_7
     refine (Tryz.refIn15 ww 0 1000000 _).mono ?_
     rintro e Wc ⟨rfl, rfl⟩
     rw [HI2.out]
     obtain ⟨kp2_0, kp2_1, kp2_2, kp2_3, kp2_4, kp2_5, kp2_6, kp2_7⟩ := p2.cells8
     go_wp2
     go_ret
     exact ⟨by rw [HR.out]; rfl, E0⟩
   ·have hb1 : bb < 0 := by omega
    have hb1d : decide (bb < 0) = true := decide_eq_true hb1
    have HR : Hid (rightS kd bb rr ee ww vv ll pp ff = false) := Lib.hid (by refine Bool.eq_false_iff.2 (fun h => ?_); have := rightS_iff.1 h; omega)
    have HI0 : Hid (inB ff 0 40 = true) := Lib.hid (inB_t (by omega) (by omega))
    have HI1 : Hid (inB kd 0 3 = true) := Lib.hid (inB_t (by omega) (by omega))
    obtain ⟨W0, hW0⟩ : ∃ W0, W0 = (w.alloc (.cells #[.int .i64 kd, .int .i64 bb, .int .i64 rr, .int .i64 ee, .int .i64 ww, .int .i64 vv, .int .i64 ll, .int .i64 pp] 23)) := ⟨_, rfl⟩
    have E0 : Ext w W0 := by rw [hW0]; exact (Ext.alloc1 w (.cells #[.int .i64 kd, .int .i64 bb, .int .i64 rr, .int .i64 ee, .int .i64 ww, .int .i64 vv, .int .i64 ll, .int .i64 pp] 23))
    have p2 : BxA W0 w.heap.size 23 #[.int .i64 kd, .int .i64 bb, .int .i64 rr, .int .i64 ee, .int .i64 ww, .int .i64 vv, .int .i64 ll, .int .i64 pp] := by rw [hW0]; exact (BxA.new w 23 #[.int .i64 kd, .int .i64 bb, .int .i64 rr, .int .i64 ee, .int .i64 ww, .int .i64 vv, .int .i64 ll, .int .i64 pp])
    go_enter Tryz.func8, Tryz.ntmps8
    obtain ⟨kp2_0, kp2_1, kp2_2, kp2_3, kp2_4, kp2_5, kp2_6, kp2_7⟩ := p2.cells8
    go_wp2_with fail
    rw [← hW0]
    clear hW0
    clear kp2_0 kp2_1 kp2_2 kp2_3 kp2_4 kp2_5 kp2_6 kp2_7
    refine (Tryz.refIn15 ff 0 40 _).mono ?_
    rintro e Wc ⟨rfl, rfl⟩
    rw [HI0.out]
    obtain ⟨kp2_0, kp2_1, kp2_2, kp2_3, kp2_4, kp2_5, kp2_6, kp2_7⟩ := p2.cells8
    go_wp2_with fail
    clear kp2_0 kp2_1 kp2_2 kp2_3 kp2_4 kp2_5 kp2_6 kp2_7
    refine (Tryz.refIn15 kd 0 3 _).mono ?_
    rintro e Wc ⟨rfl, rfl⟩
    rw [HI1.out]
    obtain ⟨kp2_0, kp2_1, kp2_2, kp2_3, kp2_4, kp2_5, kp2_6, kp2_7⟩ := p2.cells8
    go_wp2
    go_ret
    exact ⟨by rw [HR.out]; rfl, E0⟩
  ·have HR : Hid (rightS kd bb rr ee ww vv ll pp ff = false) := Lib.hid (by refine Bool.eq_false_iff.2 (fun h => ?_); have := rightS_iff.1 h; omega)
   have HI0 : Hid (inB ff 0 40 = true) := Lib.hid (inB_t (by omega) (by omega))
   have HI1 : Hid (inB kd 0 3 = false) := Lib.hid (inB_f (by omega))
   obtain ⟨W0, hW0⟩ : ∃ W0, W0 = (w.alloc (.cells #[.int .i64 kd, .int .i64 bb, .int .i64 rr, .int .i64 ee, .int .i64 ww, .int .i64 vv, .int .i64 ll, .int .i64 pp] 23)) := ⟨_, rfl⟩
   have E0 : Ext w W0 := by rw [hW0]; exact (Ext.alloc1 w (.cells #[.int .i64 kd, .int .i64 bb, .int .i64 rr, .int .i64 ee, .int .i64 ww, .int .i64 vv, .int .i64 ll, .int .i64 pp] 23))
   have p2 : BxA W0 w.heap.size 23 #[.int .i64 kd, .int .i64 bb, .int .i64 rr, .int .i64 ee, .int .i64 ww, .int .i64 vv, .int .i64 ll, .int .i64 pp] := by rw [hW0]; exact (BxA.new w 23 #[.int .i64 kd, .int .i64 bb, .int .i64 rr, .int .i64 ee, .int .i64 ww, .int .i64 vv, .int .i64 ll, .int .i64 pp])
   go_enter Tryz.func8, Tryz.ntmps8
   obtain ⟨kp2_0, kp2_1, kp2_2, kp2_3, kp2_4, kp2_5, kp2_6, kp2_7⟩ := p2.cells8
   go_wp2_with fail
   rw [← hW0]
   clear hW0
   clear kp2_0 kp2_1 kp2_2 kp2_3 kp2_4 kp2_5 kp2_6 kp2_7
   refine (Tryz.refIn15 ff 0 40 _).mono ?_
   rintro e Wc ⟨rfl, rfl⟩
   rw [HI0.out]
   obtain ⟨kp2_0, kp2_1, kp2_2, kp2_3, kp2_4, kp2_5, kp2_6, kp2_7⟩ := p2.cells8
   go_wp2_with fail
   clear kp2_0 kp2_1 kp2_2 kp2_3 kp2_4 kp2_5 kp2_6 kp2_7
   refine (Tryz.refIn15 kd 0 3 _).mono ?_
   rintro e Wc ⟨rfl, rfl⟩
   rw [HI1.out]
   obtain ⟨kp2_0, kp2_1, kp2_2, kp2_3, kp2_4, kp2_5, kp2_6, kp2_7⟩ := p2.cells8
   go_wp2
   go_ret
   exact ⟨by rw [HR.out]; rfl, E0⟩
 ·have HR : Hid (rightS kd bb rr ee ww vv ll pp ff = false) := Lib.hid (by refine Bool.eq_false_iff.2 (fun h => ?_); have := rightS_iff.1 h; omega)
  have HI0 : Hid (inB ff 0 40 = false) := Lib.hid (inB_f (by omega))
  obtain ⟨W0, hW0⟩ : ∃ W0, W0 = (w.alloc (.cells #[.int .i64 kd, .int .i64 bb, .int .i64 rr, .int .i64 ee, .int .i64 ww, .int .i64 vv, .int .i64 ll, .int .i64 pp] 23)) := ⟨_, rfl⟩
  have E0 : Ext w W0 := by rw [hW0]; exact (Ext.alloc1 w (.cells #[.int .i64 kd, .int .i64 bb, .int .i64 rr, .int .i64 ee, .int .i64 ww, .int .i64 vv, .int .i64 ll, .int .i64 pp] 23))
  have p2 : BxA W0 w.heap.size 23 #[.int .i64 kd, .int .i64 bb, .int .i64 rr, .int .i64 ee, .int .i64 ww, .int .i64 vv, .int .i64 ll, .int .i64 pp] := by rw [hW0]; exact (BxA.new w 23 #[.int .i64 kd, .int .i64 bb, .int .i64 rr, .int .i64 ee, .int .i64 ww, .int .i64 vv, .int .i64 ll, .int .i64 pp])
  go_enter Tryz.func8, Tryz.ntmps8
  obtain ⟨kp2_0, kp2_1, kp2_2, kp2_3, kp2_4, kp2_5, kp2_6, kp2_7⟩ := p2.cells8
  go_wp2_with fail
  rw [← hW0]
  clear hW0
  clear kp2_0 kp2_1 kp2_2 kp2_3 kp2_4 kp2_5 kp2_6 kp2_7
  refine (Tryz.refIn15 ff 0 40 _).mono ?_
  rintro e Wc ⟨rfl, rfl⟩
  rw [HI0.out]
  obtain ⟨kp2_0, kp2_1, kp2_2, kp2_3, kp2_4, kp2_5, kp2_6, kp2_7⟩ := p2.cells8
  go_wp2
  go_ret
  exact ⟨by rw [HR.out]; rfl, E0⟩

set_option maxRecDepth 100000 in
set_option maxHeartbeats 16000000 in
theorem Tryz.schedRight (kd bb rr ee ww vv ll pp ff : Int) (w : World) :
  Calls Tryz.prog 7 #[.agg #[.int .i64 kd, .int .i64 bb, .int .i64 rr, .int .i64 ee, .int .i64 ww, .int .i64 vv, .int .i64 ll, .int .i64 pp], .int .i64 ff] w fun e w' => e = .returned (.bool (rightS kd bb rr ee ww vv ll pp ff)) ∧ Ext w w' := by
 by_cases h0 : 0 ≤ ff ∧ ff ≤ 40
 ·by_cases h1 : 0 ≤ kd ∧ kd ≤ 3
  ·by_cases h2 : 0 ≤ bb
   ·have hb1 : ¬ bb < 0 := by omega
    have hb1d : decide (bb < 0) = false := decide_eq_false hb1
    by_cases h3 : 0 ≤ ww ∧ ww ≤ 1000000
    ·have hkc : kd = 0 ∨ kd = 1 ∨ kd = 2 ∨ kd = 3 := by omega
     rcases hkc with rfl | rfl | rfl | rfl
     ·have HR : Hid (rightS 0 bb rr ee ww vv ll pp ff = true) := Lib.hid (by rw [rightS_iff]; omega)
      have HI0 : Hid (inB ff 0 40 = true) := Lib.hid (inB_t (by omega) (by omega))
      have HI1 : Hid (inB 0 0 3 = true) := Lib.hid (inB_t (by omega) (by omega))
      have HI2 : Hid (inB ww 0 1000000 = true) := Lib.hid (inB_t (by omega) (by omega))
      obtain ⟨W0, hW0⟩ : ∃ W0, W0 = (w.alloc (.cells #[.int .i64 0, .int .i64 bb, .int .i64 rr, .int .i64 ee, .int .i64 ww, .int .i64 vv, .int .i64 ll, .int .i64 pp] 23)) := ⟨_, rfl⟩
      have E0 : Ext w W0 := by rw [hW0]; exact (Ext.alloc1 w (.cells #[.int .i64 0, .int .i64 bb, .int .i64 rr, .int .i64 ee, .int .i64 ww, .int .i64 vv, .int .i64 ll, .int .i64 pp] 23))
      have p2 : BxA W0 w.heap.size 23 #[.int .i64 0, .int .i64 bb, .int .i64 rr, .int .i64 ee, .int .i64 ww, .int .i64 vv, .int .i64 ll, .int .i64 pp] := by rw [hW0]; exact (BxA.new w 23 #[.int .i64 0, .int .i64 bb, .int .i64 rr, .int .i64 ee, .int .i64 ww, .int .i64 vv, .int .i64 ll, .int .i64 pp])
      go_enter Tryz.func7, Tryz.ntmps7
      obtain ⟨kp2_0, kp2_1, kp2_2, kp2_3, kp2_4, kp2_5, kp2_6, kp2_7⟩ := p2.cells8
      go_wp2_with fail
      rw [← hW0]
      clear hW0
      clear kp2_0 kp2_1 kp2_2 kp2_3 kp2_4 kp2_5 kp2_6 kp2_7
      refine (Tryz.schedIn ff 0 40 _).mono ?_
      rintro e Wc ⟨rfl, rfl⟩
      rw [HI0.out]
      obtain ⟨kp2_0, kp2_1, kp2_2, kp2_3, kp2_4, kp2_5, kp2_6, kp2_7⟩ := p2.cells8
      go_wp2_with fail
      clear kp2_0 kp2_1 kp2_2 kp2_3 kp2_4 kp2_5 kp2_6 kp2_7
      refine (Tryz.schedIn 0 0 3 _).mono ?_
      rintro e Wc ⟨rfl, rfl⟩
      rw [HI1.out]
      obtain ⟨kp2_0, kp2_1, kp2_2, kp2_3, kp2_4, kp2_5, kp2_6, kp2_7⟩ := p2.cells8
      go_wp2_with fail
      clear kp2_0 kp2_1 kp2_2 kp2_3 kp2_4 kp2_5 kp2_6 kp2_7
      refine (Tryz.schedIn ww 0 1000000 _).mono ?_
      rintro e Wc ⟨rfl, rfl⟩
      rw [HI2.out]
      obtain ⟨kp2_0, kp2_1, kp2_2, kp2_3, kp2_4, kp2_5, kp2_6, kp2_7⟩ := p2.cells8
      go_wp2
      go_ret
      exact ⟨by rw [HR.out]; rfl, E0⟩
     ·have HR : Hid (rightS 1 bb rr ee ww vv ll pp ff = true) := Lib.hid (by rw [rightS_iff]; omega)
      have HI0 : Hid (inB ff 0 40 = true) := Lib.hid (inB_t (by omega) (by omega))
      have HI1 : Hid (inB 1 0 3 = true) := Lib.hid (inB_t (by omega) (by omega))
      have HI2 : Hid (inB ww 0 1000000 = true) := Lib.hid (inB_t (by omega) (by omega))
      obtain ⟨W0, hW0⟩ : ∃ W0, W0 = (w.alloc (.cells #[.int .i64 1, .int .i64 bb, .int .i64 rr, .int .i64 ee, .int .i64 ww, .int .i64 vv, .int .i64 ll, .int .i64 pp] 23)) := ⟨_, rfl⟩
      have E0 : Ext w W0 := by rw [hW0]; exact (Ext.alloc1 w (.cells #[.int .i64 1, .int .i64 bb, .int .i64 rr, .int .i64 ee, .int .i64 ww, .int .i64 vv, .int .i64 ll, .int .i64 pp] 23))
      have p2 : BxA W0 w.heap.size 23 #[.int .i64 1, .int .i64 bb, .int .i64 rr, .int .i64 ee, .int .i64 ww, .int .i64 vv, .int .i64 ll, .int .i64 pp] := by rw [hW0]; exact (BxA.new w 23 #[.int .i64 1, .int .i64 bb, .int .i64 rr, .int .i64 ee, .int .i64 ww, .int .i64 vv, .int .i64 ll, .int .i64 pp])
      go_enter Tryz.func7, Tryz.ntmps7
      obtain ⟨kp2_0, kp2_1, kp2_2, kp2_3, kp2_4, kp2_5, kp2_6, kp2_7⟩ := p2.cells8
      go_wp2_with fail
      rw [← hW0]
      clear hW0
      clear kp2_0 kp2_1 kp2_2 kp2_3 kp2_4 kp2_5 kp2_6 kp2_7
      refine (Tryz.schedIn ff 0 40 _).mono ?_
      rintro e Wc ⟨rfl, rfl⟩
      rw [HI0.out]
      obtain ⟨kp2_0, kp2_1, kp2_2, kp2_3, kp2_4, kp2_5, kp2_6, kp2_7⟩ := p2.cells8
      go_wp2_with fail
      clear kp2_0 kp2_1 kp2_2 kp2_3 kp2_4 kp2_5 kp2_6 kp2_7
      refine (Tryz.schedIn 1 0 3 _).mono ?_
      rintro e Wc ⟨rfl, rfl⟩
      rw [HI1.out]
      obtain ⟨kp2_0, kp2_1, kp2_2, kp2_3, kp2_4, kp2_5, kp2_6, kp2_7⟩ := p2.cells8
      go_wp2_with fail
      clear kp2_0 kp2_1 kp2_2 kp2_3 kp2_4 kp2_5 kp2_6 kp2_7
      refine (Tryz.schedIn ww 0 1000000 _).mono ?_
      rintro e Wc ⟨rfl, rfl⟩
      rw [HI2.out]
      obtain ⟨kp2_0, kp2_1, kp2_2, kp2_3, kp2_4, kp2_5, kp2_6, kp2_7⟩ := p2.cells8
      go_wp2
      go_ret
      exact ⟨by rw [HR.out]; rfl, E0⟩
     ·obtain ⟨K, rfl⟩ := Int.eq_ofNat_of_zero_le (show 0 ≤ ff by omega)
      obtain ⟨P, hP⟩ : ∃ P, P = 2 ^ K := ⟨_, rfl⟩
      have hPb : P ≤ 1099511627776 := by rw [hP]; exact Nat.le_trans (Nat.pow_le_pow_right (by omega) (show K ≤ 40 by omega)) (by decide)
      have hsh : IntKind.i64.wrap (2 ^ K) = (P : Int) := by rw [show ((2 : Int) ^ K) = ((2 ^ K : Nat) : Int) by simp, ← hP, IntKind.wrap_i64]; omega
      by_cases h4 : 1 ≤ vv ∧ vv ≤ 1000000
      ·by_cases h5 : 0 ≤ rr
       ·have hr1d : decide (0 ≤ rr) = true := decide_eq_true (by assumption)
        by_cases h6 : rr ≤ (P : Int)
        ·have hr2d : decide (rr ≤ (P : Int)) = true := decide_eq_true (by assumption)
         have HR : Hid (rightS 2 bb rr ee ww vv ll pp (K : Int) = true) := Lib.hid (by rw [rightS_iff, Int.toNat_natCast, ← hP]; omega)
         have HI0 : Hid (inB (K : Int) 0 40 = true) := Lib.hid (inB_t (by omega) (by omega))
         have HI1 : Hid (inB 2 0 3 = true) := Lib.hid (inB_t (by omega) (by omega))
         have HI2 : Hid (inB ww 0 1000000 = true) := Lib.hid (inB_t (by omega) (by omega))
         have HI3 : Hid (inB vv 1 1000000 = true) := Lib.hid (inB_t (by omega) (by omega))
         have HP := Lib.hid hP
         clear hP
         obtain ⟨W0, hW0⟩ : ∃ W0, W0 = (w.alloc (.cells #[.int .i64 2, .int .i64 bb, .int .i64 rr, .int .i64 ee, .int .i64 ww, .int .i64 vv, .int .i64 ll, .int .i64 pp] 23)) := ⟨_, rfl⟩
         have E0 : Ext w W0 := by rw [hW0]; exact (Ext.alloc1 w (.cells #[.int .i64 2, .int .i64 bb, .int .i64 rr, .int .i64 ee, .int .i64 ww, .int .i64 vv, .int .i64 ll, .int .i64 pp] 23))
         have p2 : BxA W0 w.heap.size 23 #[.int .i64 2, .int .i64 bb, .int .i64 rr, .int .i64 ee, .int .i64 ww, .int .i64 vv, .int .i64 ll, .int .i64 pp] := by rw [hW0]; exact (BxA.new w 23 #[.int .i64 2, .int .i64 bb, .int .i64 rr, .int .i64 ee, .int .i64 ww, .int .i64 vv, .int .i64 ll, .int .i64 pp])
         go_enter Tryz.func7, Tryz.ntmps7
         obtain ⟨kp2_0, kp2_1, kp2_2, kp2_3, kp2_4, kp2_5, kp2_6, kp2_7⟩ := p2.cells8
         go_wp2_with fail
         rw [← hW0]
         clear hW0
         clear kp2_0 kp2_1 kp2_2 kp2_3 kp2_4 kp2_5 kp2_6 kp2_7
         refine (Tryz.schedIn (K : Int) 0 40 _).mono ?_
         rintro e Wc ⟨rfl, rfl⟩
         rw [HI0.out]
         obtain ⟨kp2_0, kp2_1, kp2_2, kp2_3, kp2_4, kp2_5, kp2_6, kp2_7⟩ := p2.cells8
         go_wp2_with fail
         clear kp2_0 kp2_1 kp2_2 kp2_3 kp2_4 kp2_5 kp2_6 kp2_7
         refine (Tryz.schedIn 2 0 3 _).mono ?_
         rintro e Wc ⟨rfl, rfl⟩
         rw [HI1.out]
         obtain ⟨kp2_0, kp2_1, kp2_2, kp2_3, kp2_4, kp2_5, kp2_6, kp2_7⟩ := p2.cells8
         go_wp2_with fail
         clear kp2_0 kp2_1 kp2_2 kp2_3 kp2_4 kp2_5 kp2_6 kp2_7
         refine (Tryz.schedIn ww 0 1000000 _).mono ?_
         rintro e Wc ⟨rfl, rfl⟩
         rw [HI2.out]
         obtain ⟨kp2_0, kp2_1, kp2_2, kp2_3, kp2_4, kp2_5, kp2_6, kp2_7⟩ := p2.cells8
         go_upto_region 5 with (fail)
         clear kp2_0 kp2_1 kp2_2 kp2_3 kp2_4 kp2_5 kp2_6 kp2_7
         have ltp2 := p2.lt
         have szw5 := Ext.size E0
         refine region_go [.one fun v _ => v = .pointer (some ⟨w.heap.size, 5, none⟩),
           .one fun v _ => v = .int .i64 vv,
           .one fun v _ => v = .bool true,
           .one fun v _ => v = .bool true,
           .one fun v _ => v = .pointer (some ⟨w.heap.size, 2, none⟩),
           .one fun v _ => v = .int .i64 rr,
           .one fun v _ => v = .bool true,
           .one fun v _ => v = .bool true,
           .one fun v _ => v = .bool true,
           .one fun v _ => v = .pointer (some ⟨w.heap.size, 2, none⟩),
           .one fun v _ => v = .int .i64 rr,
           .one fun v _ => v = .int .i64 (K : Int),
           .one fun v _ => v = .int .i64 (P : Int),
           .one fun v _ => v = .bool true,
           .one fun v _ => v = .bool true,
           .one fun v _ => v = .bool true]
          (fun W => Ext w W ∧ BxA W w.heap.size 23 #[.int .i64 2, .int .i64 bb, .int .i64 rr, .int .i64 ee, .int .i64 ww, .int .i64 vv, .int .i64 ll, .int .i64 pp] ∧ W0.heap.size ≤ W.heap.size) ⟨Good.is _, Good.is _, Good.is _, Good.is _, Good.is _, Good.is _, Good.is _, Good.is _, Good.is _, Good.is _, Good.is _, Good.is _, Good.is _, Good.is _, Good.is _, Good.is _, trivial⟩
          (fun W W1 hS hE => ⟨(Ext.trans hS.1 hE), (hS.2.1.ext hE), (Nat.le_trans hS.2.2 (Ext.size hE))⟩) ⟨E0, p2, Nat.le_refl _⟩ (by kernel_rfl) (by kernel_rfl) (by kernel_rfl) (by kernel_rfl) (A := ?A5) ?hA5 ?howe5 ?hfin5
         case hA5 =>
          intro vs
          simp only [putAll, Act.put, List.setIfInBounds_toArray, List.set_cons_zero, List.set_cons_succ, Nat.zero_add, Nat.reduceAdd]
          exact rfl
         case howe5 =>
          clear E0 p2
          intro hf
          refine ⟨owesE 0 [] hf rfl (by kernel_rfl) ?_, owesE 1 [0] hf rfl (by kernel_rfl) ?_, owesE 2 [1] hf rfl (by kernel_rfl) ?_, owesE 3 [2] hf rfl (by kernel_rfl) ?_, owesE 4 [3] hf rfl (by kernel_rfl) ?_, owesE 5 [3, 4] hf rfl (by kernel_rfl) ?_, owesE 6 [3, 5] hf rfl (by kernel_rfl) ?_, owesE 7 [3, 6] hf rfl (by kernel_rfl) ?_, owesE 8 [7] hf rfl (by kernel_rfl) ?_, owesE 9 [8] hf rfl (by kernel_rfl) ?_, owesE 10 [8, 9] hf rfl (by kernel_rfl) ?_, owesE 11 [8] hf rfl (by kernel_rfl) ?_, owesE 12 [8, 11] hf rfl (by kernel_rfl) ?_, owesE 13 [8, 10, 12] hf rfl (by kernel_rfl) ?_, owesE 14 [8, 13] hf rfl (by kernel_rfl) ?_, owesE 15 [14] hf rfl (by kernel_rfl) ?_, trivial⟩
          all_goals intro vs W hS hp hx KO hKO
          all_goals simp only [Act.put, List.setIfInBounds_toArray, List.set_cons_zero, List.set_cons_succ] at hKO
          ·go_simp
           exact hKO _ W (Ext.refl W) rfl
          ·have e0 := isOf hp.1
           simp only [e0] at hKO
           have fc5 := BxA.cell (hS.2.1) 5 (v := .int .i64 vv) rfl
           go_simp
           exact hKO _ W (Ext.refl W) rfl
          ·have e1 := isOf hp.1
           simp only [e1] at hKO
           go_simp
           refine (Tryz.schedIn vv 1 1000000 _).mono ?_
           rintro e W1 ⟨rfl, rfl⟩
           rw [HI3.out]
           exact hKO _ W (Ext.refl W) rfl
          ·have e2 := isOf hp.1
           simp only [e2] at hKO
           go_simp
           exact hKO _ W (Ext.refl W) rfl
          ·have e3 := isOf hp.1
           simp only [e3] at hKO
           go_simp
           exact hKO _ W (Ext.refl W) rfl
          ·have e3 := isOf hp.1
           have e4 := isOf hp.2.1
           simp only [e3, e4] at hKO
           have fc2 := BxA.cell (hS.2.1) 2 (v := .int .i64 rr) rfl
           go_simp
           exact hKO _ W (Ext.refl W) rfl
          ·have e3 := isOf hp.1
           have e5 := isOf hp.2.1
           simp only [e3, e5] at hKO
           go_simp
           exact hKO _ W (Ext.refl W) rfl
          ·have e3 := isOf hp.1
           have e6 := isOf hp.2.1
           simp only [e3, e6] at hKO
           go_simp
           exact hKO _ W (Ext.refl W) rfl
          ·have e7 := isOf hp.1
           simp only [e7] at hKO
           go_simp
           exact hKO _ W (Ext.refl W) rfl
          ·have e8 := isOf hp.1
           simp only [e8] at hKO
           go_simp
           exact hKO _ W (Ext.refl W) rfl
          ·have e8 := isOf hp.1
           have e9 := isOf hp.2.1
           simp only [e8, e9] at hKO
           have fc2 := BxA.cell (hS.2.1) 2 (v := .int .i64 rr) rfl
           go_simp
           exact hKO _ W (Ext.refl W) rfl
          ·have e8 := isOf hp.1
           simp only [e8] at hKO
           go_simp
           exact hKO _ W (Ext.refl W) rfl
          ·have e8 := isOf hp.1
           have e11 := isOf hp.2.1
           simp only [e8, e11] at hKO
           go_simp
           exact hKO _ W (Ext.refl W) rfl
          ·have e8 := isOf hp.1
           have e10 := isOf hp.2.1
           have e12 := isOf hp.2.2.1
           simp only [e8, e10, e12] at hKO
           go_simp
           exact hKO _ W (Ext.refl W) rfl
          ·have e8 := isOf hp.1
           have e13 := isOf hp.2.1
           simp only [e8, e13] at hKO
           go_simp
           exact hKO _ W (Ext.refl W) rfl
          ·have e14 := isOf hp.1
           simp only [e14] at hKO
           go_simp
           exact hKO _ W (Ext.refl W) rfl
         intro vs W5 hS hp
         clear szw5 E0 p2
         obtain ⟨E0, p2, sz5⟩ := hS
         obtain ⟨h5_0, h5_1, h5_2, h5_3, h5_4, h5_5, h5_6, h5_7, h5_8, h5_9, h5_10, h5_11, h5_12, h5_13, h5_14, h5_15, -⟩ := hp
         replace h5_0 : vs 0 = .pointer (some ⟨w.heap.size, 5, none⟩) := h5_0
         replace h5_1 : vs 1 = .int .i64 vv := h5_1
         replace h5_2 : vs 2 = .bool true := h5_2
         replace h5_3 : vs 3 = .bool true := h5_3
         replace h5_4 : vs 4 = .pointer (some ⟨w.heap.size, 2, none⟩) := h5_4
         replace h5_5 : vs 5 = .int .i64 rr := h5_5
         replace h5_6 : vs 6 = .bool true := h5_6
         replace h5_7 : vs 7 = .bool true := h5_7
         replace h5_8 : vs 8 = .bool true := h5_8
         replace h5_9 : vs 9 = .pointer (some ⟨w.heap.size, 2, none⟩) := h5_9
         replace h5_10 : vs 10 = .int .i64 rr := h5_10
         replace h5_11 : vs 11 = .int .i64 (K : Int) := h5_11
         replace h5_12 : vs 12 = .int .i64 (P : Int) := h5_12
         replace h5_13 : vs 13 = .bool true := h5_13
         replace h5_14 : vs 14 = .bool true := h5_14
         replace h5_15 : vs 15 = .bool true := h5_15
         simp only [h5_0, h5_1, h5_2, h5_3, h5_4, h5_5, h5_6, h5_7, h5_8, h5_9, h5_10, h5_11, h5_12, h5_13, h5_14, h5_15]
         clear h5_0 h5_1 h5_2 h5_3 h5_4 h5_5 h5_6 h5_7 h5_8 h5_9 h5_10 h5_11 h5_12 h5_13 h5_14 h5_15
         obtain ⟨kp2_0, kp2_1, kp2_2, kp2_3, kp2_4, kp2_5, kp2_6, kp2_7⟩ := p2.cells8
         go_wp2
         go_ret
         exact ⟨by rw [HR.out]; rfl, E0⟩
        ·have hr2 : ¬ rr ≤ (P : Int) := by omega
         have hr2d : decide (rr ≤ (P : Int)) = false := decide_eq_false hr2
         have HR : Hid (rightS 2 bb rr ee ww vv ll pp (K : Int) = false) := Lib.hid (by refine Bool.eq_false_iff.2 (fun h => ?_); have := rightS_iff.1 h; rw [Int.toNat_natCast, ← hP] at this; omega)
         have HI0 : Hid (inB (K : Int) 0 40 = true) := Lib.hid (inB_t (by omega) (by omega))
         have HI1 : Hid (inB 2 0 3 = true) := Lib.hid (inB_t (by omega) (by omega))
         have HI2 : Hid (inB ww 0 1000000 = true) := Lib.hid (inB_t (by omega) (by omega))
         have HI3 : Hid (inB vv 1 1000000 = true) := Lib.hid (inB_t (by omega) (by omega))
         have HP := Lib.hid hP
         clear hP
         obtain ⟨W0, hW0⟩ : ∃ W0, W0 = (w.alloc (.cells #[.int .i64 2, .int .i64 bb, .int .i64 rr, .int .i64 ee, .int .i64 ww, .int .i64 vv, .int .i64 ll, .int .i64 pp] 23)) := ⟨_, rfl⟩
         have E0 : Ext w W0 := by rw [hW0]; exact (Ext.alloc1 w (.cells #[.int .i64 2, .int .i64 bb, .int .i64 rr, .int .i64 ee, .int .i64 ww, .int .i64 vv, .int .i64 ll, .int .i64 pp] 23))
         have p2 : BxA W0 w.heap.size 23 #[.int .i64 2, .int .i64 bb, .int .i64 rr, .int .i64 ee, .int .i64 ww, .int .i64 vv, .int .i64 ll, .int .i64 pp] := by rw [hW0]; exact (BxA.new w 23 #[.int .i64 2, .int .i64 bb, .int .i64 rr, .int .i64 ee, .int .i64 ww, .int .i64 vv, .int .i64 ll, .int .i64 pp])
         go_enter Tryz.func7, Tryz.ntmps7
         obtain ⟨kp2_0, kp2_1, kp2_2, kp2_3, kp2_4, kp2_5, kp2_6, kp2_7⟩ := p2.cells8
         go_wp2_with fail
         rw [← hW0]
         clear hW0
         clear kp2_0 kp2_1 kp2_2 kp2_3 kp2_4 kp2_5 kp2_6 kp2_7
         refine (Tryz.schedIn (K : Int) 0 40 _).mono ?_
         rintro e Wc ⟨rfl, rfl⟩
         rw [HI0.out]
         obtain ⟨kp2_0, kp2_1, kp2_2, kp2_3, kp2_4, kp2_5, kp2_6, kp2_7⟩ := p2.cells8
         go_wp2_with fail
         clear kp2_0 kp2_1 kp2_2 kp2_3 kp2_4 kp2_5 kp2_6 kp2_7
         refine (Tryz.schedIn 2 0 3 _).mono ?_
         rintro e Wc ⟨rfl, rfl⟩
         rw [HI1.out]
         obtain ⟨kp2_0, kp2_1, kp2_2, kp2_3, kp2_4, kp2_5, kp2_6, kp2_7⟩ := p2.cells8
         go_wp2_with fail
         clear kp2_0 kp2_1 kp2_2 kp2_3 kp2_4 kp2_5 kp2_6 kp2_7
         refine (Tryz.schedIn ww 0 1000000 _).mono ?_
         rintro e Wc ⟨rfl, rfl⟩
         rw [HI2.out]
         obtain ⟨kp2_0, kp2_1, kp2_2, kp2_3, kp2_4, kp2_5, kp2_6, kp2_7⟩ := p2.cells8
         go_upto_region 5 with (fail)
         clear kp2_0 kp2_1 kp2_2 kp2_3 kp2_4 kp2_5 kp2_6 kp2_7
         have ltp2 := p2.lt
         have szw6 := Ext.size E0
         refine region_go [.one fun v _ => v = .pointer (some ⟨w.heap.size, 5, none⟩),
           .one fun v _ => v = .int .i64 vv,
           .one fun v _ => v = .bool true,
           .one fun v _ => v = .bool true,
           .one fun v _ => v = .pointer (some ⟨w.heap.size, 2, none⟩),
           .one fun v _ => v = .int .i64 rr,
           .one fun v _ => v = .bool true,
           .one fun v _ => v = .bool true,
           .one fun v _ => v = .bool true,
           .one fun v _ => v = .pointer (some ⟨w.heap.size, 2, none⟩),
           .one fun v _ => v = .int .i64 rr,
           .one fun v _ => v = .int .i64 (K : Int),
           .one fun v _ => v = .int .i64 (P : Int),
           .one fun v _ => v = .bool false,
           .one fun v _ => v = .bool false,
           .one fun v _ => v = .bool false]
          (fun W => Ext w W ∧ BxA W w.heap.size 23 #[.int .i64 2, .int .i64 bb, .int .i64 rr, .int .i64 ee, .int .i64 ww, .int .i64 vv, .int .i64 ll, .int .i64 pp] ∧ W0.heap.size ≤ W.heap.size) ⟨Good.is _, Good.is _, Good.is _, Good.is _, Good.is _, Good.is _, Good.is _, Good.is _, Good.is _, Good.is _, Good.is _, Good.is _, Good.is _, Good.is _, Good.is _, Good.is _, trivial⟩
          (fun W W1 hS hE => ⟨(Ext.trans hS.1 hE), (hS.2.1.ext hE), (Nat.le_trans hS.2.2 (Ext.size hE))⟩) ⟨E0, p2, Nat.le_refl _⟩ (by kernel_rfl) (by kernel_rfl) (by kernel_rfl) (by kernel_rfl) (A := ?A6) ?hA6 ?howe6 ?hfin6
         case hA6 =>
          intro vs
          simp only [putAll, Act.put, List.setIfInBounds_toArray, List.set_cons_zero, List.set_cons_succ, Nat.zero_add, Nat.reduceAdd]
          exact rfl
         case howe6 =>
          clear E0 p2
          intro hf
          refine ⟨owesE 0 [] hf rfl (by kernel_rfl) ?_, owesE 1 [0] hf rfl (by kernel_rfl) ?_, owesE 2 [1] hf rfl (by kernel_rfl) ?_, owesE 3 [2] hf rfl (by kernel_rfl) ?_, owesE 4 [3] hf rfl (by kernel_rfl) ?_, owesE 5 [3, 4] hf rfl (by kernel_rfl) ?_, owesE 6 [3, 5] hf rfl (by kernel_rfl) ?_, owesE 7 [3, 6] hf rfl (by kernel_rfl) ?_, owesE 8 [7] hf rfl (by kernel_rfl) ?_, owesE 9 [8] hf rfl (by kernel_rfl) ?_, owesE 10 [8, 9] hf rfl (by kernel_rfl) ?_, owesE 11 [8] hf rfl (by kernel_rfl) ?_, owesE 12 [8, 11] hf rfl (by kernel_rfl) ?_, owesE 13 [8, 10, 12] hf rfl (by kernel_rfl) ?_, owesE 14 [8, 13] hf rfl (by kernel_rfl) ?_, owesE 15 [14] hf rfl (by kernel_rfl) ?_, trivial⟩
          all_goals intro vs W hS hp hx KO hKO
          all_goals simp only [Act.put, List.setIfInBounds_toArray, List.set_cons_zero, List.set_cons_succ] at hKO
          ·go_simp
           exact hKO _ W (Ext.refl W) rfl
          ·have e0 := isOf hp.1
           simp only [e0] at hKO
           have fc5 := BxA.cell (hS.2.1) 5 (v := .int .i64 vv) rfl
           go_simp
           exact hKO _ W (Ext.refl W) rfl
          ·have e1 := isOf hp.1
           simp only [e1] at hKO
           go_simp
           refine (Tryz.schedIn vv 1 1000000 _).mono ?_
           rintro e W1 ⟨rfl, rfl⟩
           rw [HI3.out]
           exact hKO _ W (Ext.refl W) rfl
          ·have e2 := isOf hp.1
           simp only [e2] at hKO
           go_simp
           exact hKO _ W (Ext.refl W) rfl
          ·have e3 := isOf hp.1
           simp only [e3] at hKO
           go_simp
           exact hKO _ W (Ext.refl W) rfl
          ·have e3 := isOf hp.1
           have e4 := isOf hp.2.1
           simp only [e3, e4] at hKO
           have fc2 := BxA.cell (hS.2.1) 2 (v := .int .i64 rr) rfl
           go_simp
           exact hKO _ W (Ext.refl W) rfl
          ·have e3 := isOf hp.1
           have e5 := isOf hp.2.1
           simp only [e3, e5] at hKO
           go_simp
           exact hKO _ W (Ext.refl W) rfl
          ·have e3 := isOf hp.1
           have e6 := isOf hp.2.1
           simp only [e3, e6] at hKO
           go_simp
           exact hKO _ W (Ext.refl W) rfl
          ·have e7 := isOf hp.1
           simp only [e7] at hKO
           go_simp
           exact hKO _ W (Ext.refl W) rfl
          ·have e8 := isOf hp.1
           simp only [e8] at hKO
           go_simp
           exact hKO _ W (Ext.refl W) rfl
          ·have e8 := isOf hp.1
           have e9 := isOf hp.2.1
           simp only [e8, e9] at hKO
           have fc2 := BxA.cell (hS.2.1) 2 (v := .int .i64 rr) rfl
           go_simp
           exact hKO _ W (Ext.refl W) rfl
          ·have e8 := isOf hp.1
           simp only [e8] at hKO
           go_simp
           exact hKO _ W (Ext.refl W) rfl
          ·have e8 := isOf hp.1
           have e11 := isOf hp.2.1
           simp only [e8, e11] at hKO
           go_simp
           exact hKO _ W (Ext.refl W) rfl
          ·have e8 := isOf hp.1
           have e10 := isOf hp.2.1
           have e12 := isOf hp.2.2.1
           simp only [e8, e10, e12] at hKO
           go_simp
           exact hKO _ W (Ext.refl W) rfl
          ·have e8 := isOf hp.1
           have e13 := isOf hp.2.1
           simp only [e8, e13] at hKO
           go_simp
           exact hKO _ W (Ext.refl W) rfl
          ·have e14 := isOf hp.1
           simp only [e14] at hKO
           go_simp
           exact hKO _ W (Ext.refl W) rfl
         intro vs W6 hS hp
         clear szw6 E0 p2
         obtain ⟨E0, p2, sz6⟩ := hS
         obtain ⟨h6_0, h6_1, h6_2, h6_3, h6_4, h6_5, h6_6, h6_7, h6_8, h6_9, h6_10, h6_11, h6_12, h6_13, h6_14, h6_15, -⟩ := hp
         replace h6_0 : vs 0 = .pointer (some ⟨w.heap.size, 5, none⟩) := h6_0
         replace h6_1 : vs 1 = .int .i64 vv := h6_1
         replace h6_2 : vs 2 = .bool true := h6_2
         replace h6_3 : vs 3 = .bool true := h6_3
         replace h6_4 : vs 4 = .pointer (some ⟨w.heap.size, 2, none⟩) := h6_4
         replace h6_5 : vs 5 = .int .i64 rr := h6_5
         replace h6_6 : vs 6 = .bool true := h6_6
         replace h6_7 : vs 7 = .bool true := h6_7
         replace h6_8 : vs 8 = .bool true := h6_8
         replace h6_9 : vs 9 = .pointer (some ⟨w.heap.size, 2, none⟩) := h6_9
         replace h6_10 : vs 10 = .int .i64 rr := h6_10
         replace h6_11 : vs 11 = .int .i64 (K : Int) := h6_11
         replace h6_12 : vs 12 = .int .i64 (P : Int) := h6_12
         replace h6_13 : vs 13 = .bool false := h6_13
         replace h6_14 : vs 14 = .bool false := h6_14
         replace h6_15 : vs 15 = .bool false := h6_15
         simp only [h6_0, h6_1, h6_2, h6_3, h6_4, h6_5, h6_6, h6_7, h6_8, h6_9, h6_10, h6_11, h6_12, h6_13, h6_14, h6_15]
         clear h6_0 h6_1 h6_2 h6_3 h6_4 h6_5 h6_6 h6_7 h6_8 h6_9 h6_10 h6_11 h6_12 h6_13 h6_14 h6_15
         obtain ⟨kp2_0, kp2_1, kp2_2, kp2_3, kp2_4, kp2_5, kp2_6, kp2_7⟩ := p2.cells8
         go_wp2
         go_ret
         exact ⟨by rw [HR.out]; rfl, E0⟩
       ·have hr1 : ¬ 0 ≤ rr := by omega
        have hr1d : decide (0 ≤ rr) = false := decide_eq_false hr1
        have HR : Hid (rightS 2 bb rr ee ww vv ll pp (K : Int) = false) := Lib.hid (by refine Bool.eq_false_iff.2 (fun h => ?_); have := rightS_iff.1 h; rw [Int.toNat_natCast, ← hP] at this; omega)
        have HI0 : Hid (inB (K : Int) 0 40 = true) := Lib.hid (inB_t (by omega) (by omega))
        have HI1 : Hid (inB 2 0 3 = true) := Lib.hid (inB_t (by omega) (by omega))
        have HI2 : Hid (inB ww 0 1000000 = true) := Lib.hid (inB_t (by omega) (by omega))
        have HI3 : Hid (inB vv 1 1000000 = true) := Lib.hid (inB_t (by omega) (by omega))
        have HP := Lib.hid hP
        clear hP
        obtain ⟨W0, hW0⟩ : ∃ W0, W0 = (w.alloc (.cells #[.int .i64 2, .int .i64 bb, .int .i64 rr, .int .i64 ee, .int .i64 ww, .int .i64 vv, .int .i64 ll, .int .i64 pp] 23)) := ⟨_, rfl⟩
        have E0 : Ext w W0 := by rw [hW0]; exact (Ext.alloc1 w (.cells #[.int .i64 2, .int .i64 bb, .int .i64 rr, .int .i64 ee, .int .i64 ww, .int .i64 vv, .int .i64 ll, .int .i64 pp] 23))
        have p2 : BxA W0 w.heap.size 23 #[.int .i64 2, .int .i64 bb, .int .i64 rr, .int .i64 ee, .int .i64 ww, .int .i64 vv, .int .i64 ll, .int .i64 pp] := by rw [hW0]; exact (BxA.new w 23 #[.int .i64 2, .int .i64 bb, .int .i64 rr, .int .i64 ee, .int .i64 ww, .int .i64 vv, .int .i64 ll, .int .i64 pp])
        go_enter Tryz.func7, Tryz.ntmps7
        obtain ⟨kp2_0, kp2_1, kp2_2, kp2_3, kp2_4, kp2_5, kp2_6, kp2_7⟩ := p2.cells8
        go_wp2_with fail
        rw [← hW0]
        clear hW0
        clear kp2_0 kp2_1 kp2_2 kp2_3 kp2_4 kp2_5 kp2_6 kp2_7
        refine (Tryz.schedIn (K : Int) 0 40 _).mono ?_
        rintro e Wc ⟨rfl, rfl⟩
        rw [HI0.out]
        obtain ⟨kp2_0, kp2_1, kp2_2, kp2_3, kp2_4, kp2_5, kp2_6, kp2_7⟩ := p2.cells8
        go_wp2_with fail
        clear kp2_0 kp2_1 kp2_2 kp2_3 kp2_4 kp2_5 kp2_6 kp2_7
        refine (Tryz.schedIn 2 0 3 _).mono ?_
        rintro e Wc ⟨rfl, rfl⟩
        rw [HI1.out]
        obtain ⟨kp2_0, kp2_1, kp2_2, kp2_3, kp2_4, kp2_5, kp2_6, kp2_7⟩ := p2.cells8
        go_wp2_with fail
        clear kp2_0 kp2_1 kp2_2 kp2_3 kp2_4 kp2_5 kp2_6 kp2_7
        refine (Tryz.schedIn ww 0 1000000 _).mono ?_
        rintro e Wc ⟨rfl, rfl⟩
        rw [HI2.out]
        obtain ⟨kp2_0, kp2_1, kp2_2, kp2_3, kp2_4, kp2_5, kp2_6, kp2_7⟩ := p2.cells8
        go_upto_region 5 with (fail)
        clear kp2_0 kp2_1 kp2_2 kp2_3 kp2_4 kp2_5 kp2_6 kp2_7
        have ltp2 := p2.lt
        have szw7 := Ext.size E0
        refine region_go [.one fun v _ => v = .pointer (some ⟨w.heap.size, 5, none⟩),
          .one fun v _ => v = .int .i64 vv,
          .one fun v _ => v = .bool true,
          .one fun v _ => v = .bool true,
          .one fun v _ => v = .pointer (some ⟨w.heap.size, 2, none⟩),
          .one fun v _ => v = .int .i64 rr,
          .one fun v _ => v = .bool false,
          .one fun v _ => v = .bool false,
          .one fun v _ => v = .bool false,
          .one fun v _ => v = undef,
          .one fun v _ => v = undef,
          .one fun v _ => v = undef,
          .one fun v _ => v = undef,
          .one fun v _ => v = undef,
          .one fun v _ => v = .bool false,
          .one fun v _ => v = .bool false]
         (fun W => Ext w W ∧ BxA W w.heap.size 23 #[.int .i64 2, .int .i64 bb, .int .i64 rr, .int .i64 ee, .int .i64 ww, .int .i64 vv, .int .i64 ll, .int .i64 pp] ∧ W0.heap.size ≤ W.heap.size) ⟨Good.is _, Good.is _, Good.is _, Good.is _, Good.is _, Good.is _, Good.is _, Good.is _, Good.is _, Good.is _, Good.is _, Good.is _, Good.is _, Good.is _, Good.is _, Good.is _, trivial⟩
         (fun W W1 hS hE => ⟨(Ext.trans hS.1 hE), (hS.2.1.ext hE), (Nat.le_trans hS.2.2 (Ext.size hE))⟩) ⟨E0, p2, Nat.le_refl _⟩ (by kernel_rfl) (by kernel_rfl) (by kernel_rfl) (by kernel_rfl) (A := ?A7) ?hA7 ?howe7 ?hfin7
        case hA7 =>
         intro vs
         simp only [putAll, Act.put, List.setIfInBounds_toArray, List.set_cons_zero, List.set_cons_succ, Nat.zero_add, Nat.reduceAdd]
         exact rfl
        case howe7 =>
         clear E0 p2
         intro hf
         refine ⟨owesE 0 [] hf rfl (by kernel_rfl) ?_, owesE 1 [0] hf rfl (by kernel_rfl) ?_, owesE 2 [1] hf rfl (by kernel_rfl) ?_, owesE 3 [2] hf rfl (by kernel_rfl) ?_, owesE 4 [3] hf rfl (by kernel_rfl) ?_, owesE 5 [3, 4] hf rfl (by kernel_rfl) ?_, owesE 6 [3, 5] hf rfl (by kernel_rfl) ?_, owesE 7 [3, 6] hf rfl (by kernel_rfl) ?_, owesE 8 [7] hf rfl (by kernel_rfl) ?_, owesE 9 [8] hf rfl (by kernel_rfl) ?_, owesE 10 [8] hf rfl (by kernel_rfl) ?_, owesE 11 [8] hf rfl (by kernel_rfl) ?_, owesE 12 [8] hf rfl (by kernel_rfl) ?_, owesE 13 [8] hf rfl (by kernel_rfl) ?_, owesE 14 [8, 13] hf rfl (by kernel_rfl) ?_, owesE 15 [14] hf rfl (by kernel_rfl) ?_, trivial⟩
         all_goals intro vs W hS hp hx KO hKO
         all_goals simp only [Act.put, List.setIfInBounds_toArray, List.set_cons_zero, List.set_cons_succ] at hKO
         ·go_simp
          exact hKO _ W (Ext.refl W) rfl
         ·have e0 := isOf hp.1
          simp only [e0] at hKO
          have fc5 := BxA.cell (hS.2.1) 5 (v := .int .i64 vv) rfl
          go_simp
          exact hKO _ W (Ext.refl W) rfl
         ·have e1 := isOf hp.1
          simp only [e1] at hKO
          go_simp
          refine (Tryz.schedIn vv 1 1000000 _).mono ?_
          rintro e W1 ⟨rfl, rfl⟩
          rw [HI3.out]
          exact hKO _ W (Ext.refl W) rfl
         ·have e2 := isOf hp.1
          simp only [e2] at hKO
          go_simp
          exact hKO _ W (Ext.refl W) rfl
         ·have e3 := isOf hp.1
          simp only [e3] at hKO
          go_simp
          exact hKO _ W (Ext.refl W) rfl
         ·have e3 := isOf hp.1
          have e4 := isOf hp.2.1
          simp only [e3, e4] at hKO
          have fc2 := BxA.cell (hS.2.1) 2 (v := .int .i64 rr) rfl
          go_simp
          exact hKO _ W (Ext.refl W) rfl
         ·have e3 := isOf hp.1
          have e5 := isOf hp.2.1
          simp only [e3, e5] at hKO
          go_simp
          exact hKO _ W (Ext.refl W) rfl
         ·have e3 := isOf hp.1
          have e6 := isOf hp.2.1
          simp only [e3, e6] at hKO
          go_simp
          exact hKO _ W (Ext.refl W) rfl
         ·have e7 := isOf hp.1
          simp only [e7] at hKO
          go_simp
          exact hKO _ W (Ext.refl W) rfl
         ·have e8 := isOf hp.1
          simp only [e8] at hKO
          go_simp
          exact hKO _ W (Ext.refl W) rfl
         ·have e8 := isOf hp.1
          simp only [e8] at hKO
          go_simp
          exact hKO _ W (Ext.refl W) rfl
         ·have e8 := isOf hp.1
          simp only [e8] at hKO
          go_simp
          exact hKO _ W (Ext.refl W) rfl
         ·have e8 := isOf hp.1
          simp only [e8] at hKO
          go_simp
          exact hKO _ W (Ext.refl W) rfl
         ·have e8 := isOf hp.1
          simp only [e8] at hKO
          go_simp
          exact hKO _ W (Ext.refl W) rfl
         ·have e8 := isOf hp.1
          have e13 := isOf hp.2.1
          simp only [e8, e13] at hKO
          go_simp
          exact hKO _ W (Ext.refl W) rfl
         ·have e14 := isOf hp.1
          simp only [e14] at hKO
          go_simp
          exact hKO _ W (Ext.refl W) rfl
        intro vs W7 hS hp
        clear szw7 E0 p2
        obtain ⟨E0, p2, sz7⟩ := hS
        obtain ⟨h7_0, h7_1, h7_2, h7_3, h7_4, h7_5, h7_6, h7_7, h7_8, h7_9, h7_10, h7_11, h7_12, h7_13, h7_14, h7_15, -⟩ := hp
        replace h7_0 : vs 0 = .pointer (some ⟨w.heap.size, 5, none⟩) := h7_0
        replace h7_1 : vs 1 = .int .i64 vv := h7_1
        replace h7_2 : vs 2 = .bool true := h7_2
        replace h7_3 : vs 3 = .bool true := h7_3
        replace h7_4 : vs 4 = .pointer (some ⟨w.heap.size, 2, none⟩) := h7_4
        replace h7_5 : vs 5 = .int .i64 rr := h7_5
        replace h7_6 : vs 6 = .bool false := h7_6
        replace h7_7 : vs 7 = .bool false := h7_7
        replace h7_8 : vs 8 = .bool false := h7_8
        replace h7_9 : vs 9 = undef := h7_9
        replace h7_10 : vs 10 = undef := h7_10
        replace h7_11 : vs 11 = undef := h7_11
        replace h7_12 : vs 12 = undef := h7_12
        replace h7_13 : vs 13 = undef := h7_13
        replace h7_14 : vs 14 = .bool false := h7_14
        replace h7_15 : vs 15 = .bool false := h7_15
        simp only [h7_0, h7_1, h7_2, h7_3, h7_4, h7_5, h7_6, h7_7, h7_8, h7_9, h7_10, h7_11, h7_12, h7_13, h7_14, h7_15]
        clear h7_0 h7_1 h7_2 h7_3 h7_4 h7_5 h7_6 h7_7 h7_8 h7_9 h7_10 h7_11 h7_12 h7_13 h7_14 h7_15
        obtain ⟨kp2_0, kp2_1, kp2_2, kp2_3, kp2_4, kp2_5, kp2_6, kp2_7⟩ := p2.cells8
        go_wp2
        go_ret
        exact ⟨by rw [HR.out]; rfl, E0⟩
      ·have HR : Hid (rightS 2 bb rr ee ww vv ll pp (K : Int) = false) := Lib.hid (by refine Bool.eq_false_iff.2 (fun h => ?_); have := rightS_iff.1 h; rw [Int.toNat_natCast, ← hP] at this; omega)
       have HI0 : Hid (inB (K : Int) 0 40 = true) := Lib.hid (inB_t (by omega) (by omega))
       have HI1 : Hid (inB 2 0 3 = true) := Lib.hid (inB_t (by omega) (by omega))
       have HI2 : Hid (inB ww 0 1000000 = true) := Lib.hid (inB_t (by omega) (by omega))
       have HI3 : Hid (inB vv 1 1000000 = false) := Lib.hid (inB_f (by omega))
       have HP := Lib.hid hP
       clear hP
       obtain ⟨W0, hW0⟩ : ∃ W0, W0 = (w.alloc (.cells #[.int .i64 2, .int .i64 bb, .int .i64 rr, .int .i64 ee, .int .i64 ww, .int .i64 vv, .int .i64 ll, .int .i64 pp] 23)) := ⟨_, rfl⟩
       have E0 : Ext w W0 := by rw [hW0]; exact (Ext.alloc1 w (.cells #[.int .i64 2, .int .i64 bb, .int .i64 rr, .int .i64 ee, .int .i64 ww, .int .i64 vv, .int .i64 ll, .int .i64 pp] 23))
       have p2 : BxA W0 w.heap.size 23 #[.int .i64 2, .int .i64 bb, .int .i64 rr, .int .i64 ee, .int .i64 ww, .int .i64 vv, .int .i64 ll, .int .i64 pp] := by rw [hW0]; exact (BxA.new w 23 #[.int .i64 2, .int .i64 bb, .int .i64 rr, .int .i64 ee, .int .i64 ww, .int .i64 vv, .int .i64 ll, .int .i64 pp])
       go_enter Tryz.func7, Tryz.ntmps7
       obtain ⟨kp2_0, kp2_1, kp2_2, kp2_3, kp2_4, kp2_5, kp2_6, kp2_7⟩ := p2.cells8
       go_wp2_with fail
       rw [← hW0]
       clear hW0
       clear kp2_0 kp2_1 kp2_2 kp2_3 kp2_4 kp2_5 kp2_6 kp2_7
       refine (Tryz.schedIn (K : Int) 0 40 _).mono ?_
       rintro e Wc ⟨rfl, rfl⟩
       rw [HI0.out]
       obtain ⟨kp2_0, kp2_1, kp2_2, kp2_3, kp2_4, kp2_5, kp2_6, kp2_7⟩ := p2.cells8
       go_wp2_with fail
       clear kp2_0 kp2_1 kp2_2 kp2_3 kp2_4 kp2_5 kp2_6 kp2_7
       refine (Tryz.schedIn 2 0 3 _).mono ?_
       rintro e Wc ⟨rfl, rfl⟩
       rw [HI1.out]
       obtain ⟨kp2_0, kp2_1, kp2_2, kp2_3, kp2_4, kp2_5, kp2_6, kp2_7⟩ := p2.cells8
       go_wp2_with fail
       clear kp2_0 kp2_1 kp2_2 kp2_3 kp2_4 kp2_5 kp2_6 kp2_7
       refine (Tryz.schedIn ww 0 1000000 _).mono ?_
       rintro e Wc ⟨rfl, rfl⟩
       rw [HI2.out]
       obtain ⟨kp2_0, kp2_1, kp2_2, kp2_3, kp2_4, kp2_5, kp2_6, kp2_7⟩ := p2.cells8
       go_upto_region 5 with (fail)
       clear kp2_0 kp2_1 kp2_2 kp2_3 kp2_4 kp2_5 kp2_6 kp2_7
       have ltp2 := p2.lt
       have szw8 := Ext.size E0
       refine region_go [.one fun v _ => v = .pointer (some ⟨w.heap.size, 5, none⟩),
         .one fun v _ => v = .int .i64 vv,
         .one fun v _ => v = .bool false,
         .one fun v _ => v = .bool false,
         .one fun v _ => v = undef,
         .one fun v _ => v = undef,
         .one fun v _ => v = undef,
         .one fun v _ => v = .bool false,
         .one fun v _ => v = .bool false,
         .one fun v _ => v = undef,
         .one fun v _ => v = undef,
         .one fun v _ => v = undef,
         .one fun v _ => v = undef,
         .one fun v _ => v = undef,
         .one fun v _ => v = .bool false,
         .one fun v _ => v = .bool false]
        (fun W => Ext w W ∧ BxA W w.heap.size 23 #[.int .i64 2, .int .i64 bb, .int .i64 rr, .int .i64 ee, .int .i64 ww, .int .i64 vv, .int .i64 ll, .int .i64 pp] ∧ W0.heap.size ≤ W.heap.size) ⟨Good.is _, Good.is _, Good.is _, Good.is _, Good.is _, Good.is _, Good.is _, Good.is _, Good.is _, Good.is _, Good.is _, Good.is _, Good.is _, Good.is _, Good.is _, Good.is _, trivial⟩
        (fun W W1 hS hE => ⟨(Ext.trans hS.1 hE), (hS.2.1.ext hE), (Nat.le_trans hS.2.2 (Ext.size hE))⟩) ⟨E0, p2, Nat.le_refl _⟩ (by kernel_rfl) (by kernel_rfl) (by kernel_rfl) (by kernel_rfl) (A := ?A8) ?hA8 ?howe8 ?hfin8
       case hA8 =>
        intro vs
        simp only [putAll, Act.put, List.setIfInBounds_toArray, List.set_cons_zero, List.set_cons_succ, Nat.zero_add, Nat.reduceAdd]
        exact rfl
       case howe8 =>
        clear E0 p2
        intro hf
        refine ⟨owesE 0 [] hf rfl (by kernel_rfl) ?_, owesE 1 [0] hf rfl (by kernel_rfl) ?_, owesE 2 [1] hf rfl (by kernel_rfl) ?_, owesE 3 [2] hf rfl (by kernel_rfl) ?_, owesE 4 [3] hf rfl (by kernel_rfl) ?_, owesE 5 [3] hf rfl (by kernel_rfl) ?_, owesE 6 [3] hf rfl (by kernel_rfl) ?_, owesE 7 [3, 6] hf rfl (by kernel_rfl) ?_, owesE 8 [7] hf rfl (by kernel_rfl) ?_, owesE 9 [8] hf rfl (by kernel_rfl) ?_, owesE 10 [8] hf rfl (by kernel_rfl) ?_, owesE 11 [8] hf rfl (by kernel_rfl) ?_, owesE 12 [8] hf rfl (by kernel_rfl) ?_, owesE 13 [8] hf rfl (by kernel_rfl) ?_, owesE 14 [8, 13] hf rfl (by kernel_rfl) ?_, owesE 15 [14] hf rfl (by kernel_rfl) ?_, trivial⟩
        all_goals intro vs W hS hp hx KO hKO
        all_goals simp only [Act.put, List.setIfInBounds_toArray, List.set_cons_zero, List.set_cons_succ] at hKO
        ·go_simp
         exact hKO _ W (Ext.refl W) rfl
        ·have e0 := isOf hp.1
         simp only [e0] at hKO
         have fc5 := BxA.cell (hS.2.1) 5 (v := .int .i64 vv) rfl
         go_simp
         exact hKO _ W (Ext.refl W) rfl
        ·have e1 := isOf hp.1
         simp only [e1] at hKO
         go_simp
         refine (Tryz.schedIn vv 1 1000000 _).mono ?_
         rintro e W1 ⟨rfl, rfl⟩
         rw [HI3.out]
         exact hKO _ W (Ext.refl W) rfl
        ·have e2 := isOf hp.1
         simp only [e2] at hKO
         go_simp
         exact hKO _ W (Ext.refl W) rfl
        ·have e3 := isOf hp.1
         simp only [e3] at hKO
         go_simp
         exact hKO _ W (Ext.refl W) rfl
        ·have e3 := isOf hp.1
         simp only [e3] at hKO
         go_simp
         exact hKO _ W (Ext.refl W) rfl
        ·have e3 := isOf hp.1
         simp only [e3] at hKO
         go_simp
         exact hKO _ W (Ext.refl W) rfl
        ·have e3 := isOf hp.1
         have e6 := isOf hp.2.1
         simp only [e3, e6] at hKO
         go_simp
         exact hKO _ W (Ext.refl W) rfl
        ·have e7 := isOf hp.1
         simp only [e7] at hKO
         go_simp
         exact hKO _ W (Ext.refl W) rfl
        ·have e8 := isOf hp.1
         simp only [e8] at hKO
         go_simp
         exact hKO _ W (Ext.refl W) rfl
        ·have e8 := isOf hp.1
         simp only [e8] at hKO
         go_simp
         exact hKO _ W (Ext.refl W) rfl
        ·have e8 := isOf hp.1
         simp only [e8] at hKO
         go_simp
         exact hKO _ W (Ext.refl W) rfl
        ·have e8 := isOf hp.1
         simp only [e8] at hKO
         go_simp
         exact hKO _ W (Ext.refl W) rfl
        ·have e8 := isOf hp.1
         simp only [e8] at hKO
         go_simp
         exact hKO _ W (Ext.refl W) rfl
        ·have e8 := isOf hp.1
         have e13 := isOf hp.2.1
         simp only [e8, e13] at hKO
         go_simp
         exact hKO _ W (Ext.refl W) rfl
        ·have e14 := isOf hp.1
         simp only [e14] at hKO
         go_simp
         exact hKO _ W (Ext.refl W) rfl
       intro vs W8 hS hp
       clear szw8 E0 p2
       obtain ⟨E0, p2, sz8⟩ := hS
       obtain ⟨h8_0, h8_1, h8_2, h8_3, h8_4, h8_5, h8_6, h8_7, h8_8, h8_9, h8_10, h8_11, h8_12, h8_13, h8_14, h8_15, -⟩ := hp
       replace h8_0 : vs 0 = .pointer (some ⟨w.heap.size, 5, none⟩) := h8_0
       replace h8_1 : vs 1 = .int .i64 vv := h8_1
       replace h8_2 : vs 2 = .bool false := h8_2
       replace h8_3 : vs 3 = .bool false := h8_3
       replace h8_4 : vs 4 = undef := h8_4
       replace h8_5 : vs 5 = undef := h8_5
       replace h8_6 : vs 6 = undef := h8_6
       replace h8_7 : vs 7 = .bool false := h8_7
       replace h8_8 : vs 8 = .bool false := h8_8
       replace h8_9 : vs 9 = undef := h8_9
       replace h8_10 : vs 10 = undef := h8_10
       replace h8_11 : vs 11 = undef := h8_11
       replace h8_12 : vs 12 = undef := h8_12
       replace h8_13 : vs 13 = undef := h8_13
       replace h8_14 : vs 14 = .bool false := h8_14
       replace h8_15 : vs 15 = .bool false := h8_15
       simp only [h8_0, h8_1, h8_2, h8_3, h8_4, h8_5, h8_6, h8_7, h8_8, h8_9, h8_10, h8_11, h8_12, h8_13, h8_14, h8_15]
       clear h8_0 h8_1 h8_2 h8_3 h8_4 h8_5 h8_6 h8_7 h8_8 h8_9 h8_10 h8_11 h8_12 h8_13 h8_14 h8_15
       obtain ⟨kp2_0, kp2_1, kp2_2, kp2_3, kp2_4, kp2_5, kp2_6, kp2_7⟩ := p2.cells8
       go_wp2
       go_ret
       exact ⟨by rw [HR.out]; rfl, E0⟩
     ·by_cases h7 : 1 ≤ ll ∧ ll ≤ 1000000
      ·by_cases h8 : 1 ≤ pp ∧ pp ≤ 8
       ·by_cases h9 : 0 ≤ ee
        ·have he1d : decide (0 ≤ ee) = true := decide_eq_true (by assumption)
         by_cases h10 : ee ≤ bb
         ·have he2d : decide (ee ≤ bb) = true := decide_eq_true (by assumption)
          have HR : Hid (rightS 3 bb rr ee ww vv ll pp ff = true) := Lib.hid (by rw [rightS_iff]; omega)
          have HI0 : Hid (inB ff 0 40 = true) := Lib.hid (inB_t (by omega) (by omega))
          have HI1 : Hid (inB 3 0 3 = true) := Lib.hid (inB_t (by omega) (by omega))
          have HI2 : Hid (inB ww 0 1000000 = true) := Lib.hid (inB_t (by omega) (by omega))
          have HI3 : Hid (inB ll 1 1000000 = true) := Lib.hid (inB_t (by omega) (by omega))
          have HI4 : Hid (inB pp 1 8 = true) := Lib.hid (inB_t (by omega) (by omega))
          obtain ⟨W0, hW0⟩ : ∃ W0, W0 = (w.alloc (.cells #[.int .i64 3, .int .i64 bb, .int .i64 rr, .int .i64 ee, .int .i64 ww, .int .i64 vv, .int .i64 ll, .int .i64 pp] 23)) := ⟨_, rfl⟩
          have E0 : Ext w W0 := by rw [hW0]; exact (Ext.alloc1 w (.cells #[.int .i64 3, .int .i64 bb, .int .i64 rr, .int .i64 ee, .int .i64 ww, .int .i64 vv, .int .i64 ll, .int .i64 pp] 23))
          have p2 : BxA W0 w.heap.size 23 #[.int .i64 3, .int .i64 bb, .int .i64 rr, .int .i64 ee, .int .i64 ww, .int .i64 vv, .int .i64 ll, .int .i64 pp] := by rw [hW0]; exact (BxA.new w 23 #[.int .i64 3, .int .i64 bb, .int .i64 rr, .int .i64 ee, .int .i64 ww, .int .i64 vv, .int .i64 ll, .int .i64 pp])
          go_enter Tryz.func7, Tryz.ntmps7
          obtain ⟨kp2_0, kp2_1, kp2_2, kp2_3, kp2_4, kp2_5, kp2_6, kp2_7⟩ := p2.cells8
          go_wp2_with fail
          rw [← hW0]
          clear hW0
          clear kp2_0 kp2_1 kp2_2 kp2_3 kp2_4 kp2_5 kp2_6 kp2_7
          refine (Tryz.schedIn ff 0 40 _).mono ?_
          rintro e Wc ⟨rfl, rfl⟩
          rw [HI0.out]
          obtain ⟨kp2_0, kp2_1, kp2_2, kp2_3, kp2_4, kp2_5, kp2_6, kp2_7⟩ := p2.cells8
          go_wp2_with fail
          clear kp2_0 kp2_1 kp2_2 kp2_3 kp2_4 kp2_5 kp2_6 kp2_7
          refine (Tryz.schedIn 3 0 3 _).mono ?_
          rintro e Wc ⟨rfl, rfl⟩
          rw [HI1.out]
          obtain ⟨kp2_0, kp2_1, kp2_2, kp2_3, kp2_4, kp2_5, kp2_6, kp2_7⟩ := p2.cells8
          go_wp2_with fail
          clear kp2_0 kp2_1 kp2_2 kp2_3 kp2_4 kp2_5 kp2_6 kp2_7
          refine (Tryz.schedIn ww 0 1000000 _).mono ?_
          rintro e Wc ⟨rfl, rfl⟩
          rw [HI2.out]
          obtain ⟨kp2_0, kp2_1, kp2_2, kp2_3, kp2_4, kp2_5, kp2_6, kp2_7⟩ := p2.cells8
          go_wp2_with fail
          clear kp2_0 kp2_1 kp2_2 kp2_3 kp2_4 kp2_5 kp2_6 kp2_7
          refine (Tryz.schedIn ll 1 1000000 _).mono ?_
          rintro e Wc ⟨rfl, rfl⟩
          rw [HI3.out]
          obtain ⟨kp2_0, kp2_1, kp2_2, kp2_3, kp2_4, kp2_5, kp2_6, kp2_7⟩ := p2.cells8
          go_wp2_with fail
          clear kp2_0 kp2_1 kp2_2 kp2_3 kp2_4 kp2_5 kp2_6 kp2_7
          refine (Tryz.schedIn pp 1 8 _).mono ?_
          rintro e Wc ⟨rfl, rfl⟩
          rw [HI4.out]
          obtain ⟨kp2_0, kp2_1, kp2_2, kp2_3, kp2_4, kp2_5, kp2_6, kp2_7⟩ := p2.cells8
          go_wp2
          go_ret
          exact ⟨by rw [HR.out]; rfl, E0⟩
         ·have he2 : ¬ ee ≤ bb := by omega
          have he2d : decide (ee ≤ bb) = false := decide_eq_false he2
          have HR : Hid (rightS 3 bb rr ee ww vv ll pp ff = false) := Lib.hid (by refine Bool.eq_false_iff.2 (fun h => ?_); have := rightS_iff.1 h; omega)
          have HI0 : Hid (inB ff 0 40 = true) := Lib.hid (inB_t (by omega) (by omega))
          have HI1 : Hid (inB 3 0 3 = true) := Lib.hid (inB_t (by omega) (by omega))
          have HI2 : Hid (inB ww 0 1000000 = true) := Lib.hid (inB_t (by omega) (by omega))
          have HI3 : Hid (inB ll 1 1000000 = true) := Lib.hid (inB_t (by omega) (by omega))
          have HI4 : Hid (inB pp 1 8 = true) := Lib.hid (inB_t (by omega) (by omega))
          obtain ⟨W0, hW0⟩ : ∃ W0, W0 = (w.alloc (.cells #[.int .i64 3, .int .i64 bb, .int .i64 rr, .int .i64 ee, .int .i64 ww, .int .i64 vv, .int .i64 ll, .int .i64 pp] 23)) := ⟨_, rfl⟩
          have E0 : Ext w W0 := by rw [hW0]; exact (Ext.alloc1 w (.cells #[.int .i64 3, .int .i64 bb, .int .i64 rr, .int .i64 ee, .int .i64 ww, .int .i64 vv, .int .i64 ll, .int .i64 pp] 23))
          have p2 : BxA W0 w.heap.size 23 #[.int .i64 3, .int .i64 bb, .int .i64 rr, .int .i64 ee, .int .i64 ww, .int .i64 vv, .int .i64 ll, .int .i64 pp] := by rw [hW0]; exact (BxA.new w 23 #[.int .i64 3, .int .i64 bb, .int .i64 rr, .int .i64 ee, .int .i64 ww, .int .i64 vv, .int .i64 ll, .int .i64 pp])
          go_enter Tryz.func7, Tryz.ntmps7
          obtain ⟨kp2_0, kp2_1, kp2_2, kp2_3, kp2_4, kp2_5, kp2_6, kp2_7⟩ := p2.cells8
          go_wp2_with fail
          rw [← hW0]
          clear hW0
          clear kp2_0 kp2_1 kp2_2 kp2_3 kp2_4 kp2_5 kp2_6 kp2_7
          refine (Tryz.schedIn ff 0 40 _).mono ?_
          rintro e Wc ⟨rfl, rfl⟩
          rw [HI0.out]
          obtain ⟨kp2_0, kp2_1, kp2_2, kp2_3, kp2_4, kp2_5, kp2_6, kp2_7⟩ := p2.cells8
          go_wp2_with fail
          clear kp2_0 kp2_1 kp2_2 kp2_3 kp2_4 kp2_5 kp2_6 kp2_7
          refine (Tryz.schedIn 3 0 3 _).mono ?_
          rintro e Wc ⟨rfl, rfl⟩
          rw [HI1.out]
          obtain ⟨kp2_0, kp2_1, kp2_2, kp2_3, kp2_4, kp2_5, kp2_6, kp2_7⟩ := p2.cells8
          go_wp2_with fail
          clear kp2_0 kp2_1 kp2_2 kp2_3 kp2_4 kp2_5 kp2_6 kp2_7
          refine (Tryz.schedIn ww 0 1000000 _).mono ?_
          rintro e Wc ⟨rfl, rfl⟩
          rw [HI2.out]
          obtain ⟨kp2_0, kp2_1, kp2_2, kp2_3, kp2_4, kp2_5, kp2_6, kp2_7⟩ := p2.cells8
          go_wp2_with fail
          clear kp2_0 kp2_1 kp2_2 kp2_3 kp2_4 kp2_5 kp2_6 kp2_7
          refine (Tryz.schedIn ll 1 1000000 _).mono ?_
          rintro e Wc ⟨rfl, rfl⟩
          rw [HI3.out]
          obtain ⟨kp2_0, kp2_1, kp2_2, kp2_3, kp2_4, kp2_5, kp2_6, kp2_7⟩ := p2.cells8
          go_wp2_with fail
          clear kp2_0 kp2_1 kp2_2 kp2_3 kp2_4 kp2_5 kp2_6 kp2_7
          refine (Tryz.schedIn pp 1 8 _).mono ?_
          rintro e Wc ⟨rfl, rfl⟩
          rw [HI4.out]
          obtain ⟨kp2_0, kp2_1, kp2_2, kp2_3, kp2_4, kp2_5, kp2_6, kp2_7⟩ := p2.cells8
          go_wp2
          go_ret
          exact ⟨by rw [HR.out]; rfl, E0⟩
        ·have he1 : ¬ 0 ≤ ee := by omega
         have he1d : decide (0 ≤ ee) = false := decide_eq_false he1
         have HR : Hid (rightS 3 bb rr ee ww vv ll pp ff = false) := Lib.hid (by refine Bool.eq_false_iff.2 (fun h => ?_); have := rightS_iff.1 h; omega)
         have HI0 : Hid (inB ff 0 40 = true) := Lib.hid (inB_t (by omega) (by omega))
         have HI1 : Hid (inB 3 0 3 = true) := Lib.hid (inB_t (by omega) (by omega))
         have HI2 : Hid (inB ww 0 1000000 = true) := Lib.hid (inB_t (by omega) (by omega))
         have HI3 : Hid (inB ll 1 1000000 = true) := Lib.hid (inB_t (by omega) (by omega))
         have HI4 : Hid (inB pp 1 8 = true) := Lib.hid (inB_t (by omega) (by omega))
         obtain ⟨W0, hW0⟩ : ∃ W0, W0 = (w.alloc (.cells #[.int .i64 3, .int .i64 bb, .int .i64 rr, .int .i64 ee, .int .i64 ww, .int .i64 vv, .int .i64 ll, .int .i64 pp] 23)) := ⟨_, rfl⟩
         have E0 : Ext w W0 := by rw [hW0]; exact (Ext.alloc1 w (.cells #[.int .i64 3, .int .i64 bb, .int .i64 rr, .int .i64 ee, .int .i64 ww, .int .i64 vv, .int .i64 ll, .int .i64 pp] 23))
         have p2 : BxA W0 w.heap.size 23 #[.int .i64 3, .int .i64 bb, .int .i64 rr, .int .i64 ee, .int .i64 ww, .int .i64 vv, .int .i64 ll, .int .i64 pp] := by rw [hW0]; exact (BxA.new w 23 #[.int .i64 3, .int .i64 bb, .int .i64 rr, .int .i64 ee, .int .i64 ww, .int .i64 vv, .int .i64 ll, .int .i64 pp])
         go_enter Tryz.func7, Tryz.ntmps7
         obtain ⟨kp2_0, kp2_1, kp2_2, kp2_3, kp2_4, kp2_5, kp2_6, kp2_7⟩ := p2.cells8
         go_wp2_with fail
         rw [← hW0]
         clear hW0
         clear kp2_0 kp2_1 kp2_2 kp2_3 kp2_4 kp2_5 kp2_6 kp2_7
         refine (Tryz.schedIn ff 0 40 _).mono ?_
         rintro e Wc ⟨rfl, rfl⟩
         rw [HI0.out]
         obtain ⟨kp2_0, kp2_1, kp2_2, kp2_3, kp2_4, kp2_5, kp2_6, kp2_7⟩ := p2.cells8
         go_wp2_with fail
         clear kp2_0 kp2_1 kp2_2 kp2_3 kp2_4 kp2_5 kp2_6 kp2_7
         refine (Tryz.schedIn 3 0 3 _).mono ?_
         rintro e Wc ⟨rfl, rfl⟩
         rw [HI1.out]
         obtain ⟨kp2_0, kp2_1, kp2_2, kp2_3, kp2_4, kp2_5, kp2_6, kp2_7⟩ := p2.cells8
         go_wp2_with fail
         clear kp2_0 kp2_1 kp2_2 kp2_3 kp2_4 kp2_5 kp2_6 kp2_7
         refine (Tryz.schedIn ww 0 1000000 _).mono ?_
         rintro e Wc ⟨rfl, rfl⟩
         rw [HI2.out]
         obtain ⟨kp2_0, kp2_1, kp2_2, kp2_3, kp2_4, kp2_5, kp2_6, kp2_7⟩ := p2.cells8
         go_wp2_with fail
         clear kp2_0 kp2_1 kp2_2 kp2_3 kp2_4 kp2_5 kp2_6 kp2_7
         refine (Tryz.schedIn ll 1 1000000 _).mono ?_
         rintro e Wc ⟨rfl, rfl⟩
         rw [HI3.out]
         obtain ⟨kp2_0, kp2_1, kp2_2, kp2_3, kp2_4, kp2_5, kp2_6, kp2_7⟩ := p2.cells8
         go_wp2_with fail
         clear kp2_0 kp2_1 kp2_2 kp2_3 kp2_4 kp2_5 kp2_6 kp2_7
         refine (Tryz.schedIn pp 1 8 _).mono ?_
         rintro e Wc ⟨rfl, rfl⟩
         rw [HI4.out]
         obtain ⟨kp2_0, kp2_1, kp2_2, kp2_3, kp2_4, kp2_5, kp2_6, kp2_7⟩ := p2.cells8
         go_wp2
         go_ret
         exact ⟨by rw [HR.out]; rfl, E0⟩
       ·have HR : Hid (rightS 3 bb rr ee ww vv ll pp ff = false) := Lib.hid (by refine Bool.eq_false_iff.2 (fun h => ?_); have := rightS_iff.1 h; omega)
        have HI0 : Hid (inB ff 0 40 = true) := Lib.hid (inB_t (by omega) (by omega))
        have HI1 : Hid (inB 3 0 3 = true) := Lib.hid (inB_t (by omega) (by omega))
        have HI2 : Hid (inB ww 0 1000000 = true) := Lib.hid (inB_t (by omega) (by omega))
        have HI3 : Hid (inB ll 1 1000000 = true) := Lib.hid (inB_t (by omega) (by omega))
        have HI4 : Hid (inB pp 1 8 = false) := Lib.hid (inB_f (by omega))
        obtain ⟨W0, hW0⟩ : ∃ W0, W0 = (w.alloc (.cells #[.int .i64 3, .int .i64 bb, .int .i64 rr, .int .i64 ee, .int .i64 ww, .int .i64 vv, .int .i64 ll, .int .i64 pp] 23)) := ⟨_, rfl⟩
        have E0 : Ext w W0 := by rw [hW0]; exact (Ext.alloc1 w (.cells #[.int .i64 3, .int .i64 bb, .int .i64 rr, .int .i64 ee, .int .i64 ww, .int .i64 vv, .int .i64 ll, .int .i64 pp] 23))
        have p2 : BxA W0 w.heap.size 23 #[.int .i64 3, .int .i64 bb, .int .i64 rr, .int .i64 ee, .int .i64 ww, .int .i64 vv, .int .i64 ll, .int .i64 pp] := by rw [hW0]; exact (BxA.new w 23 #[.int .i64 3, .int .i64 bb, .int .i64 rr, .int .i64 ee, .int .i64 ww, .int .i64 vv, .int .i64 ll, .int .i64 pp])
        go_enter Tryz.func7, Tryz.ntmps7
        obtain ⟨kp2_0, kp2_1, kp2_2, kp2_3, kp2_4, kp2_5, kp2_6, kp2_7⟩ := p2.cells8
        go_wp2_with fail
        rw [← hW0]
        clear hW0
        clear kp2_0 kp2_1 kp2_2 kp2_3 kp2_4 kp2_5 kp2_6 kp2_7
        refine (Tryz.schedIn ff 0 40 _).mono ?_
        rintro e Wc ⟨rfl, rfl⟩
        rw [HI0.out]
        obtain ⟨kp2_0, kp2_1, kp2_2, kp2_3, kp2_4, kp2_5, kp2_6, kp2_7⟩ := p2.cells8
        go_wp2_with fail
        clear kp2_0 kp2_1 kp2_2 kp2_3 kp2_4 kp2_5 kp2_6 kp2_7
        refine (Tryz.schedIn 3 0 3 _).mono ?_
        rintro e Wc ⟨rfl, rfl⟩
        rw [HI1.out]
        obtain ⟨kp2_0, kp2_1, kp2_2, kp2_3, kp2_4, kp2_5, kp2_6, kp2_7⟩ := p2.cells8
        go_wp2_with fail
        clear kp2_0 kp2_1 kp2_2 kp2_3 kp2_4 kp2_5 kp2_6 kp2_7
        refine (Tryz.schedIn ww 0 1000000 _).mono ?_
        rintro e Wc ⟨rfl, rfl⟩
        rw [HI2.out]
        obtain ⟨kp2_0, kp2_1, kp2_2, kp2_3, kp2_4, kp2_5, kp2_6, kp2_7⟩ := p2.cells8
        go_wp2_with fail
        clear kp2_0 kp2_1 kp2_2 kp2_3 kp2_4 kp2_5 kp2_6 kp2_7
        refine (Tryz.schedIn ll 1 1000000 _).mono ?_
        rintro e Wc ⟨rfl, rfl⟩
        rw [HI3.out]
        obtain ⟨kp2_0, kp2_1, kp2_2, kp2_3, kp2_4, kp2_5, kp2_6, kp2_7⟩ := p2.cells8
        go_wp2_with fail
        clear kp2_0 kp2_1 kp2_2 kp2_3 kp2_4 kp2_5 kp2_6 kp2_7
        refine (Tryz.schedIn pp 1 8 _).mono ?_
        rintro e Wc ⟨rfl, rfl⟩
        rw [HI4.out]
        obtain ⟨kp2_0, kp2_1, kp2_2, kp2_3, kp2_4, kp2_5, kp2_6, kp2_7⟩ := p2.cells8
        go_wp2
        go_ret
        exact ⟨by rw [HR.out]; rfl, E0⟩
      ·have HR : Hid (rightS 3 bb rr ee ww vv ll pp ff = false) := Lib.hid (by refine Bool.eq_false_iff.2 (fun h => ?_); have := rightS_iff.1 h; omega)
       have HI0 : Hid (inB ff 0 40 = true) := Lib.hid (inB_t (by omega) (by omega))
       have HI1 : Hid (inB 3 0 3 = true) := Lib.hid (inB_t (by omega) (by omega))
       have HI2 : Hid (inB ww 0 1000000 = true) := Lib.hid (inB_t (by omega) (by omega))
       have HI3 : Hid (inB ll 1 1000000 = false) := Lib.hid (inB_f (by omega))
       obtain ⟨W0, hW0⟩ : ∃ W0, W0 = (w.alloc (.cells #[.int .i64 3, .int .i64 bb, .int .i64 rr, .int .i64 ee, .int .i64 ww, .int .i64 vv, .int .i64 ll, .int .i64 pp] 23)) := ⟨_, rfl⟩
       have E0 : Ext w W0 := by rw [hW0]; exact (Ext.alloc1 w (.cells #[.int .i64 3, .int .i64 bb, .int .i64 rr, .int .i64 ee, .int .i64 ww, .int .i64 vv, .int .i64 ll, .int .i64 pp] 23))
       have p2 : BxA W0 w.heap.size 23 #[.int .i64 3, .int .i64 bb, .int .i64 rr, .int .i64 ee, .int .i64 ww, .int .i64 vv, .int .i64 ll, .int .i64 pp] := by rw [hW0]; exact (BxA.new w 23 #[.int .i64 3, .int .i64 bb, .int .i64 rr, .int .i64 ee, .int .i64 ww, .int .i64 vv, .int .i64 ll, .int .i64 pp])
       go_enter Tryz.func7, Tryz.ntmps7
       obtain ⟨kp2_0, kp2_1, kp2_2, kp2_3, kp2_4, kp2_5, kp2_6, kp2_7⟩ := p2.cells8
       go_wp2_with fail
       rw [← hW0]
       clear hW0
       clear kp2_0 kp2_1 kp2_2 kp2_3 kp2_4 kp2_5 kp2_6 kp2_7
       refine (Tryz.schedIn ff 0 40 _).mono ?_
       rintro e Wc ⟨rfl, rfl⟩
       rw [HI0.out]
       obtain ⟨kp2_0, kp2_1, kp2_2, kp2_3, kp2_4, kp2_5, kp2_6, kp2_7⟩ := p2.cells8
       go_wp2_with fail
       clear kp2_0 kp2_1 kp2_2 kp2_3 kp2_4 kp2_5 kp2_6 kp2_7
       refine (Tryz.schedIn 3 0 3 _).mono ?_
       rintro e Wc ⟨rfl, rfl⟩
       rw [HI1.out]
       obtain ⟨kp2_0, kp2_1, kp2_2, kp2_3, kp2_4, kp2_5, kp2_6, kp2_7⟩ := p2.cells8
       go_wp2_with fail
       clear kp2_0 kp2_1 kp2_2 kp2_3 kp2_4 kp2_5 kp2_6 kp2_7
       refine (Tryz.schedIn ww 0 1000000 _).mono ?_
       rintro e Wc ⟨rfl, rfl⟩
       rw [HI2.out]
       obtain ⟨kp2_0, kp2_1, kp2_2, kp2_3, kp2_4, kp2_5, kp2_6, kp2_7⟩ := p2.cells8
       go_wp2_with fail
       clear kp2_0 kp2_1 kp2_2 kp2_3 kp2_4 kp2_5 kp2_6 kp2_7
       refine (Tryz.schedIn ll 1 1000000 _).mono ?_
       rintro e Wc ⟨rfl, rfl⟩
       rw [HI3.out]
       obtain ⟨kp2_0, kp2_1, kp2_2, kp2_3, kp2_4, kp2_5, kp2_6, kp2_7⟩ := p2.cells8
       go_wp2
       go_ret
       exact ⟨by rw [HR.out]; rfl, E0⟩
    ·have HR : Hid (rightS kd bb rr ee ww vv ll pp ff = false) := Lib.hid (by refine Bool.eq_false_iff.2 (fun h => ?_); have := rightS_iff.1 h; omega)
     have HI0 : Hid (inB ff 0 40 = true) := Lib.hid (inB_t (by omega) (by omega))
     have HI1 : Hid (inB kd 0 3 = true) := Lib.hid (inB_t (by omega) (by omega))
     have HI2 : Hid (inB ww 0 1000000 = false) := Lib.hid (inB_f (by omega))
     obtain ⟨W0, hW0⟩ : ∃ W0, W0 = (w.alloc (.cells #[.int .i64 kd, .int .i64 bb, .int .i64 rr, .int .i64 ee, .int .i64 ww, .int .i64 vv, .int .i64 ll, .int .i64 pp] 23)) := ⟨_, rfl⟩
     have E0 : Ext w W0 := by rw [hW0]; exact (Ext.alloc1 w (.cells #[.int .i64 kd, .int .i64 bb, .int .i64 rr, .int .i64 ee, .int .i64 ww, .int .i64 vv, .int .i64 ll, .int .i64 pp] 23))
     have p2 : BxA W0 w.heap.size 23 #[.int .i64 kd, .int .i64 bb, .int .i64 rr, .int .i64 ee, .int .i64 ww, .int .i64 vv, .int .i64 ll, .int .i64 pp] := by rw [hW0]; exact (BxA.new w 23 #[.int .i64 kd, .int .i64 bb, .int .i64 rr, .int .i64 ee, .int .i64 ww, .int .i64 vv, .int .i64 ll, .int .i64 pp])
     go_enter Tryz.func7, Tryz.ntmps7
     obtain ⟨kp2_0, kp2_1, kp2_2, kp2_3, kp2_4, kp2_5, kp2_6, kp2_7⟩ := p2.cells8
     go_wp2_with fail
     rw [← hW0]
     clear hW0
     clear kp2_0 kp2_1 kp2_2 kp2_3 kp2_4 kp2_5 kp2_6 kp2_7
     refine (Tryz.schedIn ff 0 40 _).mono ?_
     rintro e Wc ⟨rfl, rfl⟩
     rw [HI0.out]
     obtain ⟨kp2_0, kp2_1, kp2_2, kp2_3, kp2_4, kp2_5, kp2_6, kp2_7⟩ := p2.cells8
     go_wp2_with fail
     clear kp2_0 kp2_1 kp2_2 kp2_3 kp2_4 kp2_5 kp2_6 kp2_7
     refine (Tryz.schedIn kd 0 3 _).mono ?_
     rintro e Wc ⟨rfl, rfl⟩
     rw [HI1.out]
     obtain ⟨kp2_0, kp2_1, kp2_2, kp2_3, kp2_4, kp2_5, kp2_6, kp2_7⟩ := p2.cells8
     go_wp2_with fail
     clear kp2_0 kp2_1 kp2_2 kp2_3 kp2_4 kp2_5 kp2_6 kp2_7
     refine (Tryz.schedIn ww 0 1000000 _).mono ?_
     rintro e Wc ⟨rfl, rfl⟩
     rw [HI2.out]
     obtain ⟨kp2_0, kp2_1, kp2_2, kp2_3, kp2_4, kp2_5, kp2_6, kp2_7⟩ := p2.cells8
     go_wp2
     go_ret
     exact ⟨by rw [HR.out]; rfl, E0⟩
   ·have hb1 : bb < 0 := by omega
    have hb1d : decide (bb < 0) = true := decide_eq_true hb1
    have HR : Hid (rightS kd bb rr ee ww vv ll pp ff = false) := Lib.hid (by refine Bool.eq_false_iff.2 (fun h => ?_); have := rightS_iff.1 h; omega)
    have HI0 : Hid (inB ff 0 40 = true) := Lib.hid (inB_t (by omega) (by omega))
    have HI1 : Hid (inB kd 0 3 = true) := Lib.hid (inB_t (by omega) (by omega))
    obtain ⟨W0, hW0⟩ : ∃ W0, W0 = (w.alloc (.cells #[.int .i64 kd, .int .i64 bb, .int .i64 rr, .int .i64 ee, .int .i64 ww, .int .i64 vv, .int .i64 ll, .int .i64 pp] 23)) := ⟨_, rfl⟩
    have E0 : Ext w W0 := by rw [hW0]; exact (Ext.alloc1 w (.cells #[.int .i64 kd, .int .i64 bb, .int .i64 rr, .int .i64 ee, .int .i64 ww, .int .i64 vv, .int .i64 ll, .int .i64 pp] 23))
    have p2 : BxA W0 w.heap.size 23 #[.int .i64 kd, .int .i64 bb, .int .i64 rr, .int .i64 ee, .int .i64 ww, .int .i64 vv, .int .i64 ll, .int .i64 pp] := by rw [hW0]; exact (BxA.new w 23 #[.int .i64 kd, .int .i64 bb, .int .i64 rr, .int .i64 ee, .int .i64 ww, .int .i64 vv, .int .i64 ll, .int .i64 pp])
    go_enter Tryz.func7, Tryz.ntmps7
    obtain ⟨kp2_0, kp2_1, kp2_2, kp2_3, kp2_4, kp2_5, kp2_6, kp2_7⟩ := p2.cells8
    go_wp2_with fail
    rw [← hW0]
    clear hW0
    clear kp2_0 kp2_1 kp2_2 kp2_3 kp2_4 kp2_5 kp2_6 kp2_7
    refine (Tryz.schedIn ff 0 40 _).mono ?_
    rintro e Wc ⟨rfl, rfl⟩
    rw [HI0.out]
    obtain ⟨kp2_0, kp2_1, kp2_2, kp2_3, kp2_4, kp2_5, kp2_6, kp2_7⟩ := p2.cells8
    go_wp2_with fail
    clear kp2_0 kp2_1 kp2_2 kp2_3 kp2_4 kp2_5 kp2_6 kp2_7
    refine (Tryz.schedIn kd 0 3 _).mono ?_
    rintro e Wc ⟨rfl, rfl⟩
    rw [HI1.out]
    obtain ⟨kp2_0, kp2_1, kp2_2, kp2_3, kp2_4, kp2_5, kp2_6, kp2_7⟩ := p2.cells8
    go_wp2
    go_ret
    exact ⟨by rw [HR.out]; rfl, E0⟩
  ·have HR : Hid (rightS kd bb rr ee ww vv ll pp ff = false) := Lib.hid (by refine Bool.eq_false_iff.2 (fun h => ?_); have := rightS_iff.1 h; omega)
   have HI0 : Hid (inB ff 0 40 = true) := Lib.hid (inB_t (by omega) (by omega))
   have HI1 : Hid (inB kd 0 3 = false) := Lib.hid (inB_f (by omega))
   obtain ⟨W0, hW0⟩ : ∃ W0, W0 = (w.alloc (.cells #[.int .i64 kd, .int .i64 bb, .int .i64 rr, .int .i64 ee, .int .i64 ww, .int .i64 vv, .int .i64 ll, .int .i64 pp] 23)) := ⟨_, rfl⟩
   have E0 : Ext w W0 := by rw [hW0]; exact (Ext.alloc1 w (.cells #[.int .i64 kd, .int .i64 bb, .int .i64 rr, .int .i64 ee, .int .i64 ww, .int .i64 vv, .int .i64 ll, .int .i64 pp] 23))
   have p2 : BxA W0 w.heap.size 23 #[.int .i64 kd, .int .i64 bb, .int .i64 rr, .int .i64 ee, .int .i64 ww, .int .i64 vv, .int .i64 ll, .int .i64 pp] := by rw [hW0]; exact (BxA.new w 23 #[.int .i64 kd, .int .i64 bb, .int .i64 rr, .int .i64 ee, .int .i64 ww, .int .i64 vv, .int .i64 ll, .int .i64 pp])
   go_enter Tryz.func7, Tryz.ntmps7
   obtain ⟨kp2_0, kp2_1, kp2_2, kp2_3, kp2_4, kp2_5, kp2_6, kp2_7⟩ := p2.cells8
   go_wp2_with fail
   rw [← hW0]
   clear hW0
   clear kp2_0 kp2_1 kp2_2 kp2_3 kp2_4 kp2_5 kp2_6 kp2_7
   refine (Tryz.schedIn ff 0 40 _).mono ?_
   rintro e Wc ⟨rfl, rfl⟩
   rw [HI0.out]
   obtain ⟨kp2_0, kp2_1, kp2_2, kp2_3, kp2_4, kp2_5, kp2_6, kp2_7⟩ := p2.cells8
   go_wp2_with fail
   clear kp2_0 kp2_1 kp2_2 kp2_3 kp2_4 kp2_5 kp2_6 kp2_7
   refine (Tryz.schedIn kd 0 3 _).mono ?_
   rintro e Wc ⟨rfl, rfl⟩
   rw [HI1.out]
   obtain ⟨kp2_0, kp2_1, kp2_2, kp2_3, kp2_4, kp2_5, kp2_6, kp2_7⟩ := p2.cells8
   go_wp2
   go_ret
   exact ⟨by rw [HR.out]; rfl, E0⟩
 ·have HR : Hid (rightS kd bb rr ee ww vv ll pp ff = false) := Lib.hid (by refine Bool.eq_false_iff.2 (fun h => ?_); have := rightS_iff.1 h; omega)
  have HI0 : Hid (inB ff 0 40 = false) := Lib.hid (inB_f (by omega))
  obtain ⟨W0, hW0⟩ : ∃ W0, W0 = (w.alloc (.cells #[.int .i64 kd, .int .i64 bb, .int .i64 rr, .int .i64 ee, .int .i64 ww, .int .i64 vv, .int .i64 ll, .int .i64 pp] 23)) := ⟨_, rfl⟩
  have E0 : Ext w W0 := by rw [hW0]; exact (Ext.alloc1 w (.cells #[.int .i64 kd, .int .i64 bb, .int .i64 rr, .int .i64 ee, .int .i64 ww, .int .i64 vv, .int .i64 ll, .int .i64 pp] 23))
  have p2 : BxA W0 w.heap.size 23 #[.int .i64 kd, .int .i64 bb, .int .i64 rr, .int .i64 ee, .int .i64 ww, .int .i64 vv, .int .i64 ll, .int .i64 pp] := by rw [hW0]; exact (BxA.new w 23 #[.int .i64 kd, .int .i64 bb, .int .i64 rr, .int .i64 ee, .int .i64 ww, .int .i64 vv, .int .i64 ll, .int .i64 pp])
  go_enter Tryz.func7, Tryz.ntmps7
  obtain ⟨kp2_0, kp2_1, kp2_2, kp2_3, kp2_4, kp2_5, kp2_6, kp2_7⟩ := p2.cells8
  go_wp2_with fail
  rw [← hW0]
  clear hW0
  clear kp2_0 kp2_1 kp2_2 kp2_3 kp2_4 kp2_5 kp2_6 kp2_7
  refine (Tryz.schedIn ff 0 40 _).mono ?_
  rintro e Wc ⟨rfl, rfl⟩
  rw [HI0.out]
  obtain ⟨kp2_0, kp2_1, kp2_2, kp2_3, kp2_4, kp2_5, kp2_6, kp2_7⟩ := p2.cells8
  go_wp2
  go_ret
  exact ⟨by rw [HR.out]; rfl, E0⟩

end Go.Rt
