/-
 The laws of chapter 15 (schedules): Warm, Root, Falls, Ends: their walks.
-/
import Derived.Test.YtpenekgnhnfebaaSchedC
namespace Go.Rt
open Go Go.RowKit Go.Proofs

theorem subE_ge {N M : Nat} (h : M ≤ N) : subE N M = 0 := if_neg (by omega)

theorem subE_lt {N M : Nat} (h : N < M) : subE N M = 2 := if_pos h

set_option maxRecDepth 100000 in
set_option maxHeartbeats 8000000 in
theorem Try.lawSchedWarm (kd bb rr ee ww vv ll pp t u ff : Int) (w : World) (hbb : bb < 9223372036854775808) :
  Calls Try.prog 6 #[.agg #[.int .i64 kd, .int .i64 bb, .int .i64 rr, .int .i64 ee, .int .i64 ww, .int .i64 vv, .int .i64 ll, .int .i64 pp], .agg #[.int .i64 t, .int .i64 u], .int .i64 ff] w fun e w' => e = .returned (.bool true) ∧ Ext w w' := by
 cases hq0 : rightS kd bb rr ee ww vv ll pp ff
 ·have HQ0 := Lib.hid hq0
  obtain ⟨W0, hW0⟩ : ∃ W0, W0 = ((w.alloc (.cells #[.int .i64 kd, .int .i64 bb, .int .i64 rr, .int .i64 ee, .int .i64 ww, .int .i64 vv, .int .i64 ll, .int .i64 pp] 46)).alloc (.cells #[.int .i64 t, .int .i64 u] 54)) := ⟨_, rfl⟩
  have E0 : Ext w W0 := by rw [hW0]; exact ((Ext.alloc1 w (.cells #[.int .i64 kd, .int .i64 bb, .int .i64 rr, .int .i64 ee, .int .i64 ww, .int .i64 vv, .int .i64 ll, .int .i64 pp] 46)).alloc (.cells #[.int .i64 t, .int .i64 u] 54))
  have p3 : BxA W0 w.heap.size 46 #[.int .i64 kd, .int .i64 bb, .int .i64 rr, .int .i64 ee, .int .i64 ww, .int .i64 vv, .int .i64 ll, .int .i64 pp] := by rw [hW0]; exact (BxA.new w 46 #[.int .i64 kd, .int .i64 bb, .int .i64 rr, .int .i64 ee, .int .i64 ww, .int .i64 vv, .int .i64 ll, .int .i64 pp]).ext (Ext.alloc1 (w.alloc (.cells #[.int .i64 kd, .int .i64 bb, .int .i64 rr, .int .i64 ee, .int .i64 ww, .int .i64 vv, .int .i64 ll, .int .i64 pp] 46)) (.cells #[.int .i64 t, .int .i64 u] 54))
  have p4 : Bx2 W0 (w.heap.size + 1) 54 (.int .i64 t) (.int .i64 u) := by rw [hW0]; simpa using (Bx2.new (w.alloc (.cells #[.int .i64 kd, .int .i64 bb, .int .i64 rr, .int .i64 ee, .int .i64 ww, .int .i64 vv, .int .i64 ll, .int .i64 pp] 46)) 54 (.int .i64 t) (.int .i64 u))
  go_enter Try.func6, Try.ntmps6
  obtain ⟨kp3_0, kp3_1, kp3_2, kp3_3, kp3_4, kp3_5, kp3_6, kp3_7⟩ := p3.cells8
  have kp4_0 := p4.cell0
  have kp4_1 := p4.cell1
  go_wp2_with fail
  rw [← hW0]
  clear hW0
  clear kp3_0 kp3_1 kp3_2 kp3_3 kp3_4 kp3_5 kp3_6 kp3_7 kp4_0 kp4_1
  refine (Try.refRight15 kd bb rr ee ww vv ll pp ff _).mono ?_
  rintro e V1 ⟨rfl, hE⟩
  rw [HQ0.out]
  replace E0 := (Ext.trans E0 hE)
  replace p3 := (p3.ext hE)
  replace p4 := (p4.ext hE)
  clear hE
  obtain ⟨kp3_0, kp3_1, kp3_2, kp3_3, kp3_4, kp3_5, kp3_6, kp3_7⟩ := p3.cells8
  have kp4_0 := p4.cell0
  have kp4_1 := p4.cell1
  go_wp2_with fail
  clear kp3_0 kp3_1 kp3_2 kp3_3 kp3_4 kp3_5 kp3_6 kp3_7 kp4_0 kp4_1
  refine (Try.alive15 _).mono ?_
  rintro e V2 ⟨rfl, hE⟩
  replace E0 := (Ext.trans E0 hE)
  replace p3 := (p3.ext hE)
  replace p4 := (p4.ext hE)
  clear hE
  go_wp2
  go_ret
  exact ⟨rfl, E0⟩
 ·by_cases hc0 : ww < 1
  ·have hc0d : decide (ww < 1) = true := decide_eq_true hc0
   have HQ0 := Lib.hid hq0
   obtain ⟨W0, hW0⟩ : ∃ W0, W0 = ((w.alloc (.cells #[.int .i64 kd, .int .i64 bb, .int .i64 rr, .int .i64 ee, .int .i64 ww, .int .i64 vv, .int .i64 ll, .int .i64 pp] 46)).alloc (.cells #[.int .i64 t, .int .i64 u] 54)) := ⟨_, rfl⟩
   have E0 : Ext w W0 := by rw [hW0]; exact ((Ext.alloc1 w (.cells #[.int .i64 kd, .int .i64 bb, .int .i64 rr, .int .i64 ee, .int .i64 ww, .int .i64 vv, .int .i64 ll, .int .i64 pp] 46)).alloc (.cells #[.int .i64 t, .int .i64 u] 54))
   have p3 : BxA W0 w.heap.size 46 #[.int .i64 kd, .int .i64 bb, .int .i64 rr, .int .i64 ee, .int .i64 ww, .int .i64 vv, .int .i64 ll, .int .i64 pp] := by rw [hW0]; exact (BxA.new w 46 #[.int .i64 kd, .int .i64 bb, .int .i64 rr, .int .i64 ee, .int .i64 ww, .int .i64 vv, .int .i64 ll, .int .i64 pp]).ext (Ext.alloc1 (w.alloc (.cells #[.int .i64 kd, .int .i64 bb, .int .i64 rr, .int .i64 ee, .int .i64 ww, .int .i64 vv, .int .i64 ll, .int .i64 pp] 46)) (.cells #[.int .i64 t, .int .i64 u] 54))
   have p4 : Bx2 W0 (w.heap.size + 1) 54 (.int .i64 t) (.int .i64 u) := by rw [hW0]; simpa using (Bx2.new (w.alloc (.cells #[.int .i64 kd, .int .i64 bb, .int .i64 rr, .int .i64 ee, .int .i64 ww, .int .i64 vv, .int .i64 ll, .int .i64 pp] 46)) 54 (.int .i64 t) (.int .i64 u))
   go_enter Try.func6, Try.ntmps6
   obtain ⟨kp3_0, kp3_1, kp3_2, kp3_3, kp3_4, kp3_5, kp3_6, kp3_7⟩ := p3.cells8
   have kp4_0 := p4.cell0
   have kp4_1 := p4.cell1
   go_wp2_with fail
   rw [← hW0]
   clear hW0
   clear kp3_0 kp3_1 kp3_2 kp3_3 kp3_4 kp3_5 kp3_6 kp3_7 kp4_0 kp4_1
   refine (Try.refRight15 kd bb rr ee ww vv ll pp ff _).mono ?_
   rintro e V3 ⟨rfl, hE⟩
   rw [HQ0.out]
   replace E0 := (Ext.trans E0 hE)
   replace p3 := (p3.ext hE)
   replace p4 := (p4.ext hE)
   clear hE
   obtain ⟨kp3_0, kp3_1, kp3_2, kp3_3, kp3_4, kp3_5, kp3_6, kp3_7⟩ := p3.cells8
   have kp4_0 := p4.cell0
   have kp4_1 := p4.cell1
   go_wp2_with fail
   clear kp3_0 kp3_1 kp3_2 kp3_3 kp3_4 kp3_5 kp3_6 kp3_7 kp4_0 kp4_1
   refine (Try.alive15 _).mono ?_
   rintro e V4 ⟨rfl, hE⟩
   replace E0 := (Ext.trans E0 hE)
   replace p3 := (p3.ext hE)
   replace p4 := (p4.ext hE)
   clear hE
   go_wp2
   go_ret
   exact ⟨rfl, E0⟩
  ·have hc0d : decide (ww < 1) = false := decide_eq_false hc0
   by_cases hc1 : t < 1
   ·have hc1d : decide (t < 1) = true := decide_eq_true hc1
    have HQ0 := Lib.hid hq0
    obtain ⟨W0, hW0⟩ : ∃ W0, W0 = ((w.alloc (.cells #[.int .i64 kd, .int .i64 bb, .int .i64 rr, .int .i64 ee, .int .i64 ww, .int .i64 vv, .int .i64 ll, .int .i64 pp] 46)).alloc (.cells #[.int .i64 t, .int .i64 u] 54)) := ⟨_, rfl⟩
    have E0 : Ext w W0 := by rw [hW0]; exact ((Ext.alloc1 w (.cells #[.int .i64 kd, .int .i64 bb, .int .i64 rr, .int .i64 ee, .int .i64 ww, .int .i64 vv, .int .i64 ll, .int .i64 pp] 46)).alloc (.cells #[.int .i64 t, .int .i64 u] 54))
    have p3 : BxA W0 w.heap.size 46 #[.int .i64 kd, .int .i64 bb, .int .i64 rr, .int .i64 ee, .int .i64 ww, .int .i64 vv, .int .i64 ll, .int .i64 pp] := by rw [hW0]; exact (BxA.new w 46 #[.int .i64 kd, .int .i64 bb, .int .i64 rr, .int .i64 ee, .int .i64 ww, .int .i64 vv, .int .i64 ll, .int .i64 pp]).ext (Ext.alloc1 (w.alloc (.cells #[.int .i64 kd, .int .i64 bb, .int .i64 rr, .int .i64 ee, .int .i64 ww, .int .i64 vv, .int .i64 ll, .int .i64 pp] 46)) (.cells #[.int .i64 t, .int .i64 u] 54))
    have p4 : Bx2 W0 (w.heap.size + 1) 54 (.int .i64 t) (.int .i64 u) := by rw [hW0]; simpa using (Bx2.new (w.alloc (.cells #[.int .i64 kd, .int .i64 bb, .int .i64 rr, .int .i64 ee, .int .i64 ww, .int .i64 vv, .int .i64 ll, .int .i64 pp] 46)) 54 (.int .i64 t) (.int .i64 u))
    go_enter Try.func6, Try.ntmps6
    obtain ⟨kp3_0, kp3_1, kp3_2, kp3_3, kp3_4, kp3_5, kp3_6, kp3_7⟩ := p3.cells8
    have kp4_0 := p4.cell0
    have kp4_1 := p4.cell1
    go_wp2_with fail
    rw [← hW0]
    clear hW0
    clear kp3_0 kp3_1 kp3_2 kp3_3 kp3_4 kp3_5 kp3_6 kp3_7 kp4_0 kp4_1
    refine (Try.refRight15 kd bb rr ee ww vv ll pp ff _).mono ?_
    rintro e V5 ⟨rfl, hE⟩
    rw [HQ0.out]
    replace E0 := (Ext.trans E0 hE)
    replace p3 := (p3.ext hE)
    replace p4 := (p4.ext hE)
    clear hE
    obtain ⟨kp3_0, kp3_1, kp3_2, kp3_3, kp3_4, kp3_5, kp3_6, kp3_7⟩ := p3.cells8
    have kp4_0 := p4.cell0
    have kp4_1 := p4.cell1
    go_wp2_with fail
    clear kp3_0 kp3_1 kp3_2 kp3_3 kp3_4 kp3_5 kp3_6 kp3_7 kp4_0 kp4_1
    refine (Try.alive15 _).mono ?_
    rintro e V6 ⟨rfl, hE⟩
    replace E0 := (Ext.trans E0 hE)
    replace p3 := (p3.ext hE)
    replace p4 := (p4.ext hE)
    clear hE
    go_wp2
    go_ret
    exact ⟨rfl, E0⟩
   ·have hc1d : decide (t < 1) = false := decide_eq_false hc1
    by_cases hc2 : u < t
    ·have hc2d : decide (u < t) = true := decide_eq_true hc2
     have HQ0 := Lib.hid hq0
     obtain ⟨W0, hW0⟩ : ∃ W0, W0 = ((w.alloc (.cells #[.int .i64 kd, .int .i64 bb, .int .i64 rr, .int .i64 ee, .int .i64 ww, .int .i64 vv, .int .i64 ll, .int .i64 pp] 46)).alloc (.cells #[.int .i64 t, .int .i64 u] 54)) := ⟨_, rfl⟩
     have E0 : Ext w W0 := by rw [hW0]; exact ((Ext.alloc1 w (.cells #[.int .i64 kd, .int .i64 bb, .int .i64 rr, .int .i64 ee, .int .i64 ww, .int .i64 vv, .int .i64 ll, .int .i64 pp] 46)).alloc (.cells #[.int .i64 t, .int .i64 u] 54))
     have p3 : BxA W0 w.heap.size 46 #[.int .i64 kd, .int .i64 bb, .int .i64 rr, .int .i64 ee, .int .i64 ww, .int .i64 vv, .int .i64 ll, .int .i64 pp] := by rw [hW0]; exact (BxA.new w 46 #[.int .i64 kd, .int .i64 bb, .int .i64 rr, .int .i64 ee, .int .i64 ww, .int .i64 vv, .int .i64 ll, .int .i64 pp]).ext (Ext.alloc1 (w.alloc (.cells #[.int .i64 kd, .int .i64 bb, .int .i64 rr, .int .i64 ee, .int .i64 ww, .int .i64 vv, .int .i64 ll, .int .i64 pp] 46)) (.cells #[.int .i64 t, .int .i64 u] 54))
     have p4 : Bx2 W0 (w.heap.size + 1) 54 (.int .i64 t) (.int .i64 u) := by rw [hW0]; simpa using (Bx2.new (w.alloc (.cells #[.int .i64 kd, .int .i64 bb, .int .i64 rr, .int .i64 ee, .int .i64 ww, .int .i64 vv, .int .i64 ll, .int .i64 pp] 46)) 54 (.int .i64 t) (.int .i64 u))
     go_enter Try.func6, Try.ntmps6
     obtain ⟨kp3_0, kp3_1, kp3_2, kp3_3, kp3_4, kp3_5, kp3_6, kp3_7⟩ := p3.cells8
     have kp4_0 := p4.cell0
     have kp4_1 := p4.cell1
     go_wp2_with fail
     rw [← hW0]
     clear hW0
     clear kp3_0 kp3_1 kp3_2 kp3_3 kp3_4 kp3_5 kp3_6 kp3_7 kp4_0 kp4_1
     refine (Try.refRight15 kd bb rr ee ww vv ll pp ff _).mono ?_
     rintro e V7 ⟨rfl, hE⟩
     rw [HQ0.out]
     replace E0 := (Ext.trans E0 hE)
     replace p3 := (p3.ext hE)
     replace p4 := (p4.ext hE)
     clear hE
     obtain ⟨kp3_0, kp3_1, kp3_2, kp3_3, kp3_4, kp3_5, kp3_6, kp3_7⟩ := p3.cells8
     have kp4_0 := p4.cell0
     have kp4_1 := p4.cell1
     go_wp2_with fail
     clear kp3_0 kp3_1 kp3_2 kp3_3 kp3_4 kp3_5 kp3_6 kp3_7 kp4_0 kp4_1
     refine (Try.alive15 _).mono ?_
     rintro e V8 ⟨rfl, hE⟩
     replace E0 := (Ext.trans E0 hE)
     replace p3 := (p3.ext hE)
     replace p4 := (p4.ext hE)
     clear hE
     go_wp2
     go_ret
     exact ⟨rfl, E0⟩
    ·have hc2d : decide (u < t) = false := decide_eq_false hc2
     by_cases hc3 : ww < u
     ·have hc3d : decide (ww < u) = true := decide_eq_true hc3
      have HQ0 := Lib.hid hq0
      obtain ⟨W0, hW0⟩ : ∃ W0, W0 = ((w.alloc (.cells #[.int .i64 kd, .int .i64 bb, .int .i64 rr, .int .i64 ee, .int .i64 ww, .int .i64 vv, .int .i64 ll, .int .i64 pp] 46)).alloc (.cells #[.int .i64 t, .int .i64 u] 54)) := ⟨_, rfl⟩
      have E0 : Ext w W0 := by rw [hW0]; exact ((Ext.alloc1 w (.cells #[.int .i64 kd, .int .i64 bb, .int .i64 rr, .int .i64 ee, .int .i64 ww, .int .i64 vv, .int .i64 ll, .int .i64 pp] 46)).alloc (.cells #[.int .i64 t, .int .i64 u] 54))
      have p3 : BxA W0 w.heap.size 46 #[.int .i64 kd, .int .i64 bb, .int .i64 rr, .int .i64 ee, .int .i64 ww, .int .i64 vv, .int .i64 ll, .int .i64 pp] := by rw [hW0]; exact (BxA.new w 46 #[.int .i64 kd, .int .i64 bb, .int .i64 rr, .int .i64 ee, .int .i64 ww, .int .i64 vv, .int .i64 ll, .int .i64 pp]).ext (Ext.alloc1 (w.alloc (.cells #[.int .i64 kd, .int .i64 bb, .int .i64 rr, .int .i64 ee, .int .i64 ww, .int .i64 vv, .int .i64 ll, .int .i64 pp] 46)) (.cells #[.int .i64 t, .int .i64 u] 54))
      have p4 : Bx2 W0 (w.heap.size + 1) 54 (.int .i64 t) (.int .i64 u) := by rw [hW0]; simpa using (Bx2.new (w.alloc (.cells #[.int .i64 kd, .int .i64 bb, .int .i64 rr, .int .i64 ee, .int .i64 ww, .int .i64 vv, .int .i64 ll, .int .i64 pp] 46)) 54 (.int .i64 t) (.int .i64 u))
      go_enter Try.func6, Try.ntmps6
      obtain ⟨kp3_0, kp3_1, kp3_2, kp3_3, kp3_4, kp3_5, kp3_6, kp3_7⟩ := p3.cells8
      have kp4_0 := p4.cell0
      have kp4_1 := p4.cell1
      go_wp2_with fail
      rw [← hW0]
      clear hW0
      clear kp3_0 kp3_1 kp3_2 kp3_3 kp3_4 kp3_5 kp3_6 kp3_7 kp4_0 kp4_1
      refine (Try.refRight15 kd bb rr ee ww vv ll pp ff _).mono ?_
      rintro e V9 ⟨rfl, hE⟩
      rw [HQ0.out]
      replace E0 := (Ext.trans E0 hE)
      replace p3 := (p3.ext hE)
      replace p4 := (p4.ext hE)
      clear hE
      obtain ⟨kp3_0, kp3_1, kp3_2, kp3_3, kp3_4, kp3_5, kp3_6, kp3_7⟩ := p3.cells8
      have kp4_0 := p4.cell0
      have kp4_1 := p4.cell1
      go_wp2_with fail
      clear kp3_0 kp3_1 kp3_2 kp3_3 kp3_4 kp3_5 kp3_6 kp3_7 kp4_0 kp4_1
      refine (Try.alive15 _).mono ?_
      rintro e V10 ⟨rfl, hE⟩
      replace E0 := (Ext.trans E0 hE)
      replace p3 := (p3.ext hE)
      replace p4 := (p4.ext hE)
      clear hE
      go_wp2
      go_ret
      exact ⟨rfl, E0⟩
     ·have hc3d : decide (ww < u) = false := decide_eq_false hc3
      have hr := rightS_iff.1 hq0
      obtain ⟨K, rfl⟩ := Int.eq_ofNat_of_zero_le (show 0 ≤ ff by omega)
      obtain ⟨T, rfl⟩ := Int.eq_ofNat_of_zero_le (show 0 ≤ t by omega)
      obtain ⟨U, rfl⟩ := Int.eq_ofNat_of_zero_le (show 0 ≤ u by omega)
      obtain ⟨Wm, rfl⟩ := Int.eq_ofNat_of_zero_le (show 0 ≤ ww by omega)
      obtain ⟨B, rfl⟩ := Int.eq_ofNat_of_zero_le (show 0 ≤ bb by omega)
      have hw2 : Wm ≤ 1000000 := by omega
      clear hr
      have hT1 : 1 ≤ T := by omega
      have hTU : T ≤ U := by omega
      have hUW : U ≤ Wm := by omega
      have hW1 : 1 ≤ Wm := by omega
      have hbX := rate_bounds hq0 (t := T) (by omega)
      have hbY := rate_bounds hq0 (t := U) (by omega)
      have hm1 := rate_rises (kd := kd) (r := rr) (e := ee) (v := vv) (l := ll) (p := pp) (K := K) (b := (B : Int)) (w := (Wm : Int)) (t := T) (u := U) (by omega) hTU hT1 (by omega)
      have hfar := ratio_far ((B : Int) * (T : Int)) (d := Wm) (by omega)
      have hVX := rate_warm (kd := kd) (b := (B : Int)) (r := rr) (e := ee) (w := (Wm : Int)) (v := vv) (l := ll) (p := pp) (K := K) (t := T) (by omega)
      rw [Int.toNat_natCast] at hVX
      rw [← hVX] at hfar
      clear hVX
      have HZ : Hid (rateV kd (B : Int) rr ee (Wm : Int) vv ll pp Wm K = (B : Int)) := Lib.hid (rate_top hW1)
      obtain ⟨X, hX⟩ := Int.eq_ofNat_of_zero_le hbX.1
      obtain ⟨Y, hY⟩ := Int.eq_ofNat_of_zero_le hbY.1
      rw [hX] at hbX hm1 hfar
      rw [hY] at hbY hm1
      have HX := Lib.hid hX
      have HY := Lib.hid hY
      clear hX hY
      have hX1 : ¬ ((Y : Int) < (X : Int)) := by omega
      have hX2 : ¬ ((X : Int) < 0) := by omega
      have hX3 : ¬ ((B : Int) < (Y : Int)) := by omega
      have hX1d := decide_eq_false hX1
      have hX2d := decide_eq_false hX2
      have hX3d := decide_eq_false hX3
      have hX1n : ¬ Y < X := by omega
      have hX3n : ¬ B < Y := by omega
      have hXb : X < 9223372036854775808 := by omega
      obtain ⟨G, hG⟩ : ∃ G, G = X * Wm := ⟨_, rfl⟩
      obtain ⟨Q, hQ⟩ : ∃ Q, Q = B * T := ⟨_, rfl⟩
      have hGi : ((X : Int) * (Wm : Int)) = (G : Int) := by rw [hG, Int.natCast_mul]
      have hQi : ((B : Int) * (T : Int)) = (Q : Int) := by rw [hQ, Int.natCast_mul]
      rw [hGi, hQi] at hfar
      clear hGi hQi
      have hwW : IntKind.u64.wrap (Wm : Int) = (Wm : Int) := by rw [IntKind.wrap_u64]; omega
      have hwX : IntKind.u64.wrap (X : Int) = (X : Int) := by rw [IntKind.wrap_u64]; omega
      have hwB : IntKind.u64.wrap (B : Int) = (B : Int) := by rw [IntKind.wrap_u64]; omega
      have hwT : IntKind.u64.wrap (T : Int) = (T : Int) := by rw [IntKind.wrap_u64]; omega
      have BW : Hid (Wm < B64) := Lib.hid (by rw [B64_eq]; omega)
      have BX : Hid (X < B64) := Lib.hid (by rw [B64_eq]; omega)
      have BB : Hid (B < B64) := Lib.hid (by rw [B64_eq]; omega)
      have BT : Hid (T < B64) := Lib.hid (by rw [B64_eq]; omega)
      have SG : Hid (Sm 2 G) := Lib.hid (by rw [hG]; exact (Sm.one BX.out).mul (Sm.one BW.out))
      have SQ : Hid (Sm 2 Q) := Lib.hid (by rw [hQ]; exact (Sm.one BB.out).mul (Sm.one BT.out))
      have HG := Lib.hid hG
      have HQQ := Lib.hid hQ
      have HR0 := Lib.hid hq0
      have HBB : Hid (B < 9223372036854775808) := Lib.hid (by omega)
      have HTT := Lib.hid (show (1 ≤ T ∧ T ≤ 1000000) ∧ (1 ≤ U ∧ U ≤ 1000000) ∧ (1 ≤ Wm ∧ Wm ≤ 1000000) from ⟨⟨by omega, by omega⟩, ⟨by omega, by omega⟩, ⟨by omega, by omega⟩⟩)
      clear hG hQ hbX hbY hm1 hXb hw2 hq0
      by_cases hGQ : Q ≤ G
      ·have HD : Hid (G - Q + (G - Q) ≤ Wm) := Lib.hid (by omega)
       have HE1 : Hid (subE G Q = 0) := Lib.hid (subE_ge hGQ)
       clear hGQ hfar hTU hUW hT1 hW1 hbb
       obtain ⟨W0, hW0⟩ : ∃ W0, W0 = ((w.alloc (.cells #[.int .i64 kd, .int .i64 (B : Int), .int .i64 rr, .int .i64 ee, .int .i64 (Wm : Int), .int .i64 vv, .int .i64 ll, .int .i64 pp] 46)).alloc (.cells #[.int .i64 (T : Int), .int .i64 (U : Int)] 54)) := ⟨_, rfl⟩
       have E0 : Ext w W0 := by rw [hW0]; exact ((Ext.alloc1 w (.cells #[.int .i64 kd, .int .i64 (B : Int), .int .i64 rr, .int .i64 ee, .int .i64 (Wm : Int), .int .i64 vv, .int .i64 ll, .int .i64 pp] 46)).alloc (.cells #[.int .i64 (T : Int), .int .i64 (U : Int)] 54))
       have p3 : BxA W0 w.heap.size 46 #[.int .i64 kd, .int .i64 (B : Int), .int .i64 rr, .int .i64 ee, .int .i64 (Wm : Int), .int .i64 vv, .int .i64 ll, .int .i64 pp] := by rw [hW0]; exact (BxA.new w 46 #[.int .i64 kd, .int .i64 (B : Int), .int .i64 rr, .int .i64 ee, .int .i64 (Wm : Int), .int .i64 vv, .int .i64 ll, .int .i64 pp]).ext (Ext.alloc1 (w.alloc (.cells #[.int .i64 kd, .int .i64 (B : Int), .int .i64 rr, .int .i64 ee, .int .i64 (Wm : Int), .int .i64 vv, .int .i64 ll, .int .i64 pp] 46)) (.cells #[.int .i64 (T : Int), .int .i64 (U : Int)] 54))
       have p4 : Bx2 W0 (w.heap.size + 1) 54 (.int .i64 (T : Int)) (.int .i64 (U : Int)) := by rw [hW0]; simpa using (Bx2.new (w.alloc (.cells #[.int .i64 kd, .int .i64 (B : Int), .int .i64 rr, .int .i64 ee, .int .i64 (Wm : Int), .int .i64 vv, .int .i64 ll, .int .i64 pp] 46)) 54 (.int .i64 (T : Int)) (.int .i64 (U : Int)))
       go_enter Try.func6, Try.ntmps6
       obtain ⟨kp3_0, kp3_1, kp3_2, kp3_3, kp3_4, kp3_5, kp3_6, kp3_7⟩ := p3.cells8
       have kp4_0 := p4.cell0
       have kp4_1 := p4.cell1
       go_wp2_with fail
       rw [← hW0]
       clear hW0
       clear kp3_0 kp3_1 kp3_2 kp3_3 kp3_4 kp3_5 kp3_6 kp3_7 kp4_0 kp4_1
       refine (Try.refRight15 kd (B : Int) rr ee (Wm : Int) vv ll pp (K : Int) _).mono ?_
       rintro e V11 ⟨rfl, hE⟩
       rw [HR0.out]
       replace E0 := (Ext.trans E0 hE)
       replace p3 := (p3.ext hE)
       replace p4 := (p4.ext hE)
       clear hE
       obtain ⟨kp3_0, kp3_1, kp3_2, kp3_3, kp3_4, kp3_5, kp3_6, kp3_7⟩ := p3.cells8
       have kp4_0 := p4.cell0
       have kp4_1 := p4.cell1
       go_wp2_with fail
       clear kp3_0 kp3_1 kp3_2 kp3_3 kp3_4 kp3_5 kp3_6 kp3_7 kp4_0 kp4_1
       refine (Try.schedRate kd (B : Int) rr ee (Wm : Int) vv ll pp T K _ HR0.out (by have := HBB.out; omega) HTT.out.1.1 HTT.out.1.2 HX.out).mono ?_
       rintro e V12 ⟨rfl, hE⟩
       replace E0 := (Ext.trans E0 hE)
       replace p3 := (p3.ext hE)
       replace p4 := (p4.ext hE)
       clear hE
       obtain ⟨kp3_0, kp3_1, kp3_2, kp3_3, kp3_4, kp3_5, kp3_6, kp3_7⟩ := p3.cells8
       have kp4_0 := p4.cell0
       have kp4_1 := p4.cell1
       go_wp2_with fail
       clear kp3_0 kp3_1 kp3_2 kp3_3 kp3_4 kp3_5 kp3_6 kp3_7 kp4_0 kp4_1
       refine (Try.schedRate kd (B : Int) rr ee (Wm : Int) vv ll pp U K _ HR0.out (by have := HBB.out; omega) HTT.out.2.1.1 HTT.out.2.1.2 HY.out).mono ?_
       rintro e V13 ⟨rfl, hE⟩
       replace E0 := (Ext.trans E0 hE)
       replace p3 := (p3.ext hE)
       replace p4 := (p4.ext hE)
       clear hE
       obtain ⟨kp3_0, kp3_1, kp3_2, kp3_3, kp3_4, kp3_5, kp3_6, kp3_7⟩ := p3.cells8
       have kp4_0 := p4.cell0
       have kp4_1 := p4.cell1
       go_wp2_with fail
       clear kp3_0 kp3_1 kp3_2 kp3_3 kp3_4 kp3_5 kp3_6 kp3_7 kp4_0 kp4_1
       refine (Try.schedRate kd (B : Int) rr ee (Wm : Int) vv ll pp Wm K _ HR0.out (by have := HBB.out; omega) HTT.out.2.2.1 HTT.out.2.2.2 HZ.out).mono ?_
       rintro e V14 ⟨rfl, hE⟩
       replace E0 := (Ext.trans E0 hE)
       replace p3 := (p3.ext hE)
       replace p4 := (p4.ext hE)
       clear hE
       obtain ⟨kp3_0, kp3_1, kp3_2, kp3_3, kp3_4, kp3_5, kp3_6, kp3_7⟩ := p3.cells8
       have kp4_0 := p4.cell0
       have kp4_1 := p4.cell1
       go_wp2_with fail
       clear kp3_0 kp3_1 kp3_2 kp3_3 kp3_4 kp3_5 kp3_6 kp3_7 kp4_0 kp4_1
       refine (Try.refOf Wm _ BW.out).mono ?_
       rintro e V15 ⟨v1, rfl, g1, hE, -⟩
       replace E0 := (Ext.trans E0 hE)
       replace p3 := (p3.ext hE)
       replace p4 := (p4.ext hE)
       clear hE
       obtain ⟨kp3_0, kp3_1, kp3_2, kp3_3, kp3_4, kp3_5, kp3_6, kp3_7⟩ := p3.cells8
       have kp4_0 := p4.cell0
       have kp4_1 := p4.cell1
       go_wp2_with fail
       clear kp3_0 kp3_1 kp3_2 kp3_3 kp3_4 kp3_5 kp3_6 kp3_7 kp4_0 kp4_1
       refine (Try.refOf X _ BX.out).mono ?_
       rintro e V16 ⟨v2, rfl, g2, hE, -⟩
       replace E0 := (Ext.trans E0 hE)
       replace p3 := (p3.ext hE)
       replace p4 := (p4.ext hE)
       replace g1 := (g1.ext hE)
       clear hE
       obtain ⟨kp3_0, kp3_1, kp3_2, kp3_3, kp3_4, kp3_5, kp3_6, kp3_7⟩ := p3.cells8
       have kp4_0 := p4.cell0
       have kp4_1 := p4.cell1
       go_wp2_with fail
       clear kp3_0 kp3_1 kp3_2 kp3_3 kp3_4 kp3_5 kp3_6 kp3_7 kp4_0 kp4_1
       refine (Try.refMul g2 g1 (Sm.one BX.out) (Sm.one BW.out) (by omega)).mono ?_
       rintro e V17 ⟨v3, rfl, g3, hE, -⟩
       rw [← HG.out] at g3
       replace E0 := (Ext.trans E0 hE)
       replace p3 := (p3.ext hE)
       replace p4 := (p4.ext hE)
       replace g1 := (g1.ext hE)
       replace g2 := (g2.ext hE)
       clear hE
       obtain ⟨kp3_0, kp3_1, kp3_2, kp3_3, kp3_4, kp3_5, kp3_6, kp3_7⟩ := p3.cells8
       have kp4_0 := p4.cell0
       have kp4_1 := p4.cell1
       go_upto_region 10 with (fail)
       clear kp3_0 kp3_1 kp3_2 kp3_3 kp3_4 kp3_5 kp3_6 kp3_7 kp4_0 kp4_1
       have ltp3 := p3.lt
       have ltp4 := p4.lt
       have szw9 := Ext.size E0
       refine region_go [.one fun v _ => v = .pointer (some ⟨w.heap.size, 1, none⟩),
         .one fun v _ => v = .int .i64 (B : Int),
         .one fun v _ => v = .int .u64 (B : Int),
         .one fun v W => Nw W v B,
         .one fun v _ => v = .pointer (some ⟨w.heap.size + 1, 0, none⟩),
         .one fun v _ => v = .int .i64 (T : Int),
         .one fun v _ => v = .int .u64 (T : Int),
         .one fun v W => Nw W v T,
         .one fun v W => Nw W v Q,
         .one fun v W => Nw W v Q]
        (fun W => Ext w W ∧ BxA W w.heap.size 46 #[.int .i64 kd, .int .i64 (B : Int), .int .i64 rr, .int .i64 ee, .int .i64 (Wm : Int), .int .i64 vv, .int .i64 ll, .int .i64 pp] ∧ Bx2 W (w.heap.size + 1) 54 (.int .i64 (T : Int)) (.int .i64 (U : Int)) ∧ Nw W v1 Wm ∧ Nw W v2 X ∧ Nw W v3 G ∧ V17.heap.size ≤ W.heap.size) ⟨Good.is _, Good.is _, Good.is _, Good.num _, Good.is _, Good.is _, Good.is _, Good.num _, Good.num _, Good.num _, trivial⟩
        (fun W W1 hS hE => ⟨(Ext.trans hS.1 hE), (hS.2.1.ext hE), (hS.2.2.1.ext hE), (hS.2.2.2.1.ext hE), (hS.2.2.2.2.1.ext hE), (hS.2.2.2.2.2.1.ext hE), (Nat.le_trans hS.2.2.2.2.2.2 (Ext.size hE))⟩) ⟨E0, p3, p4, g1, g2, g3, Nat.le_refl _⟩ (by kernel_rfl) (by kernel_rfl) (by kernel_rfl) (by kernel_rfl) (A := ?A9) ?hA9 ?howe9 ?hfin9
       case hA9 =>
        intro vs
        simp only [putAll, Act.put, List.setIfInBounds_toArray, List.set_cons_zero, List.set_cons_succ, Nat.zero_add, Nat.reduceAdd]
        exact rfl
       case howe9 =>
        clear E0 p3 p4 g1 g2 g3
        intro hf
        refine ⟨owesE 0 [] hf rfl (by kernel_rfl) ?_, owesE 1 [0] hf rfl (by kernel_rfl) ?_, owesE 2 [1] hf rfl (by kernel_rfl) ?_, owesE 3 [2] hf rfl (by kernel_rfl) ?_, owesE 4 [] hf rfl (by kernel_rfl) ?_, owesE 5 [4] hf rfl (by kernel_rfl) ?_, owesE 6 [5] hf rfl (by kernel_rfl) ?_, owesE 7 [6] hf rfl (by kernel_rfl) ?_, owesE 8 [3, 7] hf rfl (by kernel_rfl) ?_, owesE 9 [8] hf rfl (by kernel_rfl) ?_, trivial⟩
        all_goals intro vs W hS hp hx KO hKO
        all_goals simp only [Act.put, List.setIfInBounds_toArray, List.set_cons_zero, List.set_cons_succ] at hKO
        ·go_simp
         exact hKO _ W (Ext.refl W) rfl
        ·have e0 := isOf hp.1
         simp only [e0] at hKO
         have fc1 := BxA.cell (hS.2.1) 1 (v := .int .i64 (B : Int)) rfl
         go_simp
         exact hKO _ W (Ext.refl W) rfl
        ·have e1 := isOf hp.1
         simp only [e1] at hKO
         go_simp
         exact hKO _ W (Ext.refl W) rfl
        ·have e2 := isOf hp.1
         simp only [e2] at hKO
         go_simp
         refine (Try.refOf B _ BB.out).mono ?_
         rintro e W1 ⟨v, rfl, hv, hE, -⟩
         exact hKO _ W1 hE hv
        ·go_simp
         exact hKO _ W (Ext.refl W) rfl
        ·have e4 := isOf hp.1
         simp only [e4] at hKO
         have fc0 := hS.2.2.1.cell0
         go_simp
         exact hKO _ W (Ext.refl W) rfl
        ·have e5 := isOf hp.1
         simp only [e5] at hKO
         go_simp
         exact hKO _ W (Ext.refl W) rfl
        ·have e6 := isOf hp.1
         simp only [e6] at hKO
         go_simp
         refine (Try.refOf T _ BT.out).mono ?_
         rintro e W1 ⟨v, rfl, hv, hE, -⟩
         exact hKO _ W1 hE hv
        ·have q3 := hp.1
         have q7 := hp.2.1
         go_simp
         refine (Try.refMul q3 q7 (Sm.one BB.out) (Sm.one BT.out) (by omega)).mono ?_
         rintro e W1 ⟨v, rfl, hv, hE, -⟩
         rw [← HQQ.out] at hv
         exact hKO _ W1 hE hv
        ·have q8 := hp.1
         go_simp
         exact hKO _ W (Ext.refl W) q8
       intro vs W9 hS hp
       clear szw9 E0 p3 p4 g1 g2 g3
       obtain ⟨E0, p3, p4, g1, g2, g3, sz9⟩ := hS
       obtain ⟨h9_0, h9_1, h9_2, h9_3, h9_4, h9_5, h9_6, h9_7, h9_8, h9_9, -⟩ := hp
       replace h9_0 : vs 0 = .pointer (some ⟨w.heap.size, 1, none⟩) := h9_0
       replace h9_1 : vs 1 = .int .i64 (B : Int) := h9_1
       replace h9_2 : vs 2 = .int .u64 (B : Int) := h9_2
       replace h9_4 : vs 4 = .pointer (some ⟨w.heap.size + 1, 0, none⟩) := h9_4
       replace h9_5 : vs 5 = .int .i64 (T : Int) := h9_5
       replace h9_6 : vs 6 = .int .u64 (T : Int) := h9_6
       simp only [h9_0, h9_1, h9_2, h9_4, h9_5, h9_6]
       replace h9_3 : Nw W9 (vs 3) B := h9_3
       generalize vs 3 = u9_3 at h9_3 ⊢
       replace h9_7 : Nw W9 (vs 7) T := h9_7
       generalize vs 7 = u9_7 at h9_7 ⊢
       replace h9_8 : Nw W9 (vs 8) Q := h9_8
       generalize vs 8 = u9_8 at h9_8 ⊢
       replace h9_9 : Nw W9 (vs 9) Q := h9_9
       generalize vs 9 = u9_9 at h9_9 ⊢
       clear h9_0 h9_1 h9_2 h9_4 h9_5 h9_6
       obtain ⟨kp3_0, kp3_1, kp3_2, kp3_3, kp3_4, kp3_5, kp3_6, kp3_7⟩ := p3.cells8
       have kp4_0 := p4.cell0
       have kp4_1 := p4.cell1
       go_wp2_with fail
       clear kp3_0 kp3_1 kp3_2 kp3_3 kp3_4 kp3_5 kp3_6 kp3_7 kp4_0 kp4_1
       refine (Try.refSub g3 h9_9 SG.out SQ.out (by omega)).mono ?_
       rintro e V18 ⟨v5, rfl, g5, hE, -⟩
       rw [HE1.out]
       replace E0 := (Ext.trans E0 hE)
       replace p3 := (p3.ext hE)
       replace p4 := (p4.ext hE)
       replace g1 := (g1.ext hE)
       replace g2 := (g2.ext hE)
       replace g3 := (g3.ext hE)
       replace h9_3 := (h9_3.ext hE)
       replace h9_7 := (h9_7.ext hE)
       replace h9_8 := (h9_8.ext hE)
       replace h9_9 := (h9_9.ext hE)
       clear hE
       obtain ⟨kp3_0, kp3_1, kp3_2, kp3_3, kp3_4, kp3_5, kp3_6, kp3_7⟩ := p3.cells8
       have kp4_0 := p4.cell0
       have kp4_1 := p4.cell1
       go_wp2_with fail
       clear kp3_0 kp3_1 kp3_2 kp3_3 kp3_4 kp3_5 kp3_6 kp3_7 kp4_0 kp4_1
       refine (Try.alive15 _).mono ?_
       rintro e V19 ⟨rfl, hE⟩
       replace E0 := (Ext.trans E0 hE)
       replace p3 := (p3.ext hE)
       replace p4 := (p4.ext hE)
       replace g1 := (g1.ext hE)
       replace g2 := (g2.ext hE)
       replace g3 := (g3.ext hE)
       replace h9_3 := (h9_3.ext hE)
       replace h9_7 := (h9_7.ext hE)
       replace h9_8 := (h9_8.ext hE)
       replace h9_9 := (h9_9.ext hE)
       replace g5 := (g5.ext hE)
       clear hE
       obtain ⟨kp3_0, kp3_1, kp3_2, kp3_3, kp3_4, kp3_5, kp3_6, kp3_7⟩ := p3.cells8
       have kp4_0 := p4.cell0
       have kp4_1 := p4.cell1
       go_wp2_with fail
       clear kp3_0 kp3_1 kp3_2 kp3_3 kp3_4 kp3_5 kp3_6 kp3_7 kp4_0 kp4_1
       refine (Try.refAdd g5 g5 (SG.out.le (Nat.sub_le _ _)) (SG.out.le (Nat.sub_le _ _)) (by omega)).mono ?_
       rintro e V20 ⟨v7, rfl, g7, hE, -⟩
       replace E0 := (Ext.trans E0 hE)
       replace p3 := (p3.ext hE)
       replace p4 := (p4.ext hE)
       replace g1 := (g1.ext hE)
       replace g2 := (g2.ext hE)
       replace g3 := (g3.ext hE)
       replace h9_3 := (h9_3.ext hE)
       replace h9_7 := (h9_7.ext hE)
       replace h9_8 := (h9_8.ext hE)
       replace h9_9 := (h9_9.ext hE)
       replace g5 := (g5.ext hE)
       clear hE
       obtain ⟨kp3_0, kp3_1, kp3_2, kp3_3, kp3_4, kp3_5, kp3_6, kp3_7⟩ := p3.cells8
       have kp4_0 := p4.cell0
       have kp4_1 := p4.cell1
       go_wp2_with fail
       clear kp3_0 kp3_1 kp3_2 kp3_3 kp3_4 kp3_5 kp3_6 kp3_7 kp4_0 kp4_1
       refine (Try.cmpLe g7 g1 HD.out).mono ?_
       rintro e V21 ⟨cc, rfl, hcc, hE⟩
       replace E0 := (Ext.trans E0 hE)
       replace p3 := (p3.ext hE)
       replace p4 := (p4.ext hE)
       replace g1 := (g1.ext hE)
       replace g2 := (g2.ext hE)
       replace g3 := (g3.ext hE)
       replace h9_3 := (h9_3.ext hE)
       replace h9_7 := (h9_7.ext hE)
       replace h9_8 := (h9_8.ext hE)
       replace h9_9 := (h9_9.ext hE)
       replace g5 := (g5.ext hE)
       replace g7 := (g7.ext hE)
       clear hE
       have hccd : decide (cc ≤ 0) = true := decide_eq_true hcc
       go_wp2
       go_ret
       exact ⟨rfl, E0⟩
      ·have HD : Hid (Q - G + (Q - G) ≤ Wm) := Lib.hid (by omega)
       have HE1 : Hid (subE G Q = 2) := Lib.hid (subE_lt (by omega))
       have HE2 : Hid (subE Q G = 0) := Lib.hid (subE_ge (by omega))
       clear hGQ hfar hTU hUW hT1 hW1 hbb
       obtain ⟨W0, hW0⟩ : ∃ W0, W0 = ((w.alloc (.cells #[.int .i64 kd, .int .i64 (B : Int), .int .i64 rr, .int .i64 ee, .int .i64 (Wm : Int), .int .i64 vv, .int .i64 ll, .int .i64 pp] 46)).alloc (.cells #[.int .i64 (T : Int), .int .i64 (U : Int)] 54)) := ⟨_, rfl⟩
       have E0 : Ext w W0 := by rw [hW0]; exact ((Ext.alloc1 w (.cells #[.int .i64 kd, .int .i64 (B : Int), .int .i64 rr, .int .i64 ee, .int .i64 (Wm : Int), .int .i64 vv, .int .i64 ll, .int .i64 pp] 46)).alloc (.cells #[.int .i64 (T : Int), .int .i64 (U : Int)] 54))
       have p3 : BxA W0 w.heap.size 46 #[.int .i64 kd, .int .i64 (B : Int), .int .i64 rr, .int .i64 ee, .int .i64 (Wm : Int), .int .i64 vv, .int .i64 ll, .int .i64 pp] := by rw [hW0]; exact (BxA.new w 46 #[.int .i64 kd, .int .i64 (B : Int), .int .i64 rr, .int .i64 ee, .int .i64 (Wm : Int), .int .i64 vv, .int .i64 ll, .int .i64 pp]).ext (Ext.alloc1 (w.alloc (.cells #[.int .i64 kd, .int .i64 (B : Int), .int .i64 rr, .int .i64 ee, .int .i64 (Wm : Int), .int .i64 vv, .int .i64 ll, .int .i64 pp] 46)) (.cells #[.int .i64 (T : Int), .int .i64 (U : Int)] 54))
       have p4 : Bx2 W0 (w.heap.size + 1) 54 (.int .i64 (T : Int)) (.int .i64 (U : Int)) := by rw [hW0]; simpa using (Bx2.new (w.alloc (.cells #[.int .i64 kd, .int .i64 (B : Int), .int .i64 rr, .int .i64 ee, .int .i64 (Wm : Int), .int .i64 vv, .int .i64 ll, .int .i64 pp] 46)) 54 (.int .i64 (T : Int)) (.int .i64 (U : Int)))
       go_enter Try.func6, Try.ntmps6
       obtain ⟨kp3_0, kp3_1, kp3_2, kp3_3, kp3_4, kp3_5, kp3_6, kp3_7⟩ := p3.cells8
       have kp4_0 := p4.cell0
       have kp4_1 := p4.cell1
       go_wp2_with fail
       rw [← hW0]
       clear hW0
       clear kp3_0 kp3_1 kp3_2 kp3_3 kp3_4 kp3_5 kp3_6 kp3_7 kp4_0 kp4_1
       refine (Try.refRight15 kd (B : Int) rr ee (Wm : Int) vv ll pp (K : Int) _).mono ?_
       rintro e V22 ⟨rfl, hE⟩
       rw [HR0.out]
       replace E0 := (Ext.trans E0 hE)
       replace p3 := (p3.ext hE)
       replace p4 := (p4.ext hE)
       clear hE
       obtain ⟨kp3_0, kp3_1, kp3_2, kp3_3, kp3_4, kp3_5, kp3_6, kp3_7⟩ := p3.cells8
       have kp4_0 := p4.cell0
       have kp4_1 := p4.cell1
       go_wp2_with fail
       clear kp3_0 kp3_1 kp3_2 kp3_3 kp3_4 kp3_5 kp3_6 kp3_7 kp4_0 kp4_1
       refine (Try.schedRate kd (B : Int) rr ee (Wm : Int) vv ll pp T K _ HR0.out (by have := HBB.out; omega) HTT.out.1.1 HTT.out.1.2 HX.out).mono ?_
       rintro e V23 ⟨rfl, hE⟩
       replace E0 := (Ext.trans E0 hE)
       replace p3 := (p3.ext hE)
       replace p4 := (p4.ext hE)
       clear hE
       obtain ⟨kp3_0, kp3_1, kp3_2, kp3_3, kp3_4, kp3_5, kp3_6, kp3_7⟩ := p3.cells8
       have kp4_0 := p4.cell0
       have kp4_1 := p4.cell1
       go_wp2_with fail
       clear kp3_0 kp3_1 kp3_2 kp3_3 kp3_4 kp3_5 kp3_6 kp3_7 kp4_0 kp4_1
       refine (Try.schedRate kd (B : Int) rr ee (Wm : Int) vv ll pp U K _ HR0.out (by have := HBB.out; omega) HTT.out.2.1.1 HTT.out.2.1.2 HY.out).mono ?_
       rintro e V24 ⟨rfl, hE⟩
       replace E0 := (Ext.trans E0 hE)
       replace p3 := (p3.ext hE)
       replace p4 := (p4.ext hE)
       clear hE
       obtain ⟨kp3_0, kp3_1, kp3_2, kp3_3, kp3_4, kp3_5, kp3_6, kp3_7⟩ := p3.cells8
       have kp4_0 := p4.cell0
       have kp4_1 := p4.cell1
       go_wp2_with fail
       clear kp3_0 kp3_1 kp3_2 kp3_3 kp3_4 kp3_5 kp3_6 kp3_7 kp4_0 kp4_1
       refine (Try.schedRate kd (B : Int) rr ee (Wm : Int) vv ll pp Wm K _ HR0.out (by have := HBB.out; omega) HTT.out.2.2.1 HTT.out.2.2.2 HZ.out).mono ?_
       rintro e V25 ⟨rfl, hE⟩
       replace E0 := (Ext.trans E0 hE)
       replace p3 := (p3.ext hE)
       replace p4 := (p4.ext hE)
       clear hE
       obtain ⟨kp3_0, kp3_1, kp3_2, kp3_3, kp3_4, kp3_5, kp3_6, kp3_7⟩ := p3.cells8
       have kp4_0 := p4.cell0
       have kp4_1 := p4.cell1
       go_wp2_with fail
       clear kp3_0 kp3_1 kp3_2 kp3_3 kp3_4 kp3_5 kp3_6 kp3_7 kp4_0 kp4_1
       refine (Try.refOf Wm _ BW.out).mono ?_
       rintro e V26 ⟨v1, rfl, g1, hE, -⟩
       replace E0 := (Ext.trans E0 hE)
       replace p3 := (p3.ext hE)
       replace p4 := (p4.ext hE)
       clear hE
       obtain ⟨kp3_0, kp3_1, kp3_2, kp3_3, kp3_4, kp3_5, kp3_6, kp3_7⟩ := p3.cells8
       have kp4_0 := p4.cell0
       have kp4_1 := p4.cell1
       go_wp2_with fail
       clear kp3_0 kp3_1 kp3_2 kp3_3 kp3_4 kp3_5 kp3_6 kp3_7 kp4_0 kp4_1
       refine (Try.refOf X _ BX.out).mono ?_
       rintro e V27 ⟨v2, rfl, g2, hE, -⟩
       replace E0 := (Ext.trans E0 hE)
       replace p3 := (p3.ext hE)
       replace p4 := (p4.ext hE)
       replace g1 := (g1.ext hE)
       clear hE
       obtain ⟨kp3_0, kp3_1, kp3_2, kp3_3, kp3_4, kp3_5, kp3_6, kp3_7⟩ := p3.cells8
       have kp4_0 := p4.cell0
       have kp4_1 := p4.cell1
       go_wp2_with fail
       clear kp3_0 kp3_1 kp3_2 kp3_3 kp3_4 kp3_5 kp3_6 kp3_7 kp4_0 kp4_1
       refine (Try.refMul g2 g1 (Sm.one BX.out) (Sm.one BW.out) (by omega)).mono ?_
       rintro e V28 ⟨v3, rfl, g3, hE, -⟩
       rw [← HG.out] at g3
       replace E0 := (Ext.trans E0 hE)
       replace p3 := (p3.ext hE)
       replace p4 := (p4.ext hE)
       replace g1 := (g1.ext hE)
       replace g2 := (g2.ext hE)
       clear hE
       obtain ⟨kp3_0, kp3_1, kp3_2, kp3_3, kp3_4, kp3_5, kp3_6, kp3_7⟩ := p3.cells8
       have kp4_0 := p4.cell0
       have kp4_1 := p4.cell1
       go_upto_region 10 with (fail)
       clear kp3_0 kp3_1 kp3_2 kp3_3 kp3_4 kp3_5 kp3_6 kp3_7 kp4_0 kp4_1
       have ltp3 := p3.lt
       have ltp4 := p4.lt
       have szw10 := Ext.size E0
       refine region_go [.one fun v _ => v = .pointer (some ⟨w.heap.size, 1, none⟩),
         .one fun v _ => v = .int .i64 (B : Int),
         .one fun v _ => v = .int .u64 (B : Int),
         .one fun v W => Nw W v B,
         .one fun v _ => v = .pointer (some ⟨w.heap.size + 1, 0, none⟩),
         .one fun v _ => v = .int .i64 (T : Int),
         .one fun v _ => v = .int .u64 (T : Int),
         .one fun v W => Nw W v T,
         .one fun v W => Nw W v Q,
         .one fun v W => Nw W v Q]
        (fun W => Ext w W ∧ BxA W w.heap.size 46 #[.int .i64 kd, .int .i64 (B : Int), .int .i64 rr, .int .i64 ee, .int .i64 (Wm : Int), .int .i64 vv, .int .i64 ll, .int .i64 pp] ∧ Bx2 W (w.heap.size + 1) 54 (.int .i64 (T : Int)) (.int .i64 (U : Int)) ∧ Nw W v1 Wm ∧ Nw W v2 X ∧ Nw W v3 G ∧ V28.heap.size ≤ W.heap.size) ⟨Good.is _, Good.is _, Good.is _, Good.num _, Good.is _, Good.is _, Good.is _, Good.num _, Good.num _, Good.num _, trivial⟩
        (fun W W1 hS hE => ⟨(Ext.trans hS.1 hE), (hS.2.1.ext hE), (hS.2.2.1.ext hE), (hS.2.2.2.1.ext hE), (hS.2.2.2.2.1.ext hE), (hS.2.2.2.2.2.1.ext hE), (Nat.le_trans hS.2.2.2.2.2.2 (Ext.size hE))⟩) ⟨E0, p3, p4, g1, g2, g3, Nat.le_refl _⟩ (by kernel_rfl) (by kernel_rfl) (by kernel_rfl) (by kernel_rfl) (A := ?A10) ?hA10 ?howe10 ?hfin10
       case hA10 =>
        intro vs
        simp only [putAll, Act.put, List.setIfInBounds_toArray, List.set_cons_zero, List.set_cons_succ, Nat.zero_add, Nat.reduceAdd]
        exact rfl
       case howe10 =>
        clear E0 p3 p4 g1 g2 g3
        intro hf
        refine ⟨owesE 0 [] hf rfl (by kernel_rfl) ?_, owesE 1 [0] hf rfl (by kernel_rfl) ?_, owesE 2 [1] hf rfl (by kernel_rfl) ?_, owesE 3 [2] hf rfl (by kernel_rfl) ?_, owesE 4 [] hf rfl (by kernel_rfl) ?_, owesE 5 [4] hf rfl (by kernel_rfl) ?_, owesE 6 [5] hf rfl (by kernel_rfl) ?_, owesE 7 [6] hf rfl (by kernel_rfl) ?_, owesE 8 [3, 7] hf rfl (by kernel_rfl) ?_, owesE 9 [8] hf rfl (by kernel_rfl) ?_, trivial⟩
        all_goals intro vs W hS hp hx KO hKO
        all_goals simp only [Act.put, List.setIfInBounds_toArray, List.set_cons_zero, List.set_cons_succ] at hKO
        ·go_simp
         exact hKO _ W (Ext.refl W) rfl
        ·have e0 := isOf hp.1
         simp only [e0] at hKO
         have fc1 := BxA.cell (hS.2.1) 1 (v := .int .i64 (B : Int)) rfl
         go_simp
         exact hKO _ W (Ext.refl W) rfl
        ·have e1 := isOf hp.1
         simp only [e1] at hKO
         go_simp
         exact hKO _ W (Ext.refl W) rfl
        ·have e2 := isOf hp.1
         simp only [e2] at hKO
         go_simp
         refine (Try.refOf B _ BB.out).mono ?_
         rintro e W1 ⟨v, rfl, hv, hE, -⟩
         exact hKO _ W1 hE hv
        ·go_simp
         exact hKO _ W (Ext.refl W) rfl
        ·have e4 := isOf hp.1
         simp only [e4] at hKO
         have fc0 := hS.2.2.1.cell0
         go_simp
         exact hKO _ W (Ext.refl W) rfl
        ·have e5 := isOf hp.1
         simp only [e5] at hKO
         go_simp
         exact hKO _ W (Ext.refl W) rfl
        ·have e6 := isOf hp.1
         simp only [e6] at hKO
         go_simp
         refine (Try.refOf T _ BT.out).mono ?_
         rintro e W1 ⟨v, rfl, hv, hE, -⟩
         exact hKO _ W1 hE hv
        ·have q3 := hp.1
         have q7 := hp.2.1
         go_simp
         refine (Try.refMul q3 q7 (Sm.one BB.out) (Sm.one BT.out) (by omega)).mono ?_
         rintro e W1 ⟨v, rfl, hv, hE, -⟩
         rw [← HQQ.out] at hv
         exact hKO _ W1 hE hv
        ·have q8 := hp.1
         go_simp
         exact hKO _ W (Ext.refl W) q8
       intro vs W10 hS hp
       clear szw10 E0 p3 p4 g1 g2 g3
       obtain ⟨E0, p3, p4, g1, g2, g3, sz10⟩ := hS
       obtain ⟨h10_0, h10_1, h10_2, h10_3, h10_4, h10_5, h10_6, h10_7, h10_8, h10_9, -⟩ := hp
       replace h10_0 : vs 0 = .pointer (some ⟨w.heap.size, 1, none⟩) := h10_0
       replace h10_1 : vs 1 = .int .i64 (B : Int) := h10_1
       replace h10_2 : vs 2 = .int .u64 (B : Int) := h10_2
       replace h10_4 : vs 4 = .pointer (some ⟨w.heap.size + 1, 0, none⟩) := h10_4
       replace h10_5 : vs 5 = .int .i64 (T : Int) := h10_5
       replace h10_6 : vs 6 = .int .u64 (T : Int) := h10_6
       simp only [h10_0, h10_1, h10_2, h10_4, h10_5, h10_6]
       replace h10_3 : Nw W10 (vs 3) B := h10_3
       generalize vs 3 = u10_3 at h10_3 ⊢
       replace h10_7 : Nw W10 (vs 7) T := h10_7
       generalize vs 7 = u10_7 at h10_7 ⊢
       replace h10_8 : Nw W10 (vs 8) Q := h10_8
       generalize vs 8 = u10_8 at h10_8 ⊢
       replace h10_9 : Nw W10 (vs 9) Q := h10_9
       generalize vs 9 = u10_9 at h10_9 ⊢
       clear h10_0 h10_1 h10_2 h10_4 h10_5 h10_6
       obtain ⟨kp3_0, kp3_1, kp3_2, kp3_3, kp3_4, kp3_5, kp3_6, kp3_7⟩ := p3.cells8
       have kp4_0 := p4.cell0
       have kp4_1 := p4.cell1
       go_wp2_with fail
       clear kp3_0 kp3_1 kp3_2 kp3_3 kp3_4 kp3_5 kp3_6 kp3_7 kp4_0 kp4_1
       refine (Try.refSub g3 h10_9 SG.out SQ.out (by omega)).mono ?_
       rintro e V29 ⟨v5, rfl, g5, hE, -⟩
       rw [HE1.out]
       replace E0 := (Ext.trans E0 hE)
       replace p3 := (p3.ext hE)
       replace p4 := (p4.ext hE)
       replace g1 := (g1.ext hE)
       replace g2 := (g2.ext hE)
       replace g3 := (g3.ext hE)
       replace h10_3 := (h10_3.ext hE)
       replace h10_7 := (h10_7.ext hE)
       replace h10_8 := (h10_8.ext hE)
       replace h10_9 := (h10_9.ext hE)
       clear hE
       obtain ⟨kp3_0, kp3_1, kp3_2, kp3_3, kp3_4, kp3_5, kp3_6, kp3_7⟩ := p3.cells8
       have kp4_0 := p4.cell0
       have kp4_1 := p4.cell1
       go_wp2_with fail
       clear kp3_0 kp3_1 kp3_2 kp3_3 kp3_4 kp3_5 kp3_6 kp3_7 kp4_0 kp4_1
       refine (Try.refSub h10_9 g3 SQ.out SG.out (by omega)).mono ?_
       rintro e V30 ⟨v6, rfl, g6, hE, -⟩
       rw [HE2.out]
       replace E0 := (Ext.trans E0 hE)
       replace p3 := (p3.ext hE)
       replace p4 := (p4.ext hE)
       replace g1 := (g1.ext hE)
       replace g2 := (g2.ext hE)
       replace g3 := (g3.ext hE)
       replace h10_3 := (h10_3.ext hE)
       replace h10_7 := (h10_7.ext hE)
       replace h10_8 := (h10_8.ext hE)
       replace h10_9 := (h10_9.ext hE)
       replace g5 := (g5.ext hE)
       clear hE
       obtain ⟨kp3_0, kp3_1, kp3_2, kp3_3, kp3_4, kp3_5, kp3_6, kp3_7⟩ := p3.cells8
       have kp4_0 := p4.cell0
       have kp4_1 := p4.cell1
       go_wp2_with fail
       clear kp3_0 kp3_1 kp3_2 kp3_3 kp3_4 kp3_5 kp3_6 kp3_7 kp4_0 kp4_1
       refine (Try.alive15 _).mono ?_
       rintro e V31 ⟨rfl, hE⟩
       replace E0 := (Ext.trans E0 hE)
       replace p3 := (p3.ext hE)
       replace p4 := (p4.ext hE)
       replace g1 := (g1.ext hE)
       replace g2 := (g2.ext hE)
       replace g3 := (g3.ext hE)
       replace h10_3 := (h10_3.ext hE)
       replace h10_7 := (h10_7.ext hE)
       replace h10_8 := (h10_8.ext hE)
       replace h10_9 := (h10_9.ext hE)
       replace g5 := (g5.ext hE)
       replace g6 := (g6.ext hE)
       clear hE
       obtain ⟨kp3_0, kp3_1, kp3_2, kp3_3, kp3_4, kp3_5, kp3_6, kp3_7⟩ := p3.cells8
       have kp4_0 := p4.cell0
       have kp4_1 := p4.cell1
       go_wp2_with fail
       clear kp3_0 kp3_1 kp3_2 kp3_3 kp3_4 kp3_5 kp3_6 kp3_7 kp4_0 kp4_1
       refine (Try.refAdd g6 g6 (SQ.out.le (Nat.sub_le _ _)) (SQ.out.le (Nat.sub_le _ _)) (by omega)).mono ?_
       rintro e V32 ⟨v7, rfl, g7, hE, -⟩
       replace E0 := (Ext.trans E0 hE)
       replace p3 := (p3.ext hE)
       replace p4 := (p4.ext hE)
       replace g1 := (g1.ext hE)
       replace g2 := (g2.ext hE)
       replace g3 := (g3.ext hE)
       replace h10_3 := (h10_3.ext hE)
       replace h10_7 := (h10_7.ext hE)
       replace h10_8 := (h10_8.ext hE)
       replace h10_9 := (h10_9.ext hE)
       replace g5 := (g5.ext hE)
       replace g6 := (g6.ext hE)
       clear hE
       obtain ⟨kp3_0, kp3_1, kp3_2, kp3_3, kp3_4, kp3_5, kp3_6, kp3_7⟩ := p3.cells8
       have kp4_0 := p4.cell0
       have kp4_1 := p4.cell1
       go_wp2_with fail
       clear kp3_0 kp3_1 kp3_2 kp3_3 kp3_4 kp3_5 kp3_6 kp3_7 kp4_0 kp4_1
       refine (Try.cmpLe g7 g1 HD.out).mono ?_
       rintro e V33 ⟨cc, rfl, hcc, hE⟩
       replace E0 := (Ext.trans E0 hE)
       replace p3 := (p3.ext hE)
       replace p4 := (p4.ext hE)
       replace g1 := (g1.ext hE)
       replace g2 := (g2.ext hE)
       replace g3 := (g3.ext hE)
       replace h10_3 := (h10_3.ext hE)
       replace h10_7 := (h10_7.ext hE)
       replace h10_8 := (h10_8.ext hE)
       replace h10_9 := (h10_9.ext hE)
       replace g5 := (g5.ext hE)
       replace g6 := (g6.ext hE)
       replace g7 := (g7.ext hE)
       clear hE
       have hccd : decide (cc ≤ 0) = true := decide_eq_true hcc
       go_wp2
       go_ret
       exact ⟨rfl, E0⟩

set_option maxRecDepth 100000 in
set_option maxHeartbeats 8000000 in
theorem Try.lawSchedRoot (kd bb rr ee ww vv ll pp t ff : Int) (w : World) (hbb : bb < 9223372036854775808) :
  Calls Try.prog 5 #[.agg #[.int .i64 kd, .int .i64 bb, .int .i64 rr, .int .i64 ee, .int .i64 ww, .int .i64 vv, .int .i64 ll, .int .i64 pp], .int .i64 t, .int .i64 ff] w fun e w' => e = .returned (.bool true) ∧ Ext w w' := by
 by_cases hk : kd = 1
 ·subst hk
  cases hq0 : rightS 1 bb rr ee ww vv ll pp ff
  ·have HQ0 := Lib.hid hq0
   clear hq0
   obtain ⟨W0, hW0⟩ : ∃ W0, W0 = (w.alloc (.cells #[.int .i64 1, .int .i64 bb, .int .i64 rr, .int .i64 ee, .int .i64 ww, .int .i64 vv, .int .i64 ll, .int .i64 pp] 46)) := ⟨_, rfl⟩
   have E0 : Ext w W0 := by rw [hW0]; exact (Ext.alloc1 w (.cells #[.int .i64 1, .int .i64 bb, .int .i64 rr, .int .i64 ee, .int .i64 ww, .int .i64 vv, .int .i64 ll, .int .i64 pp] 46))
   have p3 : BxA W0 w.heap.size 46 #[.int .i64 1, .int .i64 bb, .int .i64 rr, .int .i64 ee, .int .i64 ww, .int .i64 vv, .int .i64 ll, .int .i64 pp] := by rw [hW0]; exact (BxA.new w 46 #[.int .i64 1, .int .i64 bb, .int .i64 rr, .int .i64 ee, .int .i64 ww, .int .i64 vv, .int .i64 ll, .int .i64 pp])
   go_enter Try.func5, Try.ntmps5
   obtain ⟨kp3_0, kp3_1, kp3_2, kp3_3, kp3_4, kp3_5, kp3_6, kp3_7⟩ := p3.cells8
   go_wp2_with fail
   rw [← hW0]
   clear hW0
   clear kp3_0 kp3_1 kp3_2 kp3_3 kp3_4 kp3_5 kp3_6 kp3_7
   refine (Try.refRight15 1 bb rr ee ww vv ll pp ff _).mono ?_
   rintro e V34 ⟨rfl, hE⟩
   rw [HQ0.out]
   replace E0 := (Ext.trans E0 hE)
   replace p3 := (p3.ext hE)
   clear hE
   obtain ⟨kp3_0, kp3_1, kp3_2, kp3_3, kp3_4, kp3_5, kp3_6, kp3_7⟩ := p3.cells8
   go_wp2_with fail
   clear kp3_0 kp3_1 kp3_2 kp3_3 kp3_4 kp3_5 kp3_6 kp3_7
   refine (Try.alive15 _).mono ?_
   rintro e V35 ⟨rfl, hE⟩
   replace E0 := (Ext.trans E0 hE)
   replace p3 := (p3.ext hE)
   clear hE
   go_wp2
   go_ret
   exact ⟨rfl, E0⟩
  ·by_cases hc0 : t ≤ ww
   ·have hc0d : decide (t ≤ ww) = true := decide_eq_true hc0
    have HQ0 := Lib.hid hq0
    clear hq0
    obtain ⟨W0, hW0⟩ : ∃ W0, W0 = (w.alloc (.cells #[.int .i64 1, .int .i64 bb, .int .i64 rr, .int .i64 ee, .int .i64 ww, .int .i64 vv, .int .i64 ll, .int .i64 pp] 46)) := ⟨_, rfl⟩
    have E0 : Ext w W0 := by rw [hW0]; exact (Ext.alloc1 w (.cells #[.int .i64 1, .int .i64 bb, .int .i64 rr, .int .i64 ee, .int .i64 ww, .int .i64 vv, .int .i64 ll, .int .i64 pp] 46))
    have p3 : BxA W0 w.heap.size 46 #[.int .i64 1, .int .i64 bb, .int .i64 rr, .int .i64 ee, .int .i64 ww, .int .i64 vv, .int .i64 ll, .int .i64 pp] := by rw [hW0]; exact (BxA.new w 46 #[.int .i64 1, .int .i64 bb, .int .i64 rr, .int .i64 ee, .int .i64 ww, .int .i64 vv, .int .i64 ll, .int .i64 pp])
    go_enter Try.func5, Try.ntmps5
    obtain ⟨kp3_0, kp3_1, kp3_2, kp3_3, kp3_4, kp3_5, kp3_6, kp3_7⟩ := p3.cells8
    go_wp2_with fail
    rw [← hW0]
    clear hW0
    clear kp3_0 kp3_1 kp3_2 kp3_3 kp3_4 kp3_5 kp3_6 kp3_7
    refine (Try.refRight15 1 bb rr ee ww vv ll pp ff _).mono ?_
    rintro e V36 ⟨rfl, hE⟩
    rw [HQ0.out]
    replace E0 := (Ext.trans E0 hE)
    replace p3 := (p3.ext hE)
    clear hE
    obtain ⟨kp3_0, kp3_1, kp3_2, kp3_3, kp3_4, kp3_5, kp3_6, kp3_7⟩ := p3.cells8
    go_wp2_with fail
    clear kp3_0 kp3_1 kp3_2 kp3_3 kp3_4 kp3_5 kp3_6 kp3_7
    refine (Try.alive15 _).mono ?_
    rintro e V37 ⟨rfl, hE⟩
    replace E0 := (Ext.trans E0 hE)
    replace p3 := (p3.ext hE)
    clear hE
    go_wp2
    go_ret
    exact ⟨rfl, E0⟩
   ·have hc0d : decide (t ≤ ww) = false := decide_eq_false hc0
    by_cases hc1 : t < 1
    ·have hc1d : decide (t < 1) = true := decide_eq_true hc1
     have HQ0 := Lib.hid hq0
     clear hq0
     obtain ⟨W0, hW0⟩ : ∃ W0, W0 = (w.alloc (.cells #[.int .i64 1, .int .i64 bb, .int .i64 rr, .int .i64 ee, .int .i64 ww, .int .i64 vv, .int .i64 ll, .int .i64 pp] 46)) := ⟨_, rfl⟩
     have E0 : Ext w W0 := by rw [hW0]; exact (Ext.alloc1 w (.cells #[.int .i64 1, .int .i64 bb, .int .i64 rr, .int .i64 ee, .int .i64 ww, .int .i64 vv, .int .i64 ll, .int .i64 pp] 46))
     have p3 : BxA W0 w.heap.size 46 #[.int .i64 1, .int .i64 bb, .int .i64 rr, .int .i64 ee, .int .i64 ww, .int .i64 vv, .int .i64 ll, .int .i64 pp] := by rw [hW0]; exact (BxA.new w 46 #[.int .i64 1, .int .i64 bb, .int .i64 rr, .int .i64 ee, .int .i64 ww, .int .i64 vv, .int .i64 ll, .int .i64 pp])
     go_enter Try.func5, Try.ntmps5
     obtain ⟨kp3_0, kp3_1, kp3_2, kp3_3, kp3_4, kp3_5, kp3_6, kp3_7⟩ := p3.cells8
     go_wp2_with fail
     rw [← hW0]
     clear hW0
     clear kp3_0 kp3_1 kp3_2 kp3_3 kp3_4 kp3_5 kp3_6 kp3_7
     refine (Try.refRight15 1 bb rr ee ww vv ll pp ff _).mono ?_
     rintro e V38 ⟨rfl, hE⟩
     rw [HQ0.out]
     replace E0 := (Ext.trans E0 hE)
     replace p3 := (p3.ext hE)
     clear hE
     obtain ⟨kp3_0, kp3_1, kp3_2, kp3_3, kp3_4, kp3_5, kp3_6, kp3_7⟩ := p3.cells8
     go_wp2_with fail
     clear kp3_0 kp3_1 kp3_2 kp3_3 kp3_4 kp3_5 kp3_6 kp3_7
     refine (Try.alive15 _).mono ?_
     rintro e V39 ⟨rfl, hE⟩
     replace E0 := (Ext.trans E0 hE)
     replace p3 := (p3.ext hE)
     clear hE
     go_wp2
     go_ret
     exact ⟨rfl, E0⟩
    ·have hc1d : decide (t < 1) = false := decide_eq_false hc1
     by_cases hc2 : 1000000 < t
     ·have hc2d : decide (1000000 < t) = true := decide_eq_true hc2
      have HQ0 := Lib.hid hq0
      clear hq0
      obtain ⟨W0, hW0⟩ : ∃ W0, W0 = (w.alloc (.cells #[.int .i64 1, .int .i64 bb, .int .i64 rr, .int .i64 ee, .int .i64 ww, .int .i64 vv, .int .i64 ll, .int .i64 pp] 46)) := ⟨_, rfl⟩
      have E0 : Ext w W0 := by rw [hW0]; exact (Ext.alloc1 w (.cells #[.int .i64 1, .int .i64 bb, .int .i64 rr, .int .i64 ee, .int .i64 ww, .int .i64 vv, .int .i64 ll, .int .i64 pp] 46))
      have p3 : BxA W0 w.heap.size 46 #[.int .i64 1, .int .i64 bb, .int .i64 rr, .int .i64 ee, .int .i64 ww, .int .i64 vv, .int .i64 ll, .int .i64 pp] := by rw [hW0]; exact (BxA.new w 46 #[.int .i64 1, .int .i64 bb, .int .i64 rr, .int .i64 ee, .int .i64 ww, .int .i64 vv, .int .i64 ll, .int .i64 pp])
      go_enter Try.func5, Try.ntmps5
      obtain ⟨kp3_0, kp3_1, kp3_2, kp3_3, kp3_4, kp3_5, kp3_6, kp3_7⟩ := p3.cells8
      go_wp2_with fail
      rw [← hW0]
      clear hW0
      clear kp3_0 kp3_1 kp3_2 kp3_3 kp3_4 kp3_5 kp3_6 kp3_7
      refine (Try.refRight15 1 bb rr ee ww vv ll pp ff _).mono ?_
      rintro e V40 ⟨rfl, hE⟩
      rw [HQ0.out]
      replace E0 := (Ext.trans E0 hE)
      replace p3 := (p3.ext hE)
      clear hE
      obtain ⟨kp3_0, kp3_1, kp3_2, kp3_3, kp3_4, kp3_5, kp3_6, kp3_7⟩ := p3.cells8
      go_wp2_with fail
      clear kp3_0 kp3_1 kp3_2 kp3_3 kp3_4 kp3_5 kp3_6 kp3_7
      refine (Try.alive15 _).mono ?_
      rintro e V41 ⟨rfl, hE⟩
      replace E0 := (Ext.trans E0 hE)
      replace p3 := (p3.ext hE)
      clear hE
      go_wp2
      go_ret
      exact ⟨rfl, E0⟩
     ·have hc2d : decide (1000000 < t) = false := decide_eq_false hc2
      have hr := rightS_iff.1 hq0
      obtain ⟨K, rfl⟩ := Int.eq_ofNat_of_zero_le (show 0 ≤ ff by omega)
      obtain ⟨T, rfl⟩ := Int.eq_ofNat_of_zero_le (show 0 ≤ t by omega)
      obtain ⟨Wm, rfl⟩ := Int.eq_ofNat_of_zero_le (show 0 ≤ ww by omega)
      obtain ⟨B, rfl⟩ := Int.eq_ofNat_of_zero_le (show 0 ≤ bb by omega)
      have hw2 : Wm ≤ 1000000 := by omega
      clear hr
      have hT1 : 1 ≤ T := by omega
      have hTb : T ≤ 1000000 := by omega
      obtain ⟨M, hM⟩ : ∃ M, M = max Wm 1 := ⟨_, rfl⟩
      have hMb : M ≤ 1000000 := by omega
      have hmx : max (Wm : Int) 1 = (M : Int) := by omega
      have hmy : max (1 : Int) (Wm : Int) = (M : Int) := by omega
      obtain ⟨X, hX⟩ : ∃ X, X = slowV B Wm T := ⟨_, rfl⟩
      have hs := slow_is B Wm T (by omega)
      have hXb : X ≤ B := by rw [hX]; exact slow_le (by omega) (by omega)
      rw [← hX, ← hM] at hs
      have HX : Hid (rateV 1 (B : Int) rr ee (Wm : Int) vv ll pp T K = (X : Int)) := Lib.hid (by rw [rate_slow (by omega) rfl, hX]; rfl)
      have hX2 : ¬ ((X : Int) < 0) := by omega
      have hX2d := decide_eq_false hX2
      have hwX : IntKind.u64.wrap (X : Int) = (X : Int) := by rw [IntKind.wrap_u64]; omega
      have hwX1 : IntKind.u64.wrap ((X : Int) + 1) = ((X + 1 : Nat) : Int) := by rw [IntKind.wrap_u64]; omega
      have hwB : IntKind.u64.wrap (B : Int) = (B : Int) := by rw [IntKind.wrap_u64]; omega
      have hwT : IntKind.u64.wrap (T : Int) = (T : Int) := by rw [IntKind.wrap_u64]; omega
      have hwM : IntKind.u64.wrap (M : Int) = (M : Int) := by rw [IntKind.wrap_u64]; omega
      have BX : Hid (X < B64) := Lib.hid (by rw [B64_eq]; omega)
      have SX : Hid (Sm 1 (X)) := Lib.hid (Sm.one BX.out)
      have BY : Hid (X + 1 < B64) := Lib.hid (by rw [B64_eq]; omega)
      have SY : Hid (Sm 1 (X + 1)) := Lib.hid (Sm.one BY.out)
      have BB : Hid (B < B64) := Lib.hid (by rw [B64_eq]; omega)
      have SB : Hid (Sm 1 (B)) := Lib.hid (Sm.one BB.out)
      have BT : Hid (T < B64) := Lib.hid (by rw [B64_eq]; omega)
      have ST : Hid (Sm 1 (T)) := Lib.hid (Sm.one BT.out)
      have BM : Hid (M < B64) := Lib.hid (by rw [B64_eq]; omega)
      have SM : Hid (Sm 1 (M)) := Lib.hid (Sm.one BM.out)
      obtain ⟨N, hN⟩ : ∃ N, N = B * B * M := ⟨_, rfl⟩
      rw [← hN] at hs
      have HN := Lib.hid hN
      have H1 := Lib.hid hs.1
      have H2 := Lib.hid hs.2
      have HR0 := Lib.hid hq0
      have HBB : Hid (B < 9223372036854775808) := Lib.hid (by omega)
      have HTT := Lib.hid (show 1 ≤ T ∧ T ≤ 1000000 from ⟨hT1, hTb⟩)
      clear hN hs hM hX hXb hMb hT1 hTb hbb hw2 hq0
      obtain ⟨W0, hW0⟩ : ∃ W0, W0 = (w.alloc (.cells #[.int .i64 1, .int .i64 (B : Int), .int .i64 rr, .int .i64 ee, .int .i64 (Wm : Int), .int .i64 vv, .int .i64 ll, .int .i64 pp] 46)) := ⟨_, rfl⟩
      have E0 : Ext w W0 := by rw [hW0]; exact (Ext.alloc1 w (.cells #[.int .i64 1, .int .i64 (B : Int), .int .i64 rr, .int .i64 ee, .int .i64 (Wm : Int), .int .i64 vv, .int .i64 ll, .int .i64 pp] 46))
      have p3 : BxA W0 w.heap.size 46 #[.int .i64 1, .int .i64 (B : Int), .int .i64 rr, .int .i64 ee, .int .i64 (Wm : Int), .int .i64 vv, .int .i64 ll, .int .i64 pp] := by rw [hW0]; exact (BxA.new w 46 #[.int .i64 1, .int .i64 (B : Int), .int .i64 rr, .int .i64 ee, .int .i64 (Wm : Int), .int .i64 vv, .int .i64 ll, .int .i64 pp])
      go_enter Try.func5, Try.ntmps5
      obtain ⟨kp3_0, kp3_1, kp3_2, kp3_3, kp3_4, kp3_5, kp3_6, kp3_7⟩ := p3.cells8
      go_wp2_with fail
      rw [← hW0]
      clear hW0
      clear kp3_0 kp3_1 kp3_2 kp3_3 kp3_4 kp3_5 kp3_6 kp3_7
      refine (Try.refRight15 1 (B : Int) rr ee (Wm : Int) vv ll pp (K : Int) _).mono ?_
      rintro e V42 ⟨rfl, hE⟩
      rw [HR0.out]
      replace E0 := (Ext.trans E0 hE)
      replace p3 := (p3.ext hE)
      clear hE
      obtain ⟨kp3_0, kp3_1, kp3_2, kp3_3, kp3_4, kp3_5, kp3_6, kp3_7⟩ := p3.cells8
      go_wp2_with fail
      clear kp3_0 kp3_1 kp3_2 kp3_3 kp3_4 kp3_5 kp3_6 kp3_7
      refine (Try.schedRate 1 (B : Int) rr ee (Wm : Int) vv ll pp T K _ HR0.out (by have := HBB.out; omega) HTT.out.1 HTT.out.2 HX.out).mono ?_
      rintro e V43 ⟨rfl, hE⟩
      replace E0 := (Ext.trans E0 hE)
      replace p3 := (p3.ext hE)
      clear hE
      obtain ⟨kp3_0, kp3_1, kp3_2, kp3_3, kp3_4, kp3_5, kp3_6, kp3_7⟩ := p3.cells8
      go_wp2_with fail
      clear kp3_0 kp3_1 kp3_2 kp3_3 kp3_4 kp3_5 kp3_6 kp3_7
      refine (Try.refOf (X) _ BX.out).mono ?_
      rintro e V44 ⟨vg1, rfl, g1, hE, -⟩
      replace E0 := (Ext.trans E0 hE)
      replace p3 := (p3.ext hE)
      clear hE
      obtain ⟨kp3_0, kp3_1, kp3_2, kp3_3, kp3_4, kp3_5, kp3_6, kp3_7⟩ := p3.cells8
      go_wp2_with fail
      clear kp3_0 kp3_1 kp3_2 kp3_3 kp3_4 kp3_5 kp3_6 kp3_7
      refine (Try.refOf (X + 1) _ BY.out).mono ?_
      rintro e V45 ⟨vg2, rfl, g2, hE, -⟩
      replace E0 := (Ext.trans E0 hE)
      replace p3 := (p3.ext hE)
      replace g1 := (g1.ext hE)
      clear hE
      obtain ⟨kp3_0, kp3_1, kp3_2, kp3_3, kp3_4, kp3_5, kp3_6, kp3_7⟩ := p3.cells8
      go_wp2_with fail
      clear kp3_0 kp3_1 kp3_2 kp3_3 kp3_4 kp3_5 kp3_6 kp3_7
      refine (Try.refOf (T) _ BT.out).mono ?_
      rintro e V46 ⟨vg3, rfl, g3, hE, -⟩
      replace E0 := (Ext.trans E0 hE)
      replace p3 := (p3.ext hE)
      replace g1 := (g1.ext hE)
      replace g2 := (g2.ext hE)
      clear hE
      obtain ⟨kp3_0, kp3_1, kp3_2, kp3_3, kp3_4, kp3_5, kp3_6, kp3_7⟩ := p3.cells8
      go_wp2_with fail
      clear kp3_0 kp3_1 kp3_2 kp3_3 kp3_4 kp3_5 kp3_6 kp3_7
      refine (Try.refOf (B) _ BB.out).mono ?_
      rintro e V47 ⟨vg4, rfl, g4, hE, -⟩
      replace E0 := (Ext.trans E0 hE)
      replace p3 := (p3.ext hE)
      replace g1 := (g1.ext hE)
      replace g2 := (g2.ext hE)
      replace g3 := (g3.ext hE)
      clear hE
      obtain ⟨kp3_0, kp3_1, kp3_2, kp3_3, kp3_4, kp3_5, kp3_6, kp3_7⟩ := p3.cells8
      go_upto_region 9 with (fail)
      clear kp3_0 kp3_1 kp3_2 kp3_3 kp3_4 kp3_5 kp3_6 kp3_7
      have ltp3 := p3.lt
      have szw11 := Ext.size E0
      refine region_go [.one fun v _ => v = vg4,
        .one fun v _ => v = vg4,
        .one fun v W => Nw W v (B * B),
        .one fun v _ => v = .pointer (some ⟨w.heap.size, 4, none⟩),
        .one fun v _ => v = .int .i64 (Wm : Int),
        .one fun v _ => v = .int .i64 (M : Int),
        .one fun v _ => v = .int .u64 (M : Int),
        .one fun v W => Nw W v M,
        .one fun v W => Nw W v N,
        .one fun v W => Nw W v N]
       (fun W => Ext w W ∧ BxA W w.heap.size 46 #[.int .i64 1, .int .i64 (B : Int), .int .i64 rr, .int .i64 ee, .int .i64 (Wm : Int), .int .i64 vv, .int .i64 ll, .int .i64 pp] ∧ Nw W vg1 X ∧ Nw W vg2 (X + 1) ∧ Nw W vg3 T ∧ Nw W vg4 B ∧ V47.heap.size ≤ W.heap.size) ⟨Good.is _, Good.is _, Good.num _, Good.is _, Good.is _, Good.is _, Good.is _, Good.num _, Good.num _, Good.num _, trivial⟩
       (fun W W1 hS hE => ⟨(Ext.trans hS.1 hE), (hS.2.1.ext hE), (hS.2.2.1.ext hE), (hS.2.2.2.1.ext hE), (hS.2.2.2.2.1.ext hE), (hS.2.2.2.2.2.1.ext hE), (Nat.le_trans hS.2.2.2.2.2.2 (Ext.size hE))⟩) ⟨E0, p3, g1, g2, g3, g4, Nat.le_refl _⟩ (by kernel_rfl) (by kernel_rfl) (by kernel_rfl) (by kernel_rfl) (A := ?A11) ?hA11 ?howe11 ?hfin11
      case hA11 =>
       intro vs
       simp only [putAll, Act.put, List.setIfInBounds_toArray, List.set_cons_zero, List.set_cons_succ, Nat.zero_add, Nat.reduceAdd]
       exact rfl
      case howe11 =>
       clear E0 p3 g1 g2 g3 g4
       intro hf
       refine ⟨owesE 0 [] hf rfl (by kernel_rfl) ?_, owesE 1 [] hf rfl (by kernel_rfl) ?_, owesE 2 [0, 1] hf rfl (by kernel_rfl) ?_, owesE 3 [] hf rfl (by kernel_rfl) ?_, owesE 4 [3] hf rfl (by kernel_rfl) ?_, owesE 5 [4] hf rfl (by kernel_rfl) ?_, owesE 6 [5] hf rfl (by kernel_rfl) ?_, owesE 7 [6] hf rfl (by kernel_rfl) ?_, owesE 8 [2, 7] hf rfl (by kernel_rfl) ?_, owesE 9 [8] hf rfl (by kernel_rfl) ?_, trivial⟩
       all_goals intro vs W hS hp hx KO hKO
       all_goals simp only [Act.put, List.setIfInBounds_toArray, List.set_cons_zero, List.set_cons_succ] at hKO
       ·go_simp
        exact hKO _ W (Ext.refl W) rfl
       ·go_simp
        exact hKO _ W (Ext.refl W) rfl
       ·have e0 := isOf hp.1
        have e1 := isOf hp.2.1
        simp only [e0, e1] at hKO
        go_simp
        refine (Try.refMul (hS.2.2.2.2.2.1) (hS.2.2.2.2.2.1) SB.out SB.out (by omega)).mono ?_
        rintro e W1 ⟨v, rfl, hv, hE, -⟩
        exact hKO _ W1 hE hv
       ·go_simp
        exact hKO _ W (Ext.refl W) rfl
       ·have e3 := isOf hp.1
        simp only [e3] at hKO
        have fc4 := BxA.cell (hS.2.1) 4 (v := .int .i64 (Wm : Int)) rfl
        go_simp
        exact hKO _ W (Ext.refl W) rfl
       ·have e4 := isOf hp.1
        simp only [e4] at hKO
        go_simp
        exact hKO _ W (Ext.refl W) rfl
       ·have e5 := isOf hp.1
        simp only [e5] at hKO
        go_simp
        exact hKO _ W (Ext.refl W) rfl
       ·have e6 := isOf hp.1
        simp only [e6] at hKO
        go_simp
        refine (Try.refOf M _ BM.out).mono ?_
        rintro e W1 ⟨v, rfl, hv, hE, -⟩
        exact hKO _ W1 hE hv
       ·have q2 := hp.1
        have q7 := hp.2.1
        go_simp
        refine (Try.refMul q2 q7 (SB.out.mul SB.out) SM.out (by omega)).mono ?_
        rintro e W1 ⟨v, rfl, hv, hE, -⟩
        rw [← HN.out] at hv
        exact hKO _ W1 hE hv
       ·have q8 := hp.1
        go_simp
        exact hKO _ W (Ext.refl W) q8
      intro vs W11 hS hp
      clear szw11 E0 p3 g1 g2 g3 g4
      obtain ⟨E0, p3, g1, g2, g3, g4, sz11⟩ := hS
      obtain ⟨h11_0, h11_1, h11_2, h11_3, h11_4, h11_5, h11_6, h11_7, h11_8, h11_9, -⟩ := hp
      replace h11_0 : vs 0 = vg4 := h11_0
      replace h11_1 : vs 1 = vg4 := h11_1
      replace h11_3 : vs 3 = .pointer (some ⟨w.heap.size, 4, none⟩) := h11_3
      replace h11_4 : vs 4 = .int .i64 (Wm : Int) := h11_4
      replace h11_5 : vs 5 = .int .i64 (M : Int) := h11_5
      replace h11_6 : vs 6 = .int .u64 (M : Int) := h11_6
      simp only [h11_0, h11_1, h11_3, h11_4, h11_5, h11_6]
      replace h11_2 : Nw W11 (vs 2) (B * B) := h11_2
      generalize vs 2 = u11_2 at h11_2 ⊢
      replace h11_7 : Nw W11 (vs 7) M := h11_7
      generalize vs 7 = u11_7 at h11_7 ⊢
      replace h11_8 : Nw W11 (vs 8) N := h11_8
      generalize vs 8 = u11_8 at h11_8 ⊢
      replace h11_9 : Nw W11 (vs 9) N := h11_9
      generalize vs 9 = u11_9 at h11_9 ⊢
      clear h11_0 h11_1 h11_3 h11_4 h11_5 h11_6
      obtain ⟨kp3_0, kp3_1, kp3_2, kp3_3, kp3_4, kp3_5, kp3_6, kp3_7⟩ := p3.cells8
      go_wp2_with fail
      clear kp3_0 kp3_1 kp3_2 kp3_3 kp3_4 kp3_5 kp3_6 kp3_7
      refine (Try.refMul g1 g1 SX.out SX.out (by omega)).mono ?_
      rintro e V48 ⟨vg5, rfl, g5, hE, -⟩
      replace E0 := (Ext.trans E0 hE)
      replace p3 := (p3.ext hE)
      replace g1 := (g1.ext hE)
      replace g2 := (g2.ext hE)
      replace g3 := (g3.ext hE)
      replace g4 := (g4.ext hE)
      replace h11_2 := (h11_2.ext hE)
      replace h11_7 := (h11_7.ext hE)
      replace h11_8 := (h11_8.ext hE)
      replace h11_9 := (h11_9.ext hE)
      clear hE
      obtain ⟨kp3_0, kp3_1, kp3_2, kp3_3, kp3_4, kp3_5, kp3_6, kp3_7⟩ := p3.cells8
      go_wp2_with fail
      clear kp3_0 kp3_1 kp3_2 kp3_3 kp3_4 kp3_5 kp3_6 kp3_7
      refine (Try.refMul g5 g3 (SX.out.mul SX.out) ST.out (by omega)).mono ?_
      rintro e V49 ⟨vg6, rfl, g6, hE, -⟩
      replace E0 := (Ext.trans E0 hE)
      replace p3 := (p3.ext hE)
      replace g1 := (g1.ext hE)
      replace g2 := (g2.ext hE)
      replace g3 := (g3.ext hE)
      replace g4 := (g4.ext hE)
      replace h11_2 := (h11_2.ext hE)
      replace h11_7 := (h11_7.ext hE)
      replace h11_8 := (h11_8.ext hE)
      replace h11_9 := (h11_9.ext hE)
      replace g5 := (g5.ext hE)
      clear hE
      obtain ⟨kp3_0, kp3_1, kp3_2, kp3_3, kp3_4, kp3_5, kp3_6, kp3_7⟩ := p3.cells8
      go_wp2_with fail
      clear kp3_0 kp3_1 kp3_2 kp3_3 kp3_4 kp3_5 kp3_6 kp3_7
      refine (Try.refMul g2 g2 SY.out SY.out (by omega)).mono ?_
      rintro e V50 ⟨vg7, rfl, g7, hE, -⟩
      replace E0 := (Ext.trans E0 hE)
      replace p3 := (p3.ext hE)
      replace g1 := (g1.ext hE)
      replace g2 := (g2.ext hE)
      replace g3 := (g3.ext hE)
      replace g4 := (g4.ext hE)
      replace h11_2 := (h11_2.ext hE)
      replace h11_7 := (h11_7.ext hE)
      replace h11_8 := (h11_8.ext hE)
      replace h11_9 := (h11_9.ext hE)
      replace g5 := (g5.ext hE)
      replace g6 := (g6.ext hE)
      clear hE
      obtain ⟨kp3_0, kp3_1, kp3_2, kp3_3, kp3_4, kp3_5, kp3_6, kp3_7⟩ := p3.cells8
      go_wp2_with fail
      clear kp3_0 kp3_1 kp3_2 kp3_3 kp3_4 kp3_5 kp3_6 kp3_7
      refine (Try.refMul g7 g3 (SY.out.mul SY.out) ST.out (by omega)).mono ?_
      rintro e V51 ⟨vg8, rfl, g8, hE, -⟩
      replace E0 := (Ext.trans E0 hE)
      replace p3 := (p3.ext hE)
      replace g1 := (g1.ext hE)
      replace g2 := (g2.ext hE)
      replace g3 := (g3.ext hE)
      replace g4 := (g4.ext hE)
      replace h11_2 := (h11_2.ext hE)
      replace h11_7 := (h11_7.ext hE)
      replace h11_8 := (h11_8.ext hE)
      replace h11_9 := (h11_9.ext hE)
      replace g5 := (g5.ext hE)
      replace g6 := (g6.ext hE)
      replace g7 := (g7.ext hE)
      clear hE
      obtain ⟨kp3_0, kp3_1, kp3_2, kp3_3, kp3_4, kp3_5, kp3_6, kp3_7⟩ := p3.cells8
      go_wp2_with fail
      clear kp3_0 kp3_1 kp3_2 kp3_3 kp3_4 kp3_5 kp3_6 kp3_7
      refine (Try.alive15 _).mono ?_
      rintro e V52 ⟨rfl, hE⟩
      replace E0 := (Ext.trans E0 hE)
      replace p3 := (p3.ext hE)
      replace g1 := (g1.ext hE)
      replace g2 := (g2.ext hE)
      replace g3 := (g3.ext hE)
      replace g4 := (g4.ext hE)
      replace h11_2 := (h11_2.ext hE)
      replace h11_7 := (h11_7.ext hE)
      replace h11_8 := (h11_8.ext hE)
      replace h11_9 := (h11_9.ext hE)
      replace g5 := (g5.ext hE)
      replace g6 := (g6.ext hE)
      replace g7 := (g7.ext hE)
      replace g8 := (g8.ext hE)
      clear hE
      obtain ⟨kp3_0, kp3_1, kp3_2, kp3_3, kp3_4, kp3_5, kp3_6, kp3_7⟩ := p3.cells8
      go_wp2_with fail
      clear kp3_0 kp3_1 kp3_2 kp3_3 kp3_4 kp3_5 kp3_6 kp3_7
      refine (Try.cmpLe g6 h11_9 H1.out).mono ?_
      rintro e V53 ⟨cc, rfl, hcc, hE⟩
      replace E0 := (Ext.trans E0 hE)
      replace p3 := (p3.ext hE)
      replace g1 := (g1.ext hE)
      replace g2 := (g2.ext hE)
      replace g3 := (g3.ext hE)
      replace g4 := (g4.ext hE)
      replace h11_2 := (h11_2.ext hE)
      replace h11_7 := (h11_7.ext hE)
      replace h11_8 := (h11_8.ext hE)
      replace h11_9 := (h11_9.ext hE)
      replace g5 := (g5.ext hE)
      replace g6 := (g6.ext hE)
      replace g7 := (g7.ext hE)
      replace g8 := (g8.ext hE)
      clear hE
      have hccd : decide (cc ≤ 0) = true := decide_eq_true hcc
      obtain ⟨kp3_0, kp3_1, kp3_2, kp3_3, kp3_4, kp3_5, kp3_6, kp3_7⟩ := p3.cells8
      go_wp2_with fail
      clear kp3_0 kp3_1 kp3_2 kp3_3 kp3_4 kp3_5 kp3_6 kp3_7
      refine (Try.cmpGt g8 h11_9 H2.out).mono ?_
      rintro e V54 ⟨dd, rfl, hdd, hE⟩
      replace E0 := (Ext.trans E0 hE)
      replace p3 := (p3.ext hE)
      replace g1 := (g1.ext hE)
      replace g2 := (g2.ext hE)
      replace g3 := (g3.ext hE)
      replace g4 := (g4.ext hE)
      replace h11_2 := (h11_2.ext hE)
      replace h11_7 := (h11_7.ext hE)
      replace h11_8 := (h11_8.ext hE)
      replace h11_9 := (h11_9.ext hE)
      replace g5 := (g5.ext hE)
      replace g6 := (g6.ext hE)
      replace g7 := (g7.ext hE)
      replace g8 := (g8.ext hE)
      clear hE
      have hddd : decide (0 < dd) = true := decide_eq_true hdd
      go_wp2
      go_ret
      exact ⟨rfl, E0⟩
 ·have hkb : (kd != 1) = true := by simp [hk]
  have hkc : (kd == 1) = false := beq_eq_false_iff_ne.2 hk
  cases hq0 : rightS kd bb rr ee ww vv ll pp ff
  ·have HQ0 := Lib.hid hq0
   clear hq0
   obtain ⟨W0, hW0⟩ : ∃ W0, W0 = (w.alloc (.cells #[.int .i64 kd, .int .i64 bb, .int .i64 rr, .int .i64 ee, .int .i64 ww, .int .i64 vv, .int .i64 ll, .int .i64 pp] 46)) := ⟨_, rfl⟩
   have E0 : Ext w W0 := by rw [hW0]; exact (Ext.alloc1 w (.cells #[.int .i64 kd, .int .i64 bb, .int .i64 rr, .int .i64 ee, .int .i64 ww, .int .i64 vv, .int .i64 ll, .int .i64 pp] 46))
   have p3 : BxA W0 w.heap.size 46 #[.int .i64 kd, .int .i64 bb, .int .i64 rr, .int .i64 ee, .int .i64 ww, .int .i64 vv, .int .i64 ll, .int .i64 pp] := by rw [hW0]; exact (BxA.new w 46 #[.int .i64 kd, .int .i64 bb, .int .i64 rr, .int .i64 ee, .int .i64 ww, .int .i64 vv, .int .i64 ll, .int .i64 pp])
   go_enter Try.func5, Try.ntmps5
   obtain ⟨kp3_0, kp3_1, kp3_2, kp3_3, kp3_4, kp3_5, kp3_6, kp3_7⟩ := p3.cells8
   go_wp2_with fail
   rw [← hW0]
   clear hW0
   clear kp3_0 kp3_1 kp3_2 kp3_3 kp3_4 kp3_5 kp3_6 kp3_7
   refine (Try.refRight15 kd bb rr ee ww vv ll pp ff _).mono ?_
   rintro e V55 ⟨rfl, hE⟩
   rw [HQ0.out]
   replace E0 := (Ext.trans E0 hE)
   replace p3 := (p3.ext hE)
   clear hE
   obtain ⟨kp3_0, kp3_1, kp3_2, kp3_3, kp3_4, kp3_5, kp3_6, kp3_7⟩ := p3.cells8
   go_wp2_with fail
   clear kp3_0 kp3_1 kp3_2 kp3_3 kp3_4 kp3_5 kp3_6 kp3_7
   refine (Try.alive15 _).mono ?_
   rintro e V56 ⟨rfl, hE⟩
   replace E0 := (Ext.trans E0 hE)
   replace p3 := (p3.ext hE)
   clear hE
   go_wp2
   go_ret
   exact ⟨rfl, E0⟩
  ·have HQ0 := Lib.hid hq0
   clear hq0
   obtain ⟨W0, hW0⟩ : ∃ W0, W0 = (w.alloc (.cells #[.int .i64 kd, .int .i64 bb, .int .i64 rr, .int .i64 ee, .int .i64 ww, .int .i64 vv, .int .i64 ll, .int .i64 pp] 46)) := ⟨_, rfl⟩
   have E0 : Ext w W0 := by rw [hW0]; exact (Ext.alloc1 w (.cells #[.int .i64 kd, .int .i64 bb, .int .i64 rr, .int .i64 ee, .int .i64 ww, .int .i64 vv, .int .i64 ll, .int .i64 pp] 46))
   have p3 : BxA W0 w.heap.size 46 #[.int .i64 kd, .int .i64 bb, .int .i64 rr, .int .i64 ee, .int .i64 ww, .int .i64 vv, .int .i64 ll, .int .i64 pp] := by rw [hW0]; exact (BxA.new w 46 #[.int .i64 kd, .int .i64 bb, .int .i64 rr, .int .i64 ee, .int .i64 ww, .int .i64 vv, .int .i64 ll, .int .i64 pp])
   go_enter Try.func5, Try.ntmps5
   obtain ⟨kp3_0, kp3_1, kp3_2, kp3_3, kp3_4, kp3_5, kp3_6, kp3_7⟩ := p3.cells8
   go_wp2_with fail
   rw [← hW0]
   clear hW0
   clear kp3_0 kp3_1 kp3_2 kp3_3 kp3_4 kp3_5 kp3_6 kp3_7
   refine (Try.refRight15 kd bb rr ee ww vv ll pp ff _).mono ?_
   rintro e V57 ⟨rfl, hE⟩
   rw [HQ0.out]
   replace E0 := (Ext.trans E0 hE)
   replace p3 := (p3.ext hE)
   clear hE
   obtain ⟨kp3_0, kp3_1, kp3_2, kp3_3, kp3_4, kp3_5, kp3_6, kp3_7⟩ := p3.cells8
   go_wp2_with fail
   clear kp3_0 kp3_1 kp3_2 kp3_3 kp3_4 kp3_5 kp3_6 kp3_7
   refine (Try.alive15 _).mono ?_
   rintro e V58 ⟨rfl, hE⟩
   replace E0 := (Ext.trans E0 hE)
   replace p3 := (p3.ext hE)
   clear hE
   go_wp2
   go_ret
   exact ⟨rfl, E0⟩

end Go.Rt
