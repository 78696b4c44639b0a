/-
 The laws of chapter 15 (schedules): Falls, Ends: their walks.
-/
import Derived.Test.YtpenekgnhnfebaaLaw15
namespace Go.Rt
open Go Go.RowKit Go.Proofs

set_option maxRecDepth 100000 in
set_option maxHeartbeats 8000000 in
theorem Try.lawSchedFalls (kd bb rr ee ww vv ll pp t u ff : Int) (w : World) (hbb : bb < 9223372036854775808) :
  Calls Try.prog 7 #[.agg #[.int .i64 kd, .int .i64 bb, .int .i64 rr, .int .i64 ee, .int .i64 ww, .int .i64 vv, .int .i64 ll, .int .i64 pp], .agg #[.int .i64 t, .int .i64 u], .int .i64 ff] w fun e w' => e = .returned (.bool true) ∧ Ext w w' := by
 cases hq0 : rightS kd bb rr ee ww vv ll pp ff
 ·have HQ0 := Lib.hid hq0
  obtain ⟨W0, hW0⟩ : ∃ W0, W0 = ((w.alloc (.cells #[.int .i64 kd, .int .i64 bb, .int .i64 rr, .int .i64 ee, .int .i64 ww, .int .i64 vv, .int .i64 ll, .int .i64 pp] 46)).alloc (.cells #[.int .i64 t, .int .i64 u] 54)) := ⟨_, rfl⟩
  have E0 : Ext w W0 := by rw [hW0]; exact ((Ext.alloc1 w (.cells #[.int .i64 kd, .int .i64 bb, .int .i64 rr, .int .i64 ee, .int .i64 ww, .int .i64 vv, .int .i64 ll, .int .i64 pp] 46)).alloc (.cells #[.int .i64 t, .int .i64 u] 54))
  have p3 : BxA W0 w.heap.size 46 #[.int .i64 kd, .int .i64 bb, .int .i64 rr, .int .i64 ee, .int .i64 ww, .int .i64 vv, .int .i64 ll, .int .i64 pp] := by rw [hW0]; exact (BxA.new w 46 #[.int .i64 kd, .int .i64 bb, .int .i64 rr, .int .i64 ee, .int .i64 ww, .int .i64 vv, .int .i64 ll, .int .i64 pp]).ext (Ext.alloc1 (w.alloc (.cells #[.int .i64 kd, .int .i64 bb, .int .i64 rr, .int .i64 ee, .int .i64 ww, .int .i64 vv, .int .i64 ll, .int .i64 pp] 46)) (.cells #[.int .i64 t, .int .i64 u] 54))
  have p4 : Bx2 W0 (w.heap.size + 1) 54 (.int .i64 t) (.int .i64 u) := by rw [hW0]; simpa using (Bx2.new (w.alloc (.cells #[.int .i64 kd, .int .i64 bb, .int .i64 rr, .int .i64 ee, .int .i64 ww, .int .i64 vv, .int .i64 ll, .int .i64 pp] 46)) 54 (.int .i64 t) (.int .i64 u))
  go_enter Try.func7, Try.ntmps7
  obtain ⟨kp3_0, kp3_1, kp3_2, kp3_3, kp3_4, kp3_5, kp3_6, kp3_7⟩ := p3.cells8
  have kp4_0 := p4.cell0
  have kp4_1 := p4.cell1
  go_wp2_with fail
  rw [← hW0]
  clear hW0
  clear kp3_0 kp3_1 kp3_2 kp3_3 kp3_4 kp3_5 kp3_6 kp3_7 kp4_0 kp4_1
  refine (Try.refRight15 kd bb rr ee ww vv ll pp ff _).mono ?_
  rintro e V1 ⟨rfl, hE⟩
  rw [HQ0.out]
  replace E0 := (Ext.trans E0 hE)
  replace p3 := (p3.ext hE)
  replace p4 := (p4.ext hE)
  clear hE
  obtain ⟨kp3_0, kp3_1, kp3_2, kp3_3, kp3_4, kp3_5, kp3_6, kp3_7⟩ := p3.cells8
  have kp4_0 := p4.cell0
  have kp4_1 := p4.cell1
  go_wp2_with fail
  clear kp3_0 kp3_1 kp3_2 kp3_3 kp3_4 kp3_5 kp3_6 kp3_7 kp4_0 kp4_1
  refine (Try.alive15 _).mono ?_
  rintro e V2 ⟨rfl, hE⟩
  replace E0 := (Ext.trans E0 hE)
  replace p3 := (p3.ext hE)
  replace p4 := (p4.ext hE)
  clear hE
  go_wp2
  go_ret
  exact ⟨rfl, E0⟩
 ·by_cases hc0 : t < 1
  ·have hc0d : decide (t < 1) = true := decide_eq_true hc0
   have HQ0 := Lib.hid hq0
   obtain ⟨W0, hW0⟩ : ∃ W0, W0 = ((w.alloc (.cells #[.int .i64 kd, .int .i64 bb, .int .i64 rr, .int .i64 ee, .int .i64 ww, .int .i64 vv, .int .i64 ll, .int .i64 pp] 46)).alloc (.cells #[.int .i64 t, .int .i64 u] 54)) := ⟨_, rfl⟩
   have E0 : Ext w W0 := by rw [hW0]; exact ((Ext.alloc1 w (.cells #[.int .i64 kd, .int .i64 bb, .int .i64 rr, .int .i64 ee, .int .i64 ww, .int .i64 vv, .int .i64 ll, .int .i64 pp] 46)).alloc (.cells #[.int .i64 t, .int .i64 u] 54))
   have p3 : BxA W0 w.heap.size 46 #[.int .i64 kd, .int .i64 bb, .int .i64 rr, .int .i64 ee, .int .i64 ww, .int .i64 vv, .int .i64 ll, .int .i64 pp] := by rw [hW0]; exact (BxA.new w 46 #[.int .i64 kd, .int .i64 bb, .int .i64 rr, .int .i64 ee, .int .i64 ww, .int .i64 vv, .int .i64 ll, .int .i64 pp]).ext (Ext.alloc1 (w.alloc (.cells #[.int .i64 kd, .int .i64 bb, .int .i64 rr, .int .i64 ee, .int .i64 ww, .int .i64 vv, .int .i64 ll, .int .i64 pp] 46)) (.cells #[.int .i64 t, .int .i64 u] 54))
   have p4 : Bx2 W0 (w.heap.size + 1) 54 (.int .i64 t) (.int .i64 u) := by rw [hW0]; simpa using (Bx2.new (w.alloc (.cells #[.int .i64 kd, .int .i64 bb, .int .i64 rr, .int .i64 ee, .int .i64 ww, .int .i64 vv, .int .i64 ll, .int .i64 pp] 46)) 54 (.int .i64 t) (.int .i64 u))
   go_enter Try.func7, Try.ntmps7
   obtain ⟨kp3_0, kp3_1, kp3_2, kp3_3, kp3_4, kp3_5, kp3_6, kp3_7⟩ := p3.cells8
   have kp4_0 := p4.cell0
   have kp4_1 := p4.cell1
   go_wp2_with fail
   rw [← hW0]
   clear hW0
   clear kp3_0 kp3_1 kp3_2 kp3_3 kp3_4 kp3_5 kp3_6 kp3_7 kp4_0 kp4_1
   refine (Try.refRight15 kd bb rr ee ww vv ll pp ff _).mono ?_
   rintro e V3 ⟨rfl, hE⟩
   rw [HQ0.out]
   replace E0 := (Ext.trans E0 hE)
   replace p3 := (p3.ext hE)
   replace p4 := (p4.ext hE)
   clear hE
   obtain ⟨kp3_0, kp3_1, kp3_2, kp3_3, kp3_4, kp3_5, kp3_6, kp3_7⟩ := p3.cells8
   have kp4_0 := p4.cell0
   have kp4_1 := p4.cell1
   go_wp2_with fail
   clear kp3_0 kp3_1 kp3_2 kp3_3 kp3_4 kp3_5 kp3_6 kp3_7 kp4_0 kp4_1
   refine (Try.alive15 _).mono ?_
   rintro e V4 ⟨rfl, hE⟩
   replace E0 := (Ext.trans E0 hE)
   replace p3 := (p3.ext hE)
   replace p4 := (p4.ext hE)
   clear hE
   go_wp2
   go_ret
   exact ⟨rfl, E0⟩
  ·have hc0d : decide (t < 1) = false := decide_eq_false hc0
   by_cases hc1 : u < t
   ·have hc1d : decide (u < t) = true := decide_eq_true hc1
    have HQ0 := Lib.hid hq0
    obtain ⟨W0, hW0⟩ : ∃ W0, W0 = ((w.alloc (.cells #[.int .i64 kd, .int .i64 bb, .int .i64 rr, .int .i64 ee, .int .i64 ww, .int .i64 vv, .int .i64 ll, .int .i64 pp] 46)).alloc (.cells #[.int .i64 t, .int .i64 u] 54)) := ⟨_, rfl⟩
    have E0 : Ext w W0 := by rw [hW0]; exact ((Ext.alloc1 w (.cells #[.int .i64 kd, .int .i64 bb, .int .i64 rr, .int .i64 ee, .int .i64 ww, .int .i64 vv, .int .i64 ll, .int .i64 pp] 46)).alloc (.cells #[.int .i64 t, .int .i64 u] 54))
    have p3 : BxA W0 w.heap.size 46 #[.int .i64 kd, .int .i64 bb, .int .i64 rr, .int .i64 ee, .int .i64 ww, .int .i64 vv, .int .i64 ll, .int .i64 pp] := by rw [hW0]; exact (BxA.new w 46 #[.int .i64 kd, .int .i64 bb, .int .i64 rr, .int .i64 ee, .int .i64 ww, .int .i64 vv, .int .i64 ll, .int .i64 pp]).ext (Ext.alloc1 (w.alloc (.cells #[.int .i64 kd, .int .i64 bb, .int .i64 rr, .int .i64 ee, .int .i64 ww, .int .i64 vv, .int .i64 ll, .int .i64 pp] 46)) (.cells #[.int .i64 t, .int .i64 u] 54))
    have p4 : Bx2 W0 (w.heap.size + 1) 54 (.int .i64 t) (.int .i64 u) := by rw [hW0]; simpa using (Bx2.new (w.alloc (.cells #[.int .i64 kd, .int .i64 bb, .int .i64 rr, .int .i64 ee, .int .i64 ww, .int .i64 vv, .int .i64 ll, .int .i64 pp] 46)) 54 (.int .i64 t) (.int .i64 u))
    go_enter Try.func7, Try.ntmps7
    obtain ⟨kp3_0, kp3_1, kp3_2, kp3_3, kp3_4, kp3_5, kp3_6, kp3_7⟩ := p3.cells8
    have kp4_0 := p4.cell0
    have kp4_1 := p4.cell1
    go_wp2_with fail
    rw [← hW0]
    clear hW0
    clear kp3_0 kp3_1 kp3_2 kp3_3 kp3_4 kp3_5 kp3_6 kp3_7 kp4_0 kp4_1
    refine (Try.refRight15 kd bb rr ee ww vv ll pp ff _).mono ?_
    rintro e V5 ⟨rfl, hE⟩
    rw [HQ0.out]
    replace E0 := (Ext.trans E0 hE)
    replace p3 := (p3.ext hE)
    replace p4 := (p4.ext hE)
    clear hE
    obtain ⟨kp3_0, kp3_1, kp3_2, kp3_3, kp3_4, kp3_5, kp3_6, kp3_7⟩ := p3.cells8
    have kp4_0 := p4.cell0
    have kp4_1 := p4.cell1
    go_wp2_with fail
    clear kp3_0 kp3_1 kp3_2 kp3_3 kp3_4 kp3_5 kp3_6 kp3_7 kp4_0 kp4_1
    refine (Try.alive15 _).mono ?_
    rintro e V6 ⟨rfl, hE⟩
    replace E0 := (Ext.trans E0 hE)
    replace p3 := (p3.ext hE)
    replace p4 := (p4.ext hE)
    clear hE
    go_wp2
    go_ret
    exact ⟨rfl, E0⟩
   ·have hc1d : decide (u < t) = false := decide_eq_false hc1
    by_cases hc2 : 1000000 < u
    ·have hc2d : decide (1000000 < u) = true := decide_eq_true hc2
     have HQ0 := Lib.hid hq0
     obtain ⟨W0, hW0⟩ : ∃ W0, W0 = ((w.alloc (.cells #[.int .i64 kd, .int .i64 bb, .int .i64 rr, .int .i64 ee, .int .i64 ww, .int .i64 vv, .int .i64 ll, .int .i64 pp] 46)).alloc (.cells #[.int .i64 t, .int .i64 u] 54)) := ⟨_, rfl⟩
     have E0 : Ext w W0 := by rw [hW0]; exact ((Ext.alloc1 w (.cells #[.int .i64 kd, .int .i64 bb, .int .i64 rr, .int .i64 ee, .int .i64 ww, .int .i64 vv, .int .i64 ll, .int .i64 pp] 46)).alloc (.cells #[.int .i64 t, .int .i64 u] 54))
     have p3 : BxA W0 w.heap.size 46 #[.int .i64 kd, .int .i64 bb, .int .i64 rr, .int .i64 ee, .int .i64 ww, .int .i64 vv, .int .i64 ll, .int .i64 pp] := by rw [hW0]; exact (BxA.new w 46 #[.int .i64 kd, .int .i64 bb, .int .i64 rr, .int .i64 ee, .int .i64 ww, .int .i64 vv, .int .i64 ll, .int .i64 pp]).ext (Ext.alloc1 (w.alloc (.cells #[.int .i64 kd, .int .i64 bb, .int .i64 rr, .int .i64 ee, .int .i64 ww, .int .i64 vv, .int .i64 ll, .int .i64 pp] 46)) (.cells #[.int .i64 t, .int .i64 u] 54))
     have p4 : Bx2 W0 (w.heap.size + 1) 54 (.int .i64 t) (.int .i64 u) := by rw [hW0]; simpa using (Bx2.new (w.alloc (.cells #[.int .i64 kd, .int .i64 bb, .int .i64 rr, .int .i64 ee, .int .i64 ww, .int .i64 vv, .int .i64 ll, .int .i64 pp] 46)) 54 (.int .i64 t) (.int .i64 u))
     go_enter Try.func7, Try.ntmps7
     obtain ⟨kp3_0, kp3_1, kp3_2, kp3_3, kp3_4, kp3_5, kp3_6, kp3_7⟩ := p3.cells8
     have kp4_0 := p4.cell0
     have kp4_1 := p4.cell1
     go_wp2_with fail
     rw [← hW0]
     clear hW0
     clear kp3_0 kp3_1 kp3_2 kp3_3 kp3_4 kp3_5 kp3_6 kp3_7 kp4_0 kp4_1
     refine (Try.refRight15 kd bb rr ee ww vv ll pp ff _).mono ?_
     rintro e V7 ⟨rfl, hE⟩
     rw [HQ0.out]
     replace E0 := (Ext.trans E0 hE)
     replace p3 := (p3.ext hE)
     replace p4 := (p4.ext hE)
     clear hE
     obtain ⟨kp3_0, kp3_1, kp3_2, kp3_3, kp3_4, kp3_5, kp3_6, kp3_7⟩ := p3.cells8
     have kp4_0 := p4.cell0
     have kp4_1 := p4.cell1
     go_wp2_with fail
     clear kp3_0 kp3_1 kp3_2 kp3_3 kp3_4 kp3_5 kp3_6 kp3_7 kp4_0 kp4_1
     refine (Try.alive15 _).mono ?_
     rintro e V8 ⟨rfl, hE⟩
     replace E0 := (Ext.trans E0 hE)
     replace p3 := (p3.ext hE)
     replace p4 := (p4.ext hE)
     clear hE
     go_wp2
     go_ret
     exact ⟨rfl, E0⟩
    ·have hc2d : decide (1000000 < u) = false := decide_eq_false hc2
     have hr := rightS_iff.1 hq0
     obtain ⟨K, rfl⟩ := Int.eq_ofNat_of_zero_le (show 0 ≤ ff by omega)
     obtain ⟨T, rfl⟩ := Int.eq_ofNat_of_zero_le (show 0 ≤ t by omega)
     obtain ⟨U, rfl⟩ := Int.eq_ofNat_of_zero_le (show 0 ≤ u by omega)
     obtain ⟨Wm, rfl⟩ := Int.eq_ofNat_of_zero_le (show 0 ≤ ww by omega)
     obtain ⟨B, rfl⟩ := Int.eq_ofNat_of_zero_le (show 0 ≤ bb by omega)
     obtain ⟨X, hX⟩ : ∃ X, rateV kd (B : Int) rr ee (Wm : Int) vv ll pp T K = X := ⟨_, rfl⟩
     obtain ⟨Y, hY⟩ : ∃ Y, rateV kd (B : Int) rr ee (Wm : Int) vv ll pp U K = Y := ⟨_, rfl⟩
     have hkc : kd = 0 ∨ kd = 1 ∨ kd = 2 ∨ kd = 3 := by omega
     clear hr
     have hbX := rate_bounds hq0 (t := T) (by omega)
     have hbY := rate_bounds hq0 (t := U) (by omega)
     rw [hX] at hbX
     rw [hY] at hbY
     have hX0 : ¬ (X < 0) := by omega
     have hXB : ¬ ((B : Int) < X) := by omega
     have hX0d := decide_eq_false hX0
     have hXBd := decide_eq_false hXB
     have hY0 : ¬ (Y < 0) := by omega
     have hYB : ¬ ((B : Int) < Y) := by omega
     have hY0d := decide_eq_false hY0
     have hYBd := decide_eq_false hYB
     by_cases htw : (T : Int) ≤ (Wm : Int)
     ·have htwd := decide_eq_true htw
      have htwn : T ≤ Wm := by omega
      clear hbX hbY hkc
      have HR0 := Lib.hid hq0
      have HBB : Hid (B < 9223372036854775808) := Lib.hid (by omega)
      have HTT : Hid ((1 ≤ T ∧ T ≤ 1000000) ∧ (1 ≤ U ∧ U ≤ 1000000)) := Lib.hid (by omega)
      have HX := Lib.hid hX
      have HY := Lib.hid hY
      clear hq0 hbb hX hY
      obtain ⟨W0, hW0⟩ : ∃ W0, W0 = ((w.alloc (.cells #[.int .i64 kd, .int .i64 (B : Int), .int .i64 rr, .int .i64 ee, .int .i64 (Wm : Int), .int .i64 vv, .int .i64 ll, .int .i64 pp] 46)).alloc (.cells #[.int .i64 (T : Int), .int .i64 (U : Int)] 54)) := ⟨_, rfl⟩
      have E0 : Ext w W0 := by rw [hW0]; exact ((Ext.alloc1 w (.cells #[.int .i64 kd, .int .i64 (B : Int), .int .i64 rr, .int .i64 ee, .int .i64 (Wm : Int), .int .i64 vv, .int .i64 ll, .int .i64 pp] 46)).alloc (.cells #[.int .i64 (T : Int), .int .i64 (U : Int)] 54))
      have p3 : BxA W0 w.heap.size 46 #[.int .i64 kd, .int .i64 (B : Int), .int .i64 rr, .int .i64 ee, .int .i64 (Wm : Int), .int .i64 vv, .int .i64 ll, .int .i64 pp] := by rw [hW0]; exact (BxA.new w 46 #[.int .i64 kd, .int .i64 (B : Int), .int .i64 rr, .int .i64 ee, .int .i64 (Wm : Int), .int .i64 vv, .int .i64 ll, .int .i64 pp]).ext (Ext.alloc1 (w.alloc (.cells #[.int .i64 kd, .int .i64 (B : Int), .int .i64 rr, .int .i64 ee, .int .i64 (Wm : Int), .int .i64 vv, .int .i64 ll, .int .i64 pp] 46)) (.cells #[.int .i64 (T : Int), .int .i64 (U : Int)] 54))
      have p4 : Bx2 W0 (w.heap.size + 1) 54 (.int .i64 (T : Int)) (.int .i64 (U : Int)) := by rw [hW0]; simpa using (Bx2.new (w.alloc (.cells #[.int .i64 kd, .int .i64 (B : Int), .int .i64 rr, .int .i64 ee, .int .i64 (Wm : Int), .int .i64 vv, .int .i64 ll, .int .i64 pp] 46)) 54 (.int .i64 (T : Int)) (.int .i64 (U : Int)))
      go_enter Try.func7, Try.ntmps7
      obtain ⟨kp3_0, kp3_1, kp3_2, kp3_3, kp3_4, kp3_5, kp3_6, kp3_7⟩ := p3.cells8
      have kp4_0 := p4.cell0
      have kp4_1 := p4.cell1
      go_wp2_with fail
      rw [← hW0]
      clear hW0
      clear kp3_0 kp3_1 kp3_2 kp3_3 kp3_4 kp3_5 kp3_6 kp3_7 kp4_0 kp4_1
      refine (Try.refRight15 kd (B : Int) rr ee (Wm : Int) vv ll pp (K : Int) _).mono ?_
      rintro e V9 ⟨rfl, hE⟩
      rw [HR0.out]
      replace E0 := (Ext.trans E0 hE)
      replace p3 := (p3.ext hE)
      replace p4 := (p4.ext hE)
      clear hE
      obtain ⟨kp3_0, kp3_1, kp3_2, kp3_3, kp3_4, kp3_5, kp3_6, kp3_7⟩ := p3.cells8
      have kp4_0 := p4.cell0
      have kp4_1 := p4.cell1
      go_wp2_with fail
      clear kp3_0 kp3_1 kp3_2 kp3_3 kp3_4 kp3_5 kp3_6 kp3_7 kp4_0 kp4_1
      refine (Try.schedRate kd (B : Int) rr ee (Wm : Int) vv ll pp T K _ HR0.out (by have := HBB.out; omega) HTT.out.1.1 HTT.out.1.2 HX.out).mono ?_
      rintro e V10 ⟨rfl, hE⟩
      replace E0 := (Ext.trans E0 hE)
      replace p3 := (p3.ext hE)
      replace p4 := (p4.ext hE)
      clear hE
      obtain ⟨kp3_0, kp3_1, kp3_2, kp3_3, kp3_4, kp3_5, kp3_6, kp3_7⟩ := p3.cells8
      have kp4_0 := p4.cell0
      have kp4_1 := p4.cell1
      go_wp2_with fail
      clear kp3_0 kp3_1 kp3_2 kp3_3 kp3_4 kp3_5 kp3_6 kp3_7 kp4_0 kp4_1
      refine (Try.schedRate kd (B : Int) rr ee (Wm : Int) vv ll pp U K _ HR0.out (by have := HBB.out; omega) HTT.out.2.1 HTT.out.2.2 HY.out).mono ?_
      rintro e V11 ⟨rfl, hE⟩
      replace E0 := (Ext.trans E0 hE)
      replace p3 := (p3.ext hE)
      replace p4 := (p4.ext hE)
      clear hE
      obtain ⟨kp3_0, kp3_1, kp3_2, kp3_3, kp3_4, kp3_5, kp3_6, kp3_7⟩ := p3.cells8
      have kp4_0 := p4.cell0
      have kp4_1 := p4.cell1
      go_wp2_with fail
      clear kp3_0 kp3_1 kp3_2 kp3_3 kp3_4 kp3_5 kp3_6 kp3_7 kp4_0 kp4_1
      refine (Try.alive15 _).mono ?_
      rintro e V12 ⟨rfl, hE⟩
      replace E0 := (Ext.trans E0 hE)
      replace p3 := (p3.ext hE)
      replace p4 := (p4.ext hE)
      clear hE
      obtain ⟨kp3_0, kp3_1, kp3_2, kp3_3, kp3_4, kp3_5, kp3_6, kp3_7⟩ := p3.cells8
      have kp4_0 := p4.cell0
      have kp4_1 := p4.cell1
      go_wp2
      go_ret
      exact ⟨rfl, E0⟩
     ·have hfl := rate_falls hq0 (t := T) (u := U) (by omega) (by omega) htw
      rw [hX, hY] at hfl
      have hfld := decide_eq_true hfl
      have htwd := decide_eq_false htw
      have htwn : ¬ T ≤ Wm := by omega
      have huw : ¬ (U : Int) ≤ (Wm : Int) := by omega
      rcases hkc with rfl | rfl | rfl | rfl
      ·rw [rate_const huw rfl] at hY
       subst hY
       have hY : rateV 0 (B : Int) rr ee (Wm : Int) vv ll pp U K = (B : Int) := rate_const huw rfl
       clear hbX hbY huw
       have HR0 := Lib.hid hq0
       have HBB : Hid (B < 9223372036854775808) := Lib.hid (by omega)
       have HTT : Hid ((1 ≤ T ∧ T ≤ 1000000) ∧ (1 ≤ U ∧ U ≤ 1000000)) := Lib.hid (by omega)
       have HX := Lib.hid hX
       have HY := Lib.hid hY
       clear hq0 hbb hX hY
       obtain ⟨W0, hW0⟩ : ∃ W0, W0 = ((w.alloc (.cells #[.int .i64 0, .int .i64 (B : Int), .int .i64 rr, .int .i64 ee, .int .i64 (Wm : Int), .int .i64 vv, .int .i64 ll, .int .i64 pp] 46)).alloc (.cells #[.int .i64 (T : Int), .int .i64 (U : Int)] 54)) := ⟨_, rfl⟩
       have E0 : Ext w W0 := by rw [hW0]; exact ((Ext.alloc1 w (.cells #[.int .i64 0, .int .i64 (B : Int), .int .i64 rr, .int .i64 ee, .int .i64 (Wm : Int), .int .i64 vv, .int .i64 ll, .int .i64 pp] 46)).alloc (.cells #[.int .i64 (T : Int), .int .i64 (U : Int)] 54))
       have p3 : BxA W0 w.heap.size 46 #[.int .i64 0, .int .i64 (B : Int), .int .i64 rr, .int .i64 ee, .int .i64 (Wm : Int), .int .i64 vv, .int .i64 ll, .int .i64 pp] := by rw [hW0]; exact (BxA.new w 46 #[.int .i64 0, .int .i64 (B : Int), .int .i64 rr, .int .i64 ee, .int .i64 (Wm : Int), .int .i64 vv, .int .i64 ll, .int .i64 pp]).ext (Ext.alloc1 (w.alloc (.cells #[.int .i64 0, .int .i64 (B : Int), .int .i64 rr, .int .i64 ee, .int .i64 (Wm : Int), .int .i64 vv, .int .i64 ll, .int .i64 pp] 46)) (.cells #[.int .i64 (T : Int), .int .i64 (U : Int)] 54))
       have p4 : Bx2 W0 (w.heap.size + 1) 54 (.int .i64 (T : Int)) (.int .i64 (U : Int)) := by rw [hW0]; simpa using (Bx2.new (w.alloc (.cells #[.int .i64 0, .int .i64 (B : Int), .int .i64 rr, .int .i64 ee, .int .i64 (Wm : Int), .int .i64 vv, .int .i64 ll, .int .i64 pp] 46)) 54 (.int .i64 (T : Int)) (.int .i64 (U : Int)))
       go_enter Try.func7, Try.ntmps7
       obtain ⟨kp3_0, kp3_1, kp3_2, kp3_3, kp3_4, kp3_5, kp3_6, kp3_7⟩ := p3.cells8
       have kp4_0 := p4.cell0
       have kp4_1 := p4.cell1
       go_wp2_with fail
       rw [← hW0]
       clear hW0
       clear kp3_0 kp3_1 kp3_2 kp3_3 kp3_4 kp3_5 kp3_6 kp3_7 kp4_0 kp4_1
       refine (Try.refRight15 0 (B : Int) rr ee (Wm : Int) vv ll pp (K : Int) _).mono ?_
       rintro e V13 ⟨rfl, hE⟩
       rw [HR0.out]
       replace E0 := (Ext.trans E0 hE)
       replace p3 := (p3.ext hE)
       replace p4 := (p4.ext hE)
       clear hE
       obtain ⟨kp3_0, kp3_1, kp3_2, kp3_3, kp3_4, kp3_5, kp3_6, kp3_7⟩ := p3.cells8
       have kp4_0 := p4.cell0
       have kp4_1 := p4.cell1
       go_wp2_with fail
       clear kp3_0 kp3_1 kp3_2 kp3_3 kp3_4 kp3_5 kp3_6 kp3_7 kp4_0 kp4_1
       refine (Try.schedRate 0 (B : Int) rr ee (Wm : Int) vv ll pp T K _ HR0.out (by have := HBB.out; omega) HTT.out.1.1 HTT.out.1.2 HX.out).mono ?_
       rintro e V14 ⟨rfl, hE⟩
       replace E0 := (Ext.trans E0 hE)
       replace p3 := (p3.ext hE)
       replace p4 := (p4.ext hE)
       clear hE
       obtain ⟨kp3_0, kp3_1, kp3_2, kp3_3, kp3_4, kp3_5, kp3_6, kp3_7⟩ := p3.cells8
       have kp4_0 := p4.cell0
       have kp4_1 := p4.cell1
       go_wp2_with fail
       clear kp3_0 kp3_1 kp3_2 kp3_3 kp3_4 kp3_5 kp3_6 kp3_7 kp4_0 kp4_1
       refine (Try.schedRate 0 (B : Int) rr ee (Wm : Int) vv ll pp U K _ HR0.out (by have := HBB.out; omega) HTT.out.2.1 HTT.out.2.2 HY.out).mono ?_
       rintro e V15 ⟨rfl, hE⟩
       replace E0 := (Ext.trans E0 hE)
       replace p3 := (p3.ext hE)
       replace p4 := (p4.ext hE)
       clear hE
       obtain ⟨kp3_0, kp3_1, kp3_2, kp3_3, kp3_4, kp3_5, kp3_6, kp3_7⟩ := p3.cells8
       have kp4_0 := p4.cell0
       have kp4_1 := p4.cell1
       go_wp2_with fail
       clear kp3_0 kp3_1 kp3_2 kp3_3 kp3_4 kp3_5 kp3_6 kp3_7 kp4_0 kp4_1
       refine (Try.alive15 _).mono ?_
       rintro e V16 ⟨rfl, hE⟩
       replace E0 := (Ext.trans E0 hE)
       replace p3 := (p3.ext hE)
       replace p4 := (p4.ext hE)
       clear hE
       obtain ⟨kp3_0, kp3_1, kp3_2, kp3_3, kp3_4, kp3_5, kp3_6, kp3_7⟩ := p3.cells8
       have kp4_0 := p4.cell0
       have kp4_1 := p4.cell1
       go_wp2
       go_ret
       exact ⟨rfl, E0⟩
      ·clear hbX hbY huw
       have HR0 := Lib.hid hq0
       have HBB : Hid (B < 9223372036854775808) := Lib.hid (by omega)
       have HTT : Hid ((1 ≤ T ∧ T ≤ 1000000) ∧ (1 ≤ U ∧ U ≤ 1000000)) := Lib.hid (by omega)
       have HX := Lib.hid hX
       have HY := Lib.hid hY
       clear hq0 hbb hX hY
       obtain ⟨W0, hW0⟩ : ∃ W0, W0 = ((w.alloc (.cells #[.int .i64 1, .int .i64 (B : Int), .int .i64 rr, .int .i64 ee, .int .i64 (Wm : Int), .int .i64 vv, .int .i64 ll, .int .i64 pp] 46)).alloc (.cells #[.int .i64 (T : Int), .int .i64 (U : Int)] 54)) := ⟨_, rfl⟩
       have E0 : Ext w W0 := by rw [hW0]; exact ((Ext.alloc1 w (.cells #[.int .i64 1, .int .i64 (B : Int), .int .i64 rr, .int .i64 ee, .int .i64 (Wm : Int), .int .i64 vv, .int .i64 ll, .int .i64 pp] 46)).alloc (.cells #[.int .i64 (T : Int), .int .i64 (U : Int)] 54))
       have p3 : BxA W0 w.heap.size 46 #[.int .i64 1, .int .i64 (B : Int), .int .i64 rr, .int .i64 ee, .int .i64 (Wm : Int), .int .i64 vv, .int .i64 ll, .int .i64 pp] := by rw [hW0]; exact (BxA.new w 46 #[.int .i64 1, .int .i64 (B : Int), .int .i64 rr, .int .i64 ee, .int .i64 (Wm : Int), .int .i64 vv, .int .i64 ll, .int .i64 pp]).ext (Ext.alloc1 (w.alloc (.cells #[.int .i64 1, .int .i64 (B : Int), .int .i64 rr, .int .i64 ee, .int .i64 (Wm : Int), .int .i64 vv, .int .i64 ll, .int .i64 pp] 46)) (.cells #[.int .i64 (T : Int), .int .i64 (U : Int)] 54))
       have p4 : Bx2 W0 (w.heap.size + 1) 54 (.int .i64 (T : Int)) (.int .i64 (U : Int)) := by rw [hW0]; simpa using (Bx2.new (w.alloc (.cells #[.int .i64 1, .int .i64 (B : Int), .int .i64 rr, .int .i64 ee, .int .i64 (Wm : Int), .int .i64 vv, .int .i64 ll, .int .i64 pp] 46)) 54 (.int .i64 (T : Int)) (.int .i64 (U : Int)))
       go_enter Try.func7, Try.ntmps7
       obtain ⟨kp3_0, kp3_1, kp3_2, kp3_3, kp3_4, kp3_5, kp3_6, kp3_7⟩ := p3.cells8
       have kp4_0 := p4.cell0
       have kp4_1 := p4.cell1
       go_wp2_with fail
       rw [← hW0]
       clear hW0
       clear kp3_0 kp3_1 kp3_2 kp3_3 kp3_4 kp3_5 kp3_6 kp3_7 kp4_0 kp4_1
       refine (Try.refRight15 1 (B : Int) rr ee (Wm : Int) vv ll pp (K : Int) _).mono ?_
       rintro e V17 ⟨rfl, hE⟩
       rw [HR0.out]
       replace E0 := (Ext.trans E0 hE)
       replace p3 := (p3.ext hE)
       replace p4 := (p4.ext hE)
       clear hE
       obtain ⟨kp3_0, kp3_1, kp3_2, kp3_3, kp3_4, kp3_5, kp3_6, kp3_7⟩ := p3.cells8
       have kp4_0 := p4.cell0
       have kp4_1 := p4.cell1
       go_wp2_with fail
       clear kp3_0 kp3_1 kp3_2 kp3_3 kp3_4 kp3_5 kp3_6 kp3_7 kp4_0 kp4_1
       refine (Try.schedRate 1 (B : Int) rr ee (Wm : Int) vv ll pp T K _ HR0.out (by have := HBB.out; omega) HTT.out.1.1 HTT.out.1.2 HX.out).mono ?_
       rintro e V18 ⟨rfl, hE⟩
       replace E0 := (Ext.trans E0 hE)
       replace p3 := (p3.ext hE)
       replace p4 := (p4.ext hE)
       clear hE
       obtain ⟨kp3_0, kp3_1, kp3_2, kp3_3, kp3_4, kp3_5, kp3_6, kp3_7⟩ := p3.cells8
       have kp4_0 := p4.cell0
       have kp4_1 := p4.cell1
       go_wp2_with fail
       clear kp3_0 kp3_1 kp3_2 kp3_3 kp3_4 kp3_5 kp3_6 kp3_7 kp4_0 kp4_1
       refine (Try.schedRate 1 (B : Int) rr ee (Wm : Int) vv ll pp U K _ HR0.out (by have := HBB.out; omega) HTT.out.2.1 HTT.out.2.2 HY.out).mono ?_
       rintro e V19 ⟨rfl, hE⟩
       replace E0 := (Ext.trans E0 hE)
       replace p3 := (p3.ext hE)
       replace p4 := (p4.ext hE)
       clear hE
       obtain ⟨kp3_0, kp3_1, kp3_2, kp3_3, kp3_4, kp3_5, kp3_6, kp3_7⟩ := p3.cells8
       have kp4_0 := p4.cell0
       have kp4_1 := p4.cell1
       go_wp2_with fail
       clear kp3_0 kp3_1 kp3_2 kp3_3 kp3_4 kp3_5 kp3_6 kp3_7 kp4_0 kp4_1
       refine (Try.alive15 _).mono ?_
       rintro e V20 ⟨rfl, hE⟩
       replace E0 := (Ext.trans E0 hE)
       replace p3 := (p3.ext hE)
       replace p4 := (p4.ext hE)
       clear hE
       obtain ⟨kp3_0, kp3_1, kp3_2, kp3_3, kp3_4, kp3_5, kp3_6, kp3_7⟩ := p3.cells8
       have kp4_0 := p4.cell0
       have kp4_1 := p4.cell1
       go_wp2
       go_ret
       exact ⟨rfl, E0⟩
      ·clear hbX hbY huw
       have HR0 := Lib.hid hq0
       have HBB : Hid (B < 9223372036854775808) := Lib.hid (by omega)
       have HTT : Hid ((1 ≤ T ∧ T ≤ 1000000) ∧ (1 ≤ U ∧ U ≤ 1000000)) := Lib.hid (by omega)
       have HX := Lib.hid hX
       have HY := Lib.hid hY
       clear hq0 hbb hX hY
       obtain ⟨W0, hW0⟩ : ∃ W0, W0 = ((w.alloc (.cells #[.int .i64 2, .int .i64 (B : Int), .int .i64 rr, .int .i64 ee, .int .i64 (Wm : Int), .int .i64 vv, .int .i64 ll, .int .i64 pp] 46)).alloc (.cells #[.int .i64 (T : Int), .int .i64 (U : Int)] 54)) := ⟨_, rfl⟩
       have E0 : Ext w W0 := by rw [hW0]; exact ((Ext.alloc1 w (.cells #[.int .i64 2, .int .i64 (B : Int), .int .i64 rr, .int .i64 ee, .int .i64 (Wm : Int), .int .i64 vv, .int .i64 ll, .int .i64 pp] 46)).alloc (.cells #[.int .i64 (T : Int), .int .i64 (U : Int)] 54))
       have p3 : BxA W0 w.heap.size 46 #[.int .i64 2, .int .i64 (B : Int), .int .i64 rr, .int .i64 ee, .int .i64 (Wm : Int), .int .i64 vv, .int .i64 ll, .int .i64 pp] := by rw [hW0]; exact (BxA.new w 46 #[.int .i64 2, .int .i64 (B : Int), .int .i64 rr, .int .i64 ee, .int .i64 (Wm : Int), .int .i64 vv, .int .i64 ll, .int .i64 pp]).ext (Ext.alloc1 (w.alloc (.cells #[.int .i64 2, .int .i64 (B : Int), .int .i64 rr, .int .i64 ee, .int .i64 (Wm : Int), .int .i64 vv, .int .i64 ll, .int .i64 pp] 46)) (.cells #[.int .i64 (T : Int), .int .i64 (U : Int)] 54))
       have p4 : Bx2 W0 (w.heap.size + 1) 54 (.int .i64 (T : Int)) (.int .i64 (U : Int)) := by rw [hW0]; simpa using (Bx2.new (w.alloc (.cells #[.int .i64 2, .int .i64 (B : Int), .int .i64 rr, .int .i64 ee, .int .i64 (Wm : Int), .int .i64 vv, .int .i64 ll, .int .i64 pp] 46)) 54 (.int .i64 (T : Int)) (.int .i64 (U : Int)))
       go_enter Try.func7, Try.ntmps7
       obtain ⟨kp3_0, kp3_1, kp3_2, kp3_3, kp3_4, kp3_5, kp3_6, kp3_7⟩ := p3.cells8
       have kp4_0 := p4.cell0
       have kp4_1 := p4.cell1
       go_wp2_with fail
       rw [← hW0]
       clear hW0
       clear kp3_0 kp3_1 kp3_2 kp3_3 kp3_4 kp3_5 kp3_6 kp3_7 kp4_0 kp4_1
       refine (Try.refRight15 2 (B : Int) rr ee (Wm : Int) vv ll pp (K : Int) _).mono ?_
       rintro e V21 ⟨rfl, hE⟩
       rw [HR0.out]
       replace E0 := (Ext.trans E0 hE)
       replace p3 := (p3.ext hE)
       replace p4 := (p4.ext hE)
       clear hE
       obtain ⟨kp3_0, kp3_1, kp3_2, kp3_3, kp3_4, kp3_5, kp3_6, kp3_7⟩ := p3.cells8
       have kp4_0 := p4.cell0
       have kp4_1 := p4.cell1
       go_wp2_with fail
       clear kp3_0 kp3_1 kp3_2 kp3_3 kp3_4 kp3_5 kp3_6 kp3_7 kp4_0 kp4_1
       refine (Try.schedRate 2 (B : Int) rr ee (Wm : Int) vv ll pp T K _ HR0.out (by have := HBB.out; omega) HTT.out.1.1 HTT.out.1.2 HX.out).mono ?_
       rintro e V22 ⟨rfl, hE⟩
       replace E0 := (Ext.trans E0 hE)
       replace p3 := (p3.ext hE)
       replace p4 := (p4.ext hE)
       clear hE
       obtain ⟨kp3_0, kp3_1, kp3_2, kp3_3, kp3_4, kp3_5, kp3_6, kp3_7⟩ := p3.cells8
       have kp4_0 := p4.cell0
       have kp4_1 := p4.cell1
       go_wp2_with fail
       clear kp3_0 kp3_1 kp3_2 kp3_3 kp3_4 kp3_5 kp3_6 kp3_7 kp4_0 kp4_1
       refine (Try.schedRate 2 (B : Int) rr ee (Wm : Int) vv ll pp U K _ HR0.out (by have := HBB.out; omega) HTT.out.2.1 HTT.out.2.2 HY.out).mono ?_
       rintro e V23 ⟨rfl, hE⟩
       replace E0 := (Ext.trans E0 hE)
       replace p3 := (p3.ext hE)
       replace p4 := (p4.ext hE)
       clear hE
       obtain ⟨kp3_0, kp3_1, kp3_2, kp3_3, kp3_4, kp3_5, kp3_6, kp3_7⟩ := p3.cells8
       have kp4_0 := p4.cell0
       have kp4_1 := p4.cell1
       go_wp2_with fail
       clear kp3_0 kp3_1 kp3_2 kp3_3 kp3_4 kp3_5 kp3_6 kp3_7 kp4_0 kp4_1
       refine (Try.alive15 _).mono ?_
       rintro e V24 ⟨rfl, hE⟩
       replace E0 := (Ext.trans E0 hE)
       replace p3 := (p3.ext hE)
       replace p4 := (p4.ext hE)
       clear hE
       obtain ⟨kp3_0, kp3_1, kp3_2, kp3_3, kp3_4, kp3_5, kp3_6, kp3_7⟩ := p3.cells8
       have kp4_0 := p4.cell0
       have kp4_1 := p4.cell1
       go_wp2
       go_ret
       exact ⟨rfl, E0⟩
      ·have hee : ee ≤ Y := hbY.2.2 rfl huw
       have heed := decide_eq_true hee
       clear hbX hbY huw
       have HR0 := Lib.hid hq0
       have HBB : Hid (B < 9223372036854775808) := Lib.hid (by omega)
       have HTT : Hid ((1 ≤ T ∧ T ≤ 1000000) ∧ (1 ≤ U ∧ U ≤ 1000000)) := Lib.hid (by omega)
       have HX := Lib.hid hX
       have HY := Lib.hid hY
       clear hq0 hbb hX hY
       obtain ⟨W0, hW0⟩ : ∃ W0, W0 = ((w.alloc (.cells #[.int .i64 3, .int .i64 (B : Int), .int .i64 rr, .int .i64 ee, .int .i64 (Wm : Int), .int .i64 vv, .int .i64 ll, .int .i64 pp] 46)).alloc (.cells #[.int .i64 (T : Int), .int .i64 (U : Int)] 54)) := ⟨_, rfl⟩
       have E0 : Ext w W0 := by rw [hW0]; exact ((Ext.alloc1 w (.cells #[.int .i64 3, .int .i64 (B : Int), .int .i64 rr, .int .i64 ee, .int .i64 (Wm : Int), .int .i64 vv, .int .i64 ll, .int .i64 pp] 46)).alloc (.cells #[.int .i64 (T : Int), .int .i64 (U : Int)] 54))
       have p3 : BxA W0 w.heap.size 46 #[.int .i64 3, .int .i64 (B : Int), .int .i64 rr, .int .i64 ee, .int .i64 (Wm : Int), .int .i64 vv, .int .i64 ll, .int .i64 pp] := by rw [hW0]; exact (BxA.new w 46 #[.int .i64 3, .int .i64 (B : Int), .int .i64 rr, .int .i64 ee, .int .i64 (Wm : Int), .int .i64 vv, .int .i64 ll, .int .i64 pp]).ext (Ext.alloc1 (w.alloc (.cells #[.int .i64 3, .int .i64 (B : Int), .int .i64 rr, .int .i64 ee, .int .i64 (Wm : Int), .int .i64 vv, .int .i64 ll, .int .i64 pp] 46)) (.cells #[.int .i64 (T : Int), .int .i64 (U : Int)] 54))
       have p4 : Bx2 W0 (w.heap.size + 1) 54 (.int .i64 (T : Int)) (.int .i64 (U : Int)) := by rw [hW0]; simpa using (Bx2.new (w.alloc (.cells #[.int .i64 3, .int .i64 (B : Int), .int .i64 rr, .int .i64 ee, .int .i64 (Wm : Int), .int .i64 vv, .int .i64 ll, .int .i64 pp] 46)) 54 (.int .i64 (T : Int)) (.int .i64 (U : Int)))
       go_enter Try.func7, Try.ntmps7
       obtain ⟨kp3_0, kp3_1, kp3_2, kp3_3, kp3_4, kp3_5, kp3_6, kp3_7⟩ := p3.cells8
       have kp4_0 := p4.cell0
       have kp4_1 := p4.cell1
       go_wp2_with fail
       rw [← hW0]
       clear hW0
       clear kp3_0 kp3_1 kp3_2 kp3_3 kp3_4 kp3_5 kp3_6 kp3_7 kp4_0 kp4_1
       refine (Try.refRight15 3 (B : Int) rr ee (Wm : Int) vv ll pp (K : Int) _).mono ?_
       rintro e V25 ⟨rfl, hE⟩
       rw [HR0.out]
       replace E0 := (Ext.trans E0 hE)
       replace p3 := (p3.ext hE)
       replace p4 := (p4.ext hE)
       clear hE
       obtain ⟨kp3_0, kp3_1, kp3_2, kp3_3, kp3_4, kp3_5, kp3_6, kp3_7⟩ := p3.cells8
       have kp4_0 := p4.cell0
       have kp4_1 := p4.cell1
       go_wp2_with fail
       clear kp3_0 kp3_1 kp3_2 kp3_3 kp3_4 kp3_5 kp3_6 kp3_7 kp4_0 kp4_1
       refine (Try.schedRate 3 (B : Int) rr ee (Wm : Int) vv ll pp T K _ HR0.out (by have := HBB.out; omega) HTT.out.1.1 HTT.out.1.2 HX.out).mono ?_
       rintro e V26 ⟨rfl, hE⟩
       replace E0 := (Ext.trans E0 hE)
       replace p3 := (p3.ext hE)
       replace p4 := (p4.ext hE)
       clear hE
       obtain ⟨kp3_0, kp3_1, kp3_2, kp3_3, kp3_4, kp3_5, kp3_6, kp3_7⟩ := p3.cells8
       have kp4_0 := p4.cell0
       have kp4_1 := p4.cell1
       go_wp2_with fail
       clear kp3_0 kp3_1 kp3_2 kp3_3 kp3_4 kp3_5 kp3_6 kp3_7 kp4_0 kp4_1
       refine (Try.schedRate 3 (B : Int) rr ee (Wm : Int) vv ll pp U K _ HR0.out (by have := HBB.out; omega) HTT.out.2.1 HTT.out.2.2 HY.out).mono ?_
       rintro e V27 ⟨rfl, hE⟩
       replace E0 := (Ext.trans E0 hE)
       replace p3 := (p3.ext hE)
       replace p4 := (p4.ext hE)
       clear hE
       obtain ⟨kp3_0, kp3_1, kp3_2, kp3_3, kp3_4, kp3_5, kp3_6, kp3_7⟩ := p3.cells8
       have kp4_0 := p4.cell0
       have kp4_1 := p4.cell1
       go_wp2_with fail
       clear kp3_0 kp3_1 kp3_2 kp3_3 kp3_4 kp3_5 kp3_6 kp3_7 kp4_0 kp4_1
       refine (Try.alive15 _).mono ?_
       rintro e V28 ⟨rfl, hE⟩
       replace E0 := (Ext.trans E0 hE)
       replace p3 := (p3.ext hE)
       replace p4 := (p4.ext hE)
       clear hE
       obtain ⟨kp3_0, kp3_1, kp3_2, kp3_3, kp3_4, kp3_5, kp3_6, kp3_7⟩ := p3.cells8
       have kp4_0 := p4.cell0
       have kp4_1 := p4.cell1
       go_wp2
       go_ret
       exact ⟨rfl, E0⟩

end Go.Rt
