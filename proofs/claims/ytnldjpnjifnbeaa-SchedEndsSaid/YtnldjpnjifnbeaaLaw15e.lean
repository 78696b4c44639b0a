/-
 The laws of chapter 15 (schedules): Ends: its walk.
-/
import Derived.Test.YtnldjpnjifnbeaaLaw15c
import Derived.Test.YtnldjpnjifnbeaaLaw15d
namespace Go.Rt
open Go Go.RowKit Go.Proofs

set_option maxRecDepth 100000 in
set_option maxHeartbeats 8000000 in
theorem Try.lawSchedEnds (kd bb rr ee ww vv ll pp t u ff : Int) (w : World) (hbb : bb < 9223372036854775808) :
  Calls Try.prog 12 #[.agg #[.int .i64 kd, .int .i64 bb, .int .i64 rr, .int .i64 ee, .int .i64 ww, .int .i64 vv, .int .i64 ll, .int .i64 pp], .agg #[.int .i64 t, .int .i64 u], .int .i64 ff] w fun e w' => e = .returned (.bool true) ∧ Ext w w' := by
 cases hq0 : rightS kd bb rr ee ww vv ll pp ff
 ·have HQ0 := Lib.hid hq0
  obtain ⟨W0, hW0⟩ : ∃ W0, W0 = ((w.alloc (.cells #[.int .i64 kd, .int .i64 bb, .int .i64 rr, .int .i64 ee, .int .i64 ww, .int .i64 vv, .int .i64 ll, .int .i64 pp] 64)).alloc (.cells #[.int .i64 t, .int .i64 u] 65)) := ⟨_, rfl⟩
  have E0 : Ext w W0 := by rw [hW0]; exact ((Ext.alloc1 w (.cells #[.int .i64 kd, .int .i64 bb, .int .i64 rr, .int .i64 ee, .int .i64 ww, .int .i64 vv, .int .i64 ll, .int .i64 pp] 64)).alloc (.cells #[.int .i64 t, .int .i64 u] 65))
  have p3 : BxA W0 w.heap.size 64 #[.int .i64 kd, .int .i64 bb, .int .i64 rr, .int .i64 ee, .int .i64 ww, .int .i64 vv, .int .i64 ll, .int .i64 pp] := by rw [hW0]; exact (BxA.new w 64 #[.int .i64 kd, .int .i64 bb, .int .i64 rr, .int .i64 ee, .int .i64 ww, .int .i64 vv, .int .i64 ll, .int .i64 pp]).ext (Ext.alloc1 (w.alloc (.cells #[.int .i64 kd, .int .i64 bb, .int .i64 rr, .int .i64 ee, .int .i64 ww, .int .i64 vv, .int .i64 ll, .int .i64 pp] 64)) (.cells #[.int .i64 t, .int .i64 u] 65))
  have p4 : Bx2 W0 (w.heap.size + 1) 65 (.int .i64 t) (.int .i64 u) := by rw [hW0]; simpa using (Bx2.new (w.alloc (.cells #[.int .i64 kd, .int .i64 bb, .int .i64 rr, .int .i64 ee, .int .i64 ww, .int .i64 vv, .int .i64 ll, .int .i64 pp] 64)) 65 (.int .i64 t) (.int .i64 u))
  go_enter Try.func12, Try.ntmps12
  obtain ⟨kp3_0, kp3_1, kp3_2, kp3_3, kp3_4, kp3_5, kp3_6, kp3_7⟩ := p3.cells8
  have kp4_0 := p4.cell0
  have kp4_1 := p4.cell1
  go_wp2_with fail
  rw [← hW0]
  clear hW0
  clear kp3_0 kp3_1 kp3_2 kp3_3 kp3_4 kp3_5 kp3_6 kp3_7 kp4_0 kp4_1
  refine (Try.refRight15 kd bb rr ee ww vv ll pp ff _).mono ?_
  rintro e V29 ⟨rfl, hE⟩
  rw [HQ0.out]
  replace E0 := (Ext.trans E0 hE)
  replace p3 := (p3.ext hE)
  replace p4 := (p4.ext hE)
  clear hE
  obtain ⟨kp3_0, kp3_1, kp3_2, kp3_3, kp3_4, kp3_5, kp3_6, kp3_7⟩ := p3.cells8
  have kp4_0 := p4.cell0
  have kp4_1 := p4.cell1
  go_wp2_with fail
  clear kp3_0 kp3_1 kp3_2 kp3_3 kp3_4 kp3_5 kp3_6 kp3_7 kp4_0 kp4_1
  refine (Try.alive15 _).mono ?_
  rintro e V30 ⟨rfl, hE⟩
  replace E0 := (Ext.trans E0 hE)
  replace p3 := (p3.ext hE)
  replace p4 := (p4.ext hE)
  clear hE
  go_wp2
  go_ret
  exact ⟨rfl, E0⟩
 ·by_cases hc0 : t ≤ ww
  ·have hc0d : decide (t ≤ ww) = true := decide_eq_true hc0
   have HQ0 := Lib.hid hq0
   obtain ⟨W0, hW0⟩ : ∃ W0, W0 = ((w.alloc (.cells #[.int .i64 kd, .int .i64 bb, .int .i64 rr, .int .i64 ee, .int .i64 ww, .int .i64 vv, .int .i64 ll, .int .i64 pp] 64)).alloc (.cells #[.int .i64 t, .int .i64 u] 65)) := ⟨_, rfl⟩
   have E0 : Ext w W0 := by rw [hW0]; exact ((Ext.alloc1 w (.cells #[.int .i64 kd, .int .i64 bb, .int .i64 rr, .int .i64 ee, .int .i64 ww, .int .i64 vv, .int .i64 ll, .int .i64 pp] 64)).alloc (.cells #[.int .i64 t, .int .i64 u] 65))
   have p3 : BxA W0 w.heap.size 64 #[.int .i64 kd, .int .i64 bb, .int .i64 rr, .int .i64 ee, .int .i64 ww, .int .i64 vv, .int .i64 ll, .int .i64 pp] := by rw [hW0]; exact (BxA.new w 64 #[.int .i64 kd, .int .i64 bb, .int .i64 rr, .int .i64 ee, .int .i64 ww, .int .i64 vv, .int .i64 ll, .int .i64 pp]).ext (Ext.alloc1 (w.alloc (.cells #[.int .i64 kd, .int .i64 bb, .int .i64 rr, .int .i64 ee, .int .i64 ww, .int .i64 vv, .int .i64 ll, .int .i64 pp] 64)) (.cells #[.int .i64 t, .int .i64 u] 65))
   have p4 : Bx2 W0 (w.heap.size + 1) 65 (.int .i64 t) (.int .i64 u) := by rw [hW0]; simpa using (Bx2.new (w.alloc (.cells #[.int .i64 kd, .int .i64 bb, .int .i64 rr, .int .i64 ee, .int .i64 ww, .int .i64 vv, .int .i64 ll, .int .i64 pp] 64)) 65 (.int .i64 t) (.int .i64 u))
   go_enter Try.func12, Try.ntmps12
   obtain ⟨kp3_0, kp3_1, kp3_2, kp3_3, kp3_4, kp3_5, kp3_6, kp3_7⟩ := p3.cells8
   have kp4_0 := p4.cell0
   have kp4_1 := p4.cell1
   go_wp2_with fail
   rw [← hW0]
   clear hW0
   clear kp3_0 kp3_1 kp3_2 kp3_3 kp3_4 kp3_5 kp3_6 kp3_7 kp4_0 kp4_1
   refine (Try.refRight15 kd bb rr ee ww vv ll pp ff _).mono ?_
   rintro e V31 ⟨rfl, hE⟩
   rw [HQ0.out]
   replace E0 := (Ext.trans E0 hE)
   replace p3 := (p3.ext hE)
   replace p4 := (p4.ext hE)
   clear hE
   obtain ⟨kp3_0, kp3_1, kp3_2, kp3_3, kp3_4, kp3_5, kp3_6, kp3_7⟩ := p3.cells8
   have kp4_0 := p4.cell0
   have kp4_1 := p4.cell1
   go_wp2_with fail
   clear kp3_0 kp3_1 kp3_2 kp3_3 kp3_4 kp3_5 kp3_6 kp3_7 kp4_0 kp4_1
   refine (Try.alive15 _).mono ?_
   rintro e V32 ⟨rfl, hE⟩
   replace E0 := (Ext.trans E0 hE)
   replace p3 := (p3.ext hE)
   replace p4 := (p4.ext hE)
   clear hE
   go_wp2
   go_ret
   exact ⟨rfl, E0⟩
  ·have hc0d : decide (t ≤ ww) = false := decide_eq_false hc0
   by_cases hc1 : u ≤ ww
   ·have hc1d : decide (u ≤ ww) = true := decide_eq_true hc1
    have HQ0 := Lib.hid hq0
    obtain ⟨W0, hW0⟩ : ∃ W0, W0 = ((w.alloc (.cells #[.int .i64 kd, .int .i64 bb, .int .i64 rr, .int .i64 ee, .int .i64 ww, .int .i64 vv, .int .i64 ll, .int .i64 pp] 64)).alloc (.cells #[.int .i64 t, .int .i64 u] 65)) := ⟨_, rfl⟩
    have E0 : Ext w W0 := by rw [hW0]; exact ((Ext.alloc1 w (.cells #[.int .i64 kd, .int .i64 bb, .int .i64 rr, .int .i64 ee, .int .i64 ww, .int .i64 vv, .int .i64 ll, .int .i64 pp] 64)).alloc (.cells #[.int .i64 t, .int .i64 u] 65))
    have p3 : BxA W0 w.heap.size 64 #[.int .i64 kd, .int .i64 bb, .int .i64 rr, .int .i64 ee, .int .i64 ww, .int .i64 vv, .int .i64 ll, .int .i64 pp] := by rw [hW0]; exact (BxA.new w 64 #[.int .i64 kd, .int .i64 bb, .int .i64 rr, .int .i64 ee, .int .i64 ww, .int .i64 vv, .int .i64 ll, .int .i64 pp]).ext (Ext.alloc1 (w.alloc (.cells #[.int .i64 kd, .int .i64 bb, .int .i64 rr, .int .i64 ee, .int .i64 ww, .int .i64 vv, .int .i64 ll, .int .i64 pp] 64)) (.cells #[.int .i64 t, .int .i64 u] 65))
    have p4 : Bx2 W0 (w.heap.size + 1) 65 (.int .i64 t) (.int .i64 u) := by rw [hW0]; simpa using (Bx2.new (w.alloc (.cells #[.int .i64 kd, .int .i64 bb, .int .i64 rr, .int .i64 ee, .int .i64 ww, .int .i64 vv, .int .i64 ll, .int .i64 pp] 64)) 65 (.int .i64 t) (.int .i64 u))
    go_enter Try.func12, Try.ntmps12
    obtain ⟨kp3_0, kp3_1, kp3_2, kp3_3, kp3_4, kp3_5, kp3_6, kp3_7⟩ := p3.cells8
    have kp4_0 := p4.cell0
    have kp4_1 := p4.cell1
    go_wp2_with fail
    rw [← hW0]
    clear hW0
    clear kp3_0 kp3_1 kp3_2 kp3_3 kp3_4 kp3_5 kp3_6 kp3_7 kp4_0 kp4_1
    refine (Try.refRight15 kd bb rr ee ww vv ll pp ff _).mono ?_
    rintro e V33 ⟨rfl, hE⟩
    rw [HQ0.out]
    replace E0 := (Ext.trans E0 hE)
    replace p3 := (p3.ext hE)
    replace p4 := (p4.ext hE)
    clear hE
    obtain ⟨kp3_0, kp3_1, kp3_2, kp3_3, kp3_4, kp3_5, kp3_6, kp3_7⟩ := p3.cells8
    have kp4_0 := p4.cell0
    have kp4_1 := p4.cell1
    go_wp2_with fail
    clear kp3_0 kp3_1 kp3_2 kp3_3 kp3_4 kp3_5 kp3_6 kp3_7 kp4_0 kp4_1
    refine (Try.alive15 _).mono ?_
    rintro e V34 ⟨rfl, hE⟩
    replace E0 := (Ext.trans E0 hE)
    replace p3 := (p3.ext hE)
    replace p4 := (p4.ext hE)
    clear hE
    go_wp2
    go_ret
    exact ⟨rfl, E0⟩
   ·have hc1d : decide (u ≤ ww) = false := decide_eq_false hc1
    by_cases hc2 : t < 1
    ·have hc2d : decide (t < 1) = true := decide_eq_true hc2
     have HQ0 := Lib.hid hq0
     obtain ⟨W0, hW0⟩ : ∃ W0, W0 = ((w.alloc (.cells #[.int .i64 kd, .int .i64 bb, .int .i64 rr, .int .i64 ee, .int .i64 ww, .int .i64 vv, .int .i64 ll, .int .i64 pp] 64)).alloc (.cells #[.int .i64 t, .int .i64 u] 65)) := ⟨_, rfl⟩
     have E0 : Ext w W0 := by rw [hW0]; exact ((Ext.alloc1 w (.cells #[.int .i64 kd, .int .i64 bb, .int .i64 rr, .int .i64 ee, .int .i64 ww, .int .i64 vv, .int .i64 ll, .int .i64 pp] 64)).alloc (.cells #[.int .i64 t, .int .i64 u] 65))
     have p3 : BxA W0 w.heap.size 64 #[.int .i64 kd, .int .i64 bb, .int .i64 rr, .int .i64 ee, .int .i64 ww, .int .i64 vv, .int .i64 ll, .int .i64 pp] := by rw [hW0]; exact (BxA.new w 64 #[.int .i64 kd, .int .i64 bb, .int .i64 rr, .int .i64 ee, .int .i64 ww, .int .i64 vv, .int .i64 ll, .int .i64 pp]).ext (Ext.alloc1 (w.alloc (.cells #[.int .i64 kd, .int .i64 bb, .int .i64 rr, .int .i64 ee, .int .i64 ww, .int .i64 vv, .int .i64 ll, .int .i64 pp] 64)) (.cells #[.int .i64 t, .int .i64 u] 65))
     have p4 : Bx2 W0 (w.heap.size + 1) 65 (.int .i64 t) (.int .i64 u) := by rw [hW0]; simpa using (Bx2.new (w.alloc (.cells #[.int .i64 kd, .int .i64 bb, .int .i64 rr, .int .i64 ee, .int .i64 ww, .int .i64 vv, .int .i64 ll, .int .i64 pp] 64)) 65 (.int .i64 t) (.int .i64 u))
     go_enter Try.func12, Try.ntmps12
     obtain ⟨kp3_0, kp3_1, kp3_2, kp3_3, kp3_4, kp3_5, kp3_6, kp3_7⟩ := p3.cells8
     have kp4_0 := p4.cell0
     have kp4_1 := p4.cell1
     go_wp2_with fail
     rw [← hW0]
     clear hW0
     clear kp3_0 kp3_1 kp3_2 kp3_3 kp3_4 kp3_5 kp3_6 kp3_7 kp4_0 kp4_1
     refine (Try.refRight15 kd bb rr ee ww vv ll pp ff _).mono ?_
     rintro e V35 ⟨rfl, hE⟩
     rw [HQ0.out]
     replace E0 := (Ext.trans E0 hE)
     replace p3 := (p3.ext hE)
     replace p4 := (p4.ext hE)
     clear hE
     obtain ⟨kp3_0, kp3_1, kp3_2, kp3_3, kp3_4, kp3_5, kp3_6, kp3_7⟩ := p3.cells8
     have kp4_0 := p4.cell0
     have kp4_1 := p4.cell1
     go_wp2_with fail
     clear kp3_0 kp3_1 kp3_2 kp3_3 kp3_4 kp3_5 kp3_6 kp3_7 kp4_0 kp4_1
     refine (Try.alive15 _).mono ?_
     rintro e V36 ⟨rfl, hE⟩
     replace E0 := (Ext.trans E0 hE)
     replace p3 := (p3.ext hE)
     replace p4 := (p4.ext hE)
     clear hE
     go_wp2
     go_ret
     exact ⟨rfl, E0⟩
    ·have hc2d : decide (t < 1) = false := decide_eq_false hc2
     by_cases hc3 : u < 1
     ·have hc3d : decide (u < 1) = true := decide_eq_true hc3
      have HQ0 := Lib.hid hq0
      obtain ⟨W0, hW0⟩ : ∃ W0, W0 = ((w.alloc (.cells #[.int .i64 kd, .int .i64 bb, .int .i64 rr, .int .i64 ee, .int .i64 ww, .int .i64 vv, .int .i64 ll, .int .i64 pp] 64)).alloc (.cells #[.int .i64 t, .int .i64 u] 65)) := ⟨_, rfl⟩
      have E0 : Ext w W0 := by rw [hW0]; exact ((Ext.alloc1 w (.cells #[.int .i64 kd, .int .i64 bb, .int .i64 rr, .int .i64 ee, .int .i64 ww, .int .i64 vv, .int .i64 ll, .int .i64 pp] 64)).alloc (.cells #[.int .i64 t, .int .i64 u] 65))
      have p3 : BxA W0 w.heap.size 64 #[.int .i64 kd, .int .i64 bb, .int .i64 rr, .int .i64 ee, .int .i64 ww, .int .i64 vv, .int .i64 ll, .int .i64 pp] := by rw [hW0]; exact (BxA.new w 64 #[.int .i64 kd, .int .i64 bb, .int .i64 rr, .int .i64 ee, .int .i64 ww, .int .i64 vv, .int .i64 ll, .int .i64 pp]).ext (Ext.alloc1 (w.alloc (.cells #[.int .i64 kd, .int .i64 bb, .int .i64 rr, .int .i64 ee, .int .i64 ww, .int .i64 vv, .int .i64 ll, .int .i64 pp] 64)) (.cells #[.int .i64 t, .int .i64 u] 65))
      have p4 : Bx2 W0 (w.heap.size + 1) 65 (.int .i64 t) (.int .i64 u) := by rw [hW0]; simpa using (Bx2.new (w.alloc (.cells #[.int .i64 kd, .int .i64 bb, .int .i64 rr, .int .i64 ee, .int .i64 ww, .int .i64 vv, .int .i64 ll, .int .i64 pp] 64)) 65 (.int .i64 t) (.int .i64 u))
      go_enter Try.func12, Try.ntmps12
      obtain ⟨kp3_0, kp3_1, kp3_2, kp3_3, kp3_4, kp3_5, kp3_6, kp3_7⟩ := p3.cells8
      have kp4_0 := p4.cell0
      have kp4_1 := p4.cell1
      go_wp2_with fail
      rw [← hW0]
      clear hW0
      clear kp3_0 kp3_1 kp3_2 kp3_3 kp3_4 kp3_5 kp3_6 kp3_7 kp4_0 kp4_1
      refine (Try.refRight15 kd bb rr ee ww vv ll pp ff _).mono ?_
      rintro e V37 ⟨rfl, hE⟩
      rw [HQ0.out]
      replace E0 := (Ext.trans E0 hE)
      replace p3 := (p3.ext hE)
      replace p4 := (p4.ext hE)
      clear hE
      obtain ⟨kp3_0, kp3_1, kp3_2, kp3_3, kp3_4, kp3_5, kp3_6, kp3_7⟩ := p3.cells8
      have kp4_0 := p4.cell0
      have kp4_1 := p4.cell1
      go_wp2_with fail
      clear kp3_0 kp3_1 kp3_2 kp3_3 kp3_4 kp3_5 kp3_6 kp3_7 kp4_0 kp4_1
      refine (Try.alive15 _).mono ?_
      rintro e V38 ⟨rfl, hE⟩
      replace E0 := (Ext.trans E0 hE)
      replace p3 := (p3.ext hE)
      replace p4 := (p4.ext hE)
      clear hE
      go_wp2
      go_ret
      exact ⟨rfl, E0⟩
     ·have hc3d : decide (u < 1) = false := decide_eq_false hc3
      by_cases hc4 : 1000000 < t
      ·have hc4d : decide (1000000 < t) = true := decide_eq_true hc4
       have HQ0 := Lib.hid hq0
       obtain ⟨W0, hW0⟩ : ∃ W0, W0 = ((w.alloc (.cells #[.int .i64 kd, .int .i64 bb, .int .i64 rr, .int .i64 ee, .int .i64 ww, .int .i64 vv, .int .i64 ll, .int .i64 pp] 64)).alloc (.cells #[.int .i64 t, .int .i64 u] 65)) := ⟨_, rfl⟩
       have E0 : Ext w W0 := by rw [hW0]; exact ((Ext.alloc1 w (.cells #[.int .i64 kd, .int .i64 bb, .int .i64 rr, .int .i64 ee, .int .i64 ww, .int .i64 vv, .int .i64 ll, .int .i64 pp] 64)).alloc (.cells #[.int .i64 t, .int .i64 u] 65))
       have p3 : BxA W0 w.heap.size 64 #[.int .i64 kd, .int .i64 bb, .int .i64 rr, .int .i64 ee, .int .i64 ww, .int .i64 vv, .int .i64 ll, .int .i64 pp] := by rw [hW0]; exact (BxA.new w 64 #[.int .i64 kd, .int .i64 bb, .int .i64 rr, .int .i64 ee, .int .i64 ww, .int .i64 vv, .int .i64 ll, .int .i64 pp]).ext (Ext.alloc1 (w.alloc (.cells #[.int .i64 kd, .int .i64 bb, .int .i64 rr, .int .i64 ee, .int .i64 ww, .int .i64 vv, .int .i64 ll, .int .i64 pp] 64)) (.cells #[.int .i64 t, .int .i64 u] 65))
       have p4 : Bx2 W0 (w.heap.size + 1) 65 (.int .i64 t) (.int .i64 u) := by rw [hW0]; simpa using (Bx2.new (w.alloc (.cells #[.int .i64 kd, .int .i64 bb, .int .i64 rr, .int .i64 ee, .int .i64 ww, .int .i64 vv, .int .i64 ll, .int .i64 pp] 64)) 65 (.int .i64 t) (.int .i64 u))
       go_enter Try.func12, Try.ntmps12
       obtain ⟨kp3_0, kp3_1, kp3_2, kp3_3, kp3_4, kp3_5, kp3_6, kp3_7⟩ := p3.cells8
       have kp4_0 := p4.cell0
       have kp4_1 := p4.cell1
       go_wp2_with fail
       rw [← hW0]
       clear hW0
       clear kp3_0 kp3_1 kp3_2 kp3_3 kp3_4 kp3_5 kp3_6 kp3_7 kp4_0 kp4_1
       refine (Try.refRight15 kd bb rr ee ww vv ll pp ff _).mono ?_
       rintro e V39 ⟨rfl, hE⟩
       rw [HQ0.out]
       replace E0 := (Ext.trans E0 hE)
       replace p3 := (p3.ext hE)
       replace p4 := (p4.ext hE)
       clear hE
       obtain ⟨kp3_0, kp3_1, kp3_2, kp3_3, kp3_4, kp3_5, kp3_6, kp3_7⟩ := p3.cells8
       have kp4_0 := p4.cell0
       have kp4_1 := p4.cell1
       go_wp2_with fail
       clear kp3_0 kp3_1 kp3_2 kp3_3 kp3_4 kp3_5 kp3_6 kp3_7 kp4_0 kp4_1
       refine (Try.alive15 _).mono ?_
       rintro e V40 ⟨rfl, hE⟩
       replace E0 := (Ext.trans E0 hE)
       replace p3 := (p3.ext hE)
       replace p4 := (p4.ext hE)
       clear hE
       go_wp2
       go_ret
       exact ⟨rfl, E0⟩
      ·have hc4d : decide (1000000 < t) = false := decide_eq_false hc4
       by_cases hc5 : 1000000 < u
       ·have hc5d : decide (1000000 < u) = true := decide_eq_true hc5
        have HQ0 := Lib.hid hq0
        obtain ⟨W0, hW0⟩ : ∃ W0, W0 = ((w.alloc (.cells #[.int .i64 kd, .int .i64 bb, .int .i64 rr, .int .i64 ee, .int .i64 ww, .int .i64 vv, .int .i64 ll, .int .i64 pp] 64)).alloc (.cells #[.int .i64 t, .int .i64 u] 65)) := ⟨_, rfl⟩
        have E0 : Ext w W0 := by rw [hW0]; exact ((Ext.alloc1 w (.cells #[.int .i64 kd, .int .i64 bb, .int .i64 rr, .int .i64 ee, .int .i64 ww, .int .i64 vv, .int .i64 ll, .int .i64 pp] 64)).alloc (.cells #[.int .i64 t, .int .i64 u] 65))
        have p3 : BxA W0 w.heap.size 64 #[.int .i64 kd, .int .i64 bb, .int .i64 rr, .int .i64 ee, .int .i64 ww, .int .i64 vv, .int .i64 ll, .int .i64 pp] := by rw [hW0]; exact (BxA.new w 64 #[.int .i64 kd, .int .i64 bb, .int .i64 rr, .int .i64 ee, .int .i64 ww, .int .i64 vv, .int .i64 ll, .int .i64 pp]).ext (Ext.alloc1 (w.alloc (.cells #[.int .i64 kd, .int .i64 bb, .int .i64 rr, .int .i64 ee, .int .i64 ww, .int .i64 vv, .int .i64 ll, .int .i64 pp] 64)) (.cells #[.int .i64 t, .int .i64 u] 65))
        have p4 : Bx2 W0 (w.heap.size + 1) 65 (.int .i64 t) (.int .i64 u) := by rw [hW0]; simpa using (Bx2.new (w.alloc (.cells #[.int .i64 kd, .int .i64 bb, .int .i64 rr, .int .i64 ee, .int .i64 ww, .int .i64 vv, .int .i64 ll, .int .i64 pp] 64)) 65 (.int .i64 t) (.int .i64 u))
        go_enter Try.func12, Try.ntmps12
        obtain ⟨kp3_0, kp3_1, kp3_2, kp3_3, kp3_4, kp3_5, kp3_6, kp3_7⟩ := p3.cells8
        have kp4_0 := p4.cell0
        have kp4_1 := p4.cell1
        go_wp2_with fail
        rw [← hW0]
        clear hW0
        clear kp3_0 kp3_1 kp3_2 kp3_3 kp3_4 kp3_5 kp3_6 kp3_7 kp4_0 kp4_1
        refine (Try.refRight15 kd bb rr ee ww vv ll pp ff _).mono ?_
        rintro e V41 ⟨rfl, hE⟩
        rw [HQ0.out]
        replace E0 := (Ext.trans E0 hE)
        replace p3 := (p3.ext hE)
        replace p4 := (p4.ext hE)
        clear hE
        obtain ⟨kp3_0, kp3_1, kp3_2, kp3_3, kp3_4, kp3_5, kp3_6, kp3_7⟩ := p3.cells8
        have kp4_0 := p4.cell0
        have kp4_1 := p4.cell1
        go_wp2_with fail
        clear kp3_0 kp3_1 kp3_2 kp3_3 kp3_4 kp3_5 kp3_6 kp3_7 kp4_0 kp4_1
        refine (Try.alive15 _).mono ?_
        rintro e V42 ⟨rfl, hE⟩
        replace E0 := (Ext.trans E0 hE)
        replace p3 := (p3.ext hE)
        replace p4 := (p4.ext hE)
        clear hE
        go_wp2
        go_ret
        exact ⟨rfl, E0⟩
       ·have hc5d : decide (1000000 < u) = false := decide_eq_false hc5
        have hr := rightS_iff.1 hq0
        obtain ⟨K, rfl⟩ := Int.eq_ofNat_of_zero_le (show 0 ≤ ff by omega)
        obtain ⟨T, rfl⟩ := Int.eq_ofNat_of_zero_le (show 0 ≤ t by omega)
        obtain ⟨U, rfl⟩ := Int.eq_ofNat_of_zero_le (show 0 ≤ u by omega)
        obtain ⟨Wm, rfl⟩ := Int.eq_ofNat_of_zero_le (show 0 ≤ ww by omega)
        obtain ⟨B, rfl⟩ := Int.eq_ofNat_of_zero_le (show 0 ≤ bb by omega)
        obtain ⟨X, hX⟩ : ∃ X, rateV kd (B : Int) rr ee (Wm : Int) vv ll pp T K = X := ⟨_, rfl⟩
        obtain ⟨Y, hY⟩ : ∃ Y, rateV kd (B : Int) rr ee (Wm : Int) vv ll pp U K = Y := ⟨_, rfl⟩
        have hkc : kd = 3 ∨ kd = 2 ∨ (kd ≠ 3 ∧ kd ≠ 2) := by omega
        have hw2 := hr.2.2.2.2.2.2.1
        have hd2 := hr.2.2.2.2.2.2.2.1
        rw [Int.toNat_natCast] at hd2
        clear hr
        rcases hkc with rfl | rfl | ⟨hk3, hk2⟩
        ·clear hd2
         have hT3 := rate_end (K := K) (T := T) hq0 (by omega) rfl
         have hU3 := rate_end (K := K) (T := U) hq0 (by omega) rfl
         rw [hX] at hT3
         rw [hY] at hU3
         by_cases hTl : (T : Int) < ll
         ·have hTld := decide_eq_true hTl
          clear hT3
          by_cases hUl : (U : Int) < ll
          ·have hUld := decide_eq_true hUl
           clear hU3
           clear hw2
           have HR0 := Lib.hid hq0
           have HBB : Hid (B < 9223372036854775808) := Lib.hid (by omega)
           have HTT : Hid ((1 ≤ T ∧ T ≤ 1000000) ∧ (1 ≤ U ∧ U ≤ 1000000)) := Lib.hid (by omega)
           have HX := Lib.hid hX
           have HY := Lib.hid hY
           clear hq0 hbb hX hY
           obtain ⟨W0, hW0⟩ : ∃ W0, W0 = ((w.alloc (.cells #[.int .i64 3, .int .i64 (B : Int), .int .i64 rr, .int .i64 ee, .int .i64 (Wm : Int), .int .i64 vv, .int .i64 ll, .int .i64 pp] 64)).alloc (.cells #[.int .i64 (T : Int), .int .i64 (U : Int)] 65)) := ⟨_, rfl⟩
           have E0 : Ext w W0 := by rw [hW0]; exact ((Ext.alloc1 w (.cells #[.int .i64 3, .int .i64 (B : Int), .int .i64 rr, .int .i64 ee, .int .i64 (Wm : Int), .int .i64 vv, .int .i64 ll, .int .i64 pp] 64)).alloc (.cells #[.int .i64 (T : Int), .int .i64 (U : Int)] 65))
           have p3 : BxA W0 w.heap.size 64 #[.int .i64 3, .int .i64 (B : Int), .int .i64 rr, .int .i64 ee, .int .i64 (Wm : Int), .int .i64 vv, .int .i64 ll, .int .i64 pp] := by rw [hW0]; exact (BxA.new w 64 #[.int .i64 3, .int .i64 (B : Int), .int .i64 rr, .int .i64 ee, .int .i64 (Wm : Int), .int .i64 vv, .int .i64 ll, .int .i64 pp]).ext (Ext.alloc1 (w.alloc (.cells #[.int .i64 3, .int .i64 (B : Int), .int .i64 rr, .int .i64 ee, .int .i64 (Wm : Int), .int .i64 vv, .int .i64 ll, .int .i64 pp] 64)) (.cells #[.int .i64 (T : Int), .int .i64 (U : Int)] 65))
           have p4 : Bx2 W0 (w.heap.size + 1) 65 (.int .i64 (T : Int)) (.int .i64 (U : Int)) := by rw [hW0]; simpa using (Bx2.new (w.alloc (.cells #[.int .i64 3, .int .i64 (B : Int), .int .i64 rr, .int .i64 ee, .int .i64 (Wm : Int), .int .i64 vv, .int .i64 ll, .int .i64 pp] 64)) 65 (.int .i64 (T : Int)) (.int .i64 (U : Int)))
           go_enter Try.func12, Try.ntmps12
           obtain ⟨kp3_0, kp3_1, kp3_2, kp3_3, kp3_4, kp3_5, kp3_6, kp3_7⟩ := p3.cells8
           have kp4_0 := p4.cell0
           have kp4_1 := p4.cell1
           go_wp2_with fail
           rw [← hW0]
           clear hW0
           clear kp3_0 kp3_1 kp3_2 kp3_3 kp3_4 kp3_5 kp3_6 kp3_7 kp4_0 kp4_1
           refine (Try.refRight15 3 (B : Int) rr ee (Wm : Int) vv ll pp (K : Int) _).mono ?_
           rintro e V43 ⟨rfl, hE⟩
           rw [HR0.out]
           replace E0 := (Ext.trans E0 hE)
           replace p3 := (p3.ext hE)
           replace p4 := (p4.ext hE)
           clear hE
           obtain ⟨kp3_0, kp3_1, kp3_2, kp3_3, kp3_4, kp3_5, kp3_6, kp3_7⟩ := p3.cells8
           have kp4_0 := p4.cell0
           have kp4_1 := p4.cell1
           go_wp2_with fail
           clear kp3_0 kp3_1 kp3_2 kp3_3 kp3_4 kp3_5 kp3_6 kp3_7 kp4_0 kp4_1
           refine (Try.schedRate 3 (B : Int) rr ee (Wm : Int) vv ll pp T K _ HR0.out (by have := HBB.out; omega) HTT.out.1.1 HTT.out.1.2 HX.out).mono ?_
           rintro e V44 ⟨rfl, hE⟩
           replace E0 := (Ext.trans E0 hE)
           replace p3 := (p3.ext hE)
           replace p4 := (p4.ext hE)
           clear hE
           obtain ⟨kp3_0, kp3_1, kp3_2, kp3_3, kp3_4, kp3_5, kp3_6, kp3_7⟩ := p3.cells8
           have kp4_0 := p4.cell0
           have kp4_1 := p4.cell1
           go_wp2_with fail
           clear kp3_0 kp3_1 kp3_2 kp3_3 kp3_4 kp3_5 kp3_6 kp3_7 kp4_0 kp4_1
           refine (Try.schedRate 3 (B : Int) rr ee (Wm : Int) vv ll pp U K _ HR0.out (by have := HBB.out; omega) HTT.out.2.1 HTT.out.2.2 HY.out).mono ?_
           rintro e V45 ⟨rfl, hE⟩
           replace E0 := (Ext.trans E0 hE)
           replace p3 := (p3.ext hE)
           replace p4 := (p4.ext hE)
           clear hE
           obtain ⟨kp3_0, kp3_1, kp3_2, kp3_3, kp3_4, kp3_5, kp3_6, kp3_7⟩ := p3.cells8
           have kp4_0 := p4.cell0
           have kp4_1 := p4.cell1
           go_wp2_with fail
           clear kp3_0 kp3_1 kp3_2 kp3_3 kp3_4 kp3_5 kp3_6 kp3_7 kp4_0 kp4_1
           refine (Try.alive15 _).mono ?_
           rintro e V46 ⟨rfl, hE⟩
           replace E0 := (Ext.trans E0 hE)
           replace p3 := (p3.ext hE)
           replace p4 := (p4.ext hE)
           clear hE
           obtain ⟨kp3_0, kp3_1, kp3_2, kp3_3, kp3_4, kp3_5, kp3_6, kp3_7⟩ := p3.cells8
           have kp4_0 := p4.cell0
           have kp4_1 := p4.cell1
           go_wp2
           go_ret
           exact ⟨rfl, E0⟩
          ·have hUld := decide_eq_false hUl
           replace hU3 := hU3 hUl
           subst hU3
           clear hw2
           have HR0 := Lib.hid hq0
           have HBB : Hid (B < 9223372036854775808) := Lib.hid (by omega)
           have HTT : Hid ((1 ≤ T ∧ T ≤ 1000000) ∧ (1 ≤ U ∧ U ≤ 1000000)) := Lib.hid (by omega)
           have HX := Lib.hid hX
           have HY := Lib.hid hY
           clear hq0 hbb hX hY
           obtain ⟨W0, hW0⟩ : ∃ W0, W0 = ((w.alloc (.cells #[.int .i64 3, .int .i64 (B : Int), .int .i64 rr, .int .i64 Y, .int .i64 (Wm : Int), .int .i64 vv, .int .i64 ll, .int .i64 pp] 64)).alloc (.cells #[.int .i64 (T : Int), .int .i64 (U : Int)] 65)) := ⟨_, rfl⟩
           have E0 : Ext w W0 := by rw [hW0]; exact ((Ext.alloc1 w (.cells #[.int .i64 3, .int .i64 (B : Int), .int .i64 rr, .int .i64 Y, .int .i64 (Wm : Int), .int .i64 vv, .int .i64 ll, .int .i64 pp] 64)).alloc (.cells #[.int .i64 (T : Int), .int .i64 (U : Int)] 65))
           have p3 : BxA W0 w.heap.size 64 #[.int .i64 3, .int .i64 (B : Int), .int .i64 rr, .int .i64 Y, .int .i64 (Wm : Int), .int .i64 vv, .int .i64 ll, .int .i64 pp] := by rw [hW0]; exact (BxA.new w 64 #[.int .i64 3, .int .i64 (B : Int), .int .i64 rr, .int .i64 Y, .int .i64 (Wm : Int), .int .i64 vv, .int .i64 ll, .int .i64 pp]).ext (Ext.alloc1 (w.alloc (.cells #[.int .i64 3, .int .i64 (B : Int), .int .i64 rr, .int .i64 Y, .int .i64 (Wm : Int), .int .i64 vv, .int .i64 ll, .int .i64 pp] 64)) (.cells #[.int .i64 (T : Int), .int .i64 (U : Int)] 65))
           have p4 : Bx2 W0 (w.heap.size + 1) 65 (.int .i64 (T : Int)) (.int .i64 (U : Int)) := by rw [hW0]; simpa using (Bx2.new (w.alloc (.cells #[.int .i64 3, .int .i64 (B : Int), .int .i64 rr, .int .i64 Y, .int .i64 (Wm : Int), .int .i64 vv, .int .i64 ll, .int .i64 pp] 64)) 65 (.int .i64 (T : Int)) (.int .i64 (U : Int)))
           go_enter Try.func12, Try.ntmps12
           obtain ⟨kp3_0, kp3_1, kp3_2, kp3_3, kp3_4, kp3_5, kp3_6, kp3_7⟩ := p3.cells8
           have kp4_0 := p4.cell0
           have kp4_1 := p4.cell1
           go_wp2_with fail
           rw [← hW0]
           clear hW0
           clear kp3_0 kp3_1 kp3_2 kp3_3 kp3_4 kp3_5 kp3_6 kp3_7 kp4_0 kp4_1
           refine (Try.refRight15 3 (B : Int) rr Y (Wm : Int) vv ll pp (K : Int) _).mono ?_
           rintro e V47 ⟨rfl, hE⟩
           rw [HR0.out]
           replace E0 := (Ext.trans E0 hE)
           replace p3 := (p3.ext hE)
           replace p4 := (p4.ext hE)
           clear hE
           obtain ⟨kp3_0, kp3_1, kp3_2, kp3_3, kp3_4, kp3_5, kp3_6, kp3_7⟩ := p3.cells8
           have kp4_0 := p4.cell0
           have kp4_1 := p4.cell1
           go_wp2_with fail
           clear kp3_0 kp3_1 kp3_2 kp3_3 kp3_4 kp3_5 kp3_6 kp3_7 kp4_0 kp4_1
           refine (Try.schedRate 3 (B : Int) rr Y (Wm : Int) vv ll pp T K _ HR0.out (by have := HBB.out; omega) HTT.out.1.1 HTT.out.1.2 HX.out).mono ?_
           rintro e V48 ⟨rfl, hE⟩
           replace E0 := (Ext.trans E0 hE)
           replace p3 := (p3.ext hE)
           replace p4 := (p4.ext hE)
           clear hE
           obtain ⟨kp3_0, kp3_1, kp3_2, kp3_3, kp3_4, kp3_5, kp3_6, kp3_7⟩ := p3.cells8
           have kp4_0 := p4.cell0
           have kp4_1 := p4.cell1
           go_wp2_with fail
           clear kp3_0 kp3_1 kp3_2 kp3_3 kp3_4 kp3_5 kp3_6 kp3_7 kp4_0 kp4_1
           refine (Try.schedRate 3 (B : Int) rr Y (Wm : Int) vv ll pp U K _ HR0.out (by have := HBB.out; omega) HTT.out.2.1 HTT.out.2.2 HY.out).mono ?_
           rintro e V49 ⟨rfl, hE⟩
           replace E0 := (Ext.trans E0 hE)
           replace p3 := (p3.ext hE)
           replace p4 := (p4.ext hE)
           clear hE
           obtain ⟨kp3_0, kp3_1, kp3_2, kp3_3, kp3_4, kp3_5, kp3_6, kp3_7⟩ := p3.cells8
           have kp4_0 := p4.cell0
           have kp4_1 := p4.cell1
           go_wp2_with fail
           clear kp3_0 kp3_1 kp3_2 kp3_3 kp3_4 kp3_5 kp3_6 kp3_7 kp4_0 kp4_1
           refine (Try.alive15 _).mono ?_
           rintro e V50 ⟨rfl, hE⟩
           replace E0 := (Ext.trans E0 hE)
           replace p3 := (p3.ext hE)
           replace p4 := (p4.ext hE)
           clear hE
           obtain ⟨kp3_0, kp3_1, kp3_2, kp3_3, kp3_4, kp3_5, kp3_6, kp3_7⟩ := p3.cells8
           have kp4_0 := p4.cell0
           have kp4_1 := p4.cell1
           go_wp2
           go_ret
           exact ⟨rfl, E0⟩
         ·have hTld := decide_eq_false hTl
          replace hT3 := hT3 hTl
          subst hT3
          by_cases hUl : (U : Int) < ll
          ·have hUld := decide_eq_true hUl
           clear hU3
           clear hw2
           have HR0 := Lib.hid hq0
           have HBB : Hid (B < 9223372036854775808) := Lib.hid (by omega)
           have HTT : Hid ((1 ≤ T ∧ T ≤ 1000000) ∧ (1 ≤ U ∧ U ≤ 1000000)) := Lib.hid (by omega)
           have HX := Lib.hid hX
           have HY := Lib.hid hY
           clear hq0 hbb hX hY
           obtain ⟨W0, hW0⟩ : ∃ W0, W0 = ((w.alloc (.cells #[.int .i64 3, .int .i64 (B : Int), .int .i64 rr, .int .i64 X, .int .i64 (Wm : Int), .int .i64 vv, .int .i64 ll, .int .i64 pp] 64)).alloc (.cells #[.int .i64 (T : Int), .int .i64 (U : Int)] 65)) := ⟨_, rfl⟩
           have E0 : Ext w W0 := by rw [hW0]; exact ((Ext.alloc1 w (.cells #[.int .i64 3, .int .i64 (B : Int), .int .i64 rr, .int .i64 X, .int .i64 (Wm : Int), .int .i64 vv, .int .i64 ll, .int .i64 pp] 64)).alloc (.cells #[.int .i64 (T : Int), .int .i64 (U : Int)] 65))
           have p3 : BxA W0 w.heap.size 64 #[.int .i64 3, .int .i64 (B : Int), .int .i64 rr, .int .i64 X, .int .i64 (Wm : Int), .int .i64 vv, .int .i64 ll, .int .i64 pp] := by rw [hW0]; exact (BxA.new w 64 #[.int .i64 3, .int .i64 (B : Int), .int .i64 rr, .int .i64 X, .int .i64 (Wm : Int), .int .i64 vv, .int .i64 ll, .int .i64 pp]).ext (Ext.alloc1 (w.alloc (.cells #[.int .i64 3, .int .i64 (B : Int), .int .i64 rr, .int .i64 X, .int .i64 (Wm : Int), .int .i64 vv, .int .i64 ll, .int .i64 pp] 64)) (.cells #[.int .i64 (T : Int), .int .i64 (U : Int)] 65))
           have p4 : Bx2 W0 (w.heap.size + 1) 65 (.int .i64 (T : Int)) (.int .i64 (U : Int)) := by rw [hW0]; simpa using (Bx2.new (w.alloc (.cells #[.int .i64 3, .int .i64 (B : Int), .int .i64 rr, .int .i64 X, .int .i64 (Wm : Int), .int .i64 vv, .int .i64 ll, .int .i64 pp] 64)) 65 (.int .i64 (T : Int)) (.int .i64 (U : Int)))
           go_enter Try.func12, Try.ntmps12
           obtain ⟨kp3_0, kp3_1, kp3_2, kp3_3, kp3_4, kp3_5, kp3_6, kp3_7⟩ := p3.cells8
           have kp4_0 := p4.cell0
           have kp4_1 := p4.cell1
           go_wp2_with fail
           rw [← hW0]
           clear hW0
           clear kp3_0 kp3_1 kp3_2 kp3_3 kp3_4 kp3_5 kp3_6 kp3_7 kp4_0 kp4_1
           refine (Try.refRight15 3 (B : Int) rr X (Wm : Int) vv ll pp (K : Int) _).mono ?_
           rintro e V51 ⟨rfl, hE⟩
           rw [HR0.out]
           replace E0 := (Ext.trans E0 hE)
           replace p3 := (p3.ext hE)
           replace p4 := (p4.ext hE)
           clear hE
           obtain ⟨kp3_0, kp3_1, kp3_2, kp3_3, kp3_4, kp3_5, kp3_6, kp3_7⟩ := p3.cells8
           have kp4_0 := p4.cell0
           have kp4_1 := p4.cell1
           go_wp2_with fail
           clear kp3_0 kp3_1 kp3_2 kp3_3 kp3_4 kp3_5 kp3_6 kp3_7 kp4_0 kp4_1
           refine (Try.schedRate 3 (B : Int) rr X (Wm : Int) vv ll pp T K _ HR0.out (by have := HBB.out; omega) HTT.out.1.1 HTT.out.1.2 HX.out).mono ?_
           rintro e V52 ⟨rfl, hE⟩
           replace E0 := (Ext.trans E0 hE)
           replace p3 := (p3.ext hE)
           replace p4 := (p4.ext hE)
           clear hE
           obtain ⟨kp3_0, kp3_1, kp3_2, kp3_3, kp3_4, kp3_5, kp3_6, kp3_7⟩ := p3.cells8
           have kp4_0 := p4.cell0
           have kp4_1 := p4.cell1
           go_wp2_with fail
           clear kp3_0 kp3_1 kp3_2 kp3_3 kp3_4 kp3_5 kp3_6 kp3_7 kp4_0 kp4_1
           refine (Try.schedRate 3 (B : Int) rr X (Wm : Int) vv ll pp U K _ HR0.out (by have := HBB.out; omega) HTT.out.2.1 HTT.out.2.2 HY.out).mono ?_
           rintro e V53 ⟨rfl, hE⟩
           replace E0 := (Ext.trans E0 hE)
           replace p3 := (p3.ext hE)
           replace p4 := (p4.ext hE)
           clear hE
           obtain ⟨kp3_0, kp3_1, kp3_2, kp3_3, kp3_4, kp3_5, kp3_6, kp3_7⟩ := p3.cells8
           have kp4_0 := p4.cell0
           have kp4_1 := p4.cell1
           go_wp2_with fail
           clear kp3_0 kp3_1 kp3_2 kp3_3 kp3_4 kp3_5 kp3_6 kp3_7 kp4_0 kp4_1
           refine (Try.alive15 _).mono ?_
           rintro e V54 ⟨rfl, hE⟩
           replace E0 := (Ext.trans E0 hE)
           replace p3 := (p3.ext hE)
           replace p4 := (p4.ext hE)
           clear hE
           obtain ⟨kp3_0, kp3_1, kp3_2, kp3_3, kp3_4, kp3_5, kp3_6, kp3_7⟩ := p3.cells8
           have kp4_0 := p4.cell0
           have kp4_1 := p4.cell1
           go_wp2
           go_ret
           exact ⟨rfl, E0⟩
          ·have hUld := decide_eq_false hUl
           replace hU3 := hU3 hUl
           subst hU3
           clear hw2
           have HR0 := Lib.hid hq0
           have HBB : Hid (B < 9223372036854775808) := Lib.hid (by omega)
           have HTT : Hid ((1 ≤ T ∧ T ≤ 1000000) ∧ (1 ≤ U ∧ U ≤ 1000000)) := Lib.hid (by omega)
           have HX := Lib.hid hX
           have HY := Lib.hid hY
           clear hq0 hbb hX hY
           obtain ⟨W0, hW0⟩ : ∃ W0, W0 = ((w.alloc (.cells #[.int .i64 3, .int .i64 (B : Int), .int .i64 rr, .int .i64 Y, .int .i64 (Wm : Int), .int .i64 vv, .int .i64 ll, .int .i64 pp] 64)).alloc (.cells #[.int .i64 (T : Int), .int .i64 (U : Int)] 65)) := ⟨_, rfl⟩
           have E0 : Ext w W0 := by rw [hW0]; exact ((Ext.alloc1 w (.cells #[.int .i64 3, .int .i64 (B : Int), .int .i64 rr, .int .i64 Y, .int .i64 (Wm : Int), .int .i64 vv, .int .i64 ll, .int .i64 pp] 64)).alloc (.cells #[.int .i64 (T : Int), .int .i64 (U : Int)] 65))
           have p3 : BxA W0 w.heap.size 64 #[.int .i64 3, .int .i64 (B : Int), .int .i64 rr, .int .i64 Y, .int .i64 (Wm : Int), .int .i64 vv, .int .i64 ll, .int .i64 pp] := by rw [hW0]; exact (BxA.new w 64 #[.int .i64 3, .int .i64 (B : Int), .int .i64 rr, .int .i64 Y, .int .i64 (Wm : Int), .int .i64 vv, .int .i64 ll, .int .i64 pp]).ext (Ext.alloc1 (w.alloc (.cells #[.int .i64 3, .int .i64 (B : Int), .int .i64 rr, .int .i64 Y, .int .i64 (Wm : Int), .int .i64 vv, .int .i64 ll, .int .i64 pp] 64)) (.cells #[.int .i64 (T : Int), .int .i64 (U : Int)] 65))
           have p4 : Bx2 W0 (w.heap.size + 1) 65 (.int .i64 (T : Int)) (.int .i64 (U : Int)) := by rw [hW0]; simpa using (Bx2.new (w.alloc (.cells #[.int .i64 3, .int .i64 (B : Int), .int .i64 rr, .int .i64 Y, .int .i64 (Wm : Int), .int .i64 vv, .int .i64 ll, .int .i64 pp] 64)) 65 (.int .i64 (T : Int)) (.int .i64 (U : Int)))
           go_enter Try.func12, Try.ntmps12
           obtain ⟨kp3_0, kp3_1, kp3_2, kp3_3, kp3_4, kp3_5, kp3_6, kp3_7⟩ := p3.cells8
           have kp4_0 := p4.cell0
           have kp4_1 := p4.cell1
           go_wp2_with fail
           rw [← hW0]
           clear hW0
           clear kp3_0 kp3_1 kp3_2 kp3_3 kp3_4 kp3_5 kp3_6 kp3_7 kp4_0 kp4_1
           refine (Try.refRight15 3 (B : Int) rr Y (Wm : Int) vv ll pp (K : Int) _).mono ?_
           rintro e V55 ⟨rfl, hE⟩
           rw [HR0.out]
           replace E0 := (Ext.trans E0 hE)
           replace p3 := (p3.ext hE)
           replace p4 := (p4.ext hE)
           clear hE
           obtain ⟨kp3_0, kp3_1, kp3_2, kp3_3, kp3_4, kp3_5, kp3_6, kp3_7⟩ := p3.cells8
           have kp4_0 := p4.cell0
           have kp4_1 := p4.cell1
           go_wp2_with fail
           clear kp3_0 kp3_1 kp3_2 kp3_3 kp3_4 kp3_5 kp3_6 kp3_7 kp4_0 kp4_1
           refine (Try.schedRate 3 (B : Int) rr Y (Wm : Int) vv ll pp T K _ HR0.out (by have := HBB.out; omega) HTT.out.1.1 HTT.out.1.2 HX.out).mono ?_
           rintro e V56 ⟨rfl, hE⟩
           replace E0 := (Ext.trans E0 hE)
           replace p3 := (p3.ext hE)
           replace p4 := (p4.ext hE)
           clear hE
           obtain ⟨kp3_0, kp3_1, kp3_2, kp3_3, kp3_4, kp3_5, kp3_6, kp3_7⟩ := p3.cells8
           have kp4_0 := p4.cell0
           have kp4_1 := p4.cell1
           go_wp2_with fail
           clear kp3_0 kp3_1 kp3_2 kp3_3 kp3_4 kp3_5 kp3_6 kp3_7 kp4_0 kp4_1
           refine (Try.schedRate 3 (B : Int) rr Y (Wm : Int) vv ll pp U K _ HR0.out (by have := HBB.out; omega) HTT.out.2.1 HTT.out.2.2 HY.out).mono ?_
           rintro e V57 ⟨rfl, hE⟩
           replace E0 := (Ext.trans E0 hE)
           replace p3 := (p3.ext hE)
           replace p4 := (p4.ext hE)
           clear hE
           obtain ⟨kp3_0, kp3_1, kp3_2, kp3_3, kp3_4, kp3_5, kp3_6, kp3_7⟩ := p3.cells8
           have kp4_0 := p4.cell0
           have kp4_1 := p4.cell1
           go_wp2_with fail
           clear kp3_0 kp3_1 kp3_2 kp3_3 kp3_4 kp3_5 kp3_6 kp3_7 kp4_0 kp4_1
           refine (Try.alive15 _).mono ?_
           rintro e V58 ⟨rfl, hE⟩
           replace E0 := (Ext.trans E0 hE)
           replace p3 := (p3.ext hE)
           replace p4 := (p4.ext hE)
           clear hE
           obtain ⟨kp3_0, kp3_1, kp3_2, kp3_3, kp3_4, kp3_5, kp3_6, kp3_7⟩ := p3.cells8
           have kp4_0 := p4.cell0
           have kp4_1 := p4.cell1
           go_wp2
           go_ret
           exact ⟨rfl, E0⟩
        ·obtain ⟨hv1, hv2, hr1, hr2⟩ := hd2 rfl
         clear hd2
         obtain ⟨V, rfl⟩ := Int.eq_ofNat_of_zero_le (show 0 ≤ vv by omega)
         obtain ⟨R, rfl⟩ := Int.eq_ofNat_of_zero_le hr1
         have hX2 := hX
         have hY2 := hY
         rw [rate_drop (by omega) rfl, Int.toNat_natCast, Int.toNat_natCast, Int.toNat_natCast] at hX2 hY2
         obtain ⟨n, hn⟩ : ∃ n, n = (T - Wm) / V := ⟨_, rfl⟩
         obtain ⟨m, hm⟩ : ∃ m, m = (U - Wm) / V := ⟨_, rfl⟩
         rw [← hn] at hX2
         rw [← hm] at hY2
         have h1 : n = m → X = Y := fun h => by rw [← hX2, ← hY2, h]
         have h2 : n = 0 → X = (B : Int) := fun h => by rw [← hX2, h]; rfl
         have h3 : R = 2 ^ K → X = (B : Int) := fun h => by rw [← hX2, h]; exact drop_one _
         clear hX2 hY2
         by_cases hj0 : n = m
         ·by_cases hj1 : n = 0
          ·by_cases hj2 : R = 2 ^ K
           ·have e1 := h1 (by omega)
            obtain rfl : n = m := by omega
            obtain rfl := e1
            have e2 := h2 (by omega)
            subst e2
            exact Try.endsDrop111 B R Wm V T U K n ee ll pp w (Lib.hid hq0) (by omega) (Lib.hid (by omega)) (by omega) (by omega) (by omega) (by omega) hn hm (Lib.hid hX) (Lib.hid hY) (by omega) (by omega)
           ·have e1 := h1 (by omega)
            obtain rfl : n = m := by omega
            obtain rfl := e1
            have e2 := h2 (by omega)
            subst e2
            exact Try.endsDrop110 B R Wm V T U K n ee ll pp w (Lib.hid hq0) (by omega) (Lib.hid (by omega)) (by omega) (by omega) (by omega) (by omega) hn hm (Lib.hid hX) (Lib.hid hY) (by omega) (by omega)
          ·by_cases hj2 : R = 2 ^ K
           ·have e1 := h1 (by omega)
            obtain rfl : n = m := by omega
            obtain rfl := e1
            have e2 := h3 (by omega)
            subst e2
            exact Try.endsDrop101 B R Wm V T U K n ee ll pp w (Lib.hid hq0) (by omega) (Lib.hid (by omega)) (by omega) (by omega) (by omega) (by omega) hn hm (Lib.hid hX) (Lib.hid hY) (by omega) (by omega)
           ·have e1 := h1 (by omega)
            obtain rfl : n = m := by omega
            obtain rfl := e1
            exact Try.endsDrop100 B R Wm V T U K n ee ll pp X w (Lib.hid hq0) (by omega) (Lib.hid (by omega)) (by omega) (by omega) (by omega) (by omega) hn hm (Lib.hid hX) (Lib.hid hY) (by omega) (by omega)
         ·by_cases hj1 : n = 0
          ·by_cases hj2 : R = 2 ^ K
           ·have e2 := h2 (by omega)
            subst e2
            exact Try.endsDrop011 B R Wm V T U K n m ee ll pp Y w (Lib.hid hq0) (by omega) (Lib.hid (by omega)) (by omega) (by omega) (by omega) (by omega) hn hm (Lib.hid hX) (Lib.hid hY) (by omega) (by omega) (by omega)
           ·have e2 := h2 (by omega)
            subst e2
            exact Try.endsDrop010 B R Wm V T U K n m ee ll pp Y w (Lib.hid hq0) (by omega) (Lib.hid (by omega)) (by omega) (by omega) (by omega) (by omega) hn hm (Lib.hid hX) (Lib.hid hY) (by omega) (by omega) (by omega)
          ·by_cases hj2 : R = 2 ^ K
           ·have e2 := h3 (by omega)
            subst e2
            exact Try.endsDrop001 B R Wm V T U K n m ee ll pp Y w (Lib.hid hq0) (by omega) (Lib.hid (by omega)) (by omega) (by omega) (by omega) (by omega) hn hm (Lib.hid hX) (Lib.hid hY) (by omega) (by omega) (by omega)
           ·exact Try.endsDrop000 B R Wm V T U K n m ee ll pp X Y w (Lib.hid hq0) (by omega) (Lib.hid (by omega)) (by omega) (by omega) (by omega) (by omega) hn hm (Lib.hid hX) (Lib.hid hY) (by omega) (by omega) (by omega)
        ·have hk3b : (kd == 3) = false := beq_eq_false_iff_ne.2 hk3
         have hk2b : (kd != 2) = true := by simp [hk2]
         have hk2c : (kd == 2) = false := beq_eq_false_iff_ne.2 hk2
         clear hd2 hw2
         have HR0 := Lib.hid hq0
         have HBB : Hid (B < 9223372036854775808) := Lib.hid (by omega)
         have HTT : Hid ((1 ≤ T ∧ T ≤ 1000000) ∧ (1 ≤ U ∧ U ≤ 1000000)) := Lib.hid (by omega)
         have HX := Lib.hid hX
         have HY := Lib.hid hY
         clear hq0 hbb hX hY
         obtain ⟨W0, hW0⟩ : ∃ W0, W0 = ((w.alloc (.cells #[.int .i64 kd, .int .i64 (B : Int), .int .i64 rr, .int .i64 ee, .int .i64 (Wm : Int), .int .i64 vv, .int .i64 ll, .int .i64 pp] 64)).alloc (.cells #[.int .i64 (T : Int), .int .i64 (U : Int)] 65)) := ⟨_, rfl⟩
         have E0 : Ext w W0 := by rw [hW0]; exact ((Ext.alloc1 w (.cells #[.int .i64 kd, .int .i64 (B : Int), .int .i64 rr, .int .i64 ee, .int .i64 (Wm : Int), .int .i64 vv, .int .i64 ll, .int .i64 pp] 64)).alloc (.cells #[.int .i64 (T : Int), .int .i64 (U : Int)] 65))
         have p3 : BxA W0 w.heap.size 64 #[.int .i64 kd, .int .i64 (B : Int), .int .i64 rr, .int .i64 ee, .int .i64 (Wm : Int), .int .i64 vv, .int .i64 ll, .int .i64 pp] := by rw [hW0]; exact (BxA.new w 64 #[.int .i64 kd, .int .i64 (B : Int), .int .i64 rr, .int .i64 ee, .int .i64 (Wm : Int), .int .i64 vv, .int .i64 ll, .int .i64 pp]).ext (Ext.alloc1 (w.alloc (.cells #[.int .i64 kd, .int .i64 (B : Int), .int .i64 rr, .int .i64 ee, .int .i64 (Wm : Int), .int .i64 vv, .int .i64 ll, .int .i64 pp] 64)) (.cells #[.int .i64 (T : Int), .int .i64 (U : Int)] 65))
         have p4 : Bx2 W0 (w.heap.size + 1) 65 (.int .i64 (T : Int)) (.int .i64 (U : Int)) := by rw [hW0]; simpa using (Bx2.new (w.alloc (.cells #[.int .i64 kd, .int .i64 (B : Int), .int .i64 rr, .int .i64 ee, .int .i64 (Wm : Int), .int .i64 vv, .int .i64 ll, .int .i64 pp] 64)) 65 (.int .i64 (T : Int)) (.int .i64 (U : Int)))
         go_enter Try.func12, Try.ntmps12
         obtain ⟨kp3_0, kp3_1, kp3_2, kp3_3, kp3_4, kp3_5, kp3_6, kp3_7⟩ := p3.cells8
         have kp4_0 := p4.cell0
         have kp4_1 := p4.cell1
         go_wp2_with fail
         rw [← hW0]
         clear hW0
         clear kp3_0 kp3_1 kp3_2 kp3_3 kp3_4 kp3_5 kp3_6 kp3_7 kp4_0 kp4_1
         refine (Try.refRight15 kd (B : Int) rr ee (Wm : Int) vv ll pp (K : Int) _).mono ?_
         rintro e V83 ⟨rfl, hE⟩
         rw [HR0.out]
         replace E0 := (Ext.trans E0 hE)
         replace p3 := (p3.ext hE)
         replace p4 := (p4.ext hE)
         clear hE
         obtain ⟨kp3_0, kp3_1, kp3_2, kp3_3, kp3_4, kp3_5, kp3_6, kp3_7⟩ := p3.cells8
         have kp4_0 := p4.cell0
         have kp4_1 := p4.cell1
         go_wp2_with fail
         clear kp3_0 kp3_1 kp3_2 kp3_3 kp3_4 kp3_5 kp3_6 kp3_7 kp4_0 kp4_1
         refine (Try.schedRate kd (B : Int) rr ee (Wm : Int) vv ll pp T K _ HR0.out (by have := HBB.out; omega) HTT.out.1.1 HTT.out.1.2 HX.out).mono ?_
         rintro e V84 ⟨rfl, hE⟩
         replace E0 := (Ext.trans E0 hE)
         replace p3 := (p3.ext hE)
         replace p4 := (p4.ext hE)
         clear hE
         obtain ⟨kp3_0, kp3_1, kp3_2, kp3_3, kp3_4, kp3_5, kp3_6, kp3_7⟩ := p3.cells8
         have kp4_0 := p4.cell0
         have kp4_1 := p4.cell1
         go_wp2_with fail
         clear kp3_0 kp3_1 kp3_2 kp3_3 kp3_4 kp3_5 kp3_6 kp3_7 kp4_0 kp4_1
         refine (Try.schedRate kd (B : Int) rr ee (Wm : Int) vv ll pp U K _ HR0.out (by have := HBB.out; omega) HTT.out.2.1 HTT.out.2.2 HY.out).mono ?_
         rintro e V85 ⟨rfl, hE⟩
         replace E0 := (Ext.trans E0 hE)
         replace p3 := (p3.ext hE)
         replace p4 := (p4.ext hE)
         clear hE
         obtain ⟨kp3_0, kp3_1, kp3_2, kp3_3, kp3_4, kp3_5, kp3_6, kp3_7⟩ := p3.cells8
         have kp4_0 := p4.cell0
         have kp4_1 := p4.cell1
         go_wp2_with fail
         clear kp3_0 kp3_1 kp3_2 kp3_3 kp3_4 kp3_5 kp3_6 kp3_7 kp4_0 kp4_1
         refine (Try.alive15 _).mono ?_
         rintro e V86 ⟨rfl, hE⟩
         replace E0 := (Ext.trans E0 hE)
         replace p3 := (p3.ext hE)
         replace p4 := (p4.ext hE)
         clear hE
         obtain ⟨kp3_0, kp3_1, kp3_2, kp3_3, kp3_4, kp3_5, kp3_6, kp3_7⟩ := p3.cells8
         have kp4_0 := p4.cell0
         have kp4_1 := p4.cell1
         go_wp2
         go_ret
         exact ⟨rfl, E0⟩

end Go.Rt
