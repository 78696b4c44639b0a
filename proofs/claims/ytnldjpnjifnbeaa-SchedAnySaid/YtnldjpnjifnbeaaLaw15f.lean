/-
  The laws of chapter 15 (schedules): Any: its walk.
-/
import Derived.Test.YtnldjpnjifnbeaaSchedC
import Derived.Test.YtnldjpnjifnbeaaSchedN
namespace Go.Rt
open Go Go.RowKit Go.Proofs

theorem BxA.put {W : World} {b : Nat} {t : TypeId} {xs : Array Value} (h : BxA W b t xs) (i : Nat) (v : Value) : BxA (W.setCell ⟨b, i, none⟩ v) b t (xs.setIfInBounds i v) := by
  unfold BxA at h ⊢
  simp [World.setCell, h, Array.getElem?_modify]

theorem BxA.other {W : World} {b k i : Nat} {t : TypeId} {xs : Array Value} {v : Value} (h : BxA W b t xs) (hn : b ≠ k) : BxA (W.setCell ⟨k, i, none⟩ v) b t xs := (Below.heap_setCell W ⟨k, i, none⟩ v b (fun e => hn e)).trans h

theorem Bx2.other {W : World} {b k i : Nat} {t : TypeId} {x y v : Value} (h : Bx2 W b t x y) (hn : b ≠ k) : Bx2 (W.setCell ⟨k, i, none⟩ v) b t x y := (Below.heap_setCell W ⟨k, i, none⟩ v b (fun e => hn e)).trans h

theorem BxA.froz {W : World} {b : Nat} {t : TypeId} {xs : Array Value} (h : BxA W b t xs) (i : Nat) : W.frozen? ⟨b, i, none⟩ = false := by simp [World.frozen?, show W.heap[b]? = _ from h]

set_option maxRecDepth 100000 in
set_option maxHeartbeats 8000000 in
theorem Try.lawSchedAny (kd bb rr ee ww vv ll pp t f0 f1 : Int) (w : World) (hbb : bb < 9223372036854775808) :
    Calls Try.prog 13 #[.agg #[.int .i64 kd, .int .i64 bb, .int .i64 rr, .int .i64 ee, .int .i64 ww, .int .i64 vv, .int .i64 ll, .int .i64 pp], .int .i64 t, .agg #[.int .i64 f0, .int .i64 f1]] w fun e w' => e = .returned (.bool true) ∧ Ext w w' := by
  cases hq0 : rightS kd bb rr ee ww vv ll pp f0
  · have HQ0 := Lib.hid hq0
    obtain ⟨W0, hW0⟩ : ∃ W0, W0 = ((w.alloc (.cells #[.int .i64 kd, .int .i64 bb, .int .i64 rr, .int .i64 ee, .int .i64 ww, .int .i64 vv, .int .i64 ll, .int .i64 pp] 64)).alloc (.cells #[.int .i64 f0, .int .i64 f1] 65)) := ⟨_, rfl⟩
    have E0 : Ext w W0 := by rw [hW0]; exact ((Ext.alloc1 w (.cells #[.int .i64 kd, .int .i64 bb, .int .i64 rr, .int .i64 ee, .int .i64 ww, .int .i64 vv, .int .i64 ll, .int .i64 pp] 64)).alloc (.cells #[.int .i64 f0, .int .i64 f1] 65))
    have p3 : BxA W0 w.heap.size 64 #[.int .i64 kd, .int .i64 bb, .int .i64 rr, .int .i64 ee, .int .i64 ww, .int .i64 vv, .int .i64 ll, .int .i64 pp] := by rw [hW0]; exact (BxA.new w 64 #[.int .i64 kd, .int .i64 bb, .int .i64 rr, .int .i64 ee, .int .i64 ww, .int .i64 vv, .int .i64 ll, .int .i64 pp]).ext (Ext.alloc1 (w.alloc (.cells #[.int .i64 kd, .int .i64 bb, .int .i64 rr, .int .i64 ee, .int .i64 ww, .int .i64 vv, .int .i64 ll, .int .i64 pp] 64)) (.cells #[.int .i64 f0, .int .i64 f1] 65))
    have p5 : Bx2 W0 (w.heap.size + 1) 65 (.int .i64 f0) (.int .i64 f1) := by rw [hW0]; simpa using (Bx2.new (w.alloc (.cells #[.int .i64 kd, .int .i64 bb, .int .i64 rr, .int .i64 ee, .int .i64 ww, .int .i64 vv, .int .i64 ll, .int .i64 pp] 64)) 65 (.int .i64 f0) (.int .i64 f1))
    go_enter Try.func13, Try.ntmps13
    obtain ⟨kp3_0, kp3_1, kp3_2, kp3_3, kp3_4, kp3_5, kp3_6, kp3_7⟩ := p3.cells8
    have kp5_0 := p5.cell0
    have kp5_1 := p5.cell1
    go_wp2_with fail
    rw [← hW0]
    clear hW0
    clear kp3_0 kp3_1 kp3_2 kp3_3 kp3_4 kp3_5 kp3_6 kp3_7 kp5_0 kp5_1
    refine (Try.refRight15 kd bb rr ee ww vv ll pp f0 _).mono ?_
    rintro e V1 ⟨rfl, hE⟩
    rw [HQ0.out]
    replace E0 := (Ext.trans E0 hE)
    replace p3 := (p3.ext hE)
    replace p5 := (p5.ext hE)
    clear hE
    obtain ⟨kp3_0, kp3_1, kp3_2, kp3_3, kp3_4, kp3_5, kp3_6, kp3_7⟩ := p3.cells8
    have kp5_0 := p5.cell0
    have kp5_1 := p5.cell1
    go_wp2_with fail
    clear kp3_0 kp3_1 kp3_2 kp3_3 kp3_4 kp3_5 kp3_6 kp3_7 kp5_0 kp5_1
    refine (Try.alive15 _).mono ?_
    rintro e V2 ⟨rfl, hE⟩
    replace E0 := (Ext.trans E0 hE)
    replace p3 := (p3.ext hE)
    replace p5 := (p5.ext hE)
    clear hE
    go_wp2
    go_ret
    exact ⟨rfl, E0⟩
  · cases hq1 : rightS kd bb rr ee ww vv ll pp f1
    · have HQ0 := Lib.hid hq0
      have HQ1 := Lib.hid hq1
      obtain ⟨W0, hW0⟩ : ∃ W0, W0 = ((w.alloc (.cells #[.int .i64 kd, .int .i64 bb, .int .i64 rr, .int .i64 ee, .int .i64 ww, .int .i64 vv, .int .i64 ll, .int .i64 pp] 64)).alloc (.cells #[.int .i64 f0, .int .i64 f1] 65)) := ⟨_, rfl⟩
      have E0 : Ext w W0 := by rw [hW0]; exact ((Ext.alloc1 w (.cells #[.int .i64 kd, .int .i64 bb, .int .i64 rr, .int .i64 ee, .int .i64 ww, .int .i64 vv, .int .i64 ll, .int .i64 pp] 64)).alloc (.cells #[.int .i64 f0, .int .i64 f1] 65))
      have p3 : BxA W0 w.heap.size 64 #[.int .i64 kd, .int .i64 bb, .int .i64 rr, .int .i64 ee, .int .i64 ww, .int .i64 vv, .int .i64 ll, .int .i64 pp] := by rw [hW0]; exact (BxA.new w 64 #[.int .i64 kd, .int .i64 bb, .int .i64 rr, .int .i64 ee, .int .i64 ww, .int .i64 vv, .int .i64 ll, .int .i64 pp]).ext (Ext.alloc1 (w.alloc (.cells #[.int .i64 kd, .int .i64 bb, .int .i64 rr, .int .i64 ee, .int .i64 ww, .int .i64 vv, .int .i64 ll, .int .i64 pp] 64)) (.cells #[.int .i64 f0, .int .i64 f1] 65))
      have p5 : Bx2 W0 (w.heap.size + 1) 65 (.int .i64 f0) (.int .i64 f1) := by rw [hW0]; simpa using (Bx2.new (w.alloc (.cells #[.int .i64 kd, .int .i64 bb, .int .i64 rr, .int .i64 ee, .int .i64 ww, .int .i64 vv, .int .i64 ll, .int .i64 pp] 64)) 65 (.int .i64 f0) (.int .i64 f1))
      go_enter Try.func13, Try.ntmps13
      obtain ⟨kp3_0, kp3_1, kp3_2, kp3_3, kp3_4, kp3_5, kp3_6, kp3_7⟩ := p3.cells8
      have kp5_0 := p5.cell0
      have kp5_1 := p5.cell1
      go_wp2_with fail
      rw [← hW0]
      clear hW0
      clear kp3_0 kp3_1 kp3_2 kp3_3 kp3_4 kp3_5 kp3_6 kp3_7 kp5_0 kp5_1
      refine (Try.refRight15 kd bb rr ee ww vv ll pp f0 _).mono ?_
      rintro e V3 ⟨rfl, hE⟩
      rw [HQ0.out]
      replace E0 := (Ext.trans E0 hE)
      replace p3 := (p3.ext hE)
      replace p5 := (p5.ext hE)
      clear hE
      obtain ⟨kp3_0, kp3_1, kp3_2, kp3_3, kp3_4, kp3_5, kp3_6, kp3_7⟩ := p3.cells8
      have kp5_0 := p5.cell0
      have kp5_1 := p5.cell1
      go_wp2_with fail
      clear kp3_0 kp3_1 kp3_2 kp3_3 kp3_4 kp3_5 kp3_6 kp3_7 kp5_0 kp5_1
      refine (Try.refRight15 kd bb rr ee ww vv ll pp f1 _).mono ?_
      rintro e V4 ⟨rfl, hE⟩
      rw [HQ1.out]
      replace E0 := (Ext.trans E0 hE)
      replace p3 := (p3.ext hE)
      replace p5 := (p5.ext hE)
      clear hE
      obtain ⟨kp3_0, kp3_1, kp3_2, kp3_3, kp3_4, kp3_5, kp3_6, kp3_7⟩ := p3.cells8
      have kp5_0 := p5.cell0
      have kp5_1 := p5.cell1
      go_wp2_with fail
      clear kp3_0 kp3_1 kp3_2 kp3_3 kp3_4 kp3_5 kp3_6 kp3_7 kp5_0 kp5_1
      refine (Try.alive15 _).mono ?_
      rintro e V5 ⟨rfl, hE⟩
      replace E0 := (Ext.trans E0 hE)
      replace p3 := (p3.ext hE)
      replace p5 := (p5.ext hE)
      clear hE
      go_wp2
      go_ret
      exact ⟨rfl, E0⟩
    · by_cases hc0 : kd = 2
      · have hc0b : (kd == 2) = true := by simp [hc0]
        clear hc0
        have HQ0 := Lib.hid hq0
        have HQ1 := Lib.hid hq1
        obtain ⟨W0, hW0⟩ : ∃ W0, W0 = ((w.alloc (.cells #[.int .i64 kd, .int .i64 bb, .int .i64 rr, .int .i64 ee, .int .i64 ww, .int .i64 vv, .int .i64 ll, .int .i64 pp] 64)).alloc (.cells #[.int .i64 f0, .int .i64 f1] 65)) := ⟨_, rfl⟩
        have E0 : Ext w W0 := by rw [hW0]; exact ((Ext.alloc1 w (.cells #[.int .i64 kd, .int .i64 bb, .int .i64 rr, .int .i64 ee, .int .i64 ww, .int .i64 vv, .int .i64 ll, .int .i64 pp] 64)).alloc (.cells #[.int .i64 f0, .int .i64 f1] 65))
        have p3 : BxA W0 w.heap.size 64 #[.int .i64 kd, .int .i64 bb, .int .i64 rr, .int .i64 ee, .int .i64 ww, .int .i64 vv, .int .i64 ll, .int .i64 pp] := by rw [hW0]; exact (BxA.new w 64 #[.int .i64 kd, .int .i64 bb, .int .i64 rr, .int .i64 ee, .int .i64 ww, .int .i64 vv, .int .i64 ll, .int .i64 pp]).ext (Ext.alloc1 (w.alloc (.cells #[.int .i64 kd, .int .i64 bb, .int .i64 rr, .int .i64 ee, .int .i64 ww, .int .i64 vv, .int .i64 ll, .int .i64 pp] 64)) (.cells #[.int .i64 f0, .int .i64 f1] 65))
        have p5 : Bx2 W0 (w.heap.size + 1) 65 (.int .i64 f0) (.int .i64 f1) := by rw [hW0]; simpa using (Bx2.new (w.alloc (.cells #[.int .i64 kd, .int .i64 bb, .int .i64 rr, .int .i64 ee, .int .i64 ww, .int .i64 vv, .int .i64 ll, .int .i64 pp] 64)) 65 (.int .i64 f0) (.int .i64 f1))
        go_enter Try.func13, Try.ntmps13
        obtain ⟨kp3_0, kp3_1, kp3_2, kp3_3, kp3_4, kp3_5, kp3_6, kp3_7⟩ := p3.cells8
        have kp5_0 := p5.cell0
        have kp5_1 := p5.cell1
        go_wp2_with fail
        rw [← hW0]
        clear hW0
        clear kp3_0 kp3_1 kp3_2 kp3_3 kp3_4 kp3_5 kp3_6 kp3_7 kp5_0 kp5_1
        refine (Try.refRight15 kd bb rr ee ww vv ll pp f0 _).mono ?_
        rintro e V6 ⟨rfl, hE⟩
        rw [HQ0.out]
        replace E0 := (Ext.trans E0 hE)
        replace p3 := (p3.ext hE)
        replace p5 := (p5.ext hE)
        clear hE
        obtain ⟨kp3_0, kp3_1, kp3_2, kp3_3, kp3_4, kp3_5, kp3_6, kp3_7⟩ := p3.cells8
        have kp5_0 := p5.cell0
        have kp5_1 := p5.cell1
        go_wp2_with fail
        clear kp3_0 kp3_1 kp3_2 kp3_3 kp3_4 kp3_5 kp3_6 kp3_7 kp5_0 kp5_1
        refine (Try.refRight15 kd bb rr ee ww vv ll pp f1 _).mono ?_
        rintro e V7 ⟨rfl, hE⟩
        rw [HQ1.out]
        replace E0 := (Ext.trans E0 hE)
        replace p3 := (p3.ext hE)
        replace p5 := (p5.ext hE)
        clear hE
        obtain ⟨kp3_0, kp3_1, kp3_2, kp3_3, kp3_4, kp3_5, kp3_6, kp3_7⟩ := p3.cells8
        have kp5_0 := p5.cell0
        have kp5_1 := p5.cell1
        go_wp2_with fail
        clear kp3_0 kp3_1 kp3_2 kp3_3 kp3_4 kp3_5 kp3_6 kp3_7 kp5_0 kp5_1
        refine (Try.alive15 _).mono ?_
        rintro e V8 ⟨rfl, hE⟩
        replace E0 := (Ext.trans E0 hE)
        replace p3 := (p3.ext hE)
        replace p5 := (p5.ext hE)
        clear hE
        go_wp2
        go_ret
        exact ⟨rfl, E0⟩
      · by_cases hc1 : t < 1
        · have hc1d : decide (t < 1) = true := decide_eq_true hc1
          have HQ0 := Lib.hid hq0
          have HQ1 := Lib.hid hq1
          obtain ⟨W0, hW0⟩ : ∃ W0, W0 = ((w.alloc (.cells #[.int .i64 kd, .int .i64 bb, .int .i64 rr, .int .i64 ee, .int .i64 ww, .int .i64 vv, .int .i64 ll, .int .i64 pp] 64)).alloc (.cells #[.int .i64 f0, .int .i64 f1] 65)) := ⟨_, rfl⟩
          have E0 : Ext w W0 := by rw [hW0]; exact ((Ext.alloc1 w (.cells #[.int .i64 kd, .int .i64 bb, .int .i64 rr, .int .i64 ee, .int .i64 ww, .int .i64 vv, .int .i64 ll, .int .i64 pp] 64)).alloc (.cells #[.int .i64 f0, .int .i64 f1] 65))
          have p3 : BxA W0 w.heap.size 64 #[.int .i64 kd, .int .i64 bb, .int .i64 rr, .int .i64 ee, .int .i64 ww, .int .i64 vv, .int .i64 ll, .int .i64 pp] := by rw [hW0]; exact (BxA.new w 64 #[.int .i64 kd, .int .i64 bb, .int .i64 rr, .int .i64 ee, .int .i64 ww, .int .i64 vv, .int .i64 ll, .int .i64 pp]).ext (Ext.alloc1 (w.alloc (.cells #[.int .i64 kd, .int .i64 bb, .int .i64 rr, .int .i64 ee, .int .i64 ww, .int .i64 vv, .int .i64 ll, .int .i64 pp] 64)) (.cells #[.int .i64 f0, .int .i64 f1] 65))
          have p5 : Bx2 W0 (w.heap.size + 1) 65 (.int .i64 f0) (.int .i64 f1) := by rw [hW0]; simpa using (Bx2.new (w.alloc (.cells #[.int .i64 kd, .int .i64 bb, .int .i64 rr, .int .i64 ee, .int .i64 ww, .int .i64 vv, .int .i64 ll, .int .i64 pp] 64)) 65 (.int .i64 f0) (.int .i64 f1))
          go_enter Try.func13, Try.ntmps13
          obtain ⟨kp3_0, kp3_1, kp3_2, kp3_3, kp3_4, kp3_5, kp3_6, kp3_7⟩ := p3.cells8
          have kp5_0 := p5.cell0
          have kp5_1 := p5.cell1
          go_wp2_with fail
          rw [← hW0]
          clear hW0
          clear kp3_0 kp3_1 kp3_2 kp3_3 kp3_4 kp3_5 kp3_6 kp3_7 kp5_0 kp5_1
          refine (Try.refRight15 kd bb rr ee ww vv ll pp f0 _).mono ?_
          rintro e V9 ⟨rfl, hE⟩
          rw [HQ0.out]
          replace E0 := (Ext.trans E0 hE)
          replace p3 := (p3.ext hE)
          replace p5 := (p5.ext hE)
          clear hE
          obtain ⟨kp3_0, kp3_1, kp3_2, kp3_3, kp3_4, kp3_5, kp3_6, kp3_7⟩ := p3.cells8
          have kp5_0 := p5.cell0
          have kp5_1 := p5.cell1
          go_wp2_with fail
          clear kp3_0 kp3_1 kp3_2 kp3_3 kp3_4 kp3_5 kp3_6 kp3_7 kp5_0 kp5_1
          refine (Try.refRight15 kd bb rr ee ww vv ll pp f1 _).mono ?_
          rintro e V10 ⟨rfl, hE⟩
          rw [HQ1.out]
          replace E0 := (Ext.trans E0 hE)
          replace p3 := (p3.ext hE)
          replace p5 := (p5.ext hE)
          clear hE
          obtain ⟨kp3_0, kp3_1, kp3_2, kp3_3, kp3_4, kp3_5, kp3_6, kp3_7⟩ := p3.cells8
          have kp5_0 := p5.cell0
          have kp5_1 := p5.cell1
          go_wp2_with fail
          clear kp3_0 kp3_1 kp3_2 kp3_3 kp3_4 kp3_5 kp3_6 kp3_7 kp5_0 kp5_1
          refine (Try.alive15 _).mono ?_
          rintro e V11 ⟨rfl, hE⟩
          replace E0 := (Ext.trans E0 hE)
          replace p3 := (p3.ext hE)
          replace p5 := (p5.ext hE)
          clear hE
          go_wp2
          go_ret
          exact ⟨rfl, E0⟩
        · have hc1d : decide (t < 1) = false := decide_eq_false hc1
          by_cases hc2 : 1000000 < t
          · have hc2d : decide (1000000 < t) = true := decide_eq_true hc2
            have HQ0 := Lib.hid hq0
            have HQ1 := Lib.hid hq1
            obtain ⟨W0, hW0⟩ : ∃ W0, W0 = ((w.alloc (.cells #[.int .i64 kd, .int .i64 bb, .int .i64 rr, .int .i64 ee, .int .i64 ww, .int .i64 vv, .int .i64 ll, .int .i64 pp] 64)).alloc (.cells #[.int .i64 f0, .int .i64 f1] 65)) := ⟨_, rfl⟩
            have E0 : Ext w W0 := by rw [hW0]; exact ((Ext.alloc1 w (.cells #[.int .i64 kd, .int .i64 bb, .int .i64 rr, .int .i64 ee, .int .i64 ww, .int .i64 vv, .int .i64 ll, .int .i64 pp] 64)).alloc (.cells #[.int .i64 f0, .int .i64 f1] 65))
            have p3 : BxA W0 w.heap.size 64 #[.int .i64 kd, .int .i64 bb, .int .i64 rr, .int .i64 ee, .int .i64 ww, .int .i64 vv, .int .i64 ll, .int .i64 pp] := by rw [hW0]; exact (BxA.new w 64 #[.int .i64 kd, .int .i64 bb, .int .i64 rr, .int .i64 ee, .int .i64 ww, .int .i64 vv, .int .i64 ll, .int .i64 pp]).ext (Ext.alloc1 (w.alloc (.cells #[.int .i64 kd, .int .i64 bb, .int .i64 rr, .int .i64 ee, .int .i64 ww, .int .i64 vv, .int .i64 ll, .int .i64 pp] 64)) (.cells #[.int .i64 f0, .int .i64 f1] 65))
            have p5 : Bx2 W0 (w.heap.size + 1) 65 (.int .i64 f0) (.int .i64 f1) := by rw [hW0]; simpa using (Bx2.new (w.alloc (.cells #[.int .i64 kd, .int .i64 bb, .int .i64 rr, .int .i64 ee, .int .i64 ww, .int .i64 vv, .int .i64 ll, .int .i64 pp] 64)) 65 (.int .i64 f0) (.int .i64 f1))
            go_enter Try.func13, Try.ntmps13
            obtain ⟨kp3_0, kp3_1, kp3_2, kp3_3, kp3_4, kp3_5, kp3_6, kp3_7⟩ := p3.cells8
            have kp5_0 := p5.cell0
            have kp5_1 := p5.cell1
            go_wp2_with fail
            rw [← hW0]
            clear hW0
            clear kp3_0 kp3_1 kp3_2 kp3_3 kp3_4 kp3_5 kp3_6 kp3_7 kp5_0 kp5_1
            refine (Try.refRight15 kd bb rr ee ww vv ll pp f0 _).mono ?_
            rintro e V12 ⟨rfl, hE⟩
            rw [HQ0.out]
            replace E0 := (Ext.trans E0 hE)
            replace p3 := (p3.ext hE)
            replace p5 := (p5.ext hE)
            clear hE
            obtain ⟨kp3_0, kp3_1, kp3_2, kp3_3, kp3_4, kp3_5, kp3_6, kp3_7⟩ := p3.cells8
            have kp5_0 := p5.cell0
            have kp5_1 := p5.cell1
            go_wp2_with fail
            clear kp3_0 kp3_1 kp3_2 kp3_3 kp3_4 kp3_5 kp3_6 kp3_7 kp5_0 kp5_1
            refine (Try.refRight15 kd bb rr ee ww vv ll pp f1 _).mono ?_
            rintro e V13 ⟨rfl, hE⟩
            rw [HQ1.out]
            replace E0 := (Ext.trans E0 hE)
            replace p3 := (p3.ext hE)
            replace p5 := (p5.ext hE)
            clear hE
            obtain ⟨kp3_0, kp3_1, kp3_2, kp3_3, kp3_4, kp3_5, kp3_6, kp3_7⟩ := p3.cells8
            have kp5_0 := p5.cell0
            have kp5_1 := p5.cell1
            go_wp2_with fail
            clear kp3_0 kp3_1 kp3_2 kp3_3 kp3_4 kp3_5 kp3_6 kp3_7 kp5_0 kp5_1
            refine (Try.alive15 _).mono ?_
            rintro e V14 ⟨rfl, hE⟩
            replace E0 := (Ext.trans E0 hE)
            replace p3 := (p3.ext hE)
            replace p5 := (p5.ext hE)
            clear hE
            go_wp2
            go_ret
            exact ⟨rfl, E0⟩
          · have hc2d : decide (1000000 < t) = false := decide_eq_false hc2
            have hr := rightS_iff.1 hq0
            have hr2 := rightS_iff.1 hq1
            obtain ⟨K, rfl⟩ := Int.eq_ofNat_of_zero_le (show 0 ≤ f0 by omega)
            obtain ⟨J, rfl⟩ := Int.eq_ofNat_of_zero_le (show 0 ≤ f1 by omega)
            obtain ⟨T, rfl⟩ := Int.eq_ofNat_of_zero_le (show 0 ≤ t by omega)
            obtain ⟨Wm, rfl⟩ := Int.eq_ofNat_of_zero_le (show 0 ≤ ww by omega)
            obtain ⟨B, rfl⟩ := Int.eq_ofNat_of_zero_le (show 0 ≤ bb by omega)
            have hk2 : kd ≠ 2 := hc0
            have HTT : Hid (1 ≤ T ∧ T ≤ 1000000) := Lib.hid (by omega)
            have HBB : Hid (B < 9223372036854775808) := Lib.hid (by omega)
            obtain ⟨G, hG⟩ : ∃ G, G = B / 2 := ⟨_, rfl⟩
            have HGB : Hid (G ≤ B) := Lib.hid (by omega)
            have hd1 : ((B : Int)).tdiv 2 = (G : Int) := by rw [Int.tdiv_eq_ediv_of_nonneg (by omega)]; omega
            have hd2 : ((B : Int)) / 2 = (G : Int) := by omega
            have hd3 : IntKind.i64.wrap (((B : Int)).tdiv 2) = (G : Int) := by rw [hd1, IntKind.wrap_i64]; omega
            have hd4 : IntKind.i64.wrap (G : Int) = (G : Int) := by rw [IntKind.wrap_i64]; omega
            obtain ⟨X, hX⟩ : ∃ X, rateV kd (B : Int) rr ee (Wm : Int) vv ll pp T K = X := ⟨_, rfl⟩
            have HX := Lib.hid hX
            have HY : Hid (rateV kd (B : Int) rr ee (Wm : Int) vv ll pp T J = X) := Lib.hid (by rw [← hX]; exact rate_any hk2 T)
            have HR2 : Hid (rightS kd (B : Int) rr ee 0 vv ll pp (K : Int) = true) := Lib.hid (right_first hq0)
            have HR3 : Hid (rightS kd (G : Int) rr 0 (Wm : Int) vv ll pp (K : Int) = true) := Lib.hid (right_less hq0 (by omega))
            by_cases hk3 : kd = 3
            · subst hk3
              obtain ⟨Z, hZ⟩ : ∃ Z, rateV 3 (B : Int) rr ee 0 vv ll pp 1 K = Z := ⟨_, rfl⟩
              have HZ := Lib.hid hZ
              obtain ⟨V, hV⟩ : ∃ V, rateV 3 (G : Int) rr 0 (Wm : Int) vv ll pp T K = V := ⟨_, rfl⟩
              have HV := Lib.hid hV
              clear hZ
              have HR0 := Lib.hid hq0
              have HR1 := Lib.hid hq1
              clear hr hr2 hq0 hq1 hG hX hV hbb hk2 hc0
              obtain ⟨W0, hW0⟩ : ∃ W0, W0 = ((w.alloc (.cells #[.int .i64 3, .int .i64 (B : Int), .int .i64 rr, .int .i64 ee, .int .i64 (Wm : Int), .int .i64 vv, .int .i64 ll, .int .i64 pp] 64)).alloc (.cells #[.int .i64 (K : Int), .int .i64 (J : Int)] 65)) := ⟨_, rfl⟩
              have E0 : Ext w W0 := by rw [hW0]; exact ((Ext.alloc1 w (.cells #[.int .i64 3, .int .i64 (B : Int), .int .i64 rr, .int .i64 ee, .int .i64 (Wm : Int), .int .i64 vv, .int .i64 ll, .int .i64 pp] 64)).alloc (.cells #[.int .i64 (K : Int), .int .i64 (J : Int)] 65))
              have p3 : BxA W0 w.heap.size 64 #[.int .i64 3, .int .i64 (B : Int), .int .i64 rr, .int .i64 ee, .int .i64 (Wm : Int), .int .i64 vv, .int .i64 ll, .int .i64 pp] := by rw [hW0]; exact (BxA.new w 64 #[.int .i64 3, .int .i64 (B : Int), .int .i64 rr, .int .i64 ee, .int .i64 (Wm : Int), .int .i64 vv, .int .i64 ll, .int .i64 pp]).ext (Ext.alloc1 (w.alloc (.cells #[.int .i64 3, .int .i64 (B : Int), .int .i64 rr, .int .i64 ee, .int .i64 (Wm : Int), .int .i64 vv, .int .i64 ll, .int .i64 pp] 64)) (.cells #[.int .i64 (K : Int), .int .i64 (J : Int)] 65))
              have p5 : Bx2 W0 (w.heap.size + 1) 65 (.int .i64 (K : Int)) (.int .i64 (J : Int)) := by rw [hW0]; simpa using (Bx2.new (w.alloc (.cells #[.int .i64 3, .int .i64 (B : Int), .int .i64 rr, .int .i64 ee, .int .i64 (Wm : Int), .int .i64 vv, .int .i64 ll, .int .i64 pp] 64)) 65 (.int .i64 (K : Int)) (.int .i64 (J : Int)))
              go_enter Try.func13, Try.ntmps13
              obtain ⟨kp3_0, kp3_1, kp3_2, kp3_3, kp3_4, kp3_5, kp3_6, kp3_7⟩ := p3.cells8
              have kp5_0 := p5.cell0
              have kp5_1 := p5.cell1
              go_wp2_with fail
              rw [← hW0]
              clear hW0
              clear kp3_0 kp3_1 kp3_2 kp3_3 kp3_4 kp3_5 kp3_6 kp3_7 kp5_0 kp5_1
              refine (Try.refRight15 3 (B : Int) rr ee (Wm : Int) vv ll pp (K : Int) _).mono ?_
              rintro e V15 ⟨rfl, hE⟩
              rw [HR0.out]
              replace E0 := (Ext.trans E0 hE)
              replace p3 := (p3.ext hE)
              replace p5 := (p5.ext hE)
              clear hE
              obtain ⟨kp3_0, kp3_1, kp3_2, kp3_3, kp3_4, kp3_5, kp3_6, kp3_7⟩ := p3.cells8
              have kp5_0 := p5.cell0
              have kp5_1 := p5.cell1
              go_wp2_with fail
              clear kp3_0 kp3_1 kp3_2 kp3_3 kp3_4 kp3_5 kp3_6 kp3_7 kp5_0 kp5_1
              refine (Try.refRight15 3 (B : Int) rr ee (Wm : Int) vv ll pp (J : Int) _).mono ?_
              rintro e V16 ⟨rfl, hE⟩
              rw [HR1.out]
              replace E0 := (Ext.trans E0 hE)
              replace p3 := (p3.ext hE)
              replace p5 := (p5.ext hE)
              clear hE
              obtain ⟨kp3_0, kp3_1, kp3_2, kp3_3, kp3_4, kp3_5, kp3_6, kp3_7⟩ := p3.cells8
              have kp5_0 := p5.cell0
              have kp5_1 := p5.cell1
              go_wp2_with fail
              clear kp3_0 kp3_1 kp3_2 kp3_3 kp3_4 kp3_5 kp3_6 kp3_7 kp5_0 kp5_1
              refine (Try.schedRate 3 (B : Int) rr ee (Wm : Int) vv ll pp T K _ HR0.out (by have := HBB.out; omega) HTT.out.1 HTT.out.2 HX.out).mono ?_
              rintro e V17 ⟨rfl, hE⟩
              replace E0 := (Ext.trans E0 hE)
              replace p3 := (p3.ext hE)
              replace p5 := (p5.ext hE)
              clear hE
              obtain ⟨kp3_0, kp3_1, kp3_2, kp3_3, kp3_4, kp3_5, kp3_6, kp3_7⟩ := p3.cells8
              have kp5_0 := p5.cell0
              have kp5_1 := p5.cell1
              go_wp2_with fail
              clear kp3_0 kp3_1 kp3_2 kp3_3 kp3_4 kp3_5 kp3_6 kp3_7 kp5_0 kp5_1
              refine (Try.schedRate 3 (B : Int) rr ee (Wm : Int) vv ll pp T J _ HR1.out (by have := HBB.out; omega) HTT.out.1 HTT.out.2 HY.out).mono ?_
              rintro e V18 ⟨rfl, hE⟩
              replace E0 := (Ext.trans E0 hE)
              replace p3 := (p3.ext hE)
              replace p5 := (p5.ext hE)
              clear hE
              obtain ⟨kp3_0, kp3_1, kp3_2, kp3_3, kp3_4, kp3_5, kp3_6, kp3_7⟩ := p3.cells8
              have kp5_0 := p5.cell0
              have kp5_1 := p5.cell1
              go_upto_region 6 with (fail)
              clear kp3_0 kp3_1 kp3_2 kp3_3 kp3_4 kp3_5 kp3_6 kp3_7 kp5_0 kp5_1
              have p11 := BxA.new V18 64 #[.int .i64 3, .int .i64 (B : Int), .int .i64 rr, .int .i64 ee, .int .i64 (Wm : Int), .int .i64 vv, .int .i64 ll, .int .i64 pp]
              have hE := Ext.alloc1 V18 (.cells #[.int .i64 3, .int .i64 (B : Int), .int .i64 rr, .int .i64 ee, .int .i64 (Wm : Int), .int .i64 vv, .int .i64 ll, .int .i64 pp] 64)
              have hsz := E0.size
              obtain ⟨U1, hU1⟩ : ∃ U1, U1 = V18.alloc (.cells #[.int .i64 3, .int .i64 (B : Int), .int .i64 rr, .int .i64 ee, .int .i64 (Wm : Int), .int .i64 vv, .int .i64 ll, .int .i64 pp] 64) := ⟨_, rfl⟩
              rw [← hU1] at p11 hE ⊢
              clear hU1
              have ltp3 := p3.lt
              have ltp5 := p5.lt
              replace E0 := (Ext.trans E0 hE)
              replace p3 := (p3.ext hE)
              replace p5 := (p5.ext hE)
              clear hE
              obtain ⟨g11, hg11⟩ : ∃ g, g = V18.heap.size := ⟨_, rfl⟩
              rw [← hg11] at p11 ltp3 ltp5 hsz ⊢
              clear hg11
              have hge11 := Lib.hid hsz
              clear hsz
              have ltp3_11 := Lib.hid (Nat.ne_of_lt ltp3)
              clear ltp3
              have ltp5_11 := Lib.hid (Nat.ne_of_lt ltp5)
              clear ltp5
              have zf := p11.froz 4
              obtain ⟨kp3_0, kp3_1, kp3_2, kp3_3, kp3_4, kp3_5, kp3_6, kp3_7⟩ := p3.cells8
              have kp5_0 := p5.cell0
              have kp5_1 := p5.cell1
              obtain ⟨kp11_0, kp11_1, kp11_2, kp11_3, kp11_4, kp11_5, kp11_6, kp11_7⟩ := p11.cells8
              go_upto_region 7 with (fail)
              clear kp3_0 kp3_1 kp3_2 kp3_3 kp3_4 kp3_5 kp3_6 kp3_7 kp5_0 kp5_1 kp11_0 kp11_1 kp11_2 kp11_3 kp11_4 kp11_5 kp11_6 kp11_7
              clear zf
              obtain ⟨U2, hU2⟩ : ∃ U2, U2 = U1.setCell ⟨g11, 4, none⟩ (.int .i64 0) := ⟨_, rfl⟩
              rw [← hU2]
              replace p11 : BxA U2 g11 64 #[.int .i64 3, .int .i64 (B : Int), .int .i64 rr, .int .i64 ee, .int .i64 0, .int .i64 vv, .int .i64 ll, .int .i64 pp] := by rw [hU2]; exact p11.put 4 _
              replace E0 : Ext w U2 := by rw [hU2]; exact E0.setCell hge11.out _
              replace p3 : BxA U2 w.heap.size 64 #[.int .i64 3, .int .i64 (B : Int), .int .i64 rr, .int .i64 ee, .int .i64 (Wm : Int), .int .i64 vv, .int .i64 ll, .int .i64 pp] := by rw [hU2]; exact p3.other ltp3_11.out
              replace p5 : Bx2 U2 (w.heap.size + 1) 65 (.int .i64 (K : Int)) (.int .i64 (J : Int)) := by rw [hU2]; exact p5.other ltp5_11.out
              clear hU2
              obtain ⟨kp3_0, kp3_1, kp3_2, kp3_3, kp3_4, kp3_5, kp3_6, kp3_7⟩ := p3.cells8
              have kp5_0 := p5.cell0
              have kp5_1 := p5.cell1
              obtain ⟨kp11_0, kp11_1, kp11_2, kp11_3, kp11_4, kp11_5, kp11_6, kp11_7⟩ := p11.cells8
              go_wp2_with fail
              clear kp3_0 kp3_1 kp3_2 kp3_3 kp3_4 kp3_5 kp3_6 kp3_7 kp5_0 kp5_1 kp11_0 kp11_1 kp11_2 kp11_3 kp11_4 kp11_5 kp11_6 kp11_7
              refine (Try.schedRate 3 (B : Int) rr ee 0 vv ll pp 1 K _ HR2.out (by have := HBB.out; omega) (by omega) (by omega) HZ.out).mono ?_
              rintro e V19 ⟨rfl, hE⟩
              replace E0 := (Ext.trans E0 hE)
              replace p3 := (p3.ext hE)
              replace p5 := (p5.ext hE)
              replace p11 := (p11.ext hE)
              clear hE
              obtain ⟨kp3_0, kp3_1, kp3_2, kp3_3, kp3_4, kp3_5, kp3_6, kp3_7⟩ := p3.cells8
              have kp5_0 := p5.cell0
              have kp5_1 := p5.cell1
              obtain ⟨kp11_0, kp11_1, kp11_2, kp11_3, kp11_4, kp11_5, kp11_6, kp11_7⟩ := p11.cells8
              go_upto_region 9 with (fail)
              clear kp3_0 kp3_1 kp3_2 kp3_3 kp3_4 kp3_5 kp3_6 kp3_7 kp5_0 kp5_1 kp11_0 kp11_1 kp11_2 kp11_3 kp11_4 kp11_5 kp11_6 kp11_7
              have p14 := BxA.new V19 64 #[.int .i64 3, .int .i64 (B : Int), .int .i64 rr, .int .i64 ee, .int .i64 (Wm : Int), .int .i64 vv, .int .i64 ll, .int .i64 pp]
              have hE := Ext.alloc1 V19 (.cells #[.int .i64 3, .int .i64 (B : Int), .int .i64 rr, .int .i64 ee, .int .i64 (Wm : Int), .int .i64 vv, .int .i64 ll, .int .i64 pp] 64)
              have hsz := E0.size
              obtain ⟨U3, hU3⟩ : ∃ U3, U3 = V19.alloc (.cells #[.int .i64 3, .int .i64 (B : Int), .int .i64 rr, .int .i64 ee, .int .i64 (Wm : Int), .int .i64 vv, .int .i64 ll, .int .i64 pp] 64) := ⟨_, rfl⟩
              rw [← hU3] at p14 hE ⊢
              clear hU3
              have ltp3 := p3.lt
              have ltp5 := p5.lt
              have ltp11 := p11.lt
              replace E0 := (Ext.trans E0 hE)
              replace p3 := (p3.ext hE)
              replace p5 := (p5.ext hE)
              replace p11 := (p11.ext hE)
              clear hE
              obtain ⟨g14, hg14⟩ : ∃ g, g = V19.heap.size := ⟨_, rfl⟩
              rw [← hg14] at p14 ltp3 ltp5 ltp11 hsz ⊢
              clear hg14
              have hge14 := Lib.hid hsz
              clear hsz
              have ltp3_14 := Lib.hid (Nat.ne_of_lt ltp3)
              clear ltp3
              have ltp5_14 := Lib.hid (Nat.ne_of_lt ltp5)
              clear ltp5
              have ltp11_14 := Lib.hid (Nat.ne_of_lt ltp11)
              clear ltp11
              have zf := p14.froz 1
              obtain ⟨kp3_0, kp3_1, kp3_2, kp3_3, kp3_4, kp3_5, kp3_6, kp3_7⟩ := p3.cells8
              have kp5_0 := p5.cell0
              have kp5_1 := p5.cell1
              obtain ⟨kp11_0, kp11_1, kp11_2, kp11_3, kp11_4, kp11_5, kp11_6, kp11_7⟩ := p11.cells8
              obtain ⟨kp14_0, kp14_1, kp14_2, kp14_3, kp14_4, kp14_5, kp14_6, kp14_7⟩ := p14.cells8
              go_upto_region 10 with (fail)
              clear kp3_0 kp3_1 kp3_2 kp3_3 kp3_4 kp3_5 kp3_6 kp3_7 kp5_0 kp5_1 kp11_0 kp11_1 kp11_2 kp11_3 kp11_4 kp11_5 kp11_6 kp11_7 kp14_0 kp14_1 kp14_2 kp14_3 kp14_4 kp14_5 kp14_6 kp14_7
              clear zf
              obtain ⟨U4, hU4⟩ : ∃ U4, U4 = U3.setCell ⟨g14, 1, none⟩ (.int .i64 (G : Int)) := ⟨_, rfl⟩
              rw [← hU4]
              replace p14 : BxA U4 g14 64 #[.int .i64 3, .int .i64 (G : Int), .int .i64 rr, .int .i64 ee, .int .i64 (Wm : Int), .int .i64 vv, .int .i64 ll, .int .i64 pp] := by rw [hU4]; exact p14.put 1 _
              replace E0 : Ext w U4 := by rw [hU4]; exact E0.setCell hge14.out _
              replace p3 : BxA U4 w.heap.size 64 #[.int .i64 3, .int .i64 (B : Int), .int .i64 rr, .int .i64 ee, .int .i64 (Wm : Int), .int .i64 vv, .int .i64 ll, .int .i64 pp] := by rw [hU4]; exact p3.other ltp3_14.out
              replace p5 : Bx2 U4 (w.heap.size + 1) 65 (.int .i64 (K : Int)) (.int .i64 (J : Int)) := by rw [hU4]; exact p5.other ltp5_14.out
              replace p11 : BxA U4 g11 64 #[.int .i64 3, .int .i64 (B : Int), .int .i64 rr, .int .i64 ee, .int .i64 0, .int .i64 vv, .int .i64 ll, .int .i64 pp] := by rw [hU4]; exact p11.other ltp11_14.out
              clear hU4
              have zf := p14.froz 3
              obtain ⟨kp3_0, kp3_1, kp3_2, kp3_3, kp3_4, kp3_5, kp3_6, kp3_7⟩ := p3.cells8
              have kp5_0 := p5.cell0
              have kp5_1 := p5.cell1
              obtain ⟨kp11_0, kp11_1, kp11_2, kp11_3, kp11_4, kp11_5, kp11_6, kp11_7⟩ := p11.cells8
              obtain ⟨kp14_0, kp14_1, kp14_2, kp14_3, kp14_4, kp14_5, kp14_6, kp14_7⟩ := p14.cells8
              go_upto_region 11 with (fail)
              clear kp3_0 kp3_1 kp3_2 kp3_3 kp3_4 kp3_5 kp3_6 kp3_7 kp5_0 kp5_1 kp11_0 kp11_1 kp11_2 kp11_3 kp11_4 kp11_5 kp11_6 kp11_7 kp14_0 kp14_1 kp14_2 kp14_3 kp14_4 kp14_5 kp14_6 kp14_7
              clear zf
              obtain ⟨U5, hU5⟩ : ∃ U5, U5 = U4.setCell ⟨g14, 3, none⟩ (.int .i64 0) := ⟨_, rfl⟩
              rw [← hU5]
              replace p14 : BxA U5 g14 64 #[.int .i64 3, .int .i64 (G : Int), .int .i64 rr, .int .i64 0, .int .i64 (Wm : Int), .int .i64 vv, .int .i64 ll, .int .i64 pp] := by rw [hU5]; exact p14.put 3 _
              replace E0 : Ext w U5 := by rw [hU5]; exact E0.setCell hge14.out _
              replace p3 : BxA U5 w.heap.size 64 #[.int .i64 3, .int .i64 (B : Int), .int .i64 rr, .int .i64 ee, .int .i64 (Wm : Int), .int .i64 vv, .int .i64 ll, .int .i64 pp] := by rw [hU5]; exact p3.other ltp3_14.out
              replace p5 : Bx2 U5 (w.heap.size + 1) 65 (.int .i64 (K : Int)) (.int .i64 (J : Int)) := by rw [hU5]; exact p5.other ltp5_14.out
              replace p11 : BxA U5 g11 64 #[.int .i64 3, .int .i64 (B : Int), .int .i64 rr, .int .i64 ee, .int .i64 0, .int .i64 vv, .int .i64 ll, .int .i64 pp] := by rw [hU5]; exact p11.other ltp11_14.out
              clear hU5
              obtain ⟨kp3_0, kp3_1, kp3_2, kp3_3, kp3_4, kp3_5, kp3_6, kp3_7⟩ := p3.cells8
              have kp5_0 := p5.cell0
              have kp5_1 := p5.cell1
              obtain ⟨kp11_0, kp11_1, kp11_2, kp11_3, kp11_4, kp11_5, kp11_6, kp11_7⟩ := p11.cells8
              obtain ⟨kp14_0, kp14_1, kp14_2, kp14_3, kp14_4, kp14_5, kp14_6, kp14_7⟩ := p14.cells8
              go_wp2_with fail
              clear kp3_0 kp3_1 kp3_2 kp3_3 kp3_4 kp3_5 kp3_6 kp3_7 kp5_0 kp5_1 kp11_0 kp11_1 kp11_2 kp11_3 kp11_4 kp11_5 kp11_6 kp11_7 kp14_0 kp14_1 kp14_2 kp14_3 kp14_4 kp14_5 kp14_6 kp14_7
              refine (Try.schedRate 3 (G : Int) rr 0 (Wm : Int) vv ll pp T K _ HR3.out (by have := HBB.out; have := HGB.out; omega) HTT.out.1 HTT.out.2 HV.out).mono ?_
              rintro e V20 ⟨rfl, hE⟩
              replace E0 := (Ext.trans E0 hE)
              replace p3 := (p3.ext hE)
              replace p5 := (p5.ext hE)
              replace p11 := (p11.ext hE)
              replace p14 := (p14.ext hE)
              clear hE
              obtain ⟨kp3_0, kp3_1, kp3_2, kp3_3, kp3_4, kp3_5, kp3_6, kp3_7⟩ := p3.cells8
              have kp5_0 := p5.cell0
              have kp5_1 := p5.cell1
              obtain ⟨kp11_0, kp11_1, kp11_2, kp11_3, kp11_4, kp11_5, kp11_6, kp11_7⟩ := p11.cells8
              obtain ⟨kp14_0, kp14_1, kp14_2, kp14_3, kp14_4, kp14_5, kp14_6, kp14_7⟩ := p14.cells8
              go_wp2_with fail
              clear kp3_0 kp3_1 kp3_2 kp3_3 kp3_4 kp3_5 kp3_6 kp3_7 kp5_0 kp5_1 kp11_0 kp11_1 kp11_2 kp11_3 kp11_4 kp11_5 kp11_6 kp11_7 kp14_0 kp14_1 kp14_2 kp14_3 kp14_4 kp14_5 kp14_6 kp14_7
              refine (Try.alive15 _).mono ?_
              rintro e V21 ⟨rfl, hE⟩
              replace E0 := (Ext.trans E0 hE)
              replace p3 := (p3.ext hE)
              replace p5 := (p5.ext hE)
              replace p11 := (p11.ext hE)
              replace p14 := (p14.ext hE)
              clear hE
              obtain ⟨kp3_0, kp3_1, kp3_2, kp3_3, kp3_4, kp3_5, kp3_6, kp3_7⟩ := p3.cells8
              have kp5_0 := p5.cell0
              have kp5_1 := p5.cell1
              obtain ⟨kp11_0, kp11_1, kp11_2, kp11_3, kp11_4, kp11_5, kp11_6, kp11_7⟩ := p11.cells8
              obtain ⟨kp14_0, kp14_1, kp14_2, kp14_3, kp14_4, kp14_5, kp14_6, kp14_7⟩ := p14.cells8
              go_wp2
              go_ret
              exact ⟨rfl, E0⟩
            · have hkc : kd = 0 ∨ kd = 1 := by omega
              have HZ : Hid (rateV kd (B : Int) rr ee 0 vv ll pp 1 K = (B : Int)) := Lib.hid (rate_first hkc (by omega))
              obtain ⟨V, hV⟩ : ∃ V, rateV kd (G : Int) rr 0 (Wm : Int) vv ll pp T K = V := ⟨_, rfl⟩
              have HV := Lib.hid hV
              have hle : V ≤ X := by rw [← hV, ← hX]; exact rate_less hkc (by omega) (by omega) (by omega) (by omega)
              have hled := decide_eq_true hle
              have hk3b : (kd == 3) = false := beq_eq_false_iff_ne.2 hk3
              have hk2b : (kd == 2) = false := beq_eq_false_iff_ne.2 hk2
              clear hkc
              have HR0 := Lib.hid hq0
              have HR1 := Lib.hid hq1
              clear hr hr2 hq0 hq1 hG hX hV hbb hk2 hc0 hk3
              obtain ⟨W0, hW0⟩ : ∃ W0, W0 = ((w.alloc (.cells #[.int .i64 kd, .int .i64 (B : Int), .int .i64 rr, .int .i64 ee, .int .i64 (Wm : Int), .int .i64 vv, .int .i64 ll, .int .i64 pp] 64)).alloc (.cells #[.int .i64 (K : Int), .int .i64 (J : Int)] 65)) := ⟨_, rfl⟩
              have E0 : Ext w W0 := by rw [hW0]; exact ((Ext.alloc1 w (.cells #[.int .i64 kd, .int .i64 (B : Int), .int .i64 rr, .int .i64 ee, .int .i64 (Wm : Int), .int .i64 vv, .int .i64 ll, .int .i64 pp] 64)).alloc (.cells #[.int .i64 (K : Int), .int .i64 (J : Int)] 65))
              have p3 : BxA W0 w.heap.size 64 #[.int .i64 kd, .int .i64 (B : Int), .int .i64 rr, .int .i64 ee, .int .i64 (Wm : Int), .int .i64 vv, .int .i64 ll, .int .i64 pp] := by rw [hW0]; exact (BxA.new w 64 #[.int .i64 kd, .int .i64 (B : Int), .int .i64 rr, .int .i64 ee, .int .i64 (Wm : Int), .int .i64 vv, .int .i64 ll, .int .i64 pp]).ext (Ext.alloc1 (w.alloc (.cells #[.int .i64 kd, .int .i64 (B : Int), .int .i64 rr, .int .i64 ee, .int .i64 (Wm : Int), .int .i64 vv, .int .i64 ll, .int .i64 pp] 64)) (.cells #[.int .i64 (K : Int), .int .i64 (J : Int)] 65))
              have p5 : Bx2 W0 (w.heap.size + 1) 65 (.int .i64 (K : Int)) (.int .i64 (J : Int)) := by rw [hW0]; simpa using (Bx2.new (w.alloc (.cells #[.int .i64 kd, .int .i64 (B : Int), .int .i64 rr, .int .i64 ee, .int .i64 (Wm : Int), .int .i64 vv, .int .i64 ll, .int .i64 pp] 64)) 65 (.int .i64 (K : Int)) (.int .i64 (J : Int)))
              go_enter Try.func13, Try.ntmps13
              obtain ⟨kp3_0, kp3_1, kp3_2, kp3_3, kp3_4, kp3_5, kp3_6, kp3_7⟩ := p3.cells8
              have kp5_0 := p5.cell0
              have kp5_1 := p5.cell1
              go_wp2_with fail
              rw [← hW0]
              clear hW0
              clear kp3_0 kp3_1 kp3_2 kp3_3 kp3_4 kp3_5 kp3_6 kp3_7 kp5_0 kp5_1
              refine (Try.refRight15 kd (B : Int) rr ee (Wm : Int) vv ll pp (K : Int) _).mono ?_
              rintro e V22 ⟨rfl, hE⟩
              rw [HR0.out]
              replace E0 := (Ext.trans E0 hE)
              replace p3 := (p3.ext hE)
              replace p5 := (p5.ext hE)
              clear hE
              obtain ⟨kp3_0, kp3_1, kp3_2, kp3_3, kp3_4, kp3_5, kp3_6, kp3_7⟩ := p3.cells8
              have kp5_0 := p5.cell0
              have kp5_1 := p5.cell1
              go_wp2_with fail
              clear kp3_0 kp3_1 kp3_2 kp3_3 kp3_4 kp3_5 kp3_6 kp3_7 kp5_0 kp5_1
              refine (Try.refRight15 kd (B : Int) rr ee (Wm : Int) vv ll pp (J : Int) _).mono ?_
              rintro e V23 ⟨rfl, hE⟩
              rw [HR1.out]
              replace E0 := (Ext.trans E0 hE)
              replace p3 := (p3.ext hE)
              replace p5 := (p5.ext hE)
              clear hE
              obtain ⟨kp3_0, kp3_1, kp3_2, kp3_3, kp3_4, kp3_5, kp3_6, kp3_7⟩ := p3.cells8
              have kp5_0 := p5.cell0
              have kp5_1 := p5.cell1
              go_wp2_with fail
              clear kp3_0 kp3_1 kp3_2 kp3_3 kp3_4 kp3_5 kp3_6 kp3_7 kp5_0 kp5_1
              refine (Try.schedRate kd (B : Int) rr ee (Wm : Int) vv ll pp T K _ HR0.out (by have := HBB.out; omega) HTT.out.1 HTT.out.2 HX.out).mono ?_
              rintro e V24 ⟨rfl, hE⟩
              replace E0 := (Ext.trans E0 hE)
              replace p3 := (p3.ext hE)
              replace p5 := (p5.ext hE)
              clear hE
              obtain ⟨kp3_0, kp3_1, kp3_2, kp3_3, kp3_4, kp3_5, kp3_6, kp3_7⟩ := p3.cells8
              have kp5_0 := p5.cell0
              have kp5_1 := p5.cell1
              go_wp2_with fail
              clear kp3_0 kp3_1 kp3_2 kp3_3 kp3_4 kp3_5 kp3_6 kp3_7 kp5_0 kp5_1
              refine (Try.schedRate kd (B : Int) rr ee (Wm : Int) vv ll pp T J _ HR1.out (by have := HBB.out; omega) HTT.out.1 HTT.out.2 HY.out).mono ?_
              rintro e V25 ⟨rfl, hE⟩
              replace E0 := (Ext.trans E0 hE)
              replace p3 := (p3.ext hE)
              replace p5 := (p5.ext hE)
              clear hE
              obtain ⟨kp3_0, kp3_1, kp3_2, kp3_3, kp3_4, kp3_5, kp3_6, kp3_7⟩ := p3.cells8
              have kp5_0 := p5.cell0
              have kp5_1 := p5.cell1
              go_upto_region 6 with (fail)
              clear kp3_0 kp3_1 kp3_2 kp3_3 kp3_4 kp3_5 kp3_6 kp3_7 kp5_0 kp5_1
              have p11 := BxA.new V25 64 #[.int .i64 kd, .int .i64 (B : Int), .int .i64 rr, .int .i64 ee, .int .i64 (Wm : Int), .int .i64 vv, .int .i64 ll, .int .i64 pp]
              have hE := Ext.alloc1 V25 (.cells #[.int .i64 kd, .int .i64 (B : Int), .int .i64 rr, .int .i64 ee, .int .i64 (Wm : Int), .int .i64 vv, .int .i64 ll, .int .i64 pp] 64)
              have hsz := E0.size
              obtain ⟨U6, hU6⟩ : ∃ U6, U6 = V25.alloc (.cells #[.int .i64 kd, .int .i64 (B : Int), .int .i64 rr, .int .i64 ee, .int .i64 (Wm : Int), .int .i64 vv, .int .i64 ll, .int .i64 pp] 64) := ⟨_, rfl⟩
              rw [← hU6] at p11 hE ⊢
              clear hU6
              have ltp3 := p3.lt
              have ltp5 := p5.lt
              replace E0 := (Ext.trans E0 hE)
              replace p3 := (p3.ext hE)
              replace p5 := (p5.ext hE)
              clear hE
              obtain ⟨g11, hg11⟩ : ∃ g, g = V25.heap.size := ⟨_, rfl⟩
              rw [← hg11] at p11 ltp3 ltp5 hsz ⊢
              clear hg11
              have hge11 := Lib.hid hsz
              clear hsz
              have ltp3_11 := Lib.hid (Nat.ne_of_lt ltp3)
              clear ltp3
              have ltp5_11 := Lib.hid (Nat.ne_of_lt ltp5)
              clear ltp5
              have zf := p11.froz 4
              obtain ⟨kp3_0, kp3_1, kp3_2, kp3_3, kp3_4, kp3_5, kp3_6, kp3_7⟩ := p3.cells8
              have kp5_0 := p5.cell0
              have kp5_1 := p5.cell1
              obtain ⟨kp11_0, kp11_1, kp11_2, kp11_3, kp11_4, kp11_5, kp11_6, kp11_7⟩ := p11.cells8
              go_upto_region 7 with (fail)
              clear kp3_0 kp3_1 kp3_2 kp3_3 kp3_4 kp3_5 kp3_6 kp3_7 kp5_0 kp5_1 kp11_0 kp11_1 kp11_2 kp11_3 kp11_4 kp11_5 kp11_6 kp11_7
              clear zf
              obtain ⟨U7, hU7⟩ : ∃ U7, U7 = U6.setCell ⟨g11, 4, none⟩ (.int .i64 0) := ⟨_, rfl⟩
              rw [← hU7]
              replace p11 : BxA U7 g11 64 #[.int .i64 kd, .int .i64 (B : Int), .int .i64 rr, .int .i64 ee, .int .i64 0, .int .i64 vv, .int .i64 ll, .int .i64 pp] := by rw [hU7]; exact p11.put 4 _
              replace E0 : Ext w U7 := by rw [hU7]; exact E0.setCell hge11.out _
              replace p3 : BxA U7 w.heap.size 64 #[.int .i64 kd, .int .i64 (B : Int), .int .i64 rr, .int .i64 ee, .int .i64 (Wm : Int), .int .i64 vv, .int .i64 ll, .int .i64 pp] := by rw [hU7]; exact p3.other ltp3_11.out
              replace p5 : Bx2 U7 (w.heap.size + 1) 65 (.int .i64 (K : Int)) (.int .i64 (J : Int)) := by rw [hU7]; exact p5.other ltp5_11.out
              clear hU7
              obtain ⟨kp3_0, kp3_1, kp3_2, kp3_3, kp3_4, kp3_5, kp3_6, kp3_7⟩ := p3.cells8
              have kp5_0 := p5.cell0
              have kp5_1 := p5.cell1
              obtain ⟨kp11_0, kp11_1, kp11_2, kp11_3, kp11_4, kp11_5, kp11_6, kp11_7⟩ := p11.cells8
              go_wp2_with fail
              clear kp3_0 kp3_1 kp3_2 kp3_3 kp3_4 kp3_5 kp3_6 kp3_7 kp5_0 kp5_1 kp11_0 kp11_1 kp11_2 kp11_3 kp11_4 kp11_5 kp11_6 kp11_7
              refine (Try.schedRate kd (B : Int) rr ee 0 vv ll pp 1 K _ HR2.out (by have := HBB.out; omega) (by omega) (by omega) HZ.out).mono ?_
              rintro e V26 ⟨rfl, hE⟩
              replace E0 := (Ext.trans E0 hE)
              replace p3 := (p3.ext hE)
              replace p5 := (p5.ext hE)
              replace p11 := (p11.ext hE)
              clear hE
              obtain ⟨kp3_0, kp3_1, kp3_2, kp3_3, kp3_4, kp3_5, kp3_6, kp3_7⟩ := p3.cells8
              have kp5_0 := p5.cell0
              have kp5_1 := p5.cell1
              obtain ⟨kp11_0, kp11_1, kp11_2, kp11_3, kp11_4, kp11_5, kp11_6, kp11_7⟩ := p11.cells8
              go_upto_region 9 with (fail)
              clear kp3_0 kp3_1 kp3_2 kp3_3 kp3_4 kp3_5 kp3_6 kp3_7 kp5_0 kp5_1 kp11_0 kp11_1 kp11_2 kp11_3 kp11_4 kp11_5 kp11_6 kp11_7
              have p14 := BxA.new V26 64 #[.int .i64 kd, .int .i64 (B : Int), .int .i64 rr, .int .i64 ee, .int .i64 (Wm : Int), .int .i64 vv, .int .i64 ll, .int .i64 pp]
              have hE := Ext.alloc1 V26 (.cells #[.int .i64 kd, .int .i64 (B : Int), .int .i64 rr, .int .i64 ee, .int .i64 (Wm : Int), .int .i64 vv, .int .i64 ll, .int .i64 pp] 64)
              have hsz := E0.size
              obtain ⟨U8, hU8⟩ : ∃ U8, U8 = V26.alloc (.cells #[.int .i64 kd, .int .i64 (B : Int), .int .i64 rr, .int .i64 ee, .int .i64 (Wm : Int), .int .i64 vv, .int .i64 ll, .int .i64 pp] 64) := ⟨_, rfl⟩
              rw [← hU8] at p14 hE ⊢
              clear hU8
              have ltp3 := p3.lt
              have ltp5 := p5.lt
              have ltp11 := p11.lt
              replace E0 := (Ext.trans E0 hE)
              replace p3 := (p3.ext hE)
              replace p5 := (p5.ext hE)
              replace p11 := (p11.ext hE)
              clear hE
              obtain ⟨g14, hg14⟩ : ∃ g, g = V26.heap.size := ⟨_, rfl⟩
              rw [← hg14] at p14 ltp3 ltp5 ltp11 hsz ⊢
              clear hg14
              have hge14 := Lib.hid hsz
              clear hsz
              have ltp3_14 := Lib.hid (Nat.ne_of_lt ltp3)
              clear ltp3
              have ltp5_14 := Lib.hid (Nat.ne_of_lt ltp5)
              clear ltp5
              have ltp11_14 := Lib.hid (Nat.ne_of_lt ltp11)
              clear ltp11
              have zf := p14.froz 1
              obtain ⟨kp3_0, kp3_1, kp3_2, kp3_3, kp3_4, kp3_5, kp3_6, kp3_7⟩ := p3.cells8
              have kp5_0 := p5.cell0
              have kp5_1 := p5.cell1
              obtain ⟨kp11_0, kp11_1, kp11_2, kp11_3, kp11_4, kp11_5, kp11_6, kp11_7⟩ := p11.cells8
              obtain ⟨kp14_0, kp14_1, kp14_2, kp14_3, kp14_4, kp14_5, kp14_6, kp14_7⟩ := p14.cells8
              go_upto_region 10 with (fail)
              clear kp3_0 kp3_1 kp3_2 kp3_3 kp3_4 kp3_5 kp3_6 kp3_7 kp5_0 kp5_1 kp11_0 kp11_1 kp11_2 kp11_3 kp11_4 kp11_5 kp11_6 kp11_7 kp14_0 kp14_1 kp14_2 kp14_3 kp14_4 kp14_5 kp14_6 kp14_7
              clear zf
              obtain ⟨U9, hU9⟩ : ∃ U9, U9 = U8.setCell ⟨g14, 1, none⟩ (.int .i64 (G : Int)) := ⟨_, rfl⟩
              rw [← hU9]
              replace p14 : BxA U9 g14 64 #[.int .i64 kd, .int .i64 (G : Int), .int .i64 rr, .int .i64 ee, .int .i64 (Wm : Int), .int .i64 vv, .int .i64 ll, .int .i64 pp] := by rw [hU9]; exact p14.put 1 _
              replace E0 : Ext w U9 := by rw [hU9]; exact E0.setCell hge14.out _
              replace p3 : BxA U9 w.heap.size 64 #[.int .i64 kd, .int .i64 (B : Int), .int .i64 rr, .int .i64 ee, .int .i64 (Wm : Int), .int .i64 vv, .int .i64 ll, .int .i64 pp] := by rw [hU9]; exact p3.other ltp3_14.out
              replace p5 : Bx2 U9 (w.heap.size + 1) 65 (.int .i64 (K : Int)) (.int .i64 (J : Int)) := by rw [hU9]; exact p5.other ltp5_14.out
              replace p11 : BxA U9 g11 64 #[.int .i64 kd, .int .i64 (B : Int), .int .i64 rr, .int .i64 ee, .int .i64 0, .int .i64 vv, .int .i64 ll, .int .i64 pp] := by rw [hU9]; exact p11.other ltp11_14.out
              clear hU9
              have zf := p14.froz 3
              obtain ⟨kp3_0, kp3_1, kp3_2, kp3_3, kp3_4, kp3_5, kp3_6, kp3_7⟩ := p3.cells8
              have kp5_0 := p5.cell0
              have kp5_1 := p5.cell1
              obtain ⟨kp11_0, kp11_1, kp11_2, kp11_3, kp11_4, kp11_5, kp11_6, kp11_7⟩ := p11.cells8
              obtain ⟨kp14_0, kp14_1, kp14_2, kp14_3, kp14_4, kp14_5, kp14_6, kp14_7⟩ := p14.cells8
              go_upto_region 11 with (fail)
              clear kp3_0 kp3_1 kp3_2 kp3_3 kp3_4 kp3_5 kp3_6 kp3_7 kp5_0 kp5_1 kp11_0 kp11_1 kp11_2 kp11_3 kp11_4 kp11_5 kp11_6 kp11_7 kp14_0 kp14_1 kp14_2 kp14_3 kp14_4 kp14_5 kp14_6 kp14_7
              clear zf
              obtain ⟨U10, hU10⟩ : ∃ U10, U10 = U9.setCell ⟨g14, 3, none⟩ (.int .i64 0) := ⟨_, rfl⟩
              rw [← hU10]
              replace p14 : BxA U10 g14 64 #[.int .i64 kd, .int .i64 (G : Int), .int .i64 rr, .int .i64 0, .int .i64 (Wm : Int), .int .i64 vv, .int .i64 ll, .int .i64 pp] := by rw [hU10]; exact p14.put 3 _
              replace E0 : Ext w U10 := by rw [hU10]; exact E0.setCell hge14.out _
              replace p3 : BxA U10 w.heap.size 64 #[.int .i64 kd, .int .i64 (B : Int), .int .i64 rr, .int .i64 ee, .int .i64 (Wm : Int), .int .i64 vv, .int .i64 ll, .int .i64 pp] := by rw [hU10]; exact p3.other ltp3_14.out
              replace p5 : Bx2 U10 (w.heap.size + 1) 65 (.int .i64 (K : Int)) (.int .i64 (J : Int)) := by rw [hU10]; exact p5.other ltp5_14.out
              replace p11 : BxA U10 g11 64 #[.int .i64 kd, .int .i64 (B : Int), .int .i64 rr, .int .i64 ee, .int .i64 0, .int .i64 vv, .int .i64 ll, .int .i64 pp] := by rw [hU10]; exact p11.other ltp11_14.out
              clear hU10
              obtain ⟨kp3_0, kp3_1, kp3_2, kp3_3, kp3_4, kp3_5, kp3_6, kp3_7⟩ := p3.cells8
              have kp5_0 := p5.cell0
              have kp5_1 := p5.cell1
              obtain ⟨kp11_0, kp11_1, kp11_2, kp11_3, kp11_4, kp11_5, kp11_6, kp11_7⟩ := p11.cells8
              obtain ⟨kp14_0, kp14_1, kp14_2, kp14_3, kp14_4, kp14_5, kp14_6, kp14_7⟩ := p14.cells8
              go_wp2_with fail
              clear kp3_0 kp3_1 kp3_2 kp3_3 kp3_4 kp3_5 kp3_6 kp3_7 kp5_0 kp5_1 kp11_0 kp11_1 kp11_2 kp11_3 kp11_4 kp11_5 kp11_6 kp11_7 kp14_0 kp14_1 kp14_2 kp14_3 kp14_4 kp14_5 kp14_6 kp14_7
              refine (Try.schedRate kd (G : Int) rr 0 (Wm : Int) vv ll pp T K _ HR3.out (by have := HBB.out; have := HGB.out; omega) HTT.out.1 HTT.out.2 HV.out).mono ?_
              rintro e V27 ⟨rfl, hE⟩
              replace E0 := (Ext.trans E0 hE)
              replace p3 := (p3.ext hE)
              replace p5 := (p5.ext hE)
              replace p11 := (p11.ext hE)
              replace p14 := (p14.ext hE)
              clear hE
              obtain ⟨kp3_0, kp3_1, kp3_2, kp3_3, kp3_4, kp3_5, kp3_6, kp3_7⟩ := p3.cells8
              have kp5_0 := p5.cell0
              have kp5_1 := p5.cell1
              obtain ⟨kp11_0, kp11_1, kp11_2, kp11_3, kp11_4, kp11_5, kp11_6, kp11_7⟩ := p11.cells8
              obtain ⟨kp14_0, kp14_1, kp14_2, kp14_3, kp14_4, kp14_5, kp14_6, kp14_7⟩ := p14.cells8
              go_wp2_with fail
              clear kp3_0 kp3_1 kp3_2 kp3_3 kp3_4 kp3_5 kp3_6 kp3_7 kp5_0 kp5_1 kp11_0 kp11_1 kp11_2 kp11_3 kp11_4 kp11_5 kp11_6 kp11_7 kp14_0 kp14_1 kp14_2 kp14_3 kp14_4 kp14_5 kp14_6 kp14_7
              refine (Try.alive15 _).mono ?_
              rintro e V28 ⟨rfl, hE⟩
              replace E0 := (Ext.trans E0 hE)
              replace p3 := (p3.ext hE)
              replace p5 := (p5.ext hE)
              replace p11 := (p11.ext hE)
              replace p14 := (p14.ext hE)
              clear hE
              obtain ⟨kp3_0, kp3_1, kp3_2, kp3_3, kp3_4, kp3_5, kp3_6, kp3_7⟩ := p3.cells8
              have kp5_0 := p5.cell0
              have kp5_1 := p5.cell1
              obtain ⟨kp11_0, kp11_1, kp11_2, kp11_3, kp11_4, kp11_5, kp11_6, kp11_7⟩ := p11.cells8
              obtain ⟨kp14_0, kp14_1, kp14_2, kp14_3, kp14_4, kp14_5, kp14_6, kp14_7⟩ := p14.cells8
              go_wp2
              go_ret
              exact ⟨rfl, E0⟩

end Go.Rt
