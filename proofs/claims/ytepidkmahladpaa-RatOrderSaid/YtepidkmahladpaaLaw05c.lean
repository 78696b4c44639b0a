/-
 The laws of chapter 05 (fractions): Order.
-/
import Derived.Test.YtepidkmahladpaaLaw05b
namespace Go.Rt
open Go.RowKit Go.Proofs


set_option maxRecDepth 100000 in
set_option maxHeartbeats 8000000 in
theorem Try.lawRatOrder {b1 : Bool} {a1 : Option Addr} {n1 c1 : Nat} {d1 : Option Addr} {m1 o1 : Nat} {xs1 ys1 : List Nat} {b2 : Bool} {a2 : Option Addr} {n2 c2 : Nat} {d2 : Option Addr} {m2 o2 : Nat} {xs2 ys2 : List Nat} {b3 : Bool} {a3 : Option Addr} {n3 c3 : Nat} {d3 : Option Addr} {m3 o3 : Nat} {xs3 ys3 : List Nat} {w : World} (h1 : Nt w (.slice a1 n1 c1) xs1) (k1 : Nt w (.slice d1 m1 o1) ys1) (h2 : Nt w (.slice a2 n2 c2) xs2) (k2 : Nt w (.slice d2 m2 o2) ys2) (h3 : Nt w (.slice a3 n3 c3) xs3) (k3 : Nt w (.slice d3 m3 o3) ys3) :
  Calls Try.prog 18 #[.agg #[.bool b1, .slice a1 n1 c1, .slice d1 m1 o1], .agg #[.bool b2, .slice a2 n2 c2, .slice d2 m2 o2], .agg #[.bool b3, .slice a3 n3 c3, .slice d3 m3 o3]] w fun e w' => e = .returned (.bool true) ∧ Ext w w' := by
 cases hg0 : fewR b1 xs1 ys1 ((3 : Nat) : Int)
 ·have HG0 := Lib.hid hg0
  clear hg0
  obtain ⟨W0, hW0⟩ : ∃ W0, W0 = (((w.alloc (.cells #[.bool b1, .slice a1 n1 c1, .slice d1 m1 o1] 35)).alloc (.cells #[.bool b2, .slice a2 n2 c2, .slice d2 m2 o2] 35)).alloc (.cells #[.bool b3, .slice a3 n3 c3, .slice d3 m3 o3] 35)) := ⟨_, rfl⟩
  have E0 : Ext w W0 := by rw [hW0]; exact (((Ext.alloc1 w (.cells #[.bool b1, .slice a1 n1 c1, .slice d1 m1 o1] 35)).alloc (.cells #[.bool b2, .slice a2 n2 c2, .slice d2 m2 o2] 35)).alloc (.cells #[.bool b3, .slice a3 n3 c3, .slice d3 m3 o3] 35))
  replace h1 : Nt W0 (.slice a1 n1 c1) xs1 := h1.ext E0
  replace k1 : Nt W0 (.slice d1 m1 o1) ys1 := k1.ext E0
  replace h2 : Nt W0 (.slice a2 n2 c2) xs2 := h2.ext E0
  replace k2 : Nt W0 (.slice d2 m2 o2) ys2 := k2.ext E0
  replace h3 : Nt W0 (.slice a3 n3 c3) xs3 := h3.ext E0
  replace k3 : Nt W0 (.slice d3 m3 o3) ys3 := k3.ext E0
  have p3 : Bx3 W0 w.heap.size 35 (.bool b1) (.slice a1 n1 c1) (.slice d1 m1 o1) := by rw [hW0]; exact (Bx3.new w 35 (.bool b1) (.slice a1 n1 c1) (.slice d1 m1 o1)).ext ((Ext.alloc1 (w.alloc (.cells #[.bool b1, .slice a1 n1 c1, .slice d1 m1 o1] 35)) (.cells #[.bool b2, .slice a2 n2 c2, .slice d2 m2 o2] 35)).alloc (.cells #[.bool b3, .slice a3 n3 c3, .slice d3 m3 o3] 35))
  have p4 : Bx3 W0 (w.heap.size + 1) 35 (.bool b2) (.slice a2 n2 c2) (.slice d2 m2 o2) := by rw [hW0]; simpa using (Bx3.new (w.alloc (.cells #[.bool b1, .slice a1 n1 c1, .slice d1 m1 o1] 35)) 35 (.bool b2) (.slice a2 n2 c2) (.slice d2 m2 o2)).ext (Ext.alloc1 ((w.alloc (.cells #[.bool b1, .slice a1 n1 c1, .slice d1 m1 o1] 35)).alloc (.cells #[.bool b2, .slice a2 n2 c2, .slice d2 m2 o2] 35)) (.cells #[.bool b3, .slice a3 n3 c3, .slice d3 m3 o3] 35))
  have p5 : Bx3 W0 (w.heap.size + 1 + 1) 35 (.bool b3) (.slice a3 n3 c3) (.slice d3 m3 o3) := by rw [hW0]; simpa using (Bx3.new ((w.alloc (.cells #[.bool b1, .slice a1 n1 c1, .slice d1 m1 o1] 35)).alloc (.cells #[.bool b2, .slice a2 n2 c2, .slice d2 m2 o2] 35)) 35 (.bool b3) (.slice a3 n3 c3) (.slice d3 m3 o3))
  go_enter Try.func18, Try.ntmps18
  have kp3_0 := p3.cell0
  have kp3_1 := p3.cell1
  have kp3_2 := p3.cell2
  have kp4_0 := p4.cell0
  have kp4_1 := p4.cell1
  have kp4_2 := p4.cell2
  have kp5_0 := p5.cell0
  have kp5_1 := p5.cell1
  have kp5_2 := p5.cell2
  go_wp2_with fail
  rw [← hW0]
  clear hW0
  clear kp3_0 kp3_1 kp3_2 kp4_0 kp4_1 kp4_2 kp5_0 kp5_1 kp5_2
  refine (Try.refRFew h1 k1 3 (by omega)).mono ?_
  rintro e Wf0 ⟨rfl, hE⟩
  rw [HG0.out]
  replace E0 : Ext w Wf0 := (Ext.trans E0 hE)
  replace h1 : Nt Wf0 (.slice a1 n1 c1) xs1 := (h1.ext hE)
  replace k1 : Nt Wf0 (.slice d1 m1 o1) ys1 := (k1.ext hE)
  replace h2 : Nt Wf0 (.slice a2 n2 c2) xs2 := (h2.ext hE)
  replace k2 : Nt Wf0 (.slice d2 m2 o2) ys2 := (k2.ext hE)
  replace h3 : Nt Wf0 (.slice a3 n3 c3) xs3 := (h3.ext hE)
  replace k3 : Nt Wf0 (.slice d3 m3 o3) ys3 := (k3.ext hE)
  replace p3 : Bx3 Wf0 w.heap.size 35 (.bool b1) (.slice a1 n1 c1) (.slice d1 m1 o1) := (p3.ext hE)
  replace p4 : Bx3 Wf0 (w.heap.size + 1) 35 (.bool b2) (.slice a2 n2 c2) (.slice d2 m2 o2) := (p4.ext hE)
  replace p5 : Bx3 Wf0 (w.heap.size + 1 + 1) 35 (.bool b3) (.slice a3 n3 c3) (.slice d3 m3 o3) := (p5.ext hE)
  clear hE
  have kp3_0 := p3.cell0
  have kp3_1 := p3.cell1
  have kp3_2 := p3.cell2
  have kp4_0 := p4.cell0
  have kp4_1 := p4.cell1
  have kp4_2 := p4.cell2
  have kp5_0 := p5.cell0
  have kp5_1 := p5.cell1
  have kp5_2 := p5.cell2
  go_wp2_with fail
  clear kp3_0 kp3_1 kp3_2 kp4_0 kp4_1 kp4_2 kp5_0 kp5_1 kp5_2
  refine (Try.alive05 _).mono ?_
  rintro e We ⟨rfl, hE⟩
  replace E0 : Ext w We := (Ext.trans E0 hE)
  replace h1 : Nt We (.slice a1 n1 c1) xs1 := (h1.ext hE)
  replace k1 : Nt We (.slice d1 m1 o1) ys1 := (k1.ext hE)
  replace h2 : Nt We (.slice a2 n2 c2) xs2 := (h2.ext hE)
  replace k2 : Nt We (.slice d2 m2 o2) ys2 := (k2.ext hE)
  replace h3 : Nt We (.slice a3 n3 c3) xs3 := (h3.ext hE)
  replace k3 : Nt We (.slice d3 m3 o3) ys3 := (k3.ext hE)
  replace p3 : Bx3 We w.heap.size 35 (.bool b1) (.slice a1 n1 c1) (.slice d1 m1 o1) := (p3.ext hE)
  replace p4 : Bx3 We (w.heap.size + 1) 35 (.bool b2) (.slice a2 n2 c2) (.slice d2 m2 o2) := (p4.ext hE)
  replace p5 : Bx3 We (w.heap.size + 1 + 1) 35 (.bool b3) (.slice a3 n3 c3) (.slice d3 m3 o3) := (p5.ext hE)
  clear hE
  have kp3_0 := p3.cell0
  have kp3_1 := p3.cell1
  have kp3_2 := p3.cell2
  have kp4_0 := p4.cell0
  have kp4_1 := p4.cell1
  have kp4_2 := p4.cell2
  have kp5_0 := p5.cell0
  have kp5_1 := p5.cell1
  have kp5_2 := p5.cell2
  go_wp2
  go_ret
  exact ⟨rfl, E0⟩
 ·have HG0 := Lib.hid hg0
  clear hg0
  obtain ⟨W0, hW0⟩ : ∃ W0, W0 = (((w.alloc (.cells #[.bool b1, .slice a1 n1 c1, .slice d1 m1 o1] 35)).alloc (.cells #[.bool b2, .slice a2 n2 c2, .slice d2 m2 o2] 35)).alloc (.cells #[.bool b3, .slice a3 n3 c3, .slice d3 m3 o3] 35)) := ⟨_, rfl⟩
  have E0 : Ext w W0 := by rw [hW0]; exact (((Ext.alloc1 w (.cells #[.bool b1, .slice a1 n1 c1, .slice d1 m1 o1] 35)).alloc (.cells #[.bool b2, .slice a2 n2 c2, .slice d2 m2 o2] 35)).alloc (.cells #[.bool b3, .slice a3 n3 c3, .slice d3 m3 o3] 35))
  replace h1 : Nt W0 (.slice a1 n1 c1) xs1 := h1.ext E0
  replace k1 : Nt W0 (.slice d1 m1 o1) ys1 := k1.ext E0
  replace h2 : Nt W0 (.slice a2 n2 c2) xs2 := h2.ext E0
  replace k2 : Nt W0 (.slice d2 m2 o2) ys2 := k2.ext E0
  replace h3 : Nt W0 (.slice a3 n3 c3) xs3 := h3.ext E0
  replace k3 : Nt W0 (.slice d3 m3 o3) ys3 := k3.ext E0
  have p3 : Bx3 W0 w.heap.size 35 (.bool b1) (.slice a1 n1 c1) (.slice d1 m1 o1) := by rw [hW0]; exact (Bx3.new w 35 (.bool b1) (.slice a1 n1 c1) (.slice d1 m1 o1)).ext ((Ext.alloc1 (w.alloc (.cells #[.bool b1, .slice a1 n1 c1, .slice d1 m1 o1] 35)) (.cells #[.bool b2, .slice a2 n2 c2, .slice d2 m2 o2] 35)).alloc (.cells #[.bool b3, .slice a3 n3 c3, .slice d3 m3 o3] 35))
  have p4 : Bx3 W0 (w.heap.size + 1) 35 (.bool b2) (.slice a2 n2 c2) (.slice d2 m2 o2) := by rw [hW0]; simpa using (Bx3.new (w.alloc (.cells #[.bool b1, .slice a1 n1 c1, .slice d1 m1 o1] 35)) 35 (.bool b2) (.slice a2 n2 c2) (.slice d2 m2 o2)).ext (Ext.alloc1 ((w.alloc (.cells #[.bool b1, .slice a1 n1 c1, .slice d1 m1 o1] 35)).alloc (.cells #[.bool b2, .slice a2 n2 c2, .slice d2 m2 o2] 35)) (.cells #[.bool b3, .slice a3 n3 c3, .slice d3 m3 o3] 35))
  have p5 : Bx3 W0 (w.heap.size + 1 + 1) 35 (.bool b3) (.slice a3 n3 c3) (.slice d3 m3 o3) := by rw [hW0]; simpa using (Bx3.new ((w.alloc (.cells #[.bool b1, .slice a1 n1 c1, .slice d1 m1 o1] 35)).alloc (.cells #[.bool b2, .slice a2 n2 c2, .slice d2 m2 o2] 35)) 35 (.bool b3) (.slice a3 n3 c3) (.slice d3 m3 o3))
  go_enter Try.func18, Try.ntmps18
  have kp3_0 := p3.cell0
  have kp3_1 := p3.cell1
  have kp3_2 := p3.cell2
  have kp4_0 := p4.cell0
  have kp4_1 := p4.cell1
  have kp4_2 := p4.cell2
  have kp5_0 := p5.cell0
  have kp5_1 := p5.cell1
  have kp5_2 := p5.cell2
  go_wp2_with fail
  rw [← hW0]
  clear hW0
  clear kp3_0 kp3_1 kp3_2 kp4_0 kp4_1 kp4_2 kp5_0 kp5_1 kp5_2
  refine (Try.refRFew h1 k1 3 (by omega)).mono ?_
  rintro e Wf0 ⟨rfl, hE⟩
  rw [HG0.out]
  replace E0 : Ext w Wf0 := (Ext.trans E0 hE)
  replace h1 : Nt Wf0 (.slice a1 n1 c1) xs1 := (h1.ext hE)
  replace k1 : Nt Wf0 (.slice d1 m1 o1) ys1 := (k1.ext hE)
  replace h2 : Nt Wf0 (.slice a2 n2 c2) xs2 := (h2.ext hE)
  replace k2 : Nt Wf0 (.slice d2 m2 o2) ys2 := (k2.ext hE)
  replace h3 : Nt Wf0 (.slice a3 n3 c3) xs3 := (h3.ext hE)
  replace k3 : Nt Wf0 (.slice d3 m3 o3) ys3 := (k3.ext hE)
  replace p3 : Bx3 Wf0 w.heap.size 35 (.bool b1) (.slice a1 n1 c1) (.slice d1 m1 o1) := (p3.ext hE)
  replace p4 : Bx3 Wf0 (w.heap.size + 1) 35 (.bool b2) (.slice a2 n2 c2) (.slice d2 m2 o2) := (p4.ext hE)
  replace p5 : Bx3 Wf0 (w.heap.size + 1 + 1) 35 (.bool b3) (.slice a3 n3 c3) (.slice d3 m3 o3) := (p5.ext hE)
  clear hE
  cases hg1 : fewR b2 xs2 ys2 ((3 : Nat) : Int)
  ·have HG1 := Lib.hid hg1
   clear hg1
   have kp3_0 := p3.cell0
   have kp3_1 := p3.cell1
   have kp3_2 := p3.cell2
   have kp4_0 := p4.cell0
   have kp4_1 := p4.cell1
   have kp4_2 := p4.cell2
   have kp5_0 := p5.cell0
   have kp5_1 := p5.cell1
   have kp5_2 := p5.cell2
   go_wp2_with fail
   clear kp3_0 kp3_1 kp3_2 kp4_0 kp4_1 kp4_2 kp5_0 kp5_1 kp5_2
   refine (Try.refRFew h2 k2 3 (by omega)).mono ?_
   rintro e Wf1 ⟨rfl, hE⟩
   rw [HG1.out]
   replace E0 : Ext w Wf1 := (Ext.trans E0 hE)
   replace h1 : Nt Wf1 (.slice a1 n1 c1) xs1 := (h1.ext hE)
   replace k1 : Nt Wf1 (.slice d1 m1 o1) ys1 := (k1.ext hE)
   replace h2 : Nt Wf1 (.slice a2 n2 c2) xs2 := (h2.ext hE)
   replace k2 : Nt Wf1 (.slice d2 m2 o2) ys2 := (k2.ext hE)
   replace h3 : Nt Wf1 (.slice a3 n3 c3) xs3 := (h3.ext hE)
   replace k3 : Nt Wf1 (.slice d3 m3 o3) ys3 := (k3.ext hE)
   replace p3 : Bx3 Wf1 w.heap.size 35 (.bool b1) (.slice a1 n1 c1) (.slice d1 m1 o1) := (p3.ext hE)
   replace p4 : Bx3 Wf1 (w.heap.size + 1) 35 (.bool b2) (.slice a2 n2 c2) (.slice d2 m2 o2) := (p4.ext hE)
   replace p5 : Bx3 Wf1 (w.heap.size + 1 + 1) 35 (.bool b3) (.slice a3 n3 c3) (.slice d3 m3 o3) := (p5.ext hE)
   clear hE
   have kp3_0 := p3.cell0
   have kp3_1 := p3.cell1
   have kp3_2 := p3.cell2
   have kp4_0 := p4.cell0
   have kp4_1 := p4.cell1
   have kp4_2 := p4.cell2
   have kp5_0 := p5.cell0
   have kp5_1 := p5.cell1
   have kp5_2 := p5.cell2
   go_wp2_with fail
   clear kp3_0 kp3_1 kp3_2 kp4_0 kp4_1 kp4_2 kp5_0 kp5_1 kp5_2
   refine (Try.alive05 _).mono ?_
   rintro e We ⟨rfl, hE⟩
   replace E0 : Ext w We := (Ext.trans E0 hE)
   replace h1 : Nt We (.slice a1 n1 c1) xs1 := (h1.ext hE)
   replace k1 : Nt We (.slice d1 m1 o1) ys1 := (k1.ext hE)
   replace h2 : Nt We (.slice a2 n2 c2) xs2 := (h2.ext hE)
   replace k2 : Nt We (.slice d2 m2 o2) ys2 := (k2.ext hE)
   replace h3 : Nt We (.slice a3 n3 c3) xs3 := (h3.ext hE)
   replace k3 : Nt We (.slice d3 m3 o3) ys3 := (k3.ext hE)
   replace p3 : Bx3 We w.heap.size 35 (.bool b1) (.slice a1 n1 c1) (.slice d1 m1 o1) := (p3.ext hE)
   replace p4 : Bx3 We (w.heap.size + 1) 35 (.bool b2) (.slice a2 n2 c2) (.slice d2 m2 o2) := (p4.ext hE)
   replace p5 : Bx3 We (w.heap.size + 1 + 1) 35 (.bool b3) (.slice a3 n3 c3) (.slice d3 m3 o3) := (p5.ext hE)
   clear hE
   have kp3_0 := p3.cell0
   have kp3_1 := p3.cell1
   have kp3_2 := p3.cell2
   have kp4_0 := p4.cell0
   have kp4_1 := p4.cell1
   have kp4_2 := p4.cell2
   have kp5_0 := p5.cell0
   have kp5_1 := p5.cell1
   have kp5_2 := p5.cell2
   go_wp2
   go_ret
   exact ⟨rfl, E0⟩
  ·have HG1 := Lib.hid hg1
   clear hg1
   have kp3_0 := p3.cell0
   have kp3_1 := p3.cell1
   have kp3_2 := p3.cell2
   have kp4_0 := p4.cell0
   have kp4_1 := p4.cell1
   have kp4_2 := p4.cell2
   have kp5_0 := p5.cell0
   have kp5_1 := p5.cell1
   have kp5_2 := p5.cell2
   go_wp2_with fail
   clear kp3_0 kp3_1 kp3_2 kp4_0 kp4_1 kp4_2 kp5_0 kp5_1 kp5_2
   refine (Try.refRFew h2 k2 3 (by omega)).mono ?_
   rintro e Wf1 ⟨rfl, hE⟩
   rw [HG1.out]
   replace E0 : Ext w Wf1 := (Ext.trans E0 hE)
   replace h1 : Nt Wf1 (.slice a1 n1 c1) xs1 := (h1.ext hE)
   replace k1 : Nt Wf1 (.slice d1 m1 o1) ys1 := (k1.ext hE)
   replace h2 : Nt Wf1 (.slice a2 n2 c2) xs2 := (h2.ext hE)
   replace k2 : Nt Wf1 (.slice d2 m2 o2) ys2 := (k2.ext hE)
   replace h3 : Nt Wf1 (.slice a3 n3 c3) xs3 := (h3.ext hE)
   replace k3 : Nt Wf1 (.slice d3 m3 o3) ys3 := (k3.ext hE)
   replace p3 : Bx3 Wf1 w.heap.size 35 (.bool b1) (.slice a1 n1 c1) (.slice d1 m1 o1) := (p3.ext hE)
   replace p4 : Bx3 Wf1 (w.heap.size + 1) 35 (.bool b2) (.slice a2 n2 c2) (.slice d2 m2 o2) := (p4.ext hE)
   replace p5 : Bx3 Wf1 (w.heap.size + 1 + 1) 35 (.bool b3) (.slice a3 n3 c3) (.slice d3 m3 o3) := (p5.ext hE)
   clear hE
   cases hg2 : fewR b3 xs3 ys3 ((3 : Nat) : Int)
   ·have HG2 := Lib.hid hg2
    clear hg2
    have kp3_0 := p3.cell0
    have kp3_1 := p3.cell1
    have kp3_2 := p3.cell2
    have kp4_0 := p4.cell0
    have kp4_1 := p4.cell1
    have kp4_2 := p4.cell2
    have kp5_0 := p5.cell0
    have kp5_1 := p5.cell1
    have kp5_2 := p5.cell2
    go_wp2_with fail
    clear kp3_0 kp3_1 kp3_2 kp4_0 kp4_1 kp4_2 kp5_0 kp5_1 kp5_2
    refine (Try.refRFew h3 k3 3 (by omega)).mono ?_
    rintro e Wf2 ⟨rfl, hE⟩
    rw [HG2.out]
    replace E0 : Ext w Wf2 := (Ext.trans E0 hE)
    replace h1 : Nt Wf2 (.slice a1 n1 c1) xs1 := (h1.ext hE)
    replace k1 : Nt Wf2 (.slice d1 m1 o1) ys1 := (k1.ext hE)
    replace h2 : Nt Wf2 (.slice a2 n2 c2) xs2 := (h2.ext hE)
    replace k2 : Nt Wf2 (.slice d2 m2 o2) ys2 := (k2.ext hE)
    replace h3 : Nt Wf2 (.slice a3 n3 c3) xs3 := (h3.ext hE)
    replace k3 : Nt Wf2 (.slice d3 m3 o3) ys3 := (k3.ext hE)
    replace p3 : Bx3 Wf2 w.heap.size 35 (.bool b1) (.slice a1 n1 c1) (.slice d1 m1 o1) := (p3.ext hE)
    replace p4 : Bx3 Wf2 (w.heap.size + 1) 35 (.bool b2) (.slice a2 n2 c2) (.slice d2 m2 o2) := (p4.ext hE)
    replace p5 : Bx3 Wf2 (w.heap.size + 1 + 1) 35 (.bool b3) (.slice a3 n3 c3) (.slice d3 m3 o3) := (p5.ext hE)
    clear hE
    have kp3_0 := p3.cell0
    have kp3_1 := p3.cell1
    have kp3_2 := p3.cell2
    have kp4_0 := p4.cell0
    have kp4_1 := p4.cell1
    have kp4_2 := p4.cell2
    have kp5_0 := p5.cell0
    have kp5_1 := p5.cell1
    have kp5_2 := p5.cell2
    go_wp2_with fail
    clear kp3_0 kp3_1 kp3_2 kp4_0 kp4_1 kp4_2 kp5_0 kp5_1 kp5_2
    refine (Try.alive05 _).mono ?_
    rintro e We ⟨rfl, hE⟩
    replace E0 : Ext w We := (Ext.trans E0 hE)
    replace h1 : Nt We (.slice a1 n1 c1) xs1 := (h1.ext hE)
    replace k1 : Nt We (.slice d1 m1 o1) ys1 := (k1.ext hE)
    replace h2 : Nt We (.slice a2 n2 c2) xs2 := (h2.ext hE)
    replace k2 : Nt We (.slice d2 m2 o2) ys2 := (k2.ext hE)
    replace h3 : Nt We (.slice a3 n3 c3) xs3 := (h3.ext hE)
    replace k3 : Nt We (.slice d3 m3 o3) ys3 := (k3.ext hE)
    replace p3 : Bx3 We w.heap.size 35 (.bool b1) (.slice a1 n1 c1) (.slice d1 m1 o1) := (p3.ext hE)
    replace p4 : Bx3 We (w.heap.size + 1) 35 (.bool b2) (.slice a2 n2 c2) (.slice d2 m2 o2) := (p4.ext hE)
    replace p5 : Bx3 We (w.heap.size + 1 + 1) 35 (.bool b3) (.slice a3 n3 c3) (.slice d3 m3 o3) := (p5.ext hE)
    clear hE
    have kp3_0 := p3.cell0
    have kp3_1 := p3.cell1
    have kp3_2 := p3.cell2
    have kp4_0 := p4.cell0
    have kp4_1 := p4.cell1
    have kp4_2 := p4.cell2
    have kp5_0 := p5.cell0
    have kp5_1 := p5.cell1
    have kp5_2 := p5.cell2
    go_wp2
    go_ret
    exact ⟨rfl, E0⟩
   ·have HG2 := Lib.hid hg2
    clear hg2
    have kp3_0 := p3.cell0
    have kp3_1 := p3.cell1
    have kp3_2 := p3.cell2
    have kp4_0 := p4.cell0
    have kp4_1 := p4.cell1
    have kp4_2 := p4.cell2
    have kp5_0 := p5.cell0
    have kp5_1 := p5.cell1
    have kp5_2 := p5.cell2
    go_wp2_with fail
    clear kp3_0 kp3_1 kp3_2 kp4_0 kp4_1 kp4_2 kp5_0 kp5_1 kp5_2
    refine (Try.refRFew h3 k3 3 (by omega)).mono ?_
    rintro e Wf2 ⟨rfl, hE⟩
    rw [HG2.out]
    replace E0 : Ext w Wf2 := (Ext.trans E0 hE)
    replace h1 : Nt Wf2 (.slice a1 n1 c1) xs1 := (h1.ext hE)
    replace k1 : Nt Wf2 (.slice d1 m1 o1) ys1 := (k1.ext hE)
    replace h2 : Nt Wf2 (.slice a2 n2 c2) xs2 := (h2.ext hE)
    replace k2 : Nt Wf2 (.slice d2 m2 o2) ys2 := (k2.ext hE)
    replace h3 : Nt Wf2 (.slice a3 n3 c3) xs3 := (h3.ext hE)
    replace k3 : Nt Wf2 (.slice d3 m3 o3) ys3 := (k3.ext hE)
    replace p3 : Bx3 Wf2 w.heap.size 35 (.bool b1) (.slice a1 n1 c1) (.slice d1 m1 o1) := (p3.ext hE)
    replace p4 : Bx3 Wf2 (w.heap.size + 1) 35 (.bool b2) (.slice a2 n2 c2) (.slice d2 m2 o2) := (p4.ext hE)
    replace p5 : Bx3 Wf2 (w.heap.size + 1 + 1) 35 (.bool b3) (.slice a3 n3 c3) (.slice d3 m3 o3) := (p5.ext hE)
    clear hE
    obtain ⟨x, hx1, s1⟩ := fewR_rw (L := 3) h1 k1 HG0.out
    clear h1 k1 HG0
    obtain ⟨y, hx2, s2⟩ := fewR_rw (L := 3) h2 k2 HG1.out
    clear h2 k2 HG1
    obtain ⟨z, hx3, s3⟩ := fewR_rw (L := 3) h3 k3 HG2.out
    clear h3 k3 HG2
    have hnl := hx3.top.num.len
    obtain ⟨_, _, _, er, hz0, -⟩ := hnl
    cases er
    have hb3 := hx3.top.neg
    obtain ⟨c, hc⟩ : ∃ c, c = cmpR x y := ⟨_, rfl⟩
    obtain ⟨d, hd⟩ : ∃ d, d = cmpR y z := ⟨_, rfl⟩
    obtain ⟨e, he⟩ : ∃ e, e = cmpR x z := ⟨_, rfl⟩
    have cb := cmpR_bd x y
    rw [← hc] at cb
    have C0 : Hid (cmpR x y = c) := Lib.hid hc.symm
    have C1 : Hid (cmpR y x = -c) := Lib.hid (by rw [cmpR_swap, hc])
    have C2 : Hid (cmpR y z = d) := Lib.hid hd.symm
    have C3 : Hid (cmpR x z = e) := Lib.hid he.symm
    have hSm : Hid (decide (x = y) = (c == 0)) := Lib.hid (by rw [hc, Bool.eq_iff_iff]; simp; exact cmpR_eq_zero.symm)
    have hTr : Hid (c ≤ 0 → d ≤ 0 → e ≤ 0) := Lib.hid (by rw [hc, hd, he, cmpR_le, cmpR_le, cmpR_le]; intro h1 h2; exact Rat.le_trans h1 h2)
    have SA : Hid (SmR 7 (x + z)) := Lib.hid (s1.add s3)
    have SB : Hid (SmR 7 (y + z)) := Lib.hid (s2.add s3)
    have SC : Hid (SmR 7 (x - y)) := Lib.hid (s1.sub s2)
    have SX : Hid (SmR 6 (x * z)) := Lib.hid (s1.mul s3)
    have SY : Hid (SmR 6 (y * z)) := Lib.hid (s2.mul s3)
    have S0 : Hid (SmR 7 ((0 : Int) : Rat)) := Lib.hid ((SmR.int (by omega)).mono (by omega))
    have C4 : Hid (cmpR (x + z) (y + z) = c) := Lib.hid (by rw [cmpR_add, hc])
    have C5 : Hid (cmpR (x - y) ((0 : Int) : Rat) = c) := Lib.hid (by rw [cmpR_sub, hc])
    have hw1 : IntKind.i64.wrap (-c) = -c := IntWalk.i64_in _ (by omega)
    have C6 : Hid (0 < z → cmpR (x * z) (y * z) = c) := Lib.hid (fun h => by rw [cmpR_mul h, hc])
    have t1 : ¬ (c < -1) := by omega
    have t2 : ¬ (1 < c) := by omega
    clear hc hd he
    have kp3_0 := p3.cell0
    have kp3_1 := p3.cell1
    have kp3_2 := p3.cell2
    have kp4_0 := p4.cell0
    have kp4_1 := p4.cell1
    have kp4_2 := p4.cell2
    have kp5_0 := p5.cell0
    have kp5_1 := p5.cell1
    have kp5_2 := p5.cell2
    go_upto_region 3 with (fail)
    clear kp3_0 kp3_1 kp3_2 kp4_0 kp4_1 kp4_2 kp5_0 kp5_1 kp5_2
    have ltp3 := p3.lt
    have ltp4 := p4.lt
    have ltp5 := p5.lt
    have szw11 := Ext.size E0
    refine region_go [.one fun v _ => v = .agg #[.bool b1, .slice a1 n1 c1, .slice d1 m1 o1],
      .one fun v _ => v = .agg #[.bool b2, .slice a2 n2 c2, .slice d2 m2 o2],
      .one fun v _ => v = .int .i64 c,
      .one fun v _ => v = .int .i64 c]
     (fun W => Ext w W ∧ Bx3 W w.heap.size 35 (.bool b1) (.slice a1 n1 c1) (.slice d1 m1 o1) ∧ Bx3 W (w.heap.size + 1) 35 (.bool b2) (.slice a2 n2 c2) (.slice d2 m2 o2) ∧ Bx3 W (w.heap.size + 1 + 1) 35 (.bool b3) (.slice a3 n3 c3) (.slice d3 m3 o3) ∧ Rw W (.agg #[.bool b1, .slice a1 n1 c1, .slice d1 m1 o1]) x ∧ Rw W (.agg #[.bool b2, .slice a2 n2 c2, .slice d2 m2 o2]) y ∧ Rw W (.agg #[.bool b3, .slice a3 n3 c3, .slice d3 m3 o3]) z ∧ Wf2.heap.size ≤ W.heap.size) ⟨Good.is _, Good.is _, Good.is _, Good.is _, trivial⟩
     (fun W W1 hS hE => ⟨(Ext.trans hS.1 hE), (hS.2.1.ext hE), (hS.2.2.1.ext hE), (hS.2.2.2.1.ext hE), (hS.2.2.2.2.1.ext hE), (hS.2.2.2.2.2.1.ext hE), (hS.2.2.2.2.2.2.1.ext hE), (Nat.le_trans hS.2.2.2.2.2.2.2 (Ext.size hE))⟩) ⟨E0, p3, p4, p5, hx1, hx2, hx3, Nat.le_refl _⟩ (by kernel_rfl) (by kernel_rfl) (by kernel_rfl) (by kernel_rfl) (A := ?A11) ?hA11 ?howe11 ?hfin11
    case hA11 =>
     intro vs
     simp only [putAll, Act.put, List.setIfInBounds_toArray, List.set_cons_zero, List.set_cons_succ, Nat.zero_add, Nat.reduceAdd]
     exact rfl
    case howe11 =>
     clear E0 p3 p4 p5 hx1 hx2 hx3
     intro hf
     refine ⟨owesE 0 [] hf rfl (by kernel_rfl) ?_, owesE 1 [] hf rfl (by kernel_rfl) ?_, owesE 2 [0, 1] hf rfl (by kernel_rfl) ?_, owesE 3 [2] hf rfl (by kernel_rfl) ?_, trivial⟩
     all_goals intro vs W hS hp hx KO hKO
     all_goals simp only [Act.put, List.setIfInBounds_toArray, List.set_cons_zero, List.set_cons_succ] at hKO
     ·have fc0 := hS.2.1.cell0
      have fc1 := hS.2.1.cell1
      have fc2 := hS.2.1.cell2
      go_simp
      exact hKO _ W (Ext.refl W) rfl
     ·have fc0 := hS.2.2.1.cell0
      have fc1 := hS.2.2.1.cell1
      have fc2 := hS.2.2.1.cell2
      go_simp
      exact hKO _ W (Ext.refl W) rfl
     ·have e0 := isOf hp.1
      have e1 := isOf hp.2.1
      simp only [e0, e1] at hKO
      go_simp
      refine (Try.ratCmpR (hS.2.2.2.2.1) (hS.2.2.2.2.2.1) s1 s2 (by omega) C0.out).mono ?_
      rintro e W1 ⟨rfl, hE⟩
      exact hKO _ W1 hE rfl
     ·have e2 := isOf hp.1
      simp only [e2] at hKO
      go_simp
      exact hKO _ W (Ext.refl W) rfl
    intro vs W11 hS hp
    clear szw11 E0 p3 p4 p5 hx1 hx2 hx3
    obtain ⟨E0, p3, p4, p5, hx1, hx2, hx3, sz11⟩ := hS
    obtain ⟨h11_0, h11_1, h11_2, h11_3, -⟩ := hp
    replace h11_0 : vs 0 = .agg #[.bool b1, .slice a1 n1 c1, .slice d1 m1 o1] := h11_0
    replace h11_1 : vs 1 = .agg #[.bool b2, .slice a2 n2 c2, .slice d2 m2 o2] := h11_1
    replace h11_2 : vs 2 = .int .i64 c := h11_2
    replace h11_3 : vs 3 = .int .i64 c := h11_3
    simp only [h11_0, h11_1, h11_2, h11_3]
    clear h11_0 h11_1 h11_2 h11_3
    obtain hc0 | hc0 : ¬ c ≤ 0 ∨ c ≤ 0 := by omega
    ·have hle : ¬ c ≤ 0 := by omega
     clear hTr
     have kp3_0 := p3.cell0
     have kp3_1 := p3.cell1
     have kp3_2 := p3.cell2
     have kp4_0 := p4.cell0
     have kp4_1 := p4.cell1
     have kp4_2 := p4.cell2
     have kp5_0 := p5.cell0
     have kp5_1 := p5.cell1
     have kp5_2 := p5.cell2
     go_upto_region 4 with (fail)
     clear kp3_0 kp3_1 kp3_2 kp4_0 kp4_1 kp4_2 kp5_0 kp5_1 kp5_2
     have szw12 := Ext.size E0
     refine region_go [.one fun v _ => v = .int .i64 c,
       .one fun v _ => v = .bool false,
       .one fun v _ => v = .bool false,
       .one fun v _ => v = .int .i64 c,
       .one fun v _ => v = .bool false,
       .one fun v _ => v = .bool false,
       .one fun v _ => v = .bool false,
       .one fun v _ => v = .agg #[.bool b2, .slice a2 n2 c2, .slice d2 m2 o2],
       .one fun v _ => v = .agg #[.bool b1, .slice a1 n1 c1, .slice d1 m1 o1],
       .one fun v _ => v = .int .i64 (-c),
       .one fun v _ => v = .int .i64 c,
       .one fun v _ => v = .int .i64 (-c),
       .one fun v _ => v = .bool false,
       .one fun v _ => v = .bool false,
       .one fun v _ => v = .bool false,
       .one fun v _ => v = .int .i64 c,
       .one fun v _ => v = .bool (c == 0),
       .one fun v _ => v = .agg #[.bool b1, .slice a1 n1 c1, .slice d1 m1 o1],
       .one fun v _ => v = .agg #[.bool b2, .slice a2 n2 c2, .slice d2 m2 o2],
       .one fun v _ => v = .bool (c == 0),
       .one fun v _ => v = .bool false,
       .one fun v _ => v = .bool false,
       .one fun v _ => v = .bool false,
       .one fun v _ => v = .int .i64 c,
       .one fun v _ => v = .bool false,
       .one fun v _ => v = .bool false,
       .one fun v _ => v = undef,
       .one fun v _ => v = undef,
       .one fun v _ => v = undef,
       .one fun v _ => v = undef,
       .one fun v _ => v = .bool false,
       .one fun v _ => v = .bool false,
       .one fun v _ => v = undef,
       .one fun v _ => v = undef,
       .one fun v _ => v = undef,
       .one fun v _ => v = undef,
       .one fun v _ => v = .bool false,
       .one fun v _ => v = .bool false]
      (fun W => Ext w W ∧ Bx3 W w.heap.size 35 (.bool b1) (.slice a1 n1 c1) (.slice d1 m1 o1) ∧ Bx3 W (w.heap.size + 1) 35 (.bool b2) (.slice a2 n2 c2) (.slice d2 m2 o2) ∧ Bx3 W (w.heap.size + 1 + 1) 35 (.bool b3) (.slice a3 n3 c3) (.slice d3 m3 o3) ∧ Rw W (.agg #[.bool b1, .slice a1 n1 c1, .slice d1 m1 o1]) x ∧ Rw W (.agg #[.bool b2, .slice a2 n2 c2, .slice d2 m2 o2]) y ∧ Rw W (.agg #[.bool b3, .slice a3 n3 c3, .slice d3 m3 o3]) z ∧ W11.heap.size ≤ W.heap.size) ⟨Good.is _, Good.is _, Good.is _, Good.is _, Good.is _, Good.is _, Good.is _, Good.is _, Good.is _, Good.is _, Good.is _, Good.is _, Good.is _, Good.is _, Good.is _, Good.is _, Good.is _, Good.is _, Good.is _, Good.is _, Good.is _, Good.is _, Good.is _, Good.is _, Good.is _, Good.is _, Good.is _, Good.is _, Good.is _, Good.is _, Good.is _, Good.is _, Good.is _, Good.is _, Good.is _, Good.is _, Good.is _, Good.is _, trivial⟩
      (fun W W1 hS hE => ⟨(Ext.trans hS.1 hE), (hS.2.1.ext hE), (hS.2.2.1.ext hE), (hS.2.2.2.1.ext hE), (hS.2.2.2.2.1.ext hE), (hS.2.2.2.2.2.1.ext hE), (hS.2.2.2.2.2.2.1.ext hE), (Nat.le_trans hS.2.2.2.2.2.2.2 (Ext.size hE))⟩) ⟨E0, p3, p4, p5, hx1, hx2, hx3, Nat.le_refl _⟩ (by kernel_rfl) (by kernel_rfl) (by kernel_rfl) (by kernel_rfl) (A := ?A12) ?hA12 ?howe12 ?hfin12
     case hA12 =>
      intro vs
      simp only [putAll, Act.put, List.setIfInBounds_toArray, List.set_cons_zero, List.set_cons_succ, Nat.zero_add, Nat.reduceAdd]
      exact rfl
     case howe12 =>
      clear E0 p3 p4 p5 hx1 hx2 hx3
      intro hf
      refine ⟨owesE 0 [] hf rfl (by kernel_rfl) ?_, owesE 1 [0] hf rfl (by kernel_rfl) ?_, owesE 2 [1] hf rfl (by kernel_rfl) ?_, owesE 3 [2] hf rfl (by kernel_rfl) ?_, owesE 4 [2, 3] hf rfl (by kernel_rfl) ?_, owesE 5 [2, 4] hf rfl (by kernel_rfl) ?_, owesE 6 [5] hf rfl (by kernel_rfl) ?_, owesE 7 [6] hf rfl (by kernel_rfl) ?_, owesE 8 [6] hf rfl (by kernel_rfl) ?_, owesE 9 [6, 7, 8] hf rfl (by kernel_rfl) ?_, owesE 10 [6] hf rfl (by kernel_rfl) ?_, owesE 11 [6, 10] hf rfl (by kernel_rfl) ?_, owesE 12 [6, 9, 11] hf rfl (by kernel_rfl) ?_, owesE 13 [6, 12] hf rfl (by kernel_rfl) ?_, owesE 14 [13] hf rfl (by kernel_rfl) ?_, owesE 15 [14] hf rfl (by kernel_rfl) ?_, owesE 16 [14, 15] hf rfl (by kernel_rfl) ?_, owesE 17 [14] hf rfl (by kernel_rfl) ?_, owesE 18 [14] hf rfl (by kernel_rfl) ?_, owesE 19 [14, 17, 18] hf rfl (by kernel_rfl) ?_, owesE 20 [14, 16, 19] hf rfl (by kernel_rfl) ?_, owesE 21 [14, 20] hf rfl (by kernel_rfl) ?_, owesE 22 [21] hf rfl (by kernel_rfl) ?_, owesE 23 [22] hf rfl (by kernel_rfl) ?_, owesE 24 [22, 23] hf rfl (by kernel_rfl) ?_, owesE 25 [22, 24] hf rfl (by kernel_rfl) ?_, owesE 26 [25] hf rfl (by kernel_rfl) ?_, owesE 27 [25] hf rfl (by kernel_rfl) ?_, owesE 28 [25] hf rfl (by kernel_rfl) ?_, owesE 29 [25] hf rfl (by kernel_rfl) ?_, owesE 30 [22, 25, 29] hf rfl (by kernel_rfl) ?_, owesE 31 [22, 30] hf rfl (by kernel_rfl) ?_, owesE 32 [31] hf rfl (by kernel_rfl) ?_, owesE 33 [31] hf rfl (by kernel_rfl) ?_, owesE 34 [31] hf rfl (by kernel_rfl) ?_, owesE 35 [31] hf rfl (by kernel_rfl) ?_, owesE 36 [22, 31, 35] hf rfl (by kernel_rfl) ?_, owesE 37 [22, 36] hf rfl (by kernel_rfl) ?_, trivial⟩
      all_goals intro vs W hS hp hx KO hKO
      all_goals simp only [Act.put, List.setIfInBounds_toArray, List.set_cons_zero, List.set_cons_succ] at hKO
      ·go_simp
       exact hKO _ W (Ext.refl W) rfl
      ·have e0 := isOf hp.1
       simp only [e0] at hKO
       go_simp
       exact hKO _ W (Ext.refl W) (by first | rfl | exact congrArg Value.bool (decide_eq_false (by omega)))
      ·have e1 := isOf hp.1
       simp only [e1] at hKO
       go_simp
       exact hKO _ W (Ext.refl W) rfl
      ·have e2 := isOf hp.1
       simp only [e2] at hKO
       go_simp
       exact hKO _ W (Ext.refl W) rfl
      ·have e2 := isOf hp.1
       have e3 := isOf hp.2.1
       simp only [e2, e3] at hKO
       go_simp
       exact hKO _ W (Ext.refl W) (by first | rfl | exact congrArg Value.bool (decide_eq_false (by omega)))
      ·have e2 := isOf hp.1
       have e4 := isOf hp.2.1
       simp only [e2, e4] at hKO
       go_simp
       exact hKO _ W (Ext.refl W) rfl
      ·have e5 := isOf hp.1
       simp only [e5] at hKO
       go_simp
       exact hKO _ W (Ext.refl W) rfl
      ·have e6 := isOf hp.1
       simp only [e6] at hKO
       have fc0 := hS.2.2.1.cell0
       have fc1 := hS.2.2.1.cell1
       have fc2 := hS.2.2.1.cell2
       go_simp
       exact hKO _ W (Ext.refl W) rfl
      ·have e6 := isOf hp.1
       simp only [e6] at hKO
       have fc0 := hS.2.1.cell0
       have fc1 := hS.2.1.cell1
       have fc2 := hS.2.1.cell2
       go_simp
       exact hKO _ W (Ext.refl W) rfl
      ·have e6 := isOf hp.1
       have e7 := isOf hp.2.1
       have e8 := isOf hp.2.2.1
       simp only [e6, e7, e8] at hKO
       go_simp
       refine (Try.ratCmpR (hS.2.2.2.2.2.1) (hS.2.2.2.2.1) s2 s1 (by omega) C1.out).mono ?_
       rintro e W1 ⟨rfl, hE⟩
       exact hKO _ W1 hE rfl
      ·have e6 := isOf hp.1
       simp only [e6] at hKO
       go_simp
       exact hKO _ W (Ext.refl W) rfl
      ·have e6 := isOf hp.1
       have e10 := isOf hp.2.1
       simp only [e6, e10] at hKO
       go_simp
       exact hKO _ W (Ext.refl W) rfl
      ·have e6 := isOf hp.1
       have e9 := isOf hp.2.1
       have e11 := isOf hp.2.2.1
       simp only [e6, e9, e11] at hKO
       go_simp
       exact hKO _ W (Ext.refl W) rfl
      ·have e6 := isOf hp.1
       have e12 := isOf hp.2.1
       simp only [e6, e12] at hKO
       go_simp
       exact hKO _ W (Ext.refl W) rfl
      ·have e13 := isOf hp.1
       simp only [e13] at hKO
       go_simp
       exact hKO _ W (Ext.refl W) rfl
      ·have e14 := isOf hp.1
       simp only [e14] at hKO
       go_simp
       exact hKO _ W (Ext.refl W) rfl
      ·have e14 := isOf hp.1
       have e15 := isOf hp.2.1
       simp only [e14, e15] at hKO
       go_simp
       exact hKO _ W (Ext.refl W) rfl
      ·have e14 := isOf hp.1
       simp only [e14] at hKO
       have fc0 := hS.2.1.cell0
       have fc1 := hS.2.1.cell1
       have fc2 := hS.2.1.cell2
       go_simp
       exact hKO _ W (Ext.refl W) rfl
      ·have e14 := isOf hp.1
       simp only [e14] at hKO
       have fc0 := hS.2.2.1.cell0
       have fc1 := hS.2.2.1.cell1
       have fc2 := hS.2.2.1.cell2
       go_simp
       exact hKO _ W (Ext.refl W) rfl
      ·have e14 := isOf hp.1
       have e17 := isOf hp.2.1
       have e18 := isOf hp.2.2.1
       simp only [e14, e17, e18] at hKO
       go_simp
       refine (Try.refRSame (hS.2.2.2.2.1) (hS.2.2.2.2.2.1)).mono ?_
       rintro e W1 ⟨rfl, hE⟩
       rw [hSm.out]
       exact hKO _ W1 hE rfl
      ·have e14 := isOf hp.1
       have e16 := isOf hp.2.1
       have e19 := isOf hp.2.2.1
       simp only [e14, e16, e19] at hKO
       go_simp
       exact hKO _ W (Ext.refl W) rfl
      ·have e14 := isOf hp.1
       have e20 := isOf hp.2.1
       simp only [e14, e20] at hKO
       go_simp
       exact hKO _ W (Ext.refl W) rfl
      ·have e21 := isOf hp.1
       simp only [e21] at hKO
       go_simp
       exact hKO _ W (Ext.refl W) rfl
      ·have e22 := isOf hp.1
       simp only [e22] at hKO
       go_simp
       exact hKO _ W (Ext.refl W) rfl
      ·have e22 := isOf hp.1
       have e23 := isOf hp.2.1
       simp only [e22, e23] at hKO
       go_simp
       exact hKO _ W (Ext.refl W) (by first | rfl | exact congrArg Value.bool (decide_eq_false (by omega)))
      ·have e22 := isOf hp.1
       have e24 := isOf hp.2.1
       simp only [e22, e24] at hKO
       go_simp
       exact hKO _ W (Ext.refl W) rfl
      ·have e25 := isOf hp.1
       simp only [e25] at hKO
       go_simp
       exact hKO _ W (Ext.refl W) rfl
      ·have e25 := isOf hp.1
       simp only [e25] at hKO
       go_simp
       exact hKO _ W (Ext.refl W) rfl
      ·have e25 := isOf hp.1
       simp only [e25] at hKO
       go_simp
       exact hKO _ W (Ext.refl W) rfl
      ·have e25 := isOf hp.1
       simp only [e25] at hKO
       go_simp
       exact hKO _ W (Ext.refl W) rfl
      ·have e22 := isOf hp.1
       have e25 := isOf hp.2.1
       have e29 := isOf hp.2.2.1
       simp only [e22, e25, e29] at hKO
       go_simp
       exact hKO _ W (Ext.refl W) rfl
      ·have e22 := isOf hp.1
       have e30 := isOf hp.2.1
       simp only [e22, e30] at hKO
       go_simp
       exact hKO _ W (Ext.refl W) rfl
      ·have e31 := isOf hp.1
       simp only [e31] at hKO
       go_simp
       exact hKO _ W (Ext.refl W) rfl
      ·have e31 := isOf hp.1
       simp only [e31] at hKO
       go_simp
       exact hKO _ W (Ext.refl W) rfl
      ·have e31 := isOf hp.1
       simp only [e31] at hKO
       go_simp
       exact hKO _ W (Ext.refl W) rfl
      ·have e31 := isOf hp.1
       simp only [e31] at hKO
       go_simp
       exact hKO _ W (Ext.refl W) rfl
      ·have e22 := isOf hp.1
       have e31 := isOf hp.2.1
       have e35 := isOf hp.2.2.1
       simp only [e22, e31, e35] at hKO
       go_simp
       exact hKO _ W (Ext.refl W) rfl
      ·have e22 := isOf hp.1
       have e36 := isOf hp.2.1
       simp only [e22, e36] at hKO
       go_simp
       exact hKO _ W (Ext.refl W) rfl
     intro vs W12 hS hp
     clear szw12 E0 p3 p4 p5 hx1 hx2 hx3
     obtain ⟨E0, p3, p4, p5, hx1, hx2, hx3, sz12⟩ := hS
     obtain ⟨h12_0, h12_1, h12_2, h12_3, h12_4, h12_5, h12_6, h12_7, h12_8, h12_9, h12_10, h12_11, h12_12, h12_13, h12_14, h12_15, h12_16, h12_17, h12_18, h12_19, h12_20, h12_21, h12_22, h12_23, h12_24, h12_25, h12_26, h12_27, h12_28, h12_29, h12_30, h12_31, h12_32, h12_33, h12_34, h12_35, h12_36, h12_37, -⟩ := hp
     replace h12_0 : vs 0 = .int .i64 c := h12_0
     replace h12_1 : vs 1 = .bool false := h12_1
     replace h12_2 : vs 2 = .bool false := h12_2
     replace h12_3 : vs 3 = .int .i64 c := h12_3
     replace h12_4 : vs 4 = .bool false := h12_4
     replace h12_5 : vs 5 = .bool false := h12_5
     replace h12_6 : vs 6 = .bool false := h12_6
     replace h12_7 : vs 7 = .agg #[.bool b2, .slice a2 n2 c2, .slice d2 m2 o2] := h12_7
     replace h12_8 : vs 8 = .agg #[.bool b1, .slice a1 n1 c1, .slice d1 m1 o1] := h12_8
     replace h12_9 : vs 9 = .int .i64 (-c) := h12_9
     replace h12_10 : vs 10 = .int .i64 c := h12_10
     replace h12_11 : vs 11 = .int .i64 (-c) := h12_11
     replace h12_12 : vs 12 = .bool false := h12_12
     replace h12_13 : vs 13 = .bool false := h12_13
     replace h12_14 : vs 14 = .bool false := h12_14
     replace h12_15 : vs 15 = .int .i64 c := h12_15
     replace h12_16 : vs 16 = .bool (c == 0) := h12_16
     replace h12_17 : vs 17 = .agg #[.bool b1, .slice a1 n1 c1, .slice d1 m1 o1] := h12_17
     replace h12_18 : vs 18 = .agg #[.bool b2, .slice a2 n2 c2, .slice d2 m2 o2] := h12_18
     replace h12_19 : vs 19 = .bool (c == 0) := h12_19
     replace h12_20 : vs 20 = .bool false := h12_20
     replace h12_21 : vs 21 = .bool false := h12_21
     replace h12_22 : vs 22 = .bool false := h12_22
     replace h12_23 : vs 23 = .int .i64 c := h12_23
     replace h12_24 : vs 24 = .bool false := h12_24
     replace h12_25 : vs 25 = .bool false := h12_25
     replace h12_26 : vs 26 = undef := h12_26
     replace h12_27 : vs 27 = undef := h12_27
     replace h12_28 : vs 28 = undef := h12_28
     replace h12_29 : vs 29 = undef := h12_29
     replace h12_30 : vs 30 = .bool false := h12_30
     replace h12_31 : vs 31 = .bool false := h12_31
     replace h12_32 : vs 32 = undef := h12_32
     replace h12_33 : vs 33 = undef := h12_33
     replace h12_34 : vs 34 = undef := h12_34
     replace h12_35 : vs 35 = undef := h12_35
     replace h12_36 : vs 36 = .bool false := h12_36
     replace h12_37 : vs 37 = .bool false := h12_37
     simp only [h12_0, h12_1, h12_2, h12_3, h12_4, h12_5, h12_6, h12_7, h12_8, h12_9, h12_10, h12_11, h12_12, h12_13, h12_14, h12_15, h12_16, h12_17, h12_18, h12_19, h12_20, h12_21, h12_22, h12_23, h12_24, h12_25, h12_26, h12_27, h12_28, h12_29, h12_30, h12_31, h12_32, h12_33, h12_34, h12_35, h12_36, h12_37]
     clear h12_0 h12_1 h12_2 h12_3 h12_4 h12_5 h12_6 h12_7 h12_8 h12_9 h12_10 h12_11 h12_12 h12_13 h12_14 h12_15 h12_16 h12_17 h12_18 h12_19 h12_20 h12_21 h12_22 h12_23 h12_24 h12_25 h12_26 h12_27 h12_28 h12_29 h12_30 h12_31 h12_32 h12_33 h12_34 h12_35 h12_36 h12_37
     obtain hn3 | hn3 : 0 < n3 ∨ n3 = 0 := by omega
     ·obtain rfl | rfl : b3 = false ∨ b3 = true := by cases b3 <;> simp
      ·have hn0I : (0 : Int) < (n3 : Int) := by omega
       have hn0N : 0 < n3 := by omega
       have HAB : Hid (0 < z) := Lib.hid (by
        have h1 : 0 < z.num.natAbs := Nat.pos_of_ne_zero (fun e => by have := hz0.2 e; omega)
        have h2 : ¬ z.num < 0 := of_decide_eq_false hb3.out.symm
        exact num_pos_iff.1 (by omega))
       clear hz0 hb3 hn3
       have kp3_0 := p3.cell0
       have kp3_1 := p3.cell1
       have kp3_2 := p3.cell2
       have kp4_0 := p4.cell0
       have kp4_1 := p4.cell1
       have kp4_2 := p4.cell2
       have kp5_0 := p5.cell0
       have kp5_1 := p5.cell1
       have kp5_2 := p5.cell2
       go_upto_region 6 with (fail)
       clear kp3_0 kp3_1 kp3_2 kp4_0 kp4_1 kp4_2 kp5_0 kp5_1 kp5_2
       have szw13 := Ext.size E0
       refine region_go [.one fun v _ => v = .pointer (some ⟨w.heap.size + 1 + 1, 0, none⟩),
         .one fun v _ => v = .pointer (some ⟨w.heap.size + 1 + 1, 1, none⟩),
         .one fun v _ => v = .slice a3 n3 c3,
         .one fun v _ => v = .int .i64 (n3 : Int),
         .one fun v _ => v = .bool true,
         .one fun v _ => v = .bool true,
         .one fun v _ => v = .pointer (some ⟨w.heap.size + 1 + 1, 0, none⟩),
         .one fun v _ => v = .pointer (some ⟨w.heap.size + 1 + 1, 0, none⟩),
         .one fun v _ => v = .bool false,
         .one fun v _ => v = .bool true,
         .one fun v _ => v = .bool true,
         .one fun v _ => v = .bool true]
        (fun W => Ext w W ∧ Bx3 W w.heap.size 35 (.bool b1) (.slice a1 n1 c1) (.slice d1 m1 o1) ∧ Bx3 W (w.heap.size + 1) 35 (.bool b2) (.slice a2 n2 c2) (.slice d2 m2 o2) ∧ Bx3 W (w.heap.size + 1 + 1) 35 (.bool false) (.slice a3 n3 c3) (.slice d3 m3 o3) ∧ Rw W (.agg #[.bool b1, .slice a1 n1 c1, .slice d1 m1 o1]) x ∧ Rw W (.agg #[.bool b2, .slice a2 n2 c2, .slice d2 m2 o2]) y ∧ Rw W (.agg #[.bool false, .slice a3 n3 c3, .slice d3 m3 o3]) z ∧ W12.heap.size ≤ W.heap.size) ⟨Good.is _, Good.is _, Good.is _, Good.is _, Good.is _, Good.is _, Good.is _, Good.is _, Good.is _, Good.is _, Good.is _, Good.is _, trivial⟩
        (fun W W1 hS hE => ⟨(Ext.trans hS.1 hE), (hS.2.1.ext hE), (hS.2.2.1.ext hE), (hS.2.2.2.1.ext hE), (hS.2.2.2.2.1.ext hE), (hS.2.2.2.2.2.1.ext hE), (hS.2.2.2.2.2.2.1.ext hE), (Nat.le_trans hS.2.2.2.2.2.2.2 (Ext.size hE))⟩) ⟨E0, p3, p4, p5, hx1, hx2, hx3, Nat.le_refl _⟩ (by kernel_rfl) (by kernel_rfl) (by kernel_rfl) (by kernel_rfl) (A := ?A13) ?hA13 ?howe13 ?hfin13
       case hA13 =>
        intro vs
        simp only [putAll, Act.put, List.setIfInBounds_toArray, List.set_cons_zero, List.set_cons_succ, Nat.zero_add, Nat.reduceAdd]
        exact rfl
       case howe13 =>
        clear E0 p3 p4 p5 hx1 hx2 hx3
        intro hf
        refine ⟨owesE 0 [] hf rfl (by kernel_rfl) ?_, owesE 1 [0] hf rfl (by kernel_rfl) ?_, owesE 2 [1] hf rfl (by kernel_rfl) ?_, owesE 3 [2] hf rfl (by kernel_rfl) ?_, owesE 4 [3] hf rfl (by kernel_rfl) ?_, owesE 5 [4] hf rfl (by kernel_rfl) ?_, owesE 6 [5] hf rfl (by kernel_rfl) ?_, owesE 7 [5, 6] hf rfl (by kernel_rfl) ?_, owesE 8 [5, 7] hf rfl (by kernel_rfl) ?_, owesE 9 [5, 8] hf rfl (by kernel_rfl) ?_, owesE 10 [5, 9] hf rfl (by kernel_rfl) ?_, owesE 11 [10] hf rfl (by kernel_rfl) ?_, trivial⟩
        all_goals intro vs W hS hp hx KO hKO
        all_goals simp only [Act.put, List.setIfInBounds_toArray, List.set_cons_zero, List.set_cons_succ] at hKO
        ·go_simp
         exact hKO _ W (Ext.refl W) rfl
        ·have e0 := isOf hp.1
         simp only [e0] at hKO
         go_simp
         exact hKO _ W (Ext.refl W) rfl
        ·have e1 := isOf hp.1
         simp only [e1] at hKO
         have fc1 := hS.2.2.2.1.cell1
         go_simp
         exact hKO _ W (Ext.refl W) rfl
        ·have e2 := isOf hp.1
         simp only [e2] at hKO
         go_simp
         exact hKO _ W (Ext.refl W) rfl
        ·have e3 := isOf hp.1
         simp only [e3] at hKO
         go_simp
         exact hKO _ W (Ext.refl W) rfl
        ·have e4 := isOf hp.1
         simp only [e4] at hKO
         go_simp
         exact hKO _ W (Ext.refl W) rfl
        ·have e5 := isOf hp.1
         simp only [e5] at hKO
         go_simp
         exact hKO _ W (Ext.refl W) rfl
        ·have e5 := isOf hp.1
         have e6 := isOf hp.2.1
         simp only [e5, e6] at hKO
         go_simp
         exact hKO _ W (Ext.refl W) rfl
        ·have e5 := isOf hp.1
         have e7 := isOf hp.2.1
         simp only [e5, e7] at hKO
         have fc0 := hS.2.2.2.1.cell0
         go_simp
         exact hKO _ W (Ext.refl W) rfl
        ·have e5 := isOf hp.1
         have e8 := isOf hp.2.1
         simp only [e5, e8] at hKO
         go_simp
         exact hKO _ W (Ext.refl W) rfl
        ·have e5 := isOf hp.1
         have e9 := isOf hp.2.1
         simp only [e5, e9] at hKO
         go_simp
         exact hKO _ W (Ext.refl W) rfl
        ·have e10 := isOf hp.1
         simp only [e10] at hKO
         go_simp
         exact hKO _ W (Ext.refl W) rfl
       intro vs W13 hS hp
       clear szw13 E0 p3 p4 p5 hx1 hx2 hx3
       obtain ⟨E0, p3, p4, p5, hx1, hx2, hx3, sz13⟩ := hS
       obtain ⟨h13_0, h13_1, h13_2, h13_3, h13_4, h13_5, h13_6, h13_7, h13_8, h13_9, h13_10, h13_11, -⟩ := hp
       replace h13_0 : vs 0 = .pointer (some ⟨w.heap.size + 1 + 1, 0, none⟩) := h13_0
       replace h13_1 : vs 1 = .pointer (some ⟨w.heap.size + 1 + 1, 1, none⟩) := h13_1
       replace h13_2 : vs 2 = .slice a3 n3 c3 := h13_2
       replace h13_3 : vs 3 = .int .i64 (n3 : Int) := h13_3
       replace h13_4 : vs 4 = .bool true := h13_4
       replace h13_5 : vs 5 = .bool true := h13_5
       replace h13_6 : vs 6 = .pointer (some ⟨w.heap.size + 1 + 1, 0, none⟩) := h13_6
       replace h13_7 : vs 7 = .pointer (some ⟨w.heap.size + 1 + 1, 0, none⟩) := h13_7
       replace h13_8 : vs 8 = .bool false := h13_8
       replace h13_9 : vs 9 = .bool true := h13_9
       replace h13_10 : vs 10 = .bool true := h13_10
       replace h13_11 : vs 11 = .bool true := h13_11
       simp only [h13_0, h13_1, h13_2, h13_3, h13_4, h13_5, h13_6, h13_7, h13_8, h13_9, h13_10, h13_11]
       clear h13_0 h13_1 h13_2 h13_3 h13_4 h13_5 h13_6 h13_7 h13_8 h13_9 h13_10 h13_11
       have kp3_0 := p3.cell0
       have kp3_1 := p3.cell1
       have kp3_2 := p3.cell2
       have kp4_0 := p4.cell0
       have kp4_1 := p4.cell1
       have kp4_2 := p4.cell2
       have kp5_0 := p5.cell0
       have kp5_1 := p5.cell1
       have kp5_2 := p5.cell2
       go_upto_region 7 with (fail)
       clear kp3_0 kp3_1 kp3_2 kp4_0 kp4_1 kp4_2 kp5_0 kp5_1 kp5_2
       have szw14 := Ext.size E0
       refine region_go [.one fun v _ => v = .bool true,
         .one fun v _ => v = .bool true,
         .one fun v _ => v = .agg #[.bool b1, .slice a1 n1 c1, .slice d1 m1 o1],
         .one fun v _ => v = .agg #[.bool false, .slice a3 n3 c3, .slice d3 m3 o3],
         .one fun v W => Rw W v (x + z),
         .one fun v _ => v = .agg #[.bool b2, .slice a2 n2 c2, .slice d2 m2 o2],
         .one fun v _ => v = .agg #[.bool false, .slice a3 n3 c3, .slice d3 m3 o3],
         .one fun v W => Rw W v (y + z),
         .one fun v _ => v = .int .i64 c,
         .one fun v _ => v = .int .i64 c,
         .one fun v _ => v = .bool true,
         .one fun v _ => v = .bool true,
         .one fun v _ => v = .bool true,
         .one fun v _ => v = .agg #[.bool b1, .slice a1 n1 c1, .slice d1 m1 o1],
         .one fun v _ => v = .agg #[.bool b2, .slice a2 n2 c2, .slice d2 m2 o2],
         .one fun v W => Rw W v (x - y),
         .one fun v W => Rw W v (((0 : Int) : Rat)),
         .one fun v _ => v = .int .i64 c,
         .one fun v _ => v = .int .i64 c,
         .one fun v _ => v = .bool true,
         .one fun v _ => v = .bool true,
         .one fun v _ => v = .bool true,
         .one fun v _ => v = .bool true,
         .one fun v _ => v = .bool false,
         .one fun v _ => v = .bool false,
         .one fun v _ => v = .agg #[.bool b1, .slice a1 n1 c1, .slice d1 m1 o1],
         .one fun v _ => v = .agg #[.bool false, .slice a3 n3 c3, .slice d3 m3 o3],
         .one fun v W => Rw W v (x * z),
         .one fun v _ => v = .agg #[.bool b2, .slice a2 n2 c2, .slice d2 m2 o2],
         .one fun v _ => v = .agg #[.bool false, .slice a3 n3 c3, .slice d3 m3 o3],
         .one fun v W => Rw W v (y * z),
         .one fun v _ => v = .int .i64 c,
         .one fun v _ => v = .int .i64 c,
         .one fun v _ => v = .bool true,
         .one fun v _ => v = .bool true,
         .one fun v _ => v = .bool true,
         .one fun v _ => v = .bool true]
        (fun W => Ext w W ∧ Bx3 W w.heap.size 35 (.bool b1) (.slice a1 n1 c1) (.slice d1 m1 o1) ∧ Bx3 W (w.heap.size + 1) 35 (.bool b2) (.slice a2 n2 c2) (.slice d2 m2 o2) ∧ Bx3 W (w.heap.size + 1 + 1) 35 (.bool false) (.slice a3 n3 c3) (.slice d3 m3 o3) ∧ Rw W (.agg #[.bool b1, .slice a1 n1 c1, .slice d1 m1 o1]) x ∧ Rw W (.agg #[.bool b2, .slice a2 n2 c2, .slice d2 m2 o2]) y ∧ Rw W (.agg #[.bool false, .slice a3 n3 c3, .slice d3 m3 o3]) z ∧ W13.heap.size ≤ W.heap.size) ⟨Good.is _, Good.is _, Good.is _, Good.is _, Good.rat _, Good.is _, Good.is _, Good.rat _, Good.is _, Good.is _, Good.is _, Good.is _, Good.is _, Good.is _, Good.is _, Good.rat _, Good.rat _, Good.is _, Good.is _, Good.is _, Good.is _, Good.is _, Good.is _, Good.is _, Good.is _, Good.is _, Good.is _, Good.rat _, Good.is _, Good.is _, Good.rat _, Good.is _, Good.is _, Good.is _, Good.is _, Good.is _, Good.is _, trivial⟩
        (fun W W1 hS hE => ⟨(Ext.trans hS.1 hE), (hS.2.1.ext hE), (hS.2.2.1.ext hE), (hS.2.2.2.1.ext hE), (hS.2.2.2.2.1.ext hE), (hS.2.2.2.2.2.1.ext hE), (hS.2.2.2.2.2.2.1.ext hE), (Nat.le_trans hS.2.2.2.2.2.2.2 (Ext.size hE))⟩) ⟨E0, p3, p4, p5, hx1, hx2, hx3, Nat.le_refl _⟩ (by kernel_rfl) (by kernel_rfl) (by kernel_rfl) (by kernel_rfl) (A := ?A14) ?hA14 ?howe14 ?hfin14
       case hA14 =>
        intro vs
        simp only [putAll, Act.put, List.setIfInBounds_toArray, List.set_cons_zero, List.set_cons_succ, Nat.zero_add, Nat.reduceAdd]
        exact rfl
       case howe14 =>
        clear E0 p3 p4 p5 hx1 hx2 hx3
        intro hf
        refine ⟨owesE 0 [] hf rfl (by kernel_rfl) ?_, owesE 1 [0] hf rfl (by kernel_rfl) ?_, owesE 2 [1] hf rfl (by kernel_rfl) ?_, owesE 3 [1] hf rfl (by kernel_rfl) ?_, owesE 4 [1, 2, 3] hf rfl (by kernel_rfl) ?_, owesE 5 [1] hf rfl (by kernel_rfl) ?_, owesE 6 [1] hf rfl (by kernel_rfl) ?_, owesE 7 [1, 5, 6] hf rfl (by kernel_rfl) ?_, owesE 8 [1, 4, 7] hf rfl (by kernel_rfl) ?_, owesE 9 [1] hf rfl (by kernel_rfl) ?_, owesE 10 [1, 8, 9] hf rfl (by kernel_rfl) ?_, owesE 11 [1, 10] hf rfl (by kernel_rfl) ?_, owesE 12 [11] hf rfl (by kernel_rfl) ?_, owesE 13 [12] hf rfl (by kernel_rfl) ?_, owesE 14 [12] hf rfl (by kernel_rfl) ?_, owesE 15 [12, 13, 14] hf rfl (by kernel_rfl) ?_, owesE 16 [12] hf rfl (by kernel_rfl) ?_, owesE 17 [12, 15, 16] hf rfl (by kernel_rfl) ?_, owesE 18 [12] hf rfl (by kernel_rfl) ?_, owesE 19 [12, 17, 18] hf rfl (by kernel_rfl) ?_, owesE 20 [12, 19] hf rfl (by kernel_rfl) ?_, owesE 21 [20] hf rfl (by kernel_rfl) ?_, owesE 22 [21] hf rfl (by kernel_rfl) ?_, owesE 23 [21, 22] hf rfl (by kernel_rfl) ?_, owesE 24 [21, 23] hf rfl (by kernel_rfl) ?_, owesE 25 [24] hf rfl (by kernel_rfl) ?_, owesE 26 [24] hf rfl (by kernel_rfl) ?_, owesE 27 [24, 25, 26] hf rfl (by kernel_rfl) ?_, owesE 28 [24] hf rfl (by kernel_rfl) ?_, owesE 29 [24] hf rfl (by kernel_rfl) ?_, owesE 30 [24, 28, 29] hf rfl (by kernel_rfl) ?_, owesE 31 [24, 27, 30] hf rfl (by kernel_rfl) ?_, owesE 32 [24] hf rfl (by kernel_rfl) ?_, owesE 33 [24, 31, 32] hf rfl (by kernel_rfl) ?_, owesE 34 [21, 24, 33] hf rfl (by kernel_rfl) ?_, owesE 35 [21, 34] hf rfl (by kernel_rfl) ?_, owesE 36 [35] hf rfl (by kernel_rfl) ?_, trivial⟩
        all_goals intro vs W hS hp hx KO hKO
        all_goals simp only [Act.put, List.setIfInBounds_toArray, List.set_cons_zero, List.set_cons_succ] at hKO
        ·go_simp
         refine (Try.alive05 _).mono ?_
         rintro e W1 ⟨rfl, hE⟩
         exact hKO _ W1 hE rfl
        ·have e0 := isOf hp.1
         simp only [e0] at hKO
         go_simp
         exact hKO _ W (Ext.refl W) rfl
        ·have e1 := isOf hp.1
         simp only [e1] at hKO
         have fc0 := hS.2.1.cell0
         have fc1 := hS.2.1.cell1
         have fc2 := hS.2.1.cell2
         go_simp
         exact hKO _ W (Ext.refl W) rfl
        ·have e1 := isOf hp.1
         simp only [e1] at hKO
         have fc0 := hS.2.2.2.1.cell0
         have fc1 := hS.2.2.2.1.cell1
         have fc2 := hS.2.2.2.1.cell2
         go_simp
         exact hKO _ W (Ext.refl W) rfl
        ·have e1 := isOf hp.1
         have e2 := isOf hp.2.1
         have e3 := isOf hp.2.2.1
         simp only [e1, e2, e3] at hKO
         go_simp
         refine (Try.ratAdd (hS.2.2.2.2.1) (hS.2.2.2.2.2.2.1) s1 s3 (by omega)).mono ?_
         rintro e W1 ⟨v, rfl, hv, hE⟩
         exact hKO _ W1 hE hv
        ·have e1 := isOf hp.1
         simp only [e1] at hKO
         have fc0 := hS.2.2.1.cell0
         have fc1 := hS.2.2.1.cell1
         have fc2 := hS.2.2.1.cell2
         go_simp
         exact hKO _ W (Ext.refl W) rfl
        ·have e1 := isOf hp.1
         simp only [e1] at hKO
         have fc0 := hS.2.2.2.1.cell0
         have fc1 := hS.2.2.2.1.cell1
         have fc2 := hS.2.2.2.1.cell2
         go_simp
         exact hKO _ W (Ext.refl W) rfl
        ·have e1 := isOf hp.1
         have e5 := isOf hp.2.1
         have e6 := isOf hp.2.2.1
         simp only [e1, e5, e6] at hKO
         go_simp
         refine (Try.ratAdd (hS.2.2.2.2.2.1) (hS.2.2.2.2.2.2.1) s2 s3 (by omega)).mono ?_
         rintro e W1 ⟨v, rfl, hv, hE⟩
         exact hKO _ W1 hE hv
        ·have e1 := isOf hp.1
         have q4 := hp.2.1
         have q7 := hp.2.2.1
         simp only [e1] at hKO
         go_simp
         refine (Try.ratCmpR q4 q7 SA.out SB.out (by omega) C4.out).mono ?_
         rintro e W1 ⟨rfl, hE⟩
         exact hKO _ W1 hE rfl
        ·have e1 := isOf hp.1
         simp only [e1] at hKO
         go_simp
         exact hKO _ W (Ext.refl W) rfl
        ·have e1 := isOf hp.1
         have e8 := isOf hp.2.1
         have e9 := isOf hp.2.2.1
         simp only [e1, e8, e9] at hKO
         go_simp
         exact hKO _ W (Ext.refl W) rfl
        ·have e1 := isOf hp.1
         have e10 := isOf hp.2.1
         simp only [e1, e10] at hKO
         go_simp
         exact hKO _ W (Ext.refl W) rfl
        ·have e11 := isOf hp.1
         simp only [e11] at hKO
         go_simp
         exact hKO _ W (Ext.refl W) rfl
        ·have e12 := isOf hp.1
         simp only [e12] at hKO
         have fc0 := hS.2.1.cell0
         have fc1 := hS.2.1.cell1
         have fc2 := hS.2.1.cell2
         go_simp
         exact hKO _ W (Ext.refl W) rfl
        ·have e12 := isOf hp.1
         simp only [e12] at hKO
         have fc0 := hS.2.2.1.cell0
         have fc1 := hS.2.2.1.cell1
         have fc2 := hS.2.2.1.cell2
         go_simp
         exact hKO _ W (Ext.refl W) rfl
        ·have e12 := isOf hp.1
         have e13 := isOf hp.2.1
         have e14 := isOf hp.2.2.1
         simp only [e12, e13, e14] at hKO
         go_simp
         refine (Try.ratSub (hS.2.2.2.2.1) (hS.2.2.2.2.2.1) s1 s2 (by omega)).mono ?_
         rintro e W1 ⟨v, rfl, hv, hE⟩
         exact hKO _ W1 hE hv
        ·have e12 := isOf hp.1
         simp only [e12] at hKO
         go_simp
         refine (Try.ratOf 0 _ (by omega) (by omega)).mono ?_
         rintro e W1 ⟨v, rfl, hv, hE⟩
         exact hKO _ W1 hE hv
        ·have e12 := isOf hp.1
         have q15 := hp.2.1
         have q16 := hp.2.2.1
         simp only [e12] at hKO
         go_simp
         refine (Try.ratCmpR q15 q16 SC.out S0.out (by omega) C5.out).mono ?_
         rintro e W1 ⟨rfl, hE⟩
         exact hKO _ W1 hE rfl
        ·have e12 := isOf hp.1
         simp only [e12] at hKO
         go_simp
         exact hKO _ W (Ext.refl W) rfl
        ·have e12 := isOf hp.1
         have e17 := isOf hp.2.1
         have e18 := isOf hp.2.2.1
         simp only [e12, e17, e18] at hKO
         go_simp
         exact hKO _ W (Ext.refl W) rfl
        ·have e12 := isOf hp.1
         have e19 := isOf hp.2.1
         simp only [e12, e19] at hKO
         go_simp
         exact hKO _ W (Ext.refl W) rfl
        ·have e20 := isOf hp.1
         simp only [e20] at hKO
         go_simp
         exact hKO _ W (Ext.refl W) rfl
        ·have e21 := isOf hp.1
         simp only [e21] at hKO
         go_simp
         exact hKO _ W (Ext.refl W) rfl
        ·have e21 := isOf hp.1
         have e22 := isOf hp.2.1
         simp only [e21, e22] at hKO
         go_simp
         exact hKO _ W (Ext.refl W) rfl
        ·have e21 := isOf hp.1
         have e23 := isOf hp.2.1
         simp only [e21, e23] at hKO
         go_simp
         exact hKO _ W (Ext.refl W) rfl
        ·have e24 := isOf hp.1
         simp only [e24] at hKO
         have fc0 := hS.2.1.cell0
         have fc1 := hS.2.1.cell1
         have fc2 := hS.2.1.cell2
         go_simp
         exact hKO _ W (Ext.refl W) rfl
        ·have e24 := isOf hp.1
         simp only [e24] at hKO
         have fc0 := hS.2.2.2.1.cell0
         have fc1 := hS.2.2.2.1.cell1
         have fc2 := hS.2.2.2.1.cell2
         go_simp
         exact hKO _ W (Ext.refl W) rfl
        ·have e24 := isOf hp.1
         have e25 := isOf hp.2.1
         have e26 := isOf hp.2.2.1
         simp only [e24, e25, e26] at hKO
         go_simp
         refine (Try.ratMul (hS.2.2.2.2.1) (hS.2.2.2.2.2.2.1) s1 s3 (by omega)).mono ?_
         rintro e W1 ⟨v, rfl, hv, hE⟩
         exact hKO _ W1 hE hv
        ·have e24 := isOf hp.1
         simp only [e24] at hKO
         have fc0 := hS.2.2.1.cell0
         have fc1 := hS.2.2.1.cell1
         have fc2 := hS.2.2.1.cell2
         go_simp
         exact hKO _ W (Ext.refl W) rfl
        ·have e24 := isOf hp.1
         simp only [e24] at hKO
         have fc0 := hS.2.2.2.1.cell0
         have fc1 := hS.2.2.2.1.cell1
         have fc2 := hS.2.2.2.1.cell2
         go_simp
         exact hKO _ W (Ext.refl W) rfl
        ·have e24 := isOf hp.1
         have e28 := isOf hp.2.1
         have e29 := isOf hp.2.2.1
         simp only [e24, e28, e29] at hKO
         go_simp
         refine (Try.ratMul (hS.2.2.2.2.2.1) (hS.2.2.2.2.2.2.1) s2 s3 (by omega)).mono ?_
         rintro e W1 ⟨v, rfl, hv, hE⟩
         exact hKO _ W1 hE hv
        ·have e24 := isOf hp.1
         have q27 := hp.2.1
         have q30 := hp.2.2.1
         simp only [e24] at hKO
         go_simp
         refine (Try.ratCmpR q27 q30 SX.out SY.out (by omega) (C6.out HAB.out)).mono ?_
         rintro e W1 ⟨rfl, hE⟩
         exact hKO _ W1 hE rfl
        ·have e24 := isOf hp.1
         simp only [e24] at hKO
         go_simp
         exact hKO _ W (Ext.refl W) rfl
        ·have e24 := isOf hp.1
         have e31 := isOf hp.2.1
         have e32 := isOf hp.2.2.1
         simp only [e24, e31, e32] at hKO
         go_simp
         exact hKO _ W (Ext.refl W) rfl
        ·have e21 := isOf hp.1
         have e24 := isOf hp.2.1
         have e33 := isOf hp.2.2.1
         simp only [e21, e24, e33] at hKO
         go_simp
         exact hKO _ W (Ext.refl W) rfl
        ·have e21 := isOf hp.1
         have e34 := isOf hp.2.1
         simp only [e21, e34] at hKO
         go_simp
         exact hKO _ W (Ext.refl W) rfl
        ·have e35 := isOf hp.1
         simp only [e35] at hKO
         go_simp
         exact hKO _ W (Ext.refl W) rfl
       intro vs W14 hS hp
       clear szw14 E0 p3 p4 p5 hx1 hx2 hx3
       obtain ⟨E0, p3, p4, p5, hx1, hx2, hx3, sz14⟩ := hS
       obtain ⟨h14_0, h14_1, h14_2, h14_3, h14_4, h14_5, h14_6, h14_7, h14_8, h14_9, h14_10, h14_11, h14_12, h14_13, h14_14, h14_15, h14_16, h14_17, h14_18, h14_19, h14_20, h14_21, h14_22, h14_23, h14_24, h14_25, h14_26, h14_27, h14_28, h14_29, h14_30, h14_31, h14_32, h14_33, h14_34, h14_35, h14_36, -⟩ := hp
       replace h14_0 : vs 0 = .bool true := h14_0
       replace h14_1 : vs 1 = .bool true := h14_1
       replace h14_2 : vs 2 = .agg #[.bool b1, .slice a1 n1 c1, .slice d1 m1 o1] := h14_2
       replace h14_3 : vs 3 = .agg #[.bool false, .slice a3 n3 c3, .slice d3 m3 o3] := h14_3
       replace h14_5 : vs 5 = .agg #[.bool b2, .slice a2 n2 c2, .slice d2 m2 o2] := h14_5
       replace h14_6 : vs 6 = .agg #[.bool false, .slice a3 n3 c3, .slice d3 m3 o3] := h14_6
       replace h14_8 : vs 8 = .int .i64 c := h14_8
       replace h14_9 : vs 9 = .int .i64 c := h14_9
       replace h14_10 : vs 10 = .bool true := h14_10
       replace h14_11 : vs 11 = .bool true := h14_11
       replace h14_12 : vs 12 = .bool true := h14_12
       replace h14_13 : vs 13 = .agg #[.bool b1, .slice a1 n1 c1, .slice d1 m1 o1] := h14_13
       replace h14_14 : vs 14 = .agg #[.bool b2, .slice a2 n2 c2, .slice d2 m2 o2] := h14_14
       replace h14_17 : vs 17 = .int .i64 c := h14_17
       replace h14_18 : vs 18 = .int .i64 c := h14_18
       replace h14_19 : vs 19 = .bool true := h14_19
       replace h14_20 : vs 20 = .bool true := h14_20
       replace h14_21 : vs 21 = .bool true := h14_21
       replace h14_22 : vs 22 = .bool true := h14_22
       replace h14_23 : vs 23 = .bool false := h14_23
       replace h14_24 : vs 24 = .bool false := h14_24
       replace h14_25 : vs 25 = .agg #[.bool b1, .slice a1 n1 c1, .slice d1 m1 o1] := h14_25
       replace h14_26 : vs 26 = .agg #[.bool false, .slice a3 n3 c3, .slice d3 m3 o3] := h14_26
       replace h14_28 : vs 28 = .agg #[.bool b2, .slice a2 n2 c2, .slice d2 m2 o2] := h14_28
       replace h14_29 : vs 29 = .agg #[.bool false, .slice a3 n3 c3, .slice d3 m3 o3] := h14_29
       replace h14_31 : vs 31 = .int .i64 c := h14_31
       replace h14_32 : vs 32 = .int .i64 c := h14_32
       replace h14_33 : vs 33 = .bool true := h14_33
       replace h14_34 : vs 34 = .bool true := h14_34
       replace h14_35 : vs 35 = .bool true := h14_35
       replace h14_36 : vs 36 = .bool true := h14_36
       simp only [h14_0, h14_1, h14_2, h14_3, h14_5, h14_6, h14_8, h14_9, h14_10, h14_11, h14_12, h14_13, h14_14, h14_17, h14_18, h14_19, h14_20, h14_21, h14_22, h14_23, h14_24, h14_25, h14_26, h14_28, h14_29, h14_31, h14_32, h14_33, h14_34, h14_35, h14_36]
       replace h14_4 : Rw W14 (vs 4) (x + z) := h14_4
       generalize vs 4 = u14_4 at h14_4 ⊢
       replace h14_7 : Rw W14 (vs 7) (y + z) := h14_7
       generalize vs 7 = u14_7 at h14_7 ⊢
       replace h14_15 : Rw W14 (vs 15) (x - y) := h14_15
       generalize vs 15 = u14_15 at h14_15 ⊢
       replace h14_16 : Rw W14 (vs 16) (((0 : Int) : Rat)) := h14_16
       generalize vs 16 = u14_16 at h14_16 ⊢
       replace h14_27 : Rw W14 (vs 27) (x * z) := h14_27
       generalize vs 27 = u14_27 at h14_27 ⊢
       replace h14_30 : Rw W14 (vs 30) (y * z) := h14_30
       generalize vs 30 = u14_30 at h14_30 ⊢
       clear h14_0 h14_1 h14_2 h14_3 h14_5 h14_6 h14_8 h14_9 h14_10 h14_11 h14_12 h14_13 h14_14 h14_17 h14_18 h14_19 h14_20 h14_21 h14_22 h14_23 h14_24 h14_25 h14_26 h14_28 h14_29 h14_31 h14_32 h14_33 h14_34 h14_35 h14_36
       have kp3_0 := p3.cell0
       have kp3_1 := p3.cell1
       have kp3_2 := p3.cell2
       have kp4_0 := p4.cell0
       have kp4_1 := p4.cell1
       have kp4_2 := p4.cell2
       have kp5_0 := p5.cell0
       have kp5_1 := p5.cell1
       have kp5_2 := p5.cell2
       go_wp2
       go_ret
       exact ⟨rfl, E0⟩
      ·have hn0I : (0 : Int) < (n3 : Int) := by omega
       have hn0N : 0 < n3 := by omega
       clear hz0 hb3 hn3
       have kp3_0 := p3.cell0
       have kp3_1 := p3.cell1
       have kp3_2 := p3.cell2
       have kp4_0 := p4.cell0
       have kp4_1 := p4.cell1
       have kp4_2 := p4.cell2
       have kp5_0 := p5.cell0
       have kp5_1 := p5.cell1
       have kp5_2 := p5.cell2
       go_upto_region 6 with (fail)
       clear kp3_0 kp3_1 kp3_2 kp4_0 kp4_1 kp4_2 kp5_0 kp5_1 kp5_2
       have szw17 := Ext.size E0
       refine region_go [.one fun v _ => v = .pointer (some ⟨w.heap.size + 1 + 1, 0, none⟩),
         .one fun v _ => v = .pointer (some ⟨w.heap.size + 1 + 1, 1, none⟩),
         .one fun v _ => v = .slice a3 n3 c3,
         .one fun v _ => v = .int .i64 (n3 : Int),
         .one fun v _ => v = .bool true,
         .one fun v _ => v = .bool true,
         .one fun v _ => v = .pointer (some ⟨w.heap.size + 1 + 1, 0, none⟩),
         .one fun v _ => v = .pointer (some ⟨w.heap.size + 1 + 1, 0, none⟩),
         .one fun v _ => v = .bool true,
         .one fun v _ => v = .bool false,
         .one fun v _ => v = .bool false,
         .one fun v _ => v = .bool false]
        (fun W => Ext w W ∧ Bx3 W w.heap.size 35 (.bool b1) (.slice a1 n1 c1) (.slice d1 m1 o1) ∧ Bx3 W (w.heap.size + 1) 35 (.bool b2) (.slice a2 n2 c2) (.slice d2 m2 o2) ∧ Bx3 W (w.heap.size + 1 + 1) 35 (.bool true) (.slice a3 n3 c3) (.slice d3 m3 o3) ∧ Rw W (.agg #[.bool b1, .slice a1 n1 c1, .slice d1 m1 o1]) x ∧ Rw W (.agg #[.bool b2, .slice a2 n2 c2, .slice d2 m2 o2]) y ∧ Rw W (.agg #[.bool true, .slice a3 n3 c3, .slice d3 m3 o3]) z ∧ W12.heap.size ≤ W.heap.size) ⟨Good.is _, Good.is _, Good.is _, Good.is _, Good.is _, Good.is _, Good.is _, Good.is _, Good.is _, Good.is _, Good.is _, Good.is _, trivial⟩
        (fun W W1 hS hE => ⟨(Ext.trans hS.1 hE), (hS.2.1.ext hE), (hS.2.2.1.ext hE), (hS.2.2.2.1.ext hE), (hS.2.2.2.2.1.ext hE), (hS.2.2.2.2.2.1.ext hE), (hS.2.2.2.2.2.2.1.ext hE), (Nat.le_trans hS.2.2.2.2.2.2.2 (Ext.size hE))⟩) ⟨E0, p3, p4, p5, hx1, hx2, hx3, Nat.le_refl _⟩ (by kernel_rfl) (by kernel_rfl) (by kernel_rfl) (by kernel_rfl) (A := ?A17) ?hA17 ?howe17 ?hfin17
       case hA17 =>
        intro vs
        simp only [putAll, Act.put, List.setIfInBounds_toArray, List.set_cons_zero, List.set_cons_succ, Nat.zero_add, Nat.reduceAdd]
        exact rfl
       case howe17 =>
        clear E0 p3 p4 p5 hx1 hx2 hx3
        intro hf
        refine ⟨owesE 0 [] hf rfl (by kernel_rfl) ?_, owesE 1 [0] hf rfl (by kernel_rfl) ?_, owesE 2 [1] hf rfl (by kernel_rfl) ?_, owesE 3 [2] hf rfl (by kernel_rfl) ?_, owesE 4 [3] hf rfl (by kernel_rfl) ?_, owesE 5 [4] hf rfl (by kernel_rfl) ?_, owesE 6 [5] hf rfl (by kernel_rfl) ?_, owesE 7 [5, 6] hf rfl (by kernel_rfl) ?_, owesE 8 [5, 7] hf rfl (by kernel_rfl) ?_, owesE 9 [5, 8] hf rfl (by kernel_rfl) ?_, owesE 10 [5, 9] hf rfl (by kernel_rfl) ?_, owesE 11 [10] hf rfl (by kernel_rfl) ?_, trivial⟩
        all_goals intro vs W hS hp hx KO hKO
        all_goals simp only [Act.put, List.setIfInBounds_toArray, List.set_cons_zero, List.set_cons_succ] at hKO
        ·go_simp
         exact hKO _ W (Ext.refl W) rfl
        ·have e0 := isOf hp.1
         simp only [e0] at hKO
         go_simp
         exact hKO _ W (Ext.refl W) rfl
        ·have e1 := isOf hp.1
         simp only [e1] at hKO
         have fc1 := hS.2.2.2.1.cell1
         go_simp
         exact hKO _ W (Ext.refl W) rfl
        ·have e2 := isOf hp.1
         simp only [e2] at hKO
         go_simp
         exact hKO _ W (Ext.refl W) rfl
        ·have e3 := isOf hp.1
         simp only [e3] at hKO
         go_simp
         exact hKO _ W (Ext.refl W) rfl
        ·have e4 := isOf hp.1
         simp only [e4] at hKO
         go_simp
         exact hKO _ W (Ext.refl W) rfl
        ·have e5 := isOf hp.1
         simp only [e5] at hKO
         go_simp
         exact hKO _ W (Ext.refl W) rfl
        ·have e5 := isOf hp.1
         have e6 := isOf hp.2.1
         simp only [e5, e6] at hKO
         go_simp
         exact hKO _ W (Ext.refl W) rfl
        ·have e5 := isOf hp.1
         have e7 := isOf hp.2.1
         simp only [e5, e7] at hKO
         have fc0 := hS.2.2.2.1.cell0
         go_simp
         exact hKO _ W (Ext.refl W) rfl
        ·have e5 := isOf hp.1
         have e8 := isOf hp.2.1
         simp only [e5, e8] at hKO
         go_simp
         exact hKO _ W (Ext.refl W) rfl
        ·have e5 := isOf hp.1
         have e9 := isOf hp.2.1
         simp only [e5, e9] at hKO
         go_simp
         exact hKO _ W (Ext.refl W) rfl
        ·have e10 := isOf hp.1
         simp only [e10] at hKO
         go_simp
         exact hKO _ W (Ext.refl W) rfl
       intro vs W17 hS hp
       clear szw17 E0 p3 p4 p5 hx1 hx2 hx3
       obtain ⟨E0, p3, p4, p5, hx1, hx2, hx3, sz17⟩ := hS
       obtain ⟨h17_0, h17_1, h17_2, h17_3, h17_4, h17_5, h17_6, h17_7, h17_8, h17_9, h17_10, h17_11, -⟩ := hp
       replace h17_0 : vs 0 = .pointer (some ⟨w.heap.size + 1 + 1, 0, none⟩) := h17_0
       replace h17_1 : vs 1 = .pointer (some ⟨w.heap.size + 1 + 1, 1, none⟩) := h17_1
       replace h17_2 : vs 2 = .slice a3 n3 c3 := h17_2
       replace h17_3 : vs 3 = .int .i64 (n3 : Int) := h17_3
       replace h17_4 : vs 4 = .bool true := h17_4
       replace h17_5 : vs 5 = .bool true := h17_5
       replace h17_6 : vs 6 = .pointer (some ⟨w.heap.size + 1 + 1, 0, none⟩) := h17_6
       replace h17_7 : vs 7 = .pointer (some ⟨w.heap.size + 1 + 1, 0, none⟩) := h17_7
       replace h17_8 : vs 8 = .bool true := h17_8
       replace h17_9 : vs 9 = .bool false := h17_9
       replace h17_10 : vs 10 = .bool false := h17_10
       replace h17_11 : vs 11 = .bool false := h17_11
       simp only [h17_0, h17_1, h17_2, h17_3, h17_4, h17_5, h17_6, h17_7, h17_8, h17_9, h17_10, h17_11]
       clear h17_0 h17_1 h17_2 h17_3 h17_4 h17_5 h17_6 h17_7 h17_8 h17_9 h17_10 h17_11
       have kp3_0 := p3.cell0
       have kp3_1 := p3.cell1
       have kp3_2 := p3.cell2
       have kp4_0 := p4.cell0
       have kp4_1 := p4.cell1
       have kp4_2 := p4.cell2
       have kp5_0 := p5.cell0
       have kp5_1 := p5.cell1
       have kp5_2 := p5.cell2
       go_upto_region 7 with (fail)
       clear kp3_0 kp3_1 kp3_2 kp4_0 kp4_1 kp4_2 kp5_0 kp5_1 kp5_2
       have szw18 := Ext.size E0
       refine region_go [.one fun v _ => v = .bool true,
         .one fun v _ => v = .bool true,
         .one fun v _ => v = .agg #[.bool b1, .slice a1 n1 c1, .slice d1 m1 o1],
         .one fun v _ => v = .agg #[.bool true, .slice a3 n3 c3, .slice d3 m3 o3],
         .one fun v W => Rw W v (x + z),
         .one fun v _ => v = .agg #[.bool b2, .slice a2 n2 c2, .slice d2 m2 o2],
         .one fun v _ => v = .agg #[.bool true, .slice a3 n3 c3, .slice d3 m3 o3],
         .one fun v W => Rw W v (y + z),
         .one fun v _ => v = .int .i64 c,
         .one fun v _ => v = .int .i64 c,
         .one fun v _ => v = .bool true,
         .one fun v _ => v = .bool true,
         .one fun v _ => v = .bool true,
         .one fun v _ => v = .agg #[.bool b1, .slice a1 n1 c1, .slice d1 m1 o1],
         .one fun v _ => v = .agg #[.bool b2, .slice a2 n2 c2, .slice d2 m2 o2],
         .one fun v W => Rw W v (x - y),
         .one fun v W => Rw W v (((0 : Int) : Rat)),
         .one fun v _ => v = .int .i64 c,
         .one fun v _ => v = .int .i64 c,
         .one fun v _ => v = .bool true,
         .one fun v _ => v = .bool true,
         .one fun v _ => v = .bool true,
         .one fun v _ => v = .bool false,
         .one fun v _ => v = .bool true,
         .one fun v _ => v = .bool true,
         .one fun v _ => v = undef,
         .one fun v _ => v = undef,
         .one fun v _ => v = undef,
         .one fun v _ => v = undef,
         .one fun v _ => v = undef,
         .one fun v _ => v = undef,
         .one fun v _ => v = undef,
         .one fun v _ => v = undef,
         .one fun v _ => v = undef,
         .one fun v _ => v = .bool true,
         .one fun v _ => v = .bool true,
         .one fun v _ => v = .bool true]
        (fun W => Ext w W ∧ Bx3 W w.heap.size 35 (.bool b1) (.slice a1 n1 c1) (.slice d1 m1 o1) ∧ Bx3 W (w.heap.size + 1) 35 (.bool b2) (.slice a2 n2 c2) (.slice d2 m2 o2) ∧ Bx3 W (w.heap.size + 1 + 1) 35 (.bool true) (.slice a3 n3 c3) (.slice d3 m3 o3) ∧ Rw W (.agg #[.bool b1, .slice a1 n1 c1, .slice d1 m1 o1]) x ∧ Rw W (.agg #[.bool b2, .slice a2 n2 c2, .slice d2 m2 o2]) y ∧ Rw W (.agg #[.bool true, .slice a3 n3 c3, .slice d3 m3 o3]) z ∧ W17.heap.size ≤ W.heap.size) ⟨Good.is _, Good.is _, Good.is _, Good.is _, Good.rat _, Good.is _, Good.is _, Good.rat _, Good.is _, Good.is _, Good.is _, Good.is _, Good.is _, Good.is _, Good.is _, Good.rat _, Good.rat _, Good.is _, Good.is _, Good.is _, Good.is _, Good.is _, Good.is _, Good.is _, Good.is _, Good.is _, Good.is _, Good.is _, Good.is _, Good.is _, Good.is _, Good.is _, Good.is _, Good.is _, Good.is _, Good.is _, Good.is _, trivial⟩
        (fun W W1 hS hE => ⟨(Ext.trans hS.1 hE), (hS.2.1.ext hE), (hS.2.2.1.ext hE), (hS.2.2.2.1.ext hE), (hS.2.2.2.2.1.ext hE), (hS.2.2.2.2.2.1.ext hE), (hS.2.2.2.2.2.2.1.ext hE), (Nat.le_trans hS.2.2.2.2.2.2.2 (Ext.size hE))⟩) ⟨E0, p3, p4, p5, hx1, hx2, hx3, Nat.le_refl _⟩ (by kernel_rfl) (by kernel_rfl) (by kernel_rfl) (by kernel_rfl) (A := ?A18) ?hA18 ?howe18 ?hfin18
       case hA18 =>
        intro vs
        simp only [putAll, Act.put, List.setIfInBounds_toArray, List.set_cons_zero, List.set_cons_succ, Nat.zero_add, Nat.reduceAdd]
        exact rfl
       case howe18 =>
        clear E0 p3 p4 p5 hx1 hx2 hx3
        intro hf
        refine ⟨owesE 0 [] hf rfl (by kernel_rfl) ?_, owesE 1 [0] hf rfl (by kernel_rfl) ?_, owesE 2 [1] hf rfl (by kernel_rfl) ?_, owesE 3 [1] hf rfl (by kernel_rfl) ?_, owesE 4 [1, 2, 3] hf rfl (by kernel_rfl) ?_, owesE 5 [1] hf rfl (by kernel_rfl) ?_, owesE 6 [1] hf rfl (by kernel_rfl) ?_, owesE 7 [1, 5, 6] hf rfl (by kernel_rfl) ?_, owesE 8 [1, 4, 7] hf rfl (by kernel_rfl) ?_, owesE 9 [1] hf rfl (by kernel_rfl) ?_, owesE 10 [1, 8, 9] hf rfl (by kernel_rfl) ?_, owesE 11 [1, 10] hf rfl (by kernel_rfl) ?_, owesE 12 [11] hf rfl (by kernel_rfl) ?_, owesE 13 [12] hf rfl (by kernel_rfl) ?_, owesE 14 [12] hf rfl (by kernel_rfl) ?_, owesE 15 [12, 13, 14] hf rfl (by kernel_rfl) ?_, owesE 16 [12] hf rfl (by kernel_rfl) ?_, owesE 17 [12, 15, 16] hf rfl (by kernel_rfl) ?_, owesE 18 [12] hf rfl (by kernel_rfl) ?_, owesE 19 [12, 17, 18] hf rfl (by kernel_rfl) ?_, owesE 20 [12, 19] hf rfl (by kernel_rfl) ?_, owesE 21 [20] hf rfl (by kernel_rfl) ?_, owesE 22 [21] hf rfl (by kernel_rfl) ?_, owesE 23 [21, 22] hf rfl (by kernel_rfl) ?_, owesE 24 [21, 23] hf rfl (by kernel_rfl) ?_, owesE 25 [24] hf rfl (by kernel_rfl) ?_, owesE 26 [24] hf rfl (by kernel_rfl) ?_, owesE 27 [24] hf rfl (by kernel_rfl) ?_, owesE 28 [24] hf rfl (by kernel_rfl) ?_, owesE 29 [24] hf rfl (by kernel_rfl) ?_, owesE 30 [24] hf rfl (by kernel_rfl) ?_, owesE 31 [24] hf rfl (by kernel_rfl) ?_, owesE 32 [24] hf rfl (by kernel_rfl) ?_, owesE 33 [24] hf rfl (by kernel_rfl) ?_, owesE 34 [21, 24, 33] hf rfl (by kernel_rfl) ?_, owesE 35 [21, 34] hf rfl (by kernel_rfl) ?_, owesE 36 [35] hf rfl (by kernel_rfl) ?_, trivial⟩
        all_goals intro vs W hS hp hx KO hKO
        all_goals simp only [Act.put, List.setIfInBounds_toArray, List.set_cons_zero, List.set_cons_succ] at hKO
        ·go_simp
         refine (Try.alive05 _).mono ?_
         rintro e W1 ⟨rfl, hE⟩
         exact hKO _ W1 hE rfl
        ·have e0 := isOf hp.1
         simp only [e0] at hKO
         go_simp
         exact hKO _ W (Ext.refl W) rfl
        ·have e1 := isOf hp.1
         simp only [e1] at hKO
         have fc0 := hS.2.1.cell0
         have fc1 := hS.2.1.cell1
         have fc2 := hS.2.1.cell2
         go_simp
         exact hKO _ W (Ext.refl W) rfl
        ·have e1 := isOf hp.1
         simp only [e1] at hKO
         have fc0 := hS.2.2.2.1.cell0
         have fc1 := hS.2.2.2.1.cell1
         have fc2 := hS.2.2.2.1.cell2
         go_simp
         exact hKO _ W (Ext.refl W) rfl
        ·have e1 := isOf hp.1
         have e2 := isOf hp.2.1
         have e3 := isOf hp.2.2.1
         simp only [e1, e2, e3] at hKO
         go_simp
         refine (Try.ratAdd (hS.2.2.2.2.1) (hS.2.2.2.2.2.2.1) s1 s3 (by omega)).mono ?_
         rintro e W1 ⟨v, rfl, hv, hE⟩
         exact hKO _ W1 hE hv
        ·have e1 := isOf hp.1
         simp only [e1] at hKO
         have fc0 := hS.2.2.1.cell0
         have fc1 := hS.2.2.1.cell1
         have fc2 := hS.2.2.1.cell2
         go_simp
         exact hKO _ W (Ext.refl W) rfl
        ·have e1 := isOf hp.1
         simp only [e1] at hKO
         have fc0 := hS.2.2.2.1.cell0
         have fc1 := hS.2.2.2.1.cell1
         have fc2 := hS.2.2.2.1.cell2
         go_simp
         exact hKO _ W (Ext.refl W) rfl
        ·have e1 := isOf hp.1
         have e5 := isOf hp.2.1
         have e6 := isOf hp.2.2.1
         simp only [e1, e5, e6] at hKO
         go_simp
         refine (Try.ratAdd (hS.2.2.2.2.2.1) (hS.2.2.2.2.2.2.1) s2 s3 (by omega)).mono ?_
         rintro e W1 ⟨v, rfl, hv, hE⟩
         exact hKO _ W1 hE hv
        ·have e1 := isOf hp.1
         have q4 := hp.2.1
         have q7 := hp.2.2.1
         simp only [e1] at hKO
         go_simp
         refine (Try.ratCmpR q4 q7 SA.out SB.out (by omega) C4.out).mono ?_
         rintro e W1 ⟨rfl, hE⟩
         exact hKO _ W1 hE rfl
        ·have e1 := isOf hp.1
         simp only [e1] at hKO
         go_simp
         exact hKO _ W (Ext.refl W) rfl
        ·have e1 := isOf hp.1
         have e8 := isOf hp.2.1
         have e9 := isOf hp.2.2.1
         simp only [e1, e8, e9] at hKO
         go_simp
         exact hKO _ W (Ext.refl W) rfl
        ·have e1 := isOf hp.1
         have e10 := isOf hp.2.1
         simp only [e1, e10] at hKO
         go_simp
         exact hKO _ W (Ext.refl W) rfl
        ·have e11 := isOf hp.1
         simp only [e11] at hKO
         go_simp
         exact hKO _ W (Ext.refl W) rfl
        ·have e12 := isOf hp.1
         simp only [e12] at hKO
         have fc0 := hS.2.1.cell0
         have fc1 := hS.2.1.cell1
         have fc2 := hS.2.1.cell2
         go_simp
         exact hKO _ W (Ext.refl W) rfl
        ·have e12 := isOf hp.1
         simp only [e12] at hKO
         have fc0 := hS.2.2.1.cell0
         have fc1 := hS.2.2.1.cell1
         have fc2 := hS.2.2.1.cell2
         go_simp
         exact hKO _ W (Ext.refl W) rfl
        ·have e12 := isOf hp.1
         have e13 := isOf hp.2.1
         have e14 := isOf hp.2.2.1
         simp only [e12, e13, e14] at hKO
         go_simp
         refine (Try.ratSub (hS.2.2.2.2.1) (hS.2.2.2.2.2.1) s1 s2 (by omega)).mono ?_
         rintro e W1 ⟨v, rfl, hv, hE⟩
         exact hKO _ W1 hE hv
        ·have e12 := isOf hp.1
         simp only [e12] at hKO
         go_simp
         refine (Try.ratOf 0 _ (by omega) (by omega)).mono ?_
         rintro e W1 ⟨v, rfl, hv, hE⟩
         exact hKO _ W1 hE hv
        ·have e12 := isOf hp.1
         have q15 := hp.2.1
         have q16 := hp.2.2.1
         simp only [e12] at hKO
         go_simp
         refine (Try.ratCmpR q15 q16 SC.out S0.out (by omega) C5.out).mono ?_
         rintro e W1 ⟨rfl, hE⟩
         exact hKO _ W1 hE rfl
        ·have e12 := isOf hp.1
         simp only [e12] at hKO
         go_simp
         exact hKO _ W (Ext.refl W) rfl
        ·have e12 := isOf hp.1
         have e17 := isOf hp.2.1
         have e18 := isOf hp.2.2.1
         simp only [e12, e17, e18] at hKO
         go_simp
         exact hKO _ W (Ext.refl W) rfl
        ·have e12 := isOf hp.1
         have e19 := isOf hp.2.1
         simp only [e12, e19] at hKO
         go_simp
         exact hKO _ W (Ext.refl W) rfl
        ·have e20 := isOf hp.1
         simp only [e20] at hKO
         go_simp
         exact hKO _ W (Ext.refl W) rfl
        ·have e21 := isOf hp.1
         simp only [e21] at hKO
         go_simp
         exact hKO _ W (Ext.refl W) rfl
        ·have e21 := isOf hp.1
         have e22 := isOf hp.2.1
         simp only [e21, e22] at hKO
         go_simp
         exact hKO _ W (Ext.refl W) rfl
        ·have e21 := isOf hp.1
         have e23 := isOf hp.2.1
         simp only [e21, e23] at hKO
         go_simp
         exact hKO _ W (Ext.refl W) rfl
        ·have e24 := isOf hp.1
         simp only [e24] at hKO
         go_simp
         exact hKO _ W (Ext.refl W) rfl
        ·have e24 := isOf hp.1
         simp only [e24] at hKO
         go_simp
         exact hKO _ W (Ext.refl W) rfl
        ·have e24 := isOf hp.1
         simp only [e24] at hKO
         go_simp
         exact hKO _ W (Ext.refl W) rfl
        ·have e24 := isOf hp.1
         simp only [e24] at hKO
         go_simp
         exact hKO _ W (Ext.refl W) rfl
        ·have e24 := isOf hp.1
         simp only [e24] at hKO
         go_simp
         exact hKO _ W (Ext.refl W) rfl
        ·have e24 := isOf hp.1
         simp only [e24] at hKO
         go_simp
         exact hKO _ W (Ext.refl W) rfl
        ·have e24 := isOf hp.1
         simp only [e24] at hKO
         go_simp
         exact hKO _ W (Ext.refl W) rfl
        ·have e24 := isOf hp.1
         simp only [e24] at hKO
         go_simp
         exact hKO _ W (Ext.refl W) rfl
        ·have e24 := isOf hp.1
         simp only [e24] at hKO
         go_simp
         exact hKO _ W (Ext.refl W) rfl
        ·have e21 := isOf hp.1
         have e24 := isOf hp.2.1
         have e33 := isOf hp.2.2.1
         simp only [e21, e24, e33] at hKO
         go_simp
         exact hKO _ W (Ext.refl W) rfl
        ·have e21 := isOf hp.1
         have e34 := isOf hp.2.1
         simp only [e21, e34] at hKO
         go_simp
         exact hKO _ W (Ext.refl W) rfl
        ·have e35 := isOf hp.1
         simp only [e35] at hKO
         go_simp
         exact hKO _ W (Ext.refl W) rfl
       intro vs W18 hS hp
       clear szw18 E0 p3 p4 p5 hx1 hx2 hx3
       obtain ⟨E0, p3, p4, p5, hx1, hx2, hx3, sz18⟩ := hS
       obtain ⟨h18_0, h18_1, h18_2, h18_3, h18_4, h18_5, h18_6, h18_7, h18_8, h18_9, h18_10, h18_11, h18_12, h18_13, h18_14, h18_15, h18_16, h18_17, h18_18, h18_19, h18_20, h18_21, h18_22, h18_23, h18_24, h18_25, h18_26, h18_27, h18_28, h18_29, h18_30, h18_31, h18_32, h18_33, h18_34, h18_35, h18_36, -⟩ := hp
       replace h18_0 : vs 0 = .bool true := h18_0
       replace h18_1 : vs 1 = .bool true := h18_1
       replace h18_2 : vs 2 = .agg #[.bool b1, .slice a1 n1 c1, .slice d1 m1 o1] := h18_2
       replace h18_3 : vs 3 = .agg #[.bool true, .slice a3 n3 c3, .slice d3 m3 o3] := h18_3
       replace h18_5 : vs 5 = .agg #[.bool b2, .slice a2 n2 c2, .slice d2 m2 o2] := h18_5
       replace h18_6 : vs 6 = .agg #[.bool true, .slice a3 n3 c3, .slice d3 m3 o3] := h18_6
       replace h18_8 : vs 8 = .int .i64 c := h18_8
       replace h18_9 : vs 9 = .int .i64 c := h18_9
       replace h18_10 : vs 10 = .bool true := h18_10
       replace h18_11 : vs 11 = .bool true := h18_11
       replace h18_12 : vs 12 = .bool true := h18_12
       replace h18_13 : vs 13 = .agg #[.bool b1, .slice a1 n1 c1, .slice d1 m1 o1] := h18_13
       replace h18_14 : vs 14 = .agg #[.bool b2, .slice a2 n2 c2, .slice d2 m2 o2] := h18_14
       replace h18_17 : vs 17 = .int .i64 c := h18_17
       replace h18_18 : vs 18 = .int .i64 c := h18_18
       replace h18_19 : vs 19 = .bool true := h18_19
       replace h18_20 : vs 20 = .bool true := h18_20
       replace h18_21 : vs 21 = .bool true := h18_21
       replace h18_22 : vs 22 = .bool false := h18_22
       replace h18_23 : vs 23 = .bool true := h18_23
       replace h18_24 : vs 24 = .bool true := h18_24
       replace h18_25 : vs 25 = undef := h18_25
       replace h18_26 : vs 26 = undef := h18_26
       replace h18_27 : vs 27 = undef := h18_27
       replace h18_28 : vs 28 = undef := h18_28
       replace h18_29 : vs 29 = undef := h18_29
       replace h18_30 : vs 30 = undef := h18_30
       replace h18_31 : vs 31 = undef := h18_31
       replace h18_32 : vs 32 = undef := h18_32
       replace h18_33 : vs 33 = undef := h18_33
       replace h18_34 : vs 34 = .bool true := h18_34
       replace h18_35 : vs 35 = .bool true := h18_35
       replace h18_36 : vs 36 = .bool true := h18_36
       simp only [h18_0, h18_1, h18_2, h18_3, h18_5, h18_6, h18_8, h18_9, h18_10, h18_11, h18_12, h18_13, h18_14, h18_17, h18_18, h18_19, h18_20, h18_21, h18_22, h18_23, h18_24, h18_25, h18_26, h18_27, h18_28, h18_29, h18_30, h18_31, h18_32, h18_33, h18_34, h18_35, h18_36]
       replace h18_4 : Rw W18 (vs 4) (x + z) := h18_4
       generalize vs 4 = u18_4 at h18_4 ⊢
       replace h18_7 : Rw W18 (vs 7) (y + z) := h18_7
       generalize vs 7 = u18_7 at h18_7 ⊢
       replace h18_15 : Rw W18 (vs 15) (x - y) := h18_15
       generalize vs 15 = u18_15 at h18_15 ⊢
       replace h18_16 : Rw W18 (vs 16) (((0 : Int) : Rat)) := h18_16
       generalize vs 16 = u18_16 at h18_16 ⊢
       clear h18_0 h18_1 h18_2 h18_3 h18_5 h18_6 h18_8 h18_9 h18_10 h18_11 h18_12 h18_13 h18_14 h18_17 h18_18 h18_19 h18_20 h18_21 h18_22 h18_23 h18_24 h18_25 h18_26 h18_27 h18_28 h18_29 h18_30 h18_31 h18_32 h18_33 h18_34 h18_35 h18_36
       have kp3_0 := p3.cell0
       have kp3_1 := p3.cell1
       have kp3_2 := p3.cell2
       have kp4_0 := p4.cell0
       have kp4_1 := p4.cell1
       have kp4_2 := p4.cell2
       have kp5_0 := p5.cell0
       have kp5_1 := p5.cell1
       have kp5_2 := p5.cell2
       go_wp2
       go_ret
       exact ⟨rfl, E0⟩
     ·have hn0I : ¬ (0 : Int) < (n3 : Int) := by omega
      have hn0N : ¬ 0 < n3 := by omega
      clear hz0 hb3 hn3
      have kp3_0 := p3.cell0
      have kp3_1 := p3.cell1
      have kp3_2 := p3.cell2
      have kp4_0 := p4.cell0
      have kp4_1 := p4.cell1
      have kp4_2 := p4.cell2
      have kp5_0 := p5.cell0
      have kp5_1 := p5.cell1
      have kp5_2 := p5.cell2
      go_upto_region 6 with (fail)
      clear kp3_0 kp3_1 kp3_2 kp4_0 kp4_1 kp4_2 kp5_0 kp5_1 kp5_2
      have szw15 := Ext.size E0
      refine region_go [.one fun v _ => v = .pointer (some ⟨w.heap.size + 1 + 1, 0, none⟩),
        .one fun v _ => v = .pointer (some ⟨w.heap.size + 1 + 1, 1, none⟩),
        .one fun v _ => v = .slice a3 n3 c3,
        .one fun v _ => v = .int .i64 (n3 : Int),
        .one fun v _ => v = .bool false,
        .one fun v _ => v = .bool false,
        .one fun v _ => v = undef,
        .one fun v _ => v = undef,
        .one fun v _ => v = undef,
        .one fun v _ => v = undef,
        .one fun v _ => v = .bool false,
        .one fun v _ => v = .bool false]
       (fun W => Ext w W ∧ Bx3 W w.heap.size 35 (.bool b1) (.slice a1 n1 c1) (.slice d1 m1 o1) ∧ Bx3 W (w.heap.size + 1) 35 (.bool b2) (.slice a2 n2 c2) (.slice d2 m2 o2) ∧ Bx3 W (w.heap.size + 1 + 1) 35 (.bool b3) (.slice a3 n3 c3) (.slice d3 m3 o3) ∧ Rw W (.agg #[.bool b1, .slice a1 n1 c1, .slice d1 m1 o1]) x ∧ Rw W (.agg #[.bool b2, .slice a2 n2 c2, .slice d2 m2 o2]) y ∧ Rw W (.agg #[.bool b3, .slice a3 n3 c3, .slice d3 m3 o3]) z ∧ W12.heap.size ≤ W.heap.size) ⟨Good.is _, Good.is _, Good.is _, Good.is _, Good.is _, Good.is _, Good.is _, Good.is _, Good.is _, Good.is _, Good.is _, Good.is _, trivial⟩
       (fun W W1 hS hE => ⟨(Ext.trans hS.1 hE), (hS.2.1.ext hE), (hS.2.2.1.ext hE), (hS.2.2.2.1.ext hE), (hS.2.2.2.2.1.ext hE), (hS.2.2.2.2.2.1.ext hE), (hS.2.2.2.2.2.2.1.ext hE), (Nat.le_trans hS.2.2.2.2.2.2.2 (Ext.size hE))⟩) ⟨E0, p3, p4, p5, hx1, hx2, hx3, Nat.le_refl _⟩ (by kernel_rfl) (by kernel_rfl) (by kernel_rfl) (by kernel_rfl) (A := ?A15) ?hA15 ?howe15 ?hfin15
      case hA15 =>
       intro vs
       simp only [putAll, Act.put, List.setIfInBounds_toArray, List.set_cons_zero, List.set_cons_succ, Nat.zero_add, Nat.reduceAdd]
       exact rfl
      case howe15 =>
       clear E0 p3 p4 p5 hx1 hx2 hx3
       intro hf
       refine ⟨owesE 0 [] hf rfl (by kernel_rfl) ?_, owesE 1 [0] hf rfl (by kernel_rfl) ?_, owesE 2 [1] hf rfl (by kernel_rfl) ?_, owesE 3 [2] hf rfl (by kernel_rfl) ?_, owesE 4 [3] hf rfl (by kernel_rfl) ?_, owesE 5 [4] hf rfl (by kernel_rfl) ?_, owesE 6 [5] hf rfl (by kernel_rfl) ?_, owesE 7 [5] hf rfl (by kernel_rfl) ?_, owesE 8 [5] hf rfl (by kernel_rfl) ?_, owesE 9 [5] hf rfl (by kernel_rfl) ?_, owesE 10 [5, 9] hf rfl (by kernel_rfl) ?_, owesE 11 [10] hf rfl (by kernel_rfl) ?_, trivial⟩
       all_goals intro vs W hS hp hx KO hKO
       all_goals simp only [Act.put, List.setIfInBounds_toArray, List.set_cons_zero, List.set_cons_succ] at hKO
       ·go_simp
        exact hKO _ W (Ext.refl W) rfl
       ·have e0 := isOf hp.1
        simp only [e0] at hKO
        go_simp
        exact hKO _ W (Ext.refl W) rfl
       ·have e1 := isOf hp.1
        simp only [e1] at hKO
        have fc1 := hS.2.2.2.1.cell1
        go_simp
        exact hKO _ W (Ext.refl W) rfl
       ·have e2 := isOf hp.1
        simp only [e2] at hKO
        go_simp
        exact hKO _ W (Ext.refl W) rfl
       ·have e3 := isOf hp.1
        simp only [e3] at hKO
        go_simp
        exact hKO _ W (Ext.refl W) rfl
       ·have e4 := isOf hp.1
        simp only [e4] at hKO
        go_simp
        exact hKO _ W (Ext.refl W) rfl
       ·have e5 := isOf hp.1
        simp only [e5] at hKO
        go_simp
        exact hKO _ W (Ext.refl W) rfl
       ·have e5 := isOf hp.1
        simp only [e5] at hKO
        go_simp
        exact hKO _ W (Ext.refl W) rfl
       ·have e5 := isOf hp.1
        simp only [e5] at hKO
        go_simp
        exact hKO _ W (Ext.refl W) rfl
       ·have e5 := isOf hp.1
        simp only [e5] at hKO
        go_simp
        exact hKO _ W (Ext.refl W) rfl
       ·have e5 := isOf hp.1
        have e9 := isOf hp.2.1
        simp only [e5, e9] at hKO
        go_simp
        exact hKO _ W (Ext.refl W) rfl
       ·have e10 := isOf hp.1
        simp only [e10] at hKO
        go_simp
        exact hKO _ W (Ext.refl W) rfl
      intro vs W15 hS hp
      clear szw15 E0 p3 p4 p5 hx1 hx2 hx3
      obtain ⟨E0, p3, p4, p5, hx1, hx2, hx3, sz15⟩ := hS
      obtain ⟨h15_0, h15_1, h15_2, h15_3, h15_4, h15_5, h15_6, h15_7, h15_8, h15_9, h15_10, h15_11, -⟩ := hp
      replace h15_0 : vs 0 = .pointer (some ⟨w.heap.size + 1 + 1, 0, none⟩) := h15_0
      replace h15_1 : vs 1 = .pointer (some ⟨w.heap.size + 1 + 1, 1, none⟩) := h15_1
      replace h15_2 : vs 2 = .slice a3 n3 c3 := h15_2
      replace h15_3 : vs 3 = .int .i64 (n3 : Int) := h15_3
      replace h15_4 : vs 4 = .bool false := h15_4
      replace h15_5 : vs 5 = .bool false := h15_5
      replace h15_6 : vs 6 = undef := h15_6
      replace h15_7 : vs 7 = undef := h15_7
      replace h15_8 : vs 8 = undef := h15_8
      replace h15_9 : vs 9 = undef := h15_9
      replace h15_10 : vs 10 = .bool false := h15_10
      replace h15_11 : vs 11 = .bool false := h15_11
      simp only [h15_0, h15_1, h15_2, h15_3, h15_4, h15_5, h15_6, h15_7, h15_8, h15_9, h15_10, h15_11]
      clear h15_0 h15_1 h15_2 h15_3 h15_4 h15_5 h15_6 h15_7 h15_8 h15_9 h15_10 h15_11
      have kp3_0 := p3.cell0
      have kp3_1 := p3.cell1
      have kp3_2 := p3.cell2
      have kp4_0 := p4.cell0
      have kp4_1 := p4.cell1
      have kp4_2 := p4.cell2
      have kp5_0 := p5.cell0
      have kp5_1 := p5.cell1
      have kp5_2 := p5.cell2
      go_upto_region 7 with (fail)
      clear kp3_0 kp3_1 kp3_2 kp4_0 kp4_1 kp4_2 kp5_0 kp5_1 kp5_2
      have szw16 := Ext.size E0
      refine region_go [.one fun v _ => v = .bool true,
        .one fun v _ => v = .bool true,
        .one fun v _ => v = .agg #[.bool b1, .slice a1 n1 c1, .slice d1 m1 o1],
        .one fun v _ => v = .agg #[.bool b3, .slice a3 n3 c3, .slice d3 m3 o3],
        .one fun v W => Rw W v (x + z),
        .one fun v _ => v = .agg #[.bool b2, .slice a2 n2 c2, .slice d2 m2 o2],
        .one fun v _ => v = .agg #[.bool b3, .slice a3 n3 c3, .slice d3 m3 o3],
        .one fun v W => Rw W v (y + z),
        .one fun v _ => v = .int .i64 c,
        .one fun v _ => v = .int .i64 c,
        .one fun v _ => v = .bool true,
        .one fun v _ => v = .bool true,
        .one fun v _ => v = .bool true,
        .one fun v _ => v = .agg #[.bool b1, .slice a1 n1 c1, .slice d1 m1 o1],
        .one fun v _ => v = .agg #[.bool b2, .slice a2 n2 c2, .slice d2 m2 o2],
        .one fun v W => Rw W v (x - y),
        .one fun v W => Rw W v (((0 : Int) : Rat)),
        .one fun v _ => v = .int .i64 c,
        .one fun v _ => v = .int .i64 c,
        .one fun v _ => v = .bool true,
        .one fun v _ => v = .bool true,
        .one fun v _ => v = .bool true,
        .one fun v _ => v = .bool false,
        .one fun v _ => v = .bool true,
        .one fun v _ => v = .bool true,
        .one fun v _ => v = undef,
        .one fun v _ => v = undef,
        .one fun v _ => v = undef,
        .one fun v _ => v = undef,
        .one fun v _ => v = undef,
        .one fun v _ => v = undef,
        .one fun v _ => v = undef,
        .one fun v _ => v = undef,
        .one fun v _ => v = undef,
        .one fun v _ => v = .bool true,
        .one fun v _ => v = .bool true,
        .one fun v _ => v = .bool true]
       (fun W => Ext w W ∧ Bx3 W w.heap.size 35 (.bool b1) (.slice a1 n1 c1) (.slice d1 m1 o1) ∧ Bx3 W (w.heap.size + 1) 35 (.bool b2) (.slice a2 n2 c2) (.slice d2 m2 o2) ∧ Bx3 W (w.heap.size + 1 + 1) 35 (.bool b3) (.slice a3 n3 c3) (.slice d3 m3 o3) ∧ Rw W (.agg #[.bool b1, .slice a1 n1 c1, .slice d1 m1 o1]) x ∧ Rw W (.agg #[.bool b2, .slice a2 n2 c2, .slice d2 m2 o2]) y ∧ Rw W (.agg #[.bool b3, .slice a3 n3 c3, .slice d3 m3 o3]) z ∧ W15.heap.size ≤ W.heap.size) ⟨Good.is _, Good.is _, Good.is _, Good.is _, Good.rat _, Good.is _, Good.is _, Good.rat _, Good.is _, Good.is _, Good.is _, Good.is _, Good.is _, Good.is _, Good.is _, Good.rat _, Good.rat _, Good.is _, Good.is _, Good.is _, Good.is _, Good.is _, Good.is _, Good.is _, Good.is _, Good.is _, Good.is _, Good.is _, Good.is _, Good.is _, Good.is _, Good.is _, Good.is _, Good.is _, Good.is _, Good.is _, Good.is _, trivial⟩
       (fun W W1 hS hE => ⟨(Ext.trans hS.1 hE), (hS.2.1.ext hE), (hS.2.2.1.ext hE), (hS.2.2.2.1.ext hE), (hS.2.2.2.2.1.ext hE), (hS.2.2.2.2.2.1.ext hE), (hS.2.2.2.2.2.2.1.ext hE), (Nat.le_trans hS.2.2.2.2.2.2.2 (Ext.size hE))⟩) ⟨E0, p3, p4, p5, hx1, hx2, hx3, Nat.le_refl _⟩ (by kernel_rfl) (by kernel_rfl) (by kernel_rfl) (by kernel_rfl) (A := ?A16) ?hA16 ?howe16 ?hfin16
      case hA16 =>
       intro vs
       simp only [putAll, Act.put, List.setIfInBounds_toArray, List.set_cons_zero, List.set_cons_succ, Nat.zero_add, Nat.reduceAdd]
       exact rfl
      case howe16 =>
       clear E0 p3 p4 p5 hx1 hx2 hx3
       intro hf
       refine ⟨owesE 0 [] hf rfl (by kernel_rfl) ?_, owesE 1 [0] hf rfl (by kernel_rfl) ?_, owesE 2 [1] hf rfl (by kernel_rfl) ?_, owesE 3 [1] hf rfl (by kernel_rfl) ?_, owesE 4 [1, 2, 3] hf rfl (by kernel_rfl) ?_, owesE 5 [1] hf rfl (by kernel_rfl) ?_, owesE 6 [1] hf rfl (by kernel_rfl) ?_, owesE 7 [1, 5, 6] hf rfl (by kernel_rfl) ?_, owesE 8 [1, 4, 7] hf rfl (by kernel_rfl) ?_, owesE 9 [1] hf rfl (by kernel_rfl) ?_, owesE 10 [1, 8, 9] hf rfl (by kernel_rfl) ?_, owesE 11 [1, 10] hf rfl (by kernel_rfl) ?_, owesE 12 [11] hf rfl (by kernel_rfl) ?_, owesE 13 [12] hf rfl (by kernel_rfl) ?_, owesE 14 [12] hf rfl (by kernel_rfl) ?_, owesE 15 [12, 13, 14] hf rfl (by kernel_rfl) ?_, owesE 16 [12] hf rfl (by kernel_rfl) ?_, owesE 17 [12, 15, 16] hf rfl (by kernel_rfl) ?_, owesE 18 [12] hf rfl (by kernel_rfl) ?_, owesE 19 [12, 17, 18] hf rfl (by kernel_rfl) ?_, owesE 20 [12, 19] hf rfl (by kernel_rfl) ?_, owesE 21 [20] hf rfl (by kernel_rfl) ?_, owesE 22 [21] hf rfl (by kernel_rfl) ?_, owesE 23 [21, 22] hf rfl (by kernel_rfl) ?_, owesE 24 [21, 23] hf rfl (by kernel_rfl) ?_, owesE 25 [24] hf rfl (by kernel_rfl) ?_, owesE 26 [24] hf rfl (by kernel_rfl) ?_, owesE 27 [24] hf rfl (by kernel_rfl) ?_, owesE 28 [24] hf rfl (by kernel_rfl) ?_, owesE 29 [24] hf rfl (by kernel_rfl) ?_, owesE 30 [24] hf rfl (by kernel_rfl) ?_, owesE 31 [24] hf rfl (by kernel_rfl) ?_, owesE 32 [24] hf rfl (by kernel_rfl) ?_, owesE 33 [24] hf rfl (by kernel_rfl) ?_, owesE 34 [21, 24, 33] hf rfl (by kernel_rfl) ?_, owesE 35 [21, 34] hf rfl (by kernel_rfl) ?_, owesE 36 [35] hf rfl (by kernel_rfl) ?_, trivial⟩
       all_goals intro vs W hS hp hx KO hKO
       all_goals simp only [Act.put, List.setIfInBounds_toArray, List.set_cons_zero, List.set_cons_succ] at hKO
       ·go_simp
        refine (Try.alive05 _).mono ?_
        rintro e W1 ⟨rfl, hE⟩
        exact hKO _ W1 hE rfl
       ·have e0 := isOf hp.1
        simp only [e0] at hKO
        go_simp
        exact hKO _ W (Ext.refl W) rfl
       ·have e1 := isOf hp.1
        simp only [e1] at hKO
        have fc0 := hS.2.1.cell0
        have fc1 := hS.2.1.cell1
        have fc2 := hS.2.1.cell2
        go_simp
        exact hKO _ W (Ext.refl W) rfl
       ·have e1 := isOf hp.1
        simp only [e1] at hKO
        have fc0 := hS.2.2.2.1.cell0
        have fc1 := hS.2.2.2.1.cell1
        have fc2 := hS.2.2.2.1.cell2
        go_simp
        exact hKO _ W (Ext.refl W) rfl
       ·have e1 := isOf hp.1
        have e2 := isOf hp.2.1
        have e3 := isOf hp.2.2.1
        simp only [e1, e2, e3] at hKO
        go_simp
        refine (Try.ratAdd (hS.2.2.2.2.1) (hS.2.2.2.2.2.2.1) s1 s3 (by omega)).mono ?_
        rintro e W1 ⟨v, rfl, hv, hE⟩
        exact hKO _ W1 hE hv
       ·have e1 := isOf hp.1
        simp only [e1] at hKO
        have fc0 := hS.2.2.1.cell0
        have fc1 := hS.2.2.1.cell1
        have fc2 := hS.2.2.1.cell2
        go_simp
        exact hKO _ W (Ext.refl W) rfl
       ·have e1 := isOf hp.1
        simp only [e1] at hKO
        have fc0 := hS.2.2.2.1.cell0
        have fc1 := hS.2.2.2.1.cell1
        have fc2 := hS.2.2.2.1.cell2
        go_simp
        exact hKO _ W (Ext.refl W) rfl
       ·have e1 := isOf hp.1
        have e5 := isOf hp.2.1
        have e6 := isOf hp.2.2.1
        simp only [e1, e5, e6] at hKO
        go_simp
        refine (Try.ratAdd (hS.2.2.2.2.2.1) (hS.2.2.2.2.2.2.1) s2 s3 (by omega)).mono ?_
        rintro e W1 ⟨v, rfl, hv, hE⟩
        exact hKO _ W1 hE hv
       ·have e1 := isOf hp.1
        have q4 := hp.2.1
        have q7 := hp.2.2.1
        simp only [e1] at hKO
        go_simp
        refine (Try.ratCmpR q4 q7 SA.out SB.out (by omega) C4.out).mono ?_
        rintro e W1 ⟨rfl, hE⟩
        exact hKO _ W1 hE rfl
       ·have e1 := isOf hp.1
        simp only [e1] at hKO
        go_simp
        exact hKO _ W (Ext.refl W) rfl
       ·have e1 := isOf hp.1
        have e8 := isOf hp.2.1
        have e9 := isOf hp.2.2.1
        simp only [e1, e8, e9] at hKO
        go_simp
        exact hKO _ W (Ext.refl W) rfl
       ·have e1 := isOf hp.1
        have e10 := isOf hp.2.1
        simp only [e1, e10] at hKO
        go_simp
        exact hKO _ W (Ext.refl W) rfl
       ·have e11 := isOf hp.1
        simp only [e11] at hKO
        go_simp
        exact hKO _ W (Ext.refl W) rfl
       ·have e12 := isOf hp.1
        simp only [e12] at hKO
        have fc0 := hS.2.1.cell0
        have fc1 := hS.2.1.cell1
        have fc2 := hS.2.1.cell2
        go_simp
        exact hKO _ W (Ext.refl W) rfl
       ·have e12 := isOf hp.1
        simp only [e12] at hKO
        have fc0 := hS.2.2.1.cell0
        have fc1 := hS.2.2.1.cell1
        have fc2 := hS.2.2.1.cell2
        go_simp
        exact hKO _ W (Ext.refl W) rfl
       ·have e12 := isOf hp.1
        have e13 := isOf hp.2.1
        have e14 := isOf hp.2.2.1
        simp only [e12, e13, e14] at hKO
        go_simp
        refine (Try.ratSub (hS.2.2.2.2.1) (hS.2.2.2.2.2.1) s1 s2 (by omega)).mono ?_
        rintro e W1 ⟨v, rfl, hv, hE⟩
        exact hKO _ W1 hE hv
       ·have e12 := isOf hp.1
        simp only [e12] at hKO
        go_simp
        refine (Try.ratOf 0 _ (by omega) (by omega)).mono ?_
        rintro e W1 ⟨v, rfl, hv, hE⟩
        exact hKO _ W1 hE hv
       ·have e12 := isOf hp.1
        have q15 := hp.2.1
        have q16 := hp.2.2.1
        simp only [e12] at hKO
        go_simp
        refine (Try.ratCmpR q15 q16 SC.out S0.out (by omega) C5.out).mono ?_
        rintro e W1 ⟨rfl, hE⟩
        exact hKO _ W1 hE rfl
       ·have e12 := isOf hp.1
        simp only [e12] at hKO
        go_simp
        exact hKO _ W (Ext.refl W) rfl
       ·have e12 := isOf hp.1
        have e17 := isOf hp.2.1
        have e18 := isOf hp.2.2.1
        simp only [e12, e17, e18] at hKO
        go_simp
        exact hKO _ W (Ext.refl W) rfl
       ·have e12 := isOf hp.1
        have e19 := isOf hp.2.1
        simp only [e12, e19] at hKO
        go_simp
        exact hKO _ W (Ext.refl W) rfl
       ·have e20 := isOf hp.1
        simp only [e20] at hKO
        go_simp
        exact hKO _ W (Ext.refl W) rfl
       ·have e21 := isOf hp.1
        simp only [e21] at hKO
        go_simp
        exact hKO _ W (Ext.refl W) rfl
       ·have e21 := isOf hp.1
        have e22 := isOf hp.2.1
        simp only [e21, e22] at hKO
        go_simp
        exact hKO _ W (Ext.refl W) rfl
       ·have e21 := isOf hp.1
        have e23 := isOf hp.2.1
        simp only [e21, e23] at hKO
        go_simp
        exact hKO _ W (Ext.refl W) rfl
       ·have e24 := isOf hp.1
        simp only [e24] at hKO
        go_simp
        exact hKO _ W (Ext.refl W) rfl
       ·have e24 := isOf hp.1
        simp only [e24] at hKO
        go_simp
        exact hKO _ W (Ext.refl W) rfl
       ·have e24 := isOf hp.1
        simp only [e24] at hKO
        go_simp
        exact hKO _ W (Ext.refl W) rfl
       ·have e24 := isOf hp.1
        simp only [e24] at hKO
        go_simp
        exact hKO _ W (Ext.refl W) rfl
       ·have e24 := isOf hp.1
        simp only [e24] at hKO
        go_simp
        exact hKO _ W (Ext.refl W) rfl
       ·have e24 := isOf hp.1
        simp only [e24] at hKO
        go_simp
        exact hKO _ W (Ext.refl W) rfl
       ·have e24 := isOf hp.1
        simp only [e24] at hKO
        go_simp
        exact hKO _ W (Ext.refl W) rfl
       ·have e24 := isOf hp.1
        simp only [e24] at hKO
        go_simp
        exact hKO _ W (Ext.refl W) rfl
       ·have e24 := isOf hp.1
        simp only [e24] at hKO
        go_simp
        exact hKO _ W (Ext.refl W) rfl
       ·have e21 := isOf hp.1
        have e24 := isOf hp.2.1
        have e33 := isOf hp.2.2.1
        simp only [e21, e24, e33] at hKO
        go_simp
        exact hKO _ W (Ext.refl W) rfl
       ·have e21 := isOf hp.1
        have e34 := isOf hp.2.1
        simp only [e21, e34] at hKO
        go_simp
        exact hKO _ W (Ext.refl W) rfl
       ·have e35 := isOf hp.1
        simp only [e35] at hKO
        go_simp
        exact hKO _ W (Ext.refl W) rfl
      intro vs W16 hS hp
      clear szw16 E0 p3 p4 p5 hx1 hx2 hx3
      obtain ⟨E0, p3, p4, p5, hx1, hx2, hx3, sz16⟩ := hS
      obtain ⟨h16_0, h16_1, h16_2, h16_3, h16_4, h16_5, h16_6, h16_7, h16_8, h16_9, h16_10, h16_11, h16_12, h16_13, h16_14, h16_15, h16_16, h16_17, h16_18, h16_19, h16_20, h16_21, h16_22, h16_23, h16_24, h16_25, h16_26, h16_27, h16_28, h16_29, h16_30, h16_31, h16_32, h16_33, h16_34, h16_35, h16_36, -⟩ := hp
      replace h16_0 : vs 0 = .bool true := h16_0
      replace h16_1 : vs 1 = .bool true := h16_1
      replace h16_2 : vs 2 = .agg #[.bool b1, .slice a1 n1 c1, .slice d1 m1 o1] := h16_2
      replace h16_3 : vs 3 = .agg #[.bool b3, .slice a3 n3 c3, .slice d3 m3 o3] := h16_3
      replace h16_5 : vs 5 = .agg #[.bool b2, .slice a2 n2 c2, .slice d2 m2 o2] := h16_5
      replace h16_6 : vs 6 = .agg #[.bool b3, .slice a3 n3 c3, .slice d3 m3 o3] := h16_6
      replace h16_8 : vs 8 = .int .i64 c := h16_8
      replace h16_9 : vs 9 = .int .i64 c := h16_9
      replace h16_10 : vs 10 = .bool true := h16_10
      replace h16_11 : vs 11 = .bool true := h16_11
      replace h16_12 : vs 12 = .bool true := h16_12
      replace h16_13 : vs 13 = .agg #[.bool b1, .slice a1 n1 c1, .slice d1 m1 o1] := h16_13
      replace h16_14 : vs 14 = .agg #[.bool b2, .slice a2 n2 c2, .slice d2 m2 o2] := h16_14
      replace h16_17 : vs 17 = .int .i64 c := h16_17
      replace h16_18 : vs 18 = .int .i64 c := h16_18
      replace h16_19 : vs 19 = .bool true := h16_19
      replace h16_20 : vs 20 = .bool true := h16_20
      replace h16_21 : vs 21 = .bool true := h16_21
      replace h16_22 : vs 22 = .bool false := h16_22
      replace h16_23 : vs 23 = .bool true := h16_23
      replace h16_24 : vs 24 = .bool true := h16_24
      replace h16_25 : vs 25 = undef := h16_25
      replace h16_26 : vs 26 = undef := h16_26
      replace h16_27 : vs 27 = undef := h16_27
      replace h16_28 : vs 28 = undef := h16_28
      replace h16_29 : vs 29 = undef := h16_29
      replace h16_30 : vs 30 = undef := h16_30
      replace h16_31 : vs 31 = undef := h16_31
      replace h16_32 : vs 32 = undef := h16_32
      replace h16_33 : vs 33 = undef := h16_33
      replace h16_34 : vs 34 = .bool true := h16_34
      replace h16_35 : vs 35 = .bool true := h16_35
      replace h16_36 : vs 36 = .bool true := h16_36
      simp only [h16_0, h16_1, h16_2, h16_3, h16_5, h16_6, h16_8, h16_9, h16_10, h16_11, h16_12, h16_13, h16_14, h16_17, h16_18, h16_19, h16_20, h16_21, h16_22, h16_23, h16_24, h16_25, h16_26, h16_27, h16_28, h16_29, h16_30, h16_31, h16_32, h16_33, h16_34, h16_35, h16_36]
      replace h16_4 : Rw W16 (vs 4) (x + z) := h16_4
      generalize vs 4 = u16_4 at h16_4 ⊢
      replace h16_7 : Rw W16 (vs 7) (y + z) := h16_7
      generalize vs 7 = u16_7 at h16_7 ⊢
      replace h16_15 : Rw W16 (vs 15) (x - y) := h16_15
      generalize vs 15 = u16_15 at h16_15 ⊢
      replace h16_16 : Rw W16 (vs 16) (((0 : Int) : Rat)) := h16_16
      generalize vs 16 = u16_16 at h16_16 ⊢
      clear h16_0 h16_1 h16_2 h16_3 h16_5 h16_6 h16_8 h16_9 h16_10 h16_11 h16_12 h16_13 h16_14 h16_17 h16_18 h16_19 h16_20 h16_21 h16_22 h16_23 h16_24 h16_25 h16_26 h16_27 h16_28 h16_29 h16_30 h16_31 h16_32 h16_33 h16_34 h16_35 h16_36
      have kp3_0 := p3.cell0
      have kp3_1 := p3.cell1
      have kp3_2 := p3.cell2
      have kp4_0 := p4.cell0
      have kp4_1 := p4.cell1
      have kp4_2 := p4.cell2
      have kp5_0 := p5.cell0
      have kp5_1 := p5.cell1
      have kp5_2 := p5.cell2
      go_wp2
      go_ret
      exact ⟨rfl, E0⟩
    ·obtain hd0 | hd0 : ¬ d ≤ 0 ∨ d ≤ 0 := by omega
     ·have hle : c ≤ 0 := by omega
      have hld : ¬ d ≤ 0 := by omega
      clear hTr
      have kp3_0 := p3.cell0
      have kp3_1 := p3.cell1
      have kp3_2 := p3.cell2
      have kp4_0 := p4.cell0
      have kp4_1 := p4.cell1
      have kp4_2 := p4.cell2
      have kp5_0 := p5.cell0
      have kp5_1 := p5.cell1
      have kp5_2 := p5.cell2
      go_upto_region 4 with (fail)
      clear kp3_0 kp3_1 kp3_2 kp4_0 kp4_1 kp4_2 kp5_0 kp5_1 kp5_2
      have szw19 := Ext.size E0
      refine region_go [.one fun v _ => v = .int .i64 c,
        .one fun v _ => v = .bool false,
        .one fun v _ => v = .bool false,
        .one fun v _ => v = .int .i64 c,
        .one fun v _ => v = .bool false,
        .one fun v _ => v = .bool false,
        .one fun v _ => v = .bool false,
        .one fun v _ => v = .agg #[.bool b2, .slice a2 n2 c2, .slice d2 m2 o2],
        .one fun v _ => v = .agg #[.bool b1, .slice a1 n1 c1, .slice d1 m1 o1],
        .one fun v _ => v = .int .i64 (-c),
        .one fun v _ => v = .int .i64 c,
        .one fun v _ => v = .int .i64 (-c),
        .one fun v _ => v = .bool false,
        .one fun v _ => v = .bool false,
        .one fun v _ => v = .bool false,
        .one fun v _ => v = .int .i64 c,
        .one fun v _ => v = .bool (c == 0),
        .one fun v _ => v = .agg #[.bool b1, .slice a1 n1 c1, .slice d1 m1 o1],
        .one fun v _ => v = .agg #[.bool b2, .slice a2 n2 c2, .slice d2 m2 o2],
        .one fun v _ => v = .bool (c == 0),
        .one fun v _ => v = .bool false,
        .one fun v _ => v = .bool false,
        .one fun v _ => v = .bool false,
        .one fun v _ => v = .int .i64 c,
        .one fun v _ => v = .bool true,
        .one fun v _ => v = .bool true,
        .one fun v _ => v = .agg #[.bool b2, .slice a2 n2 c2, .slice d2 m2 o2],
        .one fun v _ => v = .agg #[.bool b3, .slice a3 n3 c3, .slice d3 m3 o3],
        .one fun v _ => v = .int .i64 d,
        .one fun v _ => v = .bool false,
        .one fun v _ => v = .bool false,
        .one fun v _ => v = .bool false,
        .one fun v _ => v = undef,
        .one fun v _ => v = undef,
        .one fun v _ => v = undef,
        .one fun v _ => v = undef,
        .one fun v _ => v = .bool false,
        .one fun v _ => v = .bool false]
       (fun W => Ext w W ∧ Bx3 W w.heap.size 35 (.bool b1) (.slice a1 n1 c1) (.slice d1 m1 o1) ∧ Bx3 W (w.heap.size + 1) 35 (.bool b2) (.slice a2 n2 c2) (.slice d2 m2 o2) ∧ Bx3 W (w.heap.size + 1 + 1) 35 (.bool b3) (.slice a3 n3 c3) (.slice d3 m3 o3) ∧ Rw W (.agg #[.bool b1, .slice a1 n1 c1, .slice d1 m1 o1]) x ∧ Rw W (.agg #[.bool b2, .slice a2 n2 c2, .slice d2 m2 o2]) y ∧ Rw W (.agg #[.bool b3, .slice a3 n3 c3, .slice d3 m3 o3]) z ∧ W11.heap.size ≤ W.heap.size) ⟨Good.is _, Good.is _, Good.is _, Good.is _, Good.is _, Good.is _, Good.is _, Good.is _, Good.is _, Good.is _, Good.is _, Good.is _, Good.is _, Good.is _, Good.is _, Good.is _, Good.is _, Good.is _, Good.is _, Good.is _, Good.is _, Good.is _, Good.is _, Good.is _, Good.is _, Good.is _, Good.is _, Good.is _, Good.is _, Good.is _, Good.is _, Good.is _, Good.is _, Good.is _, Good.is _, Good.is _, Good.is _, Good.is _, trivial⟩
       (fun W W1 hS hE => ⟨(Ext.trans hS.1 hE), (hS.2.1.ext hE), (hS.2.2.1.ext hE), (hS.2.2.2.1.ext hE), (hS.2.2.2.2.1.ext hE), (hS.2.2.2.2.2.1.ext hE), (hS.2.2.2.2.2.2.1.ext hE), (Nat.le_trans hS.2.2.2.2.2.2.2 (Ext.size hE))⟩) ⟨E0, p3, p4, p5, hx1, hx2, hx3, Nat.le_refl _⟩ (by kernel_rfl) (by kernel_rfl) (by kernel_rfl) (by kernel_rfl) (A := ?A19) ?hA19 ?howe19 ?hfin19
      case hA19 =>
       intro vs
       simp only [putAll, Act.put, List.setIfInBounds_toArray, List.set_cons_zero, List.set_cons_succ, Nat.zero_add, Nat.reduceAdd]
       exact rfl
      case howe19 =>
       clear E0 p3 p4 p5 hx1 hx2 hx3
       intro hf
       refine ⟨owesE 0 [] hf rfl (by kernel_rfl) ?_, owesE 1 [0] hf rfl (by kernel_rfl) ?_, owesE 2 [1] hf rfl (by kernel_rfl) ?_, owesE 3 [2] hf rfl (by kernel_rfl) ?_, owesE 4 [2, 3] hf rfl (by kernel_rfl) ?_, owesE 5 [2, 4] hf rfl (by kernel_rfl) ?_, owesE 6 [5] hf rfl (by kernel_rfl) ?_, owesE 7 [6] hf rfl (by kernel_rfl) ?_, owesE 8 [6] hf rfl (by kernel_rfl) ?_, owesE 9 [6, 7, 8] hf rfl (by kernel_rfl) ?_, owesE 10 [6] hf rfl (by kernel_rfl) ?_, owesE 11 [6, 10] hf rfl (by kernel_rfl) ?_, owesE 12 [6, 9, 11] hf rfl (by kernel_rfl) ?_, owesE 13 [6, 12] hf rfl (by kernel_rfl) ?_, owesE 14 [13] hf rfl (by kernel_rfl) ?_, owesE 15 [14] hf rfl (by kernel_rfl) ?_, owesE 16 [14, 15] hf rfl (by kernel_rfl) ?_, owesE 17 [14] hf rfl (by kernel_rfl) ?_, owesE 18 [14] hf rfl (by kernel_rfl) ?_, owesE 19 [14, 17, 18] hf rfl (by kernel_rfl) ?_, owesE 20 [14, 16, 19] hf rfl (by kernel_rfl) ?_, owesE 21 [14, 20] hf rfl (by kernel_rfl) ?_, owesE 22 [21] hf rfl (by kernel_rfl) ?_, owesE 23 [22] hf rfl (by kernel_rfl) ?_, owesE 24 [22, 23] hf rfl (by kernel_rfl) ?_, owesE 25 [22, 24] hf rfl (by kernel_rfl) ?_, owesE 26 [25] hf rfl (by kernel_rfl) ?_, owesE 27 [25] hf rfl (by kernel_rfl) ?_, owesE 28 [25, 26, 27] hf rfl (by kernel_rfl) ?_, owesE 29 [25, 28] hf rfl (by kernel_rfl) ?_, owesE 30 [22, 25, 29] hf rfl (by kernel_rfl) ?_, owesE 31 [22, 30] hf rfl (by kernel_rfl) ?_, owesE 32 [31] hf rfl (by kernel_rfl) ?_, owesE 33 [31] hf rfl (by kernel_rfl) ?_, owesE 34 [31] hf rfl (by kernel_rfl) ?_, owesE 35 [31] hf rfl (by kernel_rfl) ?_, owesE 36 [22, 31, 35] hf rfl (by kernel_rfl) ?_, owesE 37 [22, 36] hf rfl (by kernel_rfl) ?_, trivial⟩
       all_goals intro vs W hS hp hx KO hKO
       all_goals simp only [Act.put, List.setIfInBounds_toArray, List.set_cons_zero, List.set_cons_succ] at hKO
       ·go_simp
        exact hKO _ W (Ext.refl W) rfl
       ·have e0 := isOf hp.1
        simp only [e0] at hKO
        go_simp
        exact hKO _ W (Ext.refl W) (by first | rfl | exact congrArg Value.bool (decide_eq_false (by omega)))
       ·have e1 := isOf hp.1
        simp only [e1] at hKO
        go_simp
        exact hKO _ W (Ext.refl W) rfl
       ·have e2 := isOf hp.1
        simp only [e2] at hKO
        go_simp
        exact hKO _ W (Ext.refl W) rfl
       ·have e2 := isOf hp.1
        have e3 := isOf hp.2.1
        simp only [e2, e3] at hKO
        go_simp
        exact hKO _ W (Ext.refl W) (by first | rfl | exact congrArg Value.bool (decide_eq_false (by omega)))
       ·have e2 := isOf hp.1
        have e4 := isOf hp.2.1
        simp only [e2, e4] at hKO
        go_simp
        exact hKO _ W (Ext.refl W) rfl
       ·have e5 := isOf hp.1
        simp only [e5] at hKO
        go_simp
        exact hKO _ W (Ext.refl W) rfl
       ·have e6 := isOf hp.1
        simp only [e6] at hKO
        have fc0 := hS.2.2.1.cell0
        have fc1 := hS.2.2.1.cell1
        have fc2 := hS.2.2.1.cell2
        go_simp
        exact hKO _ W (Ext.refl W) rfl
       ·have e6 := isOf hp.1
        simp only [e6] at hKO
        have fc0 := hS.2.1.cell0
        have fc1 := hS.2.1.cell1
        have fc2 := hS.2.1.cell2
        go_simp
        exact hKO _ W (Ext.refl W) rfl
       ·have e6 := isOf hp.1
        have e7 := isOf hp.2.1
        have e8 := isOf hp.2.2.1
        simp only [e6, e7, e8] at hKO
        go_simp
        refine (Try.ratCmpR (hS.2.2.2.2.2.1) (hS.2.2.2.2.1) s2 s1 (by omega) C1.out).mono ?_
        rintro e W1 ⟨rfl, hE⟩
        exact hKO _ W1 hE rfl
       ·have e6 := isOf hp.1
        simp only [e6] at hKO
        go_simp
        exact hKO _ W (Ext.refl W) rfl
       ·have e6 := isOf hp.1
        have e10 := isOf hp.2.1
        simp only [e6, e10] at hKO
        go_simp
        exact hKO _ W (Ext.refl W) rfl
       ·have e6 := isOf hp.1
        have e9 := isOf hp.2.1
        have e11 := isOf hp.2.2.1
        simp only [e6, e9, e11] at hKO
        go_simp
        exact hKO _ W (Ext.refl W) rfl
       ·have e6 := isOf hp.1
        have e12 := isOf hp.2.1
        simp only [e6, e12] at hKO
        go_simp
        exact hKO _ W (Ext.refl W) rfl
       ·have e13 := isOf hp.1
        simp only [e13] at hKO
        go_simp
        exact hKO _ W (Ext.refl W) rfl
       ·have e14 := isOf hp.1
        simp only [e14] at hKO
        go_simp
        exact hKO _ W (Ext.refl W) rfl
       ·have e14 := isOf hp.1
        have e15 := isOf hp.2.1
        simp only [e14, e15] at hKO
        go_simp
        exact hKO _ W (Ext.refl W) rfl
       ·have e14 := isOf hp.1
        simp only [e14] at hKO
        have fc0 := hS.2.1.cell0
        have fc1 := hS.2.1.cell1
        have fc2 := hS.2.1.cell2
        go_simp
        exact hKO _ W (Ext.refl W) rfl
       ·have e14 := isOf hp.1
        simp only [e14] at hKO
        have fc0 := hS.2.2.1.cell0
        have fc1 := hS.2.2.1.cell1
        have fc2 := hS.2.2.1.cell2
        go_simp
        exact hKO _ W (Ext.refl W) rfl
       ·have e14 := isOf hp.1
        have e17 := isOf hp.2.1
        have e18 := isOf hp.2.2.1
        simp only [e14, e17, e18] at hKO
        go_simp
        refine (Try.refRSame (hS.2.2.2.2.1) (hS.2.2.2.2.2.1)).mono ?_
        rintro e W1 ⟨rfl, hE⟩
        rw [hSm.out]
        exact hKO _ W1 hE rfl
       ·have e14 := isOf hp.1
        have e16 := isOf hp.2.1
        have e19 := isOf hp.2.2.1
        simp only [e14, e16, e19] at hKO
        go_simp
        exact hKO _ W (Ext.refl W) rfl
       ·have e14 := isOf hp.1
        have e20 := isOf hp.2.1
        simp only [e14, e20] at hKO
        go_simp
        exact hKO _ W (Ext.refl W) rfl
       ·have e21 := isOf hp.1
        simp only [e21] at hKO
        go_simp
        exact hKO _ W (Ext.refl W) rfl
       ·have e22 := isOf hp.1
        simp only [e22] at hKO
        go_simp
        exact hKO _ W (Ext.refl W) rfl
       ·have e22 := isOf hp.1
        have e23 := isOf hp.2.1
        simp only [e22, e23] at hKO
        go_simp
        exact hKO _ W (Ext.refl W) (by first | rfl | exact congrArg Value.bool (decide_eq_true (by omega)))
       ·have e22 := isOf hp.1
        have e24 := isOf hp.2.1
        simp only [e22, e24] at hKO
        go_simp
        exact hKO _ W (Ext.refl W) rfl
       ·have e25 := isOf hp.1
        simp only [e25] at hKO
        have fc0 := hS.2.2.1.cell0
        have fc1 := hS.2.2.1.cell1
        have fc2 := hS.2.2.1.cell2
        go_simp
        exact hKO _ W (Ext.refl W) rfl
       ·have e25 := isOf hp.1
        simp only [e25] at hKO
        have fc0 := hS.2.2.2.1.cell0
        have fc1 := hS.2.2.2.1.cell1
        have fc2 := hS.2.2.2.1.cell2
        go_simp
        exact hKO _ W (Ext.refl W) rfl
       ·have e25 := isOf hp.1
        have e26 := isOf hp.2.1
        have e27 := isOf hp.2.2.1
        simp only [e25, e26, e27] at hKO
        go_simp
        refine (Try.ratCmpR (hS.2.2.2.2.2.1) (hS.2.2.2.2.2.2.1) s2 s3 (by omega) C2.out).mono ?_
        rintro e W1 ⟨rfl, hE⟩
        exact hKO _ W1 hE rfl
       ·have e25 := isOf hp.1
        have e28 := isOf hp.2.1
        simp only [e25, e28] at hKO
        go_simp
        exact hKO _ W (Ext.refl W) (by first | rfl | exact congrArg Value.bool (decide_eq_false (by omega)))
       ·have e22 := isOf hp.1
        have e25 := isOf hp.2.1
        have e29 := isOf hp.2.2.1
        simp only [e22, e25, e29] at hKO
        go_simp
        exact hKO _ W (Ext.refl W) rfl
       ·have e22 := isOf hp.1
        have e30 := isOf hp.2.1
        simp only [e22, e30] at hKO
        go_simp
        exact hKO _ W (Ext.refl W) rfl
       ·have e31 := isOf hp.1
        simp only [e31] at hKO
        go_simp
        exact hKO _ W (Ext.refl W) rfl
       ·have e31 := isOf hp.1
        simp only [e31] at hKO
        go_simp
        exact hKO _ W (Ext.refl W) rfl
       ·have e31 := isOf hp.1
        simp only [e31] at hKO
        go_simp
        exact hKO _ W (Ext.refl W) rfl
       ·have e31 := isOf hp.1
        simp only [e31] at hKO
        go_simp
        exact hKO _ W (Ext.refl W) rfl
       ·have e22 := isOf hp.1
        have e31 := isOf hp.2.1
        have e35 := isOf hp.2.2.1
        simp only [e22, e31, e35] at hKO
        go_simp
        exact hKO _ W (Ext.refl W) rfl
       ·have e22 := isOf hp.1
        have e36 := isOf hp.2.1
        simp only [e22, e36] at hKO
        go_simp
        exact hKO _ W (Ext.refl W) rfl
      intro vs W19 hS hp
      clear szw19 E0 p3 p4 p5 hx1 hx2 hx3
      obtain ⟨E0, p3, p4, p5, hx1, hx2, hx3, sz19⟩ := hS
      obtain ⟨h19_0, h19_1, h19_2, h19_3, h19_4, h19_5, h19_6, h19_7, h19_8, h19_9, h19_10, h19_11, h19_12, h19_13, h19_14, h19_15, h19_16, h19_17, h19_18, h19_19, h19_20, h19_21, h19_22, h19_23, h19_24, h19_25, h19_26, h19_27, h19_28, h19_29, h19_30, h19_31, h19_32, h19_33, h19_34, h19_35, h19_36, h19_37, -⟩ := hp
      replace h19_0 : vs 0 = .int .i64 c := h19_0
      replace h19_1 : vs 1 = .bool false := h19_1
      replace h19_2 : vs 2 = .bool false := h19_2
      replace h19_3 : vs 3 = .int .i64 c := h19_3
      replace h19_4 : vs 4 = .bool false := h19_4
      replace h19_5 : vs 5 = .bool false := h19_5
      replace h19_6 : vs 6 = .bool false := h19_6
      replace h19_7 : vs 7 = .agg #[.bool b2, .slice a2 n2 c2, .slice d2 m2 o2] := h19_7
      replace h19_8 : vs 8 = .agg #[.bool b1, .slice a1 n1 c1, .slice d1 m1 o1] := h19_8
      replace h19_9 : vs 9 = .int .i64 (-c) := h19_9
      replace h19_10 : vs 10 = .int .i64 c := h19_10
      replace h19_11 : vs 11 = .int .i64 (-c) := h19_11
      replace h19_12 : vs 12 = .bool false := h19_12
      replace h19_13 : vs 13 = .bool false := h19_13
      replace h19_14 : vs 14 = .bool false := h19_14
      replace h19_15 : vs 15 = .int .i64 c := h19_15
      replace h19_16 : vs 16 = .bool (c == 0) := h19_16
      replace h19_17 : vs 17 = .agg #[.bool b1, .slice a1 n1 c1, .slice d1 m1 o1] := h19_17
      replace h19_18 : vs 18 = .agg #[.bool b2, .slice a2 n2 c2, .slice d2 m2 o2] := h19_18
      replace h19_19 : vs 19 = .bool (c == 0) := h19_19
      replace h19_20 : vs 20 = .bool false := h19_20
      replace h19_21 : vs 21 = .bool false := h19_21
      replace h19_22 : vs 22 = .bool false := h19_22
      replace h19_23 : vs 23 = .int .i64 c := h19_23
      replace h19_24 : vs 24 = .bool true := h19_24
      replace h19_25 : vs 25 = .bool true := h19_25
      replace h19_26 : vs 26 = .agg #[.bool b2, .slice a2 n2 c2, .slice d2 m2 o2] := h19_26
      replace h19_27 : vs 27 = .agg #[.bool b3, .slice a3 n3 c3, .slice d3 m3 o3] := h19_27
      replace h19_28 : vs 28 = .int .i64 d := h19_28
      replace h19_29 : vs 29 = .bool false := h19_29
      replace h19_30 : vs 30 = .bool false := h19_30
      replace h19_31 : vs 31 = .bool false := h19_31
      replace h19_32 : vs 32 = undef := h19_32
      replace h19_33 : vs 33 = undef := h19_33
      replace h19_34 : vs 34 = undef := h19_34
      replace h19_35 : vs 35 = undef := h19_35
      replace h19_36 : vs 36 = .bool false := h19_36
      replace h19_37 : vs 37 = .bool false := h19_37
      simp only [h19_0, h19_1, h19_2, h19_3, h19_4, h19_5, h19_6, h19_7, h19_8, h19_9, h19_10, h19_11, h19_12, h19_13, h19_14, h19_15, h19_16, h19_17, h19_18, h19_19, h19_20, h19_21, h19_22, h19_23, h19_24, h19_25, h19_26, h19_27, h19_28, h19_29, h19_30, h19_31, h19_32, h19_33, h19_34, h19_35, h19_36, h19_37]
      clear h19_0 h19_1 h19_2 h19_3 h19_4 h19_5 h19_6 h19_7 h19_8 h19_9 h19_10 h19_11 h19_12 h19_13 h19_14 h19_15 h19_16 h19_17 h19_18 h19_19 h19_20 h19_21 h19_22 h19_23 h19_24 h19_25 h19_26 h19_27 h19_28 h19_29 h19_30 h19_31 h19_32 h19_33 h19_34 h19_35 h19_36 h19_37
      obtain hn3 | hn3 : 0 < n3 ∨ n3 = 0 := by omega
      ·obtain rfl | rfl : b3 = false ∨ b3 = true := by cases b3 <;> simp
       ·have hn0I : (0 : Int) < (n3 : Int) := by omega
        have hn0N : 0 < n3 := by omega
        have HAB : Hid (0 < z) := Lib.hid (by
         have h1 : 0 < z.num.natAbs := Nat.pos_of_ne_zero (fun e => by have := hz0.2 e; omega)
         have h2 : ¬ z.num < 0 := of_decide_eq_false hb3.out.symm
         exact num_pos_iff.1 (by omega))
        clear hz0 hb3 hn3
        have kp3_0 := p3.cell0
        have kp3_1 := p3.cell1
        have kp3_2 := p3.cell2
        have kp4_0 := p4.cell0
        have kp4_1 := p4.cell1
        have kp4_2 := p4.cell2
        have kp5_0 := p5.cell0
        have kp5_1 := p5.cell1
        have kp5_2 := p5.cell2
        go_upto_region 6 with (fail)
        clear kp3_0 kp3_1 kp3_2 kp4_0 kp4_1 kp4_2 kp5_0 kp5_1 kp5_2
        have szw20 := Ext.size E0
        refine region_go [.one fun v _ => v = .pointer (some ⟨w.heap.size + 1 + 1, 0, none⟩),
          .one fun v _ => v = .pointer (some ⟨w.heap.size + 1 + 1, 1, none⟩),
          .one fun v _ => v = .slice a3 n3 c3,
          .one fun v _ => v = .int .i64 (n3 : Int),
          .one fun v _ => v = .bool true,
          .one fun v _ => v = .bool true,
          .one fun v _ => v = .pointer (some ⟨w.heap.size + 1 + 1, 0, none⟩),
          .one fun v _ => v = .pointer (some ⟨w.heap.size + 1 + 1, 0, none⟩),
          .one fun v _ => v = .bool false,
          .one fun v _ => v = .bool true,
          .one fun v _ => v = .bool true,
          .one fun v _ => v = .bool true]
         (fun W => Ext w W ∧ Bx3 W w.heap.size 35 (.bool b1) (.slice a1 n1 c1) (.slice d1 m1 o1) ∧ Bx3 W (w.heap.size + 1) 35 (.bool b2) (.slice a2 n2 c2) (.slice d2 m2 o2) ∧ Bx3 W (w.heap.size + 1 + 1) 35 (.bool false) (.slice a3 n3 c3) (.slice d3 m3 o3) ∧ Rw W (.agg #[.bool b1, .slice a1 n1 c1, .slice d1 m1 o1]) x ∧ Rw W (.agg #[.bool b2, .slice a2 n2 c2, .slice d2 m2 o2]) y ∧ Rw W (.agg #[.bool false, .slice a3 n3 c3, .slice d3 m3 o3]) z ∧ W19.heap.size ≤ W.heap.size) ⟨Good.is _, Good.is _, Good.is _, Good.is _, Good.is _, Good.is _, Good.is _, Good.is _, Good.is _, Good.is _, Good.is _, Good.is _, trivial⟩
         (fun W W1 hS hE => ⟨(Ext.trans hS.1 hE), (hS.2.1.ext hE), (hS.2.2.1.ext hE), (hS.2.2.2.1.ext hE), (hS.2.2.2.2.1.ext hE), (hS.2.2.2.2.2.1.ext hE), (hS.2.2.2.2.2.2.1.ext hE), (Nat.le_trans hS.2.2.2.2.2.2.2 (Ext.size hE))⟩) ⟨E0, p3, p4, p5, hx1, hx2, hx3, Nat.le_refl _⟩ (by kernel_rfl) (by kernel_rfl) (by kernel_rfl) (by kernel_rfl) (A := ?A20) ?hA20 ?howe20 ?hfin20
        case hA20 =>
         intro vs
         simp only [putAll, Act.put, List.setIfInBounds_toArray, List.set_cons_zero, List.set_cons_succ, Nat.zero_add, Nat.reduceAdd]
         exact rfl
        case howe20 =>
         clear E0 p3 p4 p5 hx1 hx2 hx3
         intro hf
         refine ⟨owesE 0 [] hf rfl (by kernel_rfl) ?_, owesE 1 [0] hf rfl (by kernel_rfl) ?_, owesE 2 [1] hf rfl (by kernel_rfl) ?_, owesE 3 [2] hf rfl (by kernel_rfl) ?_, owesE 4 [3] hf rfl (by kernel_rfl) ?_, owesE 5 [4] hf rfl (by kernel_rfl) ?_, owesE 6 [5] hf rfl (by kernel_rfl) ?_, owesE 7 [5, 6] hf rfl (by kernel_rfl) ?_, owesE 8 [5, 7] hf rfl (by kernel_rfl) ?_, owesE 9 [5, 8] hf rfl (by kernel_rfl) ?_, owesE 10 [5, 9] hf rfl (by kernel_rfl) ?_, owesE 11 [10] hf rfl (by kernel_rfl) ?_, trivial⟩
         all_goals intro vs W hS hp hx KO hKO
         all_goals simp only [Act.put, List.setIfInBounds_toArray, List.set_cons_zero, List.set_cons_succ] at hKO
         ·go_simp
          exact hKO _ W (Ext.refl W) rfl
         ·have e0 := isOf hp.1
          simp only [e0] at hKO
          go_simp
          exact hKO _ W (Ext.refl W) rfl
         ·have e1 := isOf hp.1
          simp only [e1] at hKO
          have fc1 := hS.2.2.2.1.cell1
          go_simp
          exact hKO _ W (Ext.refl W) rfl
         ·have e2 := isOf hp.1
          simp only [e2] at hKO
          go_simp
          exact hKO _ W (Ext.refl W) rfl
         ·have e3 := isOf hp.1
          simp only [e3] at hKO
          go_simp
          exact hKO _ W (Ext.refl W) rfl
         ·have e4 := isOf hp.1
          simp only [e4] at hKO
          go_simp
          exact hKO _ W (Ext.refl W) rfl
         ·have e5 := isOf hp.1
          simp only [e5] at hKO
          go_simp
          exact hKO _ W (Ext.refl W) rfl
         ·have e5 := isOf hp.1
          have e6 := isOf hp.2.1
          simp only [e5, e6] at hKO
          go_simp
          exact hKO _ W (Ext.refl W) rfl
         ·have e5 := isOf hp.1
          have e7 := isOf hp.2.1
          simp only [e5, e7] at hKO
          have fc0 := hS.2.2.2.1.cell0
          go_simp
          exact hKO _ W (Ext.refl W) rfl
         ·have e5 := isOf hp.1
          have e8 := isOf hp.2.1
          simp only [e5, e8] at hKO
          go_simp
          exact hKO _ W (Ext.refl W) rfl
         ·have e5 := isOf hp.1
          have e9 := isOf hp.2.1
          simp only [e5, e9] at hKO
          go_simp
          exact hKO _ W (Ext.refl W) rfl
         ·have e10 := isOf hp.1
          simp only [e10] at hKO
          go_simp
          exact hKO _ W (Ext.refl W) rfl
        intro vs W20 hS hp
        clear szw20 E0 p3 p4 p5 hx1 hx2 hx3
        obtain ⟨E0, p3, p4, p5, hx1, hx2, hx3, sz20⟩ := hS
        obtain ⟨h20_0, h20_1, h20_2, h20_3, h20_4, h20_5, h20_6, h20_7, h20_8, h20_9, h20_10, h20_11, -⟩ := hp
        replace h20_0 : vs 0 = .pointer (some ⟨w.heap.size + 1 + 1, 0, none⟩) := h20_0
        replace h20_1 : vs 1 = .pointer (some ⟨w.heap.size + 1 + 1, 1, none⟩) := h20_1
        replace h20_2 : vs 2 = .slice a3 n3 c3 := h20_2
        replace h20_3 : vs 3 = .int .i64 (n3 : Int) := h20_3
        replace h20_4 : vs 4 = .bool true := h20_4
        replace h20_5 : vs 5 = .bool true := h20_5
        replace h20_6 : vs 6 = .pointer (some ⟨w.heap.size + 1 + 1, 0, none⟩) := h20_6
        replace h20_7 : vs 7 = .pointer (some ⟨w.heap.size + 1 + 1, 0, none⟩) := h20_7
        replace h20_8 : vs 8 = .bool false := h20_8
        replace h20_9 : vs 9 = .bool true := h20_9
        replace h20_10 : vs 10 = .bool true := h20_10
        replace h20_11 : vs 11 = .bool true := h20_11
        simp only [h20_0, h20_1, h20_2, h20_3, h20_4, h20_5, h20_6, h20_7, h20_8, h20_9, h20_10, h20_11]
        clear h20_0 h20_1 h20_2 h20_3 h20_4 h20_5 h20_6 h20_7 h20_8 h20_9 h20_10 h20_11
        have kp3_0 := p3.cell0
        have kp3_1 := p3.cell1
        have kp3_2 := p3.cell2
        have kp4_0 := p4.cell0
        have kp4_1 := p4.cell1
        have kp4_2 := p4.cell2
        have kp5_0 := p5.cell0
        have kp5_1 := p5.cell1
        have kp5_2 := p5.cell2
        go_upto_region 7 with (fail)
        clear kp3_0 kp3_1 kp3_2 kp4_0 kp4_1 kp4_2 kp5_0 kp5_1 kp5_2
        have szw21 := Ext.size E0
        refine region_go [.one fun v _ => v = .bool true,
          .one fun v _ => v = .bool true,
          .one fun v _ => v = .agg #[.bool b1, .slice a1 n1 c1, .slice d1 m1 o1],
          .one fun v _ => v = .agg #[.bool false, .slice a3 n3 c3, .slice d3 m3 o3],
          .one fun v W => Rw W v (x + z),
          .one fun v _ => v = .agg #[.bool b2, .slice a2 n2 c2, .slice d2 m2 o2],
          .one fun v _ => v = .agg #[.bool false, .slice a3 n3 c3, .slice d3 m3 o3],
          .one fun v W => Rw W v (y + z),
          .one fun v _ => v = .int .i64 c,
          .one fun v _ => v = .int .i64 c,
          .one fun v _ => v = .bool true,
          .one fun v _ => v = .bool true,
          .one fun v _ => v = .bool true,
          .one fun v _ => v = .agg #[.bool b1, .slice a1 n1 c1, .slice d1 m1 o1],
          .one fun v _ => v = .agg #[.bool b2, .slice a2 n2 c2, .slice d2 m2 o2],
          .one fun v W => Rw W v (x - y),
          .one fun v W => Rw W v (((0 : Int) : Rat)),
          .one fun v _ => v = .int .i64 c,
          .one fun v _ => v = .int .i64 c,
          .one fun v _ => v = .bool true,
          .one fun v _ => v = .bool true,
          .one fun v _ => v = .bool true,
          .one fun v _ => v = .bool true,
          .one fun v _ => v = .bool false,
          .one fun v _ => v = .bool false,
          .one fun v _ => v = .agg #[.bool b1, .slice a1 n1 c1, .slice d1 m1 o1],
          .one fun v _ => v = .agg #[.bool false, .slice a3 n3 c3, .slice d3 m3 o3],
          .one fun v W => Rw W v (x * z),
          .one fun v _ => v = .agg #[.bool b2, .slice a2 n2 c2, .slice d2 m2 o2],
          .one fun v _ => v = .agg #[.bool false, .slice a3 n3 c3, .slice d3 m3 o3],
          .one fun v W => Rw W v (y * z),
          .one fun v _ => v = .int .i64 c,
          .one fun v _ => v = .int .i64 c,
          .one fun v _ => v = .bool true,
          .one fun v _ => v = .bool true,
          .one fun v _ => v = .bool true,
          .one fun v _ => v = .bool true]
         (fun W => Ext w W ∧ Bx3 W w.heap.size 35 (.bool b1) (.slice a1 n1 c1) (.slice d1 m1 o1) ∧ Bx3 W (w.heap.size + 1) 35 (.bool b2) (.slice a2 n2 c2) (.slice d2 m2 o2) ∧ Bx3 W (w.heap.size + 1 + 1) 35 (.bool false) (.slice a3 n3 c3) (.slice d3 m3 o3) ∧ Rw W (.agg #[.bool b1, .slice a1 n1 c1, .slice d1 m1 o1]) x ∧ Rw W (.agg #[.bool b2, .slice a2 n2 c2, .slice d2 m2 o2]) y ∧ Rw W (.agg #[.bool false, .slice a3 n3 c3, .slice d3 m3 o3]) z ∧ W20.heap.size ≤ W.heap.size) ⟨Good.is _, Good.is _, Good.is _, Good.is _, Good.rat _, Good.is _, Good.is _, Good.rat _, Good.is _, Good.is _, Good.is _, Good.is _, Good.is _, Good.is _, Good.is _, Good.rat _, Good.rat _, Good.is _, Good.is _, Good.is _, Good.is _, Good.is _, Good.is _, Good.is _, Good.is _, Good.is _, Good.is _, Good.rat _, Good.is _, Good.is _, Good.rat _, Good.is _, Good.is _, Good.is _, Good.is _, Good.is _, Good.is _, trivial⟩
         (fun W W1 hS hE => ⟨(Ext.trans hS.1 hE), (hS.2.1.ext hE), (hS.2.2.1.ext hE), (hS.2.2.2.1.ext hE), (hS.2.2.2.2.1.ext hE), (hS.2.2.2.2.2.1.ext hE), (hS.2.2.2.2.2.2.1.ext hE), (Nat.le_trans hS.2.2.2.2.2.2.2 (Ext.size hE))⟩) ⟨E0, p3, p4, p5, hx1, hx2, hx3, Nat.le_refl _⟩ (by kernel_rfl) (by kernel_rfl) (by kernel_rfl) (by kernel_rfl) (A := ?A21) ?hA21 ?howe21 ?hfin21
        case hA21 =>
         intro vs
         simp only [putAll, Act.put, List.setIfInBounds_toArray, List.set_cons_zero, List.set_cons_succ, Nat.zero_add, Nat.reduceAdd]
         exact rfl
        case howe21 =>
         clear E0 p3 p4 p5 hx1 hx2 hx3
         intro hf
         refine ⟨owesE 0 [] hf rfl (by kernel_rfl) ?_, owesE 1 [0] hf rfl (by kernel_rfl) ?_, owesE 2 [1] hf rfl (by kernel_rfl) ?_, owesE 3 [1] hf rfl (by kernel_rfl) ?_, owesE 4 [1, 2, 3] hf rfl (by kernel_rfl) ?_, owesE 5 [1] hf rfl (by kernel_rfl) ?_, owesE 6 [1] hf rfl (by kernel_rfl) ?_, owesE 7 [1, 5, 6] hf rfl (by kernel_rfl) ?_, owesE 8 [1, 4, 7] hf rfl (by kernel_rfl) ?_, owesE 9 [1] hf rfl (by kernel_rfl) ?_, owesE 10 [1, 8, 9] hf rfl (by kernel_rfl) ?_, owesE 11 [1, 10] hf rfl (by kernel_rfl) ?_, owesE 12 [11] hf rfl (by kernel_rfl) ?_, owesE 13 [12] hf rfl (by kernel_rfl) ?_, owesE 14 [12] hf rfl (by kernel_rfl) ?_, owesE 15 [12, 13, 14] hf rfl (by kernel_rfl) ?_, owesE 16 [12] hf rfl (by kernel_rfl) ?_, owesE 17 [12, 15, 16] hf rfl (by kernel_rfl) ?_, owesE 18 [12] hf rfl (by kernel_rfl) ?_, owesE 19 [12, 17, 18] hf rfl (by kernel_rfl) ?_, owesE 20 [12, 19] hf rfl (by kernel_rfl) ?_, owesE 21 [20] hf rfl (by kernel_rfl) ?_, owesE 22 [21] hf rfl (by kernel_rfl) ?_, owesE 23 [21, 22] hf rfl (by kernel_rfl) ?_, owesE 24 [21, 23] hf rfl (by kernel_rfl) ?_, owesE 25 [24] hf rfl (by kernel_rfl) ?_, owesE 26 [24] hf rfl (by kernel_rfl) ?_, owesE 27 [24, 25, 26] hf rfl (by kernel_rfl) ?_, owesE 28 [24] hf rfl (by kernel_rfl) ?_, owesE 29 [24] hf rfl (by kernel_rfl) ?_, owesE 30 [24, 28, 29] hf rfl (by kernel_rfl) ?_, owesE 31 [24, 27, 30] hf rfl (by kernel_rfl) ?_, owesE 32 [24] hf rfl (by kernel_rfl) ?_, owesE 33 [24, 31, 32] hf rfl (by kernel_rfl) ?_, owesE 34 [21, 24, 33] hf rfl (by kernel_rfl) ?_, owesE 35 [21, 34] hf rfl (by kernel_rfl) ?_, owesE 36 [35] hf rfl (by kernel_rfl) ?_, trivial⟩
         all_goals intro vs W hS hp hx KO hKO
         all_goals simp only [Act.put, List.setIfInBounds_toArray, List.set_cons_zero, List.set_cons_succ] at hKO
         ·go_simp
          refine (Try.alive05 _).mono ?_
          rintro e W1 ⟨rfl, hE⟩
          exact hKO _ W1 hE rfl
         ·have e0 := isOf hp.1
          simp only [e0] at hKO
          go_simp
          exact hKO _ W (Ext.refl W) rfl
         ·have e1 := isOf hp.1
          simp only [e1] at hKO
          have fc0 := hS.2.1.cell0
          have fc1 := hS.2.1.cell1
          have fc2 := hS.2.1.cell2
          go_simp
          exact hKO _ W (Ext.refl W) rfl
         ·have e1 := isOf hp.1
          simp only [e1] at hKO
          have fc0 := hS.2.2.2.1.cell0
          have fc1 := hS.2.2.2.1.cell1
          have fc2 := hS.2.2.2.1.cell2
          go_simp
          exact hKO _ W (Ext.refl W) rfl
         ·have e1 := isOf hp.1
          have e2 := isOf hp.2.1
          have e3 := isOf hp.2.2.1
          simp only [e1, e2, e3] at hKO
          go_simp
          refine (Try.ratAdd (hS.2.2.2.2.1) (hS.2.2.2.2.2.2.1) s1 s3 (by omega)).mono ?_
          rintro e W1 ⟨v, rfl, hv, hE⟩
          exact hKO _ W1 hE hv
         ·have e1 := isOf hp.1
          simp only [e1] at hKO
          have fc0 := hS.2.2.1.cell0
          have fc1 := hS.2.2.1.cell1
          have fc2 := hS.2.2.1.cell2
          go_simp
          exact hKO _ W (Ext.refl W) rfl
         ·have e1 := isOf hp.1
          simp only [e1] at hKO
          have fc0 := hS.2.2.2.1.cell0
          have fc1 := hS.2.2.2.1.cell1
          have fc2 := hS.2.2.2.1.cell2
          go_simp
          exact hKO _ W (Ext.refl W) rfl
         ·have e1 := isOf hp.1
          have e5 := isOf hp.2.1
          have e6 := isOf hp.2.2.1
          simp only [e1, e5, e6] at hKO
          go_simp
          refine (Try.ratAdd (hS.2.2.2.2.2.1) (hS.2.2.2.2.2.2.1) s2 s3 (by omega)).mono ?_
          rintro e W1 ⟨v, rfl, hv, hE⟩
          exact hKO _ W1 hE hv
         ·have e1 := isOf hp.1
          have q4 := hp.2.1
          have q7 := hp.2.2.1
          simp only [e1] at hKO
          go_simp
          refine (Try.ratCmpR q4 q7 SA.out SB.out (by omega) C4.out).mono ?_
          rintro e W1 ⟨rfl, hE⟩
          exact hKO _ W1 hE rfl
         ·have e1 := isOf hp.1
          simp only [e1] at hKO
          go_simp
          exact hKO _ W (Ext.refl W) rfl
         ·have e1 := isOf hp.1
          have e8 := isOf hp.2.1
          have e9 := isOf hp.2.2.1
          simp only [e1, e8, e9] at hKO
          go_simp
          exact hKO _ W (Ext.refl W) rfl
         ·have e1 := isOf hp.1
          have e10 := isOf hp.2.1
          simp only [e1, e10] at hKO
          go_simp
          exact hKO _ W (Ext.refl W) rfl
         ·have e11 := isOf hp.1
          simp only [e11] at hKO
          go_simp
          exact hKO _ W (Ext.refl W) rfl
         ·have e12 := isOf hp.1
          simp only [e12] at hKO
          have fc0 := hS.2.1.cell0
          have fc1 := hS.2.1.cell1
          have fc2 := hS.2.1.cell2
          go_simp
          exact hKO _ W (Ext.refl W) rfl
         ·have e12 := isOf hp.1
          simp only [e12] at hKO
          have fc0 := hS.2.2.1.cell0
          have fc1 := hS.2.2.1.cell1
          have fc2 := hS.2.2.1.cell2
          go_simp
          exact hKO _ W (Ext.refl W) rfl
         ·have e12 := isOf hp.1
          have e13 := isOf hp.2.1
          have e14 := isOf hp.2.2.1
          simp only [e12, e13, e14] at hKO
          go_simp
          refine (Try.ratSub (hS.2.2.2.2.1) (hS.2.2.2.2.2.1) s1 s2 (by omega)).mono ?_
          rintro e W1 ⟨v, rfl, hv, hE⟩
          exact hKO _ W1 hE hv
         ·have e12 := isOf hp.1
          simp only [e12] at hKO
          go_simp
          refine (Try.ratOf 0 _ (by omega) (by omega)).mono ?_
          rintro e W1 ⟨v, rfl, hv, hE⟩
          exact hKO _ W1 hE hv
         ·have e12 := isOf hp.1
          have q15 := hp.2.1
          have q16 := hp.2.2.1
          simp only [e12] at hKO
          go_simp
          refine (Try.ratCmpR q15 q16 SC.out S0.out (by omega) C5.out).mono ?_
          rintro e W1 ⟨rfl, hE⟩
          exact hKO _ W1 hE rfl
         ·have e12 := isOf hp.1
          simp only [e12] at hKO
          go_simp
          exact hKO _ W (Ext.refl W) rfl
         ·have e12 := isOf hp.1
          have e17 := isOf hp.2.1
          have e18 := isOf hp.2.2.1
          simp only [e12, e17, e18] at hKO
          go_simp
          exact hKO _ W (Ext.refl W) rfl
         ·have e12 := isOf hp.1
          have e19 := isOf hp.2.1
          simp only [e12, e19] at hKO
          go_simp
          exact hKO _ W (Ext.refl W) rfl
         ·have e20 := isOf hp.1
          simp only [e20] at hKO
          go_simp
          exact hKO _ W (Ext.refl W) rfl
         ·have e21 := isOf hp.1
          simp only [e21] at hKO
          go_simp
          exact hKO _ W (Ext.refl W) rfl
         ·have e21 := isOf hp.1
          have e22 := isOf hp.2.1
          simp only [e21, e22] at hKO
          go_simp
          exact hKO _ W (Ext.refl W) rfl
         ·have e21 := isOf hp.1
          have e23 := isOf hp.2.1
          simp only [e21, e23] at hKO
          go_simp
          exact hKO _ W (Ext.refl W) rfl
         ·have e24 := isOf hp.1
          simp only [e24] at hKO
          have fc0 := hS.2.1.cell0
          have fc1 := hS.2.1.cell1
          have fc2 := hS.2.1.cell2
          go_simp
          exact hKO _ W (Ext.refl W) rfl
         ·have e24 := isOf hp.1
          simp only [e24] at hKO
          have fc0 := hS.2.2.2.1.cell0
          have fc1 := hS.2.2.2.1.cell1
          have fc2 := hS.2.2.2.1.cell2
          go_simp
          exact hKO _ W (Ext.refl W) rfl
         ·have e24 := isOf hp.1
          have e25 := isOf hp.2.1
          have e26 := isOf hp.2.2.1
          simp only [e24, e25, e26] at hKO
          go_simp
          refine (Try.ratMul (hS.2.2.2.2.1) (hS.2.2.2.2.2.2.1) s1 s3 (by omega)).mono ?_
          rintro e W1 ⟨v, rfl, hv, hE⟩
          exact hKO _ W1 hE hv
         ·have e24 := isOf hp.1
          simp only [e24] at hKO
          have fc0 := hS.2.2.1.cell0
          have fc1 := hS.2.2.1.cell1
          have fc2 := hS.2.2.1.cell2
          go_simp
          exact hKO _ W (Ext.refl W) rfl
         ·have e24 := isOf hp.1
          simp only [e24] at hKO
          have fc0 := hS.2.2.2.1.cell0
          have fc1 := hS.2.2.2.1.cell1
          have fc2 := hS.2.2.2.1.cell2
          go_simp
          exact hKO _ W (Ext.refl W) rfl
         ·have e24 := isOf hp.1
          have e28 := isOf hp.2.1
          have e29 := isOf hp.2.2.1
          simp only [e24, e28, e29] at hKO
          go_simp
          refine (Try.ratMul (hS.2.2.2.2.2.1) (hS.2.2.2.2.2.2.1) s2 s3 (by omega)).mono ?_
          rintro e W1 ⟨v, rfl, hv, hE⟩
          exact hKO _ W1 hE hv
         ·have e24 := isOf hp.1
          have q27 := hp.2.1
          have q30 := hp.2.2.1
          simp only [e24] at hKO
          go_simp
          refine (Try.ratCmpR q27 q30 SX.out SY.out (by omega) (C6.out HAB.out)).mono ?_
          rintro e W1 ⟨rfl, hE⟩
          exact hKO _ W1 hE rfl
         ·have e24 := isOf hp.1
          simp only [e24] at hKO
          go_simp
          exact hKO _ W (Ext.refl W) rfl
         ·have e24 := isOf hp.1
          have e31 := isOf hp.2.1
          have e32 := isOf hp.2.2.1
          simp only [e24, e31, e32] at hKO
          go_simp
          exact hKO _ W (Ext.refl W) rfl
         ·have e21 := isOf hp.1
          have e24 := isOf hp.2.1
          have e33 := isOf hp.2.2.1
          simp only [e21, e24, e33] at hKO
          go_simp
          exact hKO _ W (Ext.refl W) rfl
         ·have e21 := isOf hp.1
          have e34 := isOf hp.2.1
          simp only [e21, e34] at hKO
          go_simp
          exact hKO _ W (Ext.refl W) rfl
         ·have e35 := isOf hp.1
          simp only [e35] at hKO
          go_simp
          exact hKO _ W (Ext.refl W) rfl
        intro vs W21 hS hp
        clear szw21 E0 p3 p4 p5 hx1 hx2 hx3
        obtain ⟨E0, p3, p4, p5, hx1, hx2, hx3, sz21⟩ := hS
        obtain ⟨h21_0, h21_1, h21_2, h21_3, h21_4, h21_5, h21_6, h21_7, h21_8, h21_9, h21_10, h21_11, h21_12, h21_13, h21_14, h21_15, h21_16, h21_17, h21_18, h21_19, h21_20, h21_21, h21_22, h21_23, h21_24, h21_25, h21_26, h21_27, h21_28, h21_29, h21_30, h21_31, h21_32, h21_33, h21_34, h21_35, h21_36, -⟩ := hp
        replace h21_0 : vs 0 = .bool true := h21_0
        replace h21_1 : vs 1 = .bool true := h21_1
        replace h21_2 : vs 2 = .agg #[.bool b1, .slice a1 n1 c1, .slice d1 m1 o1] := h21_2
        replace h21_3 : vs 3 = .agg #[.bool false, .slice a3 n3 c3, .slice d3 m3 o3] := h21_3
        replace h21_5 : vs 5 = .agg #[.bool b2, .slice a2 n2 c2, .slice d2 m2 o2] := h21_5
        replace h21_6 : vs 6 = .agg #[.bool false, .slice a3 n3 c3, .slice d3 m3 o3] := h21_6
        replace h21_8 : vs 8 = .int .i64 c := h21_8
        replace h21_9 : vs 9 = .int .i64 c := h21_9
        replace h21_10 : vs 10 = .bool true := h21_10
        replace h21_11 : vs 11 = .bool true := h21_11
        replace h21_12 : vs 12 = .bool true := h21_12
        replace h21_13 : vs 13 = .agg #[.bool b1, .slice a1 n1 c1, .slice d1 m1 o1] := h21_13
        replace h21_14 : vs 14 = .agg #[.bool b2, .slice a2 n2 c2, .slice d2 m2 o2] := h21_14
        replace h21_17 : vs 17 = .int .i64 c := h21_17
        replace h21_18 : vs 18 = .int .i64 c := h21_18
        replace h21_19 : vs 19 = .bool true := h21_19
        replace h21_20 : vs 20 = .bool true := h21_20
        replace h21_21 : vs 21 = .bool true := h21_21
        replace h21_22 : vs 22 = .bool true := h21_22
        replace h21_23 : vs 23 = .bool false := h21_23
        replace h21_24 : vs 24 = .bool false := h21_24
        replace h21_25 : vs 25 = .agg #[.bool b1, .slice a1 n1 c1, .slice d1 m1 o1] := h21_25
        replace h21_26 : vs 26 = .agg #[.bool false, .slice a3 n3 c3, .slice d3 m3 o3] := h21_26
        replace h21_28 : vs 28 = .agg #[.bool b2, .slice a2 n2 c2, .slice d2 m2 o2] := h21_28
        replace h21_29 : vs 29 = .agg #[.bool false, .slice a3 n3 c3, .slice d3 m3 o3] := h21_29
        replace h21_31 : vs 31 = .int .i64 c := h21_31
        replace h21_32 : vs 32 = .int .i64 c := h21_32
        replace h21_33 : vs 33 = .bool true := h21_33
        replace h21_34 : vs 34 = .bool true := h21_34
        replace h21_35 : vs 35 = .bool true := h21_35
        replace h21_36 : vs 36 = .bool true := h21_36
        simp only [h21_0, h21_1, h21_2, h21_3, h21_5, h21_6, h21_8, h21_9, h21_10, h21_11, h21_12, h21_13, h21_14, h21_17, h21_18, h21_19, h21_20, h21_21, h21_22, h21_23, h21_24, h21_25, h21_26, h21_28, h21_29, h21_31, h21_32, h21_33, h21_34, h21_35, h21_36]
        replace h21_4 : Rw W21 (vs 4) (x + z) := h21_4
        generalize vs 4 = u21_4 at h21_4 ⊢
        replace h21_7 : Rw W21 (vs 7) (y + z) := h21_7
        generalize vs 7 = u21_7 at h21_7 ⊢
        replace h21_15 : Rw W21 (vs 15) (x - y) := h21_15
        generalize vs 15 = u21_15 at h21_15 ⊢
        replace h21_16 : Rw W21 (vs 16) (((0 : Int) : Rat)) := h21_16
        generalize vs 16 = u21_16 at h21_16 ⊢
        replace h21_27 : Rw W21 (vs 27) (x * z) := h21_27
        generalize vs 27 = u21_27 at h21_27 ⊢
        replace h21_30 : Rw W21 (vs 30) (y * z) := h21_30
        generalize vs 30 = u21_30 at h21_30 ⊢
        clear h21_0 h21_1 h21_2 h21_3 h21_5 h21_6 h21_8 h21_9 h21_10 h21_11 h21_12 h21_13 h21_14 h21_17 h21_18 h21_19 h21_20 h21_21 h21_22 h21_23 h21_24 h21_25 h21_26 h21_28 h21_29 h21_31 h21_32 h21_33 h21_34 h21_35 h21_36
        have kp3_0 := p3.cell0
        have kp3_1 := p3.cell1
        have kp3_2 := p3.cell2
        have kp4_0 := p4.cell0
        have kp4_1 := p4.cell1
        have kp4_2 := p4.cell2
        have kp5_0 := p5.cell0
        have kp5_1 := p5.cell1
        have kp5_2 := p5.cell2
        go_wp2
        go_ret
        exact ⟨rfl, E0⟩
       ·have hn0I : (0 : Int) < (n3 : Int) := by omega
        have hn0N : 0 < n3 := by omega
        clear hz0 hb3 hn3
        have kp3_0 := p3.cell0
        have kp3_1 := p3.cell1
        have kp3_2 := p3.cell2
        have kp4_0 := p4.cell0
        have kp4_1 := p4.cell1
        have kp4_2 := p4.cell2
        have kp5_0 := p5.cell0
        have kp5_1 := p5.cell1
        have kp5_2 := p5.cell2
        go_upto_region 6 with (fail)
        clear kp3_0 kp3_1 kp3_2 kp4_0 kp4_1 kp4_2 kp5_0 kp5_1 kp5_2
        have szw24 := Ext.size E0
        refine region_go [.one fun v _ => v = .pointer (some ⟨w.heap.size + 1 + 1, 0, none⟩),
          .one fun v _ => v = .pointer (some ⟨w.heap.size + 1 + 1, 1, none⟩),
          .one fun v _ => v = .slice a3 n3 c3,
          .one fun v _ => v = .int .i64 (n3 : Int),
          .one fun v _ => v = .bool true,
          .one fun v _ => v = .bool true,
          .one fun v _ => v = .pointer (some ⟨w.heap.size + 1 + 1, 0, none⟩),
          .one fun v _ => v = .pointer (some ⟨w.heap.size + 1 + 1, 0, none⟩),
          .one fun v _ => v = .bool true,
          .one fun v _ => v = .bool false,
          .one fun v _ => v = .bool false,
          .one fun v _ => v = .bool false]
         (fun W => Ext w W ∧ Bx3 W w.heap.size 35 (.bool b1) (.slice a1 n1 c1) (.slice d1 m1 o1) ∧ Bx3 W (w.heap.size + 1) 35 (.bool b2) (.slice a2 n2 c2) (.slice d2 m2 o2) ∧ Bx3 W (w.heap.size + 1 + 1) 35 (.bool true) (.slice a3 n3 c3) (.slice d3 m3 o3) ∧ Rw W (.agg #[.bool b1, .slice a1 n1 c1, .slice d1 m1 o1]) x ∧ Rw W (.agg #[.bool b2, .slice a2 n2 c2, .slice d2 m2 o2]) y ∧ Rw W (.agg #[.bool true, .slice a3 n3 c3, .slice d3 m3 o3]) z ∧ W19.heap.size ≤ W.heap.size) ⟨Good.is _, Good.is _, Good.is _, Good.is _, Good.is _, Good.is _, Good.is _, Good.is _, Good.is _, Good.is _, Good.is _, Good.is _, trivial⟩
         (fun W W1 hS hE => ⟨(Ext.trans hS.1 hE), (hS.2.1.ext hE), (hS.2.2.1.ext hE), (hS.2.2.2.1.ext hE), (hS.2.2.2.2.1.ext hE), (hS.2.2.2.2.2.1.ext hE), (hS.2.2.2.2.2.2.1.ext hE), (Nat.le_trans hS.2.2.2.2.2.2.2 (Ext.size hE))⟩) ⟨E0, p3, p4, p5, hx1, hx2, hx3, Nat.le_refl _⟩ (by kernel_rfl) (by kernel_rfl) (by kernel_rfl) (by kernel_rfl) (A := ?A24) ?hA24 ?howe24 ?hfin24
        case hA24 =>
         intro vs
         simp only [putAll, Act.put, List.setIfInBounds_toArray, List.set_cons_zero, List.set_cons_succ, Nat.zero_add, Nat.reduceAdd]
         exact rfl
        case howe24 =>
         clear E0 p3 p4 p5 hx1 hx2 hx3
         intro hf
         refine ⟨owesE 0 [] hf rfl (by kernel_rfl) ?_, owesE 1 [0] hf rfl (by kernel_rfl) ?_, owesE 2 [1] hf rfl (by kernel_rfl) ?_, owesE 3 [2] hf rfl (by kernel_rfl) ?_, owesE 4 [3] hf rfl (by kernel_rfl) ?_, owesE 5 [4] hf rfl (by kernel_rfl) ?_, owesE 6 [5] hf rfl (by kernel_rfl) ?_, owesE 7 [5, 6] hf rfl (by kernel_rfl) ?_, owesE 8 [5, 7] hf rfl (by kernel_rfl) ?_, owesE 9 [5, 8] hf rfl (by kernel_rfl) ?_, owesE 10 [5, 9] hf rfl (by kernel_rfl) ?_, owesE 11 [10] hf rfl (by kernel_rfl) ?_, trivial⟩
         all_goals intro vs W hS hp hx KO hKO
         all_goals simp only [Act.put, List.setIfInBounds_toArray, List.set_cons_zero, List.set_cons_succ] at hKO
         ·go_simp
          exact hKO _ W (Ext.refl W) rfl
         ·have e0 := isOf hp.1
          simp only [e0] at hKO
          go_simp
          exact hKO _ W (Ext.refl W) rfl
         ·have e1 := isOf hp.1
          simp only [e1] at hKO
          have fc1 := hS.2.2.2.1.cell1
          go_simp
          exact hKO _ W (Ext.refl W) rfl
         ·have e2 := isOf hp.1
          simp only [e2] at hKO
          go_simp
          exact hKO _ W (Ext.refl W) rfl
         ·have e3 := isOf hp.1
          simp only [e3] at hKO
          go_simp
          exact hKO _ W (Ext.refl W) rfl
         ·have e4 := isOf hp.1
          simp only [e4] at hKO
          go_simp
          exact hKO _ W (Ext.refl W) rfl
         ·have e5 := isOf hp.1
          simp only [e5] at hKO
          go_simp
          exact hKO _ W (Ext.refl W) rfl
         ·have e5 := isOf hp.1
          have e6 := isOf hp.2.1
          simp only [e5, e6] at hKO
          go_simp
          exact hKO _ W (Ext.refl W) rfl
         ·have e5 := isOf hp.1
          have e7 := isOf hp.2.1
          simp only [e5, e7] at hKO
          have fc0 := hS.2.2.2.1.cell0
          go_simp
          exact hKO _ W (Ext.refl W) rfl
         ·have e5 := isOf hp.1
          have e8 := isOf hp.2.1
          simp only [e5, e8] at hKO
          go_simp
          exact hKO _ W (Ext.refl W) rfl
         ·have e5 := isOf hp.1
          have e9 := isOf hp.2.1
          simp only [e5, e9] at hKO
          go_simp
          exact hKO _ W (Ext.refl W) rfl
         ·have e10 := isOf hp.1
          simp only [e10] at hKO
          go_simp
          exact hKO _ W (Ext.refl W) rfl
        intro vs W24 hS hp
        clear szw24 E0 p3 p4 p5 hx1 hx2 hx3
        obtain ⟨E0, p3, p4, p5, hx1, hx2, hx3, sz24⟩ := hS
        obtain ⟨h24_0, h24_1, h24_2, h24_3, h24_4, h24_5, h24_6, h24_7, h24_8, h24_9, h24_10, h24_11, -⟩ := hp
        replace h24_0 : vs 0 = .pointer (some ⟨w.heap.size + 1 + 1, 0, none⟩) := h24_0
        replace h24_1 : vs 1 = .pointer (some ⟨w.heap.size + 1 + 1, 1, none⟩) := h24_1
        replace h24_2 : vs 2 = .slice a3 n3 c3 := h24_2
        replace h24_3 : vs 3 = .int .i64 (n3 : Int) := h24_3
        replace h24_4 : vs 4 = .bool true := h24_4
        replace h24_5 : vs 5 = .bool true := h24_5
        replace h24_6 : vs 6 = .pointer (some ⟨w.heap.size + 1 + 1, 0, none⟩) := h24_6
        replace h24_7 : vs 7 = .pointer (some ⟨w.heap.size + 1 + 1, 0, none⟩) := h24_7
        replace h24_8 : vs 8 = .bool true := h24_8
        replace h24_9 : vs 9 = .bool false := h24_9
        replace h24_10 : vs 10 = .bool false := h24_10
        replace h24_11 : vs 11 = .bool false := h24_11
        simp only [h24_0, h24_1, h24_2, h24_3, h24_4, h24_5, h24_6, h24_7, h24_8, h24_9, h24_10, h24_11]
        clear h24_0 h24_1 h24_2 h24_3 h24_4 h24_5 h24_6 h24_7 h24_8 h24_9 h24_10 h24_11
        have kp3_0 := p3.cell0
        have kp3_1 := p3.cell1
        have kp3_2 := p3.cell2
        have kp4_0 := p4.cell0
        have kp4_1 := p4.cell1
        have kp4_2 := p4.cell2
        have kp5_0 := p5.cell0
        have kp5_1 := p5.cell1
        have kp5_2 := p5.cell2
        go_upto_region 7 with (fail)
        clear kp3_0 kp3_1 kp3_2 kp4_0 kp4_1 kp4_2 kp5_0 kp5_1 kp5_2
        have szw25 := Ext.size E0
        refine region_go [.one fun v _ => v = .bool true,
          .one fun v _ => v = .bool true,
          .one fun v _ => v = .agg #[.bool b1, .slice a1 n1 c1, .slice d1 m1 o1],
          .one fun v _ => v = .agg #[.bool true, .slice a3 n3 c3, .slice d3 m3 o3],
          .one fun v W => Rw W v (x + z),
          .one fun v _ => v = .agg #[.bool b2, .slice a2 n2 c2, .slice d2 m2 o2],
          .one fun v _ => v = .agg #[.bool true, .slice a3 n3 c3, .slice d3 m3 o3],
          .one fun v W => Rw W v (y + z),
          .one fun v _ => v = .int .i64 c,
          .one fun v _ => v = .int .i64 c,
          .one fun v _ => v = .bool true,
          .one fun v _ => v = .bool true,
          .one fun v _ => v = .bool true,
          .one fun v _ => v = .agg #[.bool b1, .slice a1 n1 c1, .slice d1 m1 o1],
          .one fun v _ => v = .agg #[.bool b2, .slice a2 n2 c2, .slice d2 m2 o2],
          .one fun v W => Rw W v (x - y),
          .one fun v W => Rw W v (((0 : Int) : Rat)),
          .one fun v _ => v = .int .i64 c,
          .one fun v _ => v = .int .i64 c,
          .one fun v _ => v = .bool true,
          .one fun v _ => v = .bool true,
          .one fun v _ => v = .bool true,
          .one fun v _ => v = .bool false,
          .one fun v _ => v = .bool true,
          .one fun v _ => v = .bool true,
          .one fun v _ => v = undef,
          .one fun v _ => v = undef,
          .one fun v _ => v = undef,
          .one fun v _ => v = undef,
          .one fun v _ => v = undef,
          .one fun v _ => v = undef,
          .one fun v _ => v = undef,
          .one fun v _ => v = undef,
          .one fun v _ => v = undef,
          .one fun v _ => v = .bool true,
          .one fun v _ => v = .bool true,
          .one fun v _ => v = .bool true]
         (fun W => Ext w W ∧ Bx3 W w.heap.size 35 (.bool b1) (.slice a1 n1 c1) (.slice d1 m1 o1) ∧ Bx3 W (w.heap.size + 1) 35 (.bool b2) (.slice a2 n2 c2) (.slice d2 m2 o2) ∧ Bx3 W (w.heap.size + 1 + 1) 35 (.bool true) (.slice a3 n3 c3) (.slice d3 m3 o3) ∧ Rw W (.agg #[.bool b1, .slice a1 n1 c1, .slice d1 m1 o1]) x ∧ Rw W (.agg #[.bool b2, .slice a2 n2 c2, .slice d2 m2 o2]) y ∧ Rw W (.agg #[.bool true, .slice a3 n3 c3, .slice d3 m3 o3]) z ∧ W24.heap.size ≤ W.heap.size) ⟨Good.is _, Good.is _, Good.is _, Good.is _, Good.rat _, Good.is _, Good.is _, Good.rat _, Good.is _, Good.is _, Good.is _, Good.is _, Good.is _, Good.is _, Good.is _, Good.rat _, Good.rat _, Good.is _, Good.is _, Good.is _, Good.is _, Good.is _, Good.is _, Good.is _, Good.is _, Good.is _, Good.is _, Good.is _, Good.is _, Good.is _, Good.is _, Good.is _, Good.is _, Good.is _, Good.is _, Good.is _, Good.is _, trivial⟩
         (fun W W1 hS hE => ⟨(Ext.trans hS.1 hE), (hS.2.1.ext hE), (hS.2.2.1.ext hE), (hS.2.2.2.1.ext hE), (hS.2.2.2.2.1.ext hE), (hS.2.2.2.2.2.1.ext hE), (hS.2.2.2.2.2.2.1.ext hE), (Nat.le_trans hS.2.2.2.2.2.2.2 (Ext.size hE))⟩) ⟨E0, p3, p4, p5, hx1, hx2, hx3, Nat.le_refl _⟩ (by kernel_rfl) (by kernel_rfl) (by kernel_rfl) (by kernel_rfl) (A := ?A25) ?hA25 ?howe25 ?hfin25
        case hA25 =>
         intro vs
         simp only [putAll, Act.put, List.setIfInBounds_toArray, List.set_cons_zero, List.set_cons_succ, Nat.zero_add, Nat.reduceAdd]
         exact rfl
        case howe25 =>
         clear E0 p3 p4 p5 hx1 hx2 hx3
         intro hf
         refine ⟨owesE 0 [] hf rfl (by kernel_rfl) ?_, owesE 1 [0] hf rfl (by kernel_rfl) ?_, owesE 2 [1] hf rfl (by kernel_rfl) ?_, owesE 3 [1] hf rfl (by kernel_rfl) ?_, owesE 4 [1, 2, 3] hf rfl (by kernel_rfl) ?_, owesE 5 [1] hf rfl (by kernel_rfl) ?_, owesE 6 [1] hf rfl (by kernel_rfl) ?_, owesE 7 [1, 5, 6] hf rfl (by kernel_rfl) ?_, owesE 8 [1, 4, 7] hf rfl (by kernel_rfl) ?_, owesE 9 [1] hf rfl (by kernel_rfl) ?_, owesE 10 [1, 8, 9] hf rfl (by kernel_rfl) ?_, owesE 11 [1, 10] hf rfl (by kernel_rfl) ?_, owesE 12 [11] hf rfl (by kernel_rfl) ?_, owesE 13 [12] hf rfl (by kernel_rfl) ?_, owesE 14 [12] hf rfl (by kernel_rfl) ?_, owesE 15 [12, 13, 14] hf rfl (by kernel_rfl) ?_, owesE 16 [12] hf rfl (by kernel_rfl) ?_, owesE 17 [12, 15, 16] hf rfl (by kernel_rfl) ?_, owesE 18 [12] hf rfl (by kernel_rfl) ?_, owesE 19 [12, 17, 18] hf rfl (by kernel_rfl) ?_, owesE 20 [12, 19] hf rfl (by kernel_rfl) ?_, owesE 21 [20] hf rfl (by kernel_rfl) ?_, owesE 22 [21] hf rfl (by kernel_rfl) ?_, owesE 23 [21, 22] hf rfl (by kernel_rfl) ?_, owesE 24 [21, 23] hf rfl (by kernel_rfl) ?_, owesE 25 [24] hf rfl (by kernel_rfl) ?_, owesE 26 [24] hf rfl (by kernel_rfl) ?_, owesE 27 [24] hf rfl (by kernel_rfl) ?_, owesE 28 [24] hf rfl (by kernel_rfl) ?_, owesE 29 [24] hf rfl (by kernel_rfl) ?_, owesE 30 [24] hf rfl (by kernel_rfl) ?_, owesE 31 [24] hf rfl (by kernel_rfl) ?_, owesE 32 [24] hf rfl (by kernel_rfl) ?_, owesE 33 [24] hf rfl (by kernel_rfl) ?_, owesE 34 [21, 24, 33] hf rfl (by kernel_rfl) ?_, owesE 35 [21, 34] hf rfl (by kernel_rfl) ?_, owesE 36 [35] hf rfl (by kernel_rfl) ?_, trivial⟩
         all_goals intro vs W hS hp hx KO hKO
         all_goals simp only [Act.put, List.setIfInBounds_toArray, List.set_cons_zero, List.set_cons_succ] at hKO
         ·go_simp
          refine (Try.alive05 _).mono ?_
          rintro e W1 ⟨rfl, hE⟩
          exact hKO _ W1 hE rfl
         ·have e0 := isOf hp.1
          simp only [e0] at hKO
          go_simp
          exact hKO _ W (Ext.refl W) rfl
         ·have e1 := isOf hp.1
          simp only [e1] at hKO
          have fc0 := hS.2.1.cell0
          have fc1 := hS.2.1.cell1
          have fc2 := hS.2.1.cell2
          go_simp
          exact hKO _ W (Ext.refl W) rfl
         ·have e1 := isOf hp.1
          simp only [e1] at hKO
          have fc0 := hS.2.2.2.1.cell0
          have fc1 := hS.2.2.2.1.cell1
          have fc2 := hS.2.2.2.1.cell2
          go_simp
          exact hKO _ W (Ext.refl W) rfl
         ·have e1 := isOf hp.1
          have e2 := isOf hp.2.1
          have e3 := isOf hp.2.2.1
          simp only [e1, e2, e3] at hKO
          go_simp
          refine (Try.ratAdd (hS.2.2.2.2.1) (hS.2.2.2.2.2.2.1) s1 s3 (by omega)).mono ?_
          rintro e W1 ⟨v, rfl, hv, hE⟩
          exact hKO _ W1 hE hv
         ·have e1 := isOf hp.1
          simp only [e1] at hKO
          have fc0 := hS.2.2.1.cell0
          have fc1 := hS.2.2.1.cell1
          have fc2 := hS.2.2.1.cell2
          go_simp
          exact hKO _ W (Ext.refl W) rfl
         ·have e1 := isOf hp.1
          simp only [e1] at hKO
          have fc0 := hS.2.2.2.1.cell0
          have fc1 := hS.2.2.2.1.cell1
          have fc2 := hS.2.2.2.1.cell2
          go_simp
          exact hKO _ W (Ext.refl W) rfl
         ·have e1 := isOf hp.1
          have e5 := isOf hp.2.1
          have e6 := isOf hp.2.2.1
          simp only [e1, e5, e6] at hKO
          go_simp
          refine (Try.ratAdd (hS.2.2.2.2.2.1) (hS.2.2.2.2.2.2.1) s2 s3 (by omega)).mono ?_
          rintro e W1 ⟨v, rfl, hv, hE⟩
          exact hKO _ W1 hE hv
         ·have e1 := isOf hp.1
          have q4 := hp.2.1
          have q7 := hp.2.2.1
          simp only [e1] at hKO
          go_simp
          refine (Try.ratCmpR q4 q7 SA.out SB.out (by omega) C4.out).mono ?_
          rintro e W1 ⟨rfl, hE⟩
          exact hKO _ W1 hE rfl
         ·have e1 := isOf hp.1
          simp only [e1] at hKO
          go_simp
          exact hKO _ W (Ext.refl W) rfl
         ·have e1 := isOf hp.1
          have e8 := isOf hp.2.1
          have e9 := isOf hp.2.2.1
          simp only [e1, e8, e9] at hKO
          go_simp
          exact hKO _ W (Ext.refl W) rfl
         ·have e1 := isOf hp.1
          have e10 := isOf hp.2.1
          simp only [e1, e10] at hKO
          go_simp
          exact hKO _ W (Ext.refl W) rfl
         ·have e11 := isOf hp.1
          simp only [e11] at hKO
          go_simp
          exact hKO _ W (Ext.refl W) rfl
         ·have e12 := isOf hp.1
          simp only [e12] at hKO
          have fc0 := hS.2.1.cell0
          have fc1 := hS.2.1.cell1
          have fc2 := hS.2.1.cell2
          go_simp
          exact hKO _ W (Ext.refl W) rfl
         ·have e12 := isOf hp.1
          simp only [e12] at hKO
          have fc0 := hS.2.2.1.cell0
          have fc1 := hS.2.2.1.cell1
          have fc2 := hS.2.2.1.cell2
          go_simp
          exact hKO _ W (Ext.refl W) rfl
         ·have e12 := isOf hp.1
          have e13 := isOf hp.2.1
          have e14 := isOf hp.2.2.1
          simp only [e12, e13, e14] at hKO
          go_simp
          refine (Try.ratSub (hS.2.2.2.2.1) (hS.2.2.2.2.2.1) s1 s2 (by omega)).mono ?_
          rintro e W1 ⟨v, rfl, hv, hE⟩
          exact hKO _ W1 hE hv
         ·have e12 := isOf hp.1
          simp only [e12] at hKO
          go_simp
          refine (Try.ratOf 0 _ (by omega) (by omega)).mono ?_
          rintro e W1 ⟨v, rfl, hv, hE⟩
          exact hKO _ W1 hE hv
         ·have e12 := isOf hp.1
          have q15 := hp.2.1
          have q16 := hp.2.2.1
          simp only [e12] at hKO
          go_simp
          refine (Try.ratCmpR q15 q16 SC.out S0.out (by omega) C5.out).mono ?_
          rintro e W1 ⟨rfl, hE⟩
          exact hKO _ W1 hE rfl
         ·have e12 := isOf hp.1
          simp only [e12] at hKO
          go_simp
          exact hKO _ W (Ext.refl W) rfl
         ·have e12 := isOf hp.1
          have e17 := isOf hp.2.1
          have e18 := isOf hp.2.2.1
          simp only [e12, e17, e18] at hKO
          go_simp
          exact hKO _ W (Ext.refl W) rfl
         ·have e12 := isOf hp.1
          have e19 := isOf hp.2.1
          simp only [e12, e19] at hKO
          go_simp
          exact hKO _ W (Ext.refl W) rfl
         ·have e20 := isOf hp.1
          simp only [e20] at hKO
          go_simp
          exact hKO _ W (Ext.refl W) rfl
         ·have e21 := isOf hp.1
          simp only [e21] at hKO
          go_simp
          exact hKO _ W (Ext.refl W) rfl
         ·have e21 := isOf hp.1
          have e22 := isOf hp.2.1
          simp only [e21, e22] at hKO
          go_simp
          exact hKO _ W (Ext.refl W) rfl
         ·have e21 := isOf hp.1
          have e23 := isOf hp.2.1
          simp only [e21, e23] at hKO
          go_simp
          exact hKO _ W (Ext.refl W) rfl
         ·have e24 := isOf hp.1
          simp only [e24] at hKO
          go_simp
          exact hKO _ W (Ext.refl W) rfl
         ·have e24 := isOf hp.1
          simp only [e24] at hKO
          go_simp
          exact hKO _ W (Ext.refl W) rfl
         ·have e24 := isOf hp.1
          simp only [e24] at hKO
          go_simp
          exact hKO _ W (Ext.refl W) rfl
         ·have e24 := isOf hp.1
          simp only [e24] at hKO
          go_simp
          exact hKO _ W (Ext.refl W) rfl
         ·have e24 := isOf hp.1
          simp only [e24] at hKO
          go_simp
          exact hKO _ W (Ext.refl W) rfl
         ·have e24 := isOf hp.1
          simp only [e24] at hKO
          go_simp
          exact hKO _ W (Ext.refl W) rfl
         ·have e24 := isOf hp.1
          simp only [e24] at hKO
          go_simp
          exact hKO _ W (Ext.refl W) rfl
         ·have e24 := isOf hp.1
          simp only [e24] at hKO
          go_simp
          exact hKO _ W (Ext.refl W) rfl
         ·have e24 := isOf hp.1
          simp only [e24] at hKO
          go_simp
          exact hKO _ W (Ext.refl W) rfl
         ·have e21 := isOf hp.1
          have e24 := isOf hp.2.1
          have e33 := isOf hp.2.2.1
          simp only [e21, e24, e33] at hKO
          go_simp
          exact hKO _ W (Ext.refl W) rfl
         ·have e21 := isOf hp.1
          have e34 := isOf hp.2.1
          simp only [e21, e34] at hKO
          go_simp
          exact hKO _ W (Ext.refl W) rfl
         ·have e35 := isOf hp.1
          simp only [e35] at hKO
          go_simp
          exact hKO _ W (Ext.refl W) rfl
        intro vs W25 hS hp
        clear szw25 E0 p3 p4 p5 hx1 hx2 hx3
        obtain ⟨E0, p3, p4, p5, hx1, hx2, hx3, sz25⟩ := hS
        obtain ⟨h25_0, h25_1, h25_2, h25_3, h25_4, h25_5, h25_6, h25_7, h25_8, h25_9, h25_10, h25_11, h25_12, h25_13, h25_14, h25_15, h25_16, h25_17, h25_18, h25_19, h25_20, h25_21, h25_22, h25_23, h25_24, h25_25, h25_26, h25_27, h25_28, h25_29, h25_30, h25_31, h25_32, h25_33, h25_34, h25_35, h25_36, -⟩ := hp
        replace h25_0 : vs 0 = .bool true := h25_0
        replace h25_1 : vs 1 = .bool true := h25_1
        replace h25_2 : vs 2 = .agg #[.bool b1, .slice a1 n1 c1, .slice d1 m1 o1] := h25_2
        replace h25_3 : vs 3 = .agg #[.bool true, .slice a3 n3 c3, .slice d3 m3 o3] := h25_3
        replace h25_5 : vs 5 = .agg #[.bool b2, .slice a2 n2 c2, .slice d2 m2 o2] := h25_5
        replace h25_6 : vs 6 = .agg #[.bool true, .slice a3 n3 c3, .slice d3 m3 o3] := h25_6
        replace h25_8 : vs 8 = .int .i64 c := h25_8
        replace h25_9 : vs 9 = .int .i64 c := h25_9
        replace h25_10 : vs 10 = .bool true := h25_10
        replace h25_11 : vs 11 = .bool true := h25_11
        replace h25_12 : vs 12 = .bool true := h25_12
        replace h25_13 : vs 13 = .agg #[.bool b1, .slice a1 n1 c1, .slice d1 m1 o1] := h25_13
        replace h25_14 : vs 14 = .agg #[.bool b2, .slice a2 n2 c2, .slice d2 m2 o2] := h25_14
        replace h25_17 : vs 17 = .int .i64 c := h25_17
        replace h25_18 : vs 18 = .int .i64 c := h25_18
        replace h25_19 : vs 19 = .bool true := h25_19
        replace h25_20 : vs 20 = .bool true := h25_20
        replace h25_21 : vs 21 = .bool true := h25_21
        replace h25_22 : vs 22 = .bool false := h25_22
        replace h25_23 : vs 23 = .bool true := h25_23
        replace h25_24 : vs 24 = .bool true := h25_24
        replace h25_25 : vs 25 = undef := h25_25
        replace h25_26 : vs 26 = undef := h25_26
        replace h25_27 : vs 27 = undef := h25_27
        replace h25_28 : vs 28 = undef := h25_28
        replace h25_29 : vs 29 = undef := h25_29
        replace h25_30 : vs 30 = undef := h25_30
        replace h25_31 : vs 31 = undef := h25_31
        replace h25_32 : vs 32 = undef := h25_32
        replace h25_33 : vs 33 = undef := h25_33
        replace h25_34 : vs 34 = .bool true := h25_34
        replace h25_35 : vs 35 = .bool true := h25_35
        replace h25_36 : vs 36 = .bool true := h25_36
        simp only [h25_0, h25_1, h25_2, h25_3, h25_5, h25_6, h25_8, h25_9, h25_10, h25_11, h25_12, h25_13, h25_14, h25_17, h25_18, h25_19, h25_20, h25_21, h25_22, h25_23, h25_24, h25_25, h25_26, h25_27, h25_28, h25_29, h25_30, h25_31, h25_32, h25_33, h25_34, h25_35, h25_36]
        replace h25_4 : Rw W25 (vs 4) (x + z) := h25_4
        generalize vs 4 = u25_4 at h25_4 ⊢
        replace h25_7 : Rw W25 (vs 7) (y + z) := h25_7
        generalize vs 7 = u25_7 at h25_7 ⊢
        replace h25_15 : Rw W25 (vs 15) (x - y) := h25_15
        generalize vs 15 = u25_15 at h25_15 ⊢
        replace h25_16 : Rw W25 (vs 16) (((0 : Int) : Rat)) := h25_16
        generalize vs 16 = u25_16 at h25_16 ⊢
        clear h25_0 h25_1 h25_2 h25_3 h25_5 h25_6 h25_8 h25_9 h25_10 h25_11 h25_12 h25_13 h25_14 h25_17 h25_18 h25_19 h25_20 h25_21 h25_22 h25_23 h25_24 h25_25 h25_26 h25_27 h25_28 h25_29 h25_30 h25_31 h25_32 h25_33 h25_34 h25_35 h25_36
        have kp3_0 := p3.cell0
        have kp3_1 := p3.cell1
        have kp3_2 := p3.cell2
        have kp4_0 := p4.cell0
        have kp4_1 := p4.cell1
        have kp4_2 := p4.cell2
        have kp5_0 := p5.cell0
        have kp5_1 := p5.cell1
        have kp5_2 := p5.cell2
        go_wp2
        go_ret
        exact ⟨rfl, E0⟩
      ·have hn0I : ¬ (0 : Int) < (n3 : Int) := by omega
       have hn0N : ¬ 0 < n3 := by omega
       clear hz0 hb3 hn3
       have kp3_0 := p3.cell0
       have kp3_1 := p3.cell1
       have kp3_2 := p3.cell2
       have kp4_0 := p4.cell0
       have kp4_1 := p4.cell1
       have kp4_2 := p4.cell2
       have kp5_0 := p5.cell0
       have kp5_1 := p5.cell1
       have kp5_2 := p5.cell2
       go_upto_region 6 with (fail)
       clear kp3_0 kp3_1 kp3_2 kp4_0 kp4_1 kp4_2 kp5_0 kp5_1 kp5_2
       have szw22 := Ext.size E0
       refine region_go [.one fun v _ => v = .pointer (some ⟨w.heap.size + 1 + 1, 0, none⟩),
         .one fun v _ => v = .pointer (some ⟨w.heap.size + 1 + 1, 1, none⟩),
         .one fun v _ => v = .slice a3 n3 c3,
         .one fun v _ => v = .int .i64 (n3 : Int),
         .one fun v _ => v = .bool false,
         .one fun v _ => v = .bool false,
         .one fun v _ => v = undef,
         .one fun v _ => v = undef,
         .one fun v _ => v = undef,
         .one fun v _ => v = undef,
         .one fun v _ => v = .bool false,
         .one fun v _ => v = .bool false]
        (fun W => Ext w W ∧ Bx3 W w.heap.size 35 (.bool b1) (.slice a1 n1 c1) (.slice d1 m1 o1) ∧ Bx3 W (w.heap.size + 1) 35 (.bool b2) (.slice a2 n2 c2) (.slice d2 m2 o2) ∧ Bx3 W (w.heap.size + 1 + 1) 35 (.bool b3) (.slice a3 n3 c3) (.slice d3 m3 o3) ∧ Rw W (.agg #[.bool b1, .slice a1 n1 c1, .slice d1 m1 o1]) x ∧ Rw W (.agg #[.bool b2, .slice a2 n2 c2, .slice d2 m2 o2]) y ∧ Rw W (.agg #[.bool b3, .slice a3 n3 c3, .slice d3 m3 o3]) z ∧ W19.heap.size ≤ W.heap.size) ⟨Good.is _, Good.is _, Good.is _, Good.is _, Good.is _, Good.is _, Good.is _, Good.is _, Good.is _, Good.is _, Good.is _, Good.is _, trivial⟩
        (fun W W1 hS hE => ⟨(Ext.trans hS.1 hE), (hS.2.1.ext hE), (hS.2.2.1.ext hE), (hS.2.2.2.1.ext hE), (hS.2.2.2.2.1.ext hE), (hS.2.2.2.2.2.1.ext hE), (hS.2.2.2.2.2.2.1.ext hE), (Nat.le_trans hS.2.2.2.2.2.2.2 (Ext.size hE))⟩) ⟨E0, p3, p4, p5, hx1, hx2, hx3, Nat.le_refl _⟩ (by kernel_rfl) (by kernel_rfl) (by kernel_rfl) (by kernel_rfl) (A := ?A22) ?hA22 ?howe22 ?hfin22
       case hA22 =>
        intro vs
        simp only [putAll, Act.put, List.setIfInBounds_toArray, List.set_cons_zero, List.set_cons_succ, Nat.zero_add, Nat.reduceAdd]
        exact rfl
       case howe22 =>
        clear E0 p3 p4 p5 hx1 hx2 hx3
        intro hf
        refine ⟨owesE 0 [] hf rfl (by kernel_rfl) ?_, owesE 1 [0] hf rfl (by kernel_rfl) ?_, owesE 2 [1] hf rfl (by kernel_rfl) ?_, owesE 3 [2] hf rfl (by kernel_rfl) ?_, owesE 4 [3] hf rfl (by kernel_rfl) ?_, owesE 5 [4] hf rfl (by kernel_rfl) ?_, owesE 6 [5] hf rfl (by kernel_rfl) ?_, owesE 7 [5] hf rfl (by kernel_rfl) ?_, owesE 8 [5] hf rfl (by kernel_rfl) ?_, owesE 9 [5] hf rfl (by kernel_rfl) ?_, owesE 10 [5, 9] hf rfl (by kernel_rfl) ?_, owesE 11 [10] hf rfl (by kernel_rfl) ?_, trivial⟩
        all_goals intro vs W hS hp hx KO hKO
        all_goals simp only [Act.put, List.setIfInBounds_toArray, List.set_cons_zero, List.set_cons_succ] at hKO
        ·go_simp
         exact hKO _ W (Ext.refl W) rfl
        ·have e0 := isOf hp.1
         simp only [e0] at hKO
         go_simp
         exact hKO _ W (Ext.refl W) rfl
        ·have e1 := isOf hp.1
         simp only [e1] at hKO
         have fc1 := hS.2.2.2.1.cell1
         go_simp
         exact hKO _ W (Ext.refl W) rfl
        ·have e2 := isOf hp.1
         simp only [e2] at hKO
         go_simp
         exact hKO _ W (Ext.refl W) rfl
        ·have e3 := isOf hp.1
         simp only [e3] at hKO
         go_simp
         exact hKO _ W (Ext.refl W) rfl
        ·have e4 := isOf hp.1
         simp only [e4] at hKO
         go_simp
         exact hKO _ W (Ext.refl W) rfl
        ·have e5 := isOf hp.1
         simp only [e5] at hKO
         go_simp
         exact hKO _ W (Ext.refl W) rfl
        ·have e5 := isOf hp.1
         simp only [e5] at hKO
         go_simp
         exact hKO _ W (Ext.refl W) rfl
        ·have e5 := isOf hp.1
         simp only [e5] at hKO
         go_simp
         exact hKO _ W (Ext.refl W) rfl
        ·have e5 := isOf hp.1
         simp only [e5] at hKO
         go_simp
         exact hKO _ W (Ext.refl W) rfl
        ·have e5 := isOf hp.1
         have e9 := isOf hp.2.1
         simp only [e5, e9] at hKO
         go_simp
         exact hKO _ W (Ext.refl W) rfl
        ·have e10 := isOf hp.1
         simp only [e10] at hKO
         go_simp
         exact hKO _ W (Ext.refl W) rfl
       intro vs W22 hS hp
       clear szw22 E0 p3 p4 p5 hx1 hx2 hx3
       obtain ⟨E0, p3, p4, p5, hx1, hx2, hx3, sz22⟩ := hS
       obtain ⟨h22_0, h22_1, h22_2, h22_3, h22_4, h22_5, h22_6, h22_7, h22_8, h22_9, h22_10, h22_11, -⟩ := hp
       replace h22_0 : vs 0 = .pointer (some ⟨w.heap.size + 1 + 1, 0, none⟩) := h22_0
       replace h22_1 : vs 1 = .pointer (some ⟨w.heap.size + 1 + 1, 1, none⟩) := h22_1
       replace h22_2 : vs 2 = .slice a3 n3 c3 := h22_2
       replace h22_3 : vs 3 = .int .i64 (n3 : Int) := h22_3
       replace h22_4 : vs 4 = .bool false := h22_4
       replace h22_5 : vs 5 = .bool false := h22_5
       replace h22_6 : vs 6 = undef := h22_6
       replace h22_7 : vs 7 = undef := h22_7
       replace h22_8 : vs 8 = undef := h22_8
       replace h22_9 : vs 9 = undef := h22_9
       replace h22_10 : vs 10 = .bool false := h22_10
       replace h22_11 : vs 11 = .bool false := h22_11
       simp only [h22_0, h22_1, h22_2, h22_3, h22_4, h22_5, h22_6, h22_7, h22_8, h22_9, h22_10, h22_11]
       clear h22_0 h22_1 h22_2 h22_3 h22_4 h22_5 h22_6 h22_7 h22_8 h22_9 h22_10 h22_11
       have kp3_0 := p3.cell0
       have kp3_1 := p3.cell1
       have kp3_2 := p3.cell2
       have kp4_0 := p4.cell0
       have kp4_1 := p4.cell1
       have kp4_2 := p4.cell2
       have kp5_0 := p5.cell0
       have kp5_1 := p5.cell1
       have kp5_2 := p5.cell2
       go_upto_region 7 with (fail)
       clear kp3_0 kp3_1 kp3_2 kp4_0 kp4_1 kp4_2 kp5_0 kp5_1 kp5_2
       have szw23 := Ext.size E0
       refine region_go [.one fun v _ => v = .bool true,
         .one fun v _ => v = .bool true,
         .one fun v _ => v = .agg #[.bool b1, .slice a1 n1 c1, .slice d1 m1 o1],
         .one fun v _ => v = .agg #[.bool b3, .slice a3 n3 c3, .slice d3 m3 o3],
         .one fun v W => Rw W v (x + z),
         .one fun v _ => v = .agg #[.bool b2, .slice a2 n2 c2, .slice d2 m2 o2],
         .one fun v _ => v = .agg #[.bool b3, .slice a3 n3 c3, .slice d3 m3 o3],
         .one fun v W => Rw W v (y + z),
         .one fun v _ => v = .int .i64 c,
         .one fun v _ => v = .int .i64 c,
         .one fun v _ => v = .bool true,
         .one fun v _ => v = .bool true,
         .one fun v _ => v = .bool true,
         .one fun v _ => v = .agg #[.bool b1, .slice a1 n1 c1, .slice d1 m1 o1],
         .one fun v _ => v = .agg #[.bool b2, .slice a2 n2 c2, .slice d2 m2 o2],
         .one fun v W => Rw W v (x - y),
         .one fun v W => Rw W v (((0 : Int) : Rat)),
         .one fun v _ => v = .int .i64 c,
         .one fun v _ => v = .int .i64 c,
         .one fun v _ => v = .bool true,
         .one fun v _ => v = .bool true,
         .one fun v _ => v = .bool true,
         .one fun v _ => v = .bool false,
         .one fun v _ => v = .bool true,
         .one fun v _ => v = .bool true,
         .one fun v _ => v = undef,
         .one fun v _ => v = undef,
         .one fun v _ => v = undef,
         .one fun v _ => v = undef,
         .one fun v _ => v = undef,
         .one fun v _ => v = undef,
         .one fun v _ => v = undef,
         .one fun v _ => v = undef,
         .one fun v _ => v = undef,
         .one fun v _ => v = .bool true,
         .one fun v _ => v = .bool true,
         .one fun v _ => v = .bool true]
        (fun W => Ext w W ∧ Bx3 W w.heap.size 35 (.bool b1) (.slice a1 n1 c1) (.slice d1 m1 o1) ∧ Bx3 W (w.heap.size + 1) 35 (.bool b2) (.slice a2 n2 c2) (.slice d2 m2 o2) ∧ Bx3 W (w.heap.size + 1 + 1) 35 (.bool b3) (.slice a3 n3 c3) (.slice d3 m3 o3) ∧ Rw W (.agg #[.bool b1, .slice a1 n1 c1, .slice d1 m1 o1]) x ∧ Rw W (.agg #[.bool b2, .slice a2 n2 c2, .slice d2 m2 o2]) y ∧ Rw W (.agg #[.bool b3, .slice a3 n3 c3, .slice d3 m3 o3]) z ∧ W22.heap.size ≤ W.heap.size) ⟨Good.is _, Good.is _, Good.is _, Good.is _, Good.rat _, Good.is _, Good.is _, Good.rat _, Good.is _, Good.is _, Good.is _, Good.is _, Good.is _, Good.is _, Good.is _, Good.rat _, Good.rat _, Good.is _, Good.is _, Good.is _, Good.is _, Good.is _, Good.is _, Good.is _, Good.is _, Good.is _, Good.is _, Good.is _, Good.is _, Good.is _, Good.is _, Good.is _, Good.is _, Good.is _, Good.is _, Good.is _, Good.is _, trivial⟩
        (fun W W1 hS hE => ⟨(Ext.trans hS.1 hE), (hS.2.1.ext hE), (hS.2.2.1.ext hE), (hS.2.2.2.1.ext hE), (hS.2.2.2.2.1.ext hE), (hS.2.2.2.2.2.1.ext hE), (hS.2.2.2.2.2.2.1.ext hE), (Nat.le_trans hS.2.2.2.2.2.2.2 (Ext.size hE))⟩) ⟨E0, p3, p4, p5, hx1, hx2, hx3, Nat.le_refl _⟩ (by kernel_rfl) (by kernel_rfl) (by kernel_rfl) (by kernel_rfl) (A := ?A23) ?hA23 ?howe23 ?hfin23
       case hA23 =>
        intro vs
        simp only [putAll, Act.put, List.setIfInBounds_toArray, List.set_cons_zero, List.set_cons_succ, Nat.zero_add, Nat.reduceAdd]
        exact rfl
       case howe23 =>
        clear E0 p3 p4 p5 hx1 hx2 hx3
        intro hf
        refine ⟨owesE 0 [] hf rfl (by kernel_rfl) ?_, owesE 1 [0] hf rfl (by kernel_rfl) ?_, owesE 2 [1] hf rfl (by kernel_rfl) ?_, owesE 3 [1] hf rfl (by kernel_rfl) ?_, owesE 4 [1, 2, 3] hf rfl (by kernel_rfl) ?_, owesE 5 [1] hf rfl (by kernel_rfl) ?_, owesE 6 [1] hf rfl (by kernel_rfl) ?_, owesE 7 [1, 5, 6] hf rfl (by kernel_rfl) ?_, owesE 8 [1, 4, 7] hf rfl (by kernel_rfl) ?_, owesE 9 [1] hf rfl (by kernel_rfl) ?_, owesE 10 [1, 8, 9] hf rfl (by kernel_rfl) ?_, owesE 11 [1, 10] hf rfl (by kernel_rfl) ?_, owesE 12 [11] hf rfl (by kernel_rfl) ?_, owesE 13 [12] hf rfl (by kernel_rfl) ?_, owesE 14 [12] hf rfl (by kernel_rfl) ?_, owesE 15 [12, 13, 14] hf rfl (by kernel_rfl) ?_, owesE 16 [12] hf rfl (by kernel_rfl) ?_, owesE 17 [12, 15, 16] hf rfl (by kernel_rfl) ?_, owesE 18 [12] hf rfl (by kernel_rfl) ?_, owesE 19 [12, 17, 18] hf rfl (by kernel_rfl) ?_, owesE 20 [12, 19] hf rfl (by kernel_rfl) ?_, owesE 21 [20] hf rfl (by kernel_rfl) ?_, owesE 22 [21] hf rfl (by kernel_rfl) ?_, owesE 23 [21, 22] hf rfl (by kernel_rfl) ?_, owesE 24 [21, 23] hf rfl (by kernel_rfl) ?_, owesE 25 [24] hf rfl (by kernel_rfl) ?_, owesE 26 [24] hf rfl (by kernel_rfl) ?_, owesE 27 [24] hf rfl (by kernel_rfl) ?_, owesE 28 [24] hf rfl (by kernel_rfl) ?_, owesE 29 [24] hf rfl (by kernel_rfl) ?_, owesE 30 [24] hf rfl (by kernel_rfl) ?_, owesE 31 [24] hf rfl (by kernel_rfl) ?_, owesE 32 [24] hf rfl (by kernel_rfl) ?_, owesE 33 [24] hf rfl (by kernel_rfl) ?_, owesE 34 [21, 24, 33] hf rfl (by kernel_rfl) ?_, owesE 35 [21, 34] hf rfl (by kernel_rfl) ?_, owesE 36 [35] hf rfl (by kernel_rfl) ?_, trivial⟩
        all_goals intro vs W hS hp hx KO hKO
        all_goals simp only [Act.put, List.setIfInBounds_toArray, List.set_cons_zero, List.set_cons_succ] at hKO
        ·go_simp
         refine (Try.alive05 _).mono ?_
         rintro e W1 ⟨rfl, hE⟩
         exact hKO _ W1 hE rfl
        ·have e0 := isOf hp.1
         simp only [e0] at hKO
         go_simp
         exact hKO _ W (Ext.refl W) rfl
        ·have e1 := isOf hp.1
         simp only [e1] at hKO
         have fc0 := hS.2.1.cell0
         have fc1 := hS.2.1.cell1
         have fc2 := hS.2.1.cell2
         go_simp
         exact hKO _ W (Ext.refl W) rfl
        ·have e1 := isOf hp.1
         simp only [e1] at hKO
         have fc0 := hS.2.2.2.1.cell0
         have fc1 := hS.2.2.2.1.cell1
         have fc2 := hS.2.2.2.1.cell2
         go_simp
         exact hKO _ W (Ext.refl W) rfl
        ·have e1 := isOf hp.1
         have e2 := isOf hp.2.1
         have e3 := isOf hp.2.2.1
         simp only [e1, e2, e3] at hKO
         go_simp
         refine (Try.ratAdd (hS.2.2.2.2.1) (hS.2.2.2.2.2.2.1) s1 s3 (by omega)).mono ?_
         rintro e W1 ⟨v, rfl, hv, hE⟩
         exact hKO _ W1 hE hv
        ·have e1 := isOf hp.1
         simp only [e1] at hKO
         have fc0 := hS.2.2.1.cell0
         have fc1 := hS.2.2.1.cell1
         have fc2 := hS.2.2.1.cell2
         go_simp
         exact hKO _ W (Ext.refl W) rfl
        ·have e1 := isOf hp.1
         simp only [e1] at hKO
         have fc0 := hS.2.2.2.1.cell0
         have fc1 := hS.2.2.2.1.cell1
         have fc2 := hS.2.2.2.1.cell2
         go_simp
         exact hKO _ W (Ext.refl W) rfl
        ·have e1 := isOf hp.1
         have e5 := isOf hp.2.1
         have e6 := isOf hp.2.2.1
         simp only [e1, e5, e6] at hKO
         go_simp
         refine (Try.ratAdd (hS.2.2.2.2.2.1) (hS.2.2.2.2.2.2.1) s2 s3 (by omega)).mono ?_
         rintro e W1 ⟨v, rfl, hv, hE⟩
         exact hKO _ W1 hE hv
        ·have e1 := isOf hp.1
         have q4 := hp.2.1
         have q7 := hp.2.2.1
         simp only [e1] at hKO
         go_simp
         refine (Try.ratCmpR q4 q7 SA.out SB.out (by omega) C4.out).mono ?_
         rintro e W1 ⟨rfl, hE⟩
         exact hKO _ W1 hE rfl
        ·have e1 := isOf hp.1
         simp only [e1] at hKO
         go_simp
         exact hKO _ W (Ext.refl W) rfl
        ·have e1 := isOf hp.1
         have e8 := isOf hp.2.1
         have e9 := isOf hp.2.2.1
         simp only [e1, e8, e9] at hKO
         go_simp
         exact hKO _ W (Ext.refl W) rfl
        ·have e1 := isOf hp.1
         have e10 := isOf hp.2.1
         simp only [e1, e10] at hKO
         go_simp
         exact hKO _ W (Ext.refl W) rfl
        ·have e11 := isOf hp.1
         simp only [e11] at hKO
         go_simp
         exact hKO _ W (Ext.refl W) rfl
        ·have e12 := isOf hp.1
         simp only [e12] at hKO
         have fc0 := hS.2.1.cell0
         have fc1 := hS.2.1.cell1
         have fc2 := hS.2.1.cell2
         go_simp
         exact hKO _ W (Ext.refl W) rfl
        ·have e12 := isOf hp.1
         simp only [e12] at hKO
         have fc0 := hS.2.2.1.cell0
         have fc1 := hS.2.2.1.cell1
         have fc2 := hS.2.2.1.cell2
         go_simp
         exact hKO _ W (Ext.refl W) rfl
        ·have e12 := isOf hp.1
         have e13 := isOf hp.2.1
         have e14 := isOf hp.2.2.1
         simp only [e12, e13, e14] at hKO
         go_simp
         refine (Try.ratSub (hS.2.2.2.2.1) (hS.2.2.2.2.2.1) s1 s2 (by omega)).mono ?_
         rintro e W1 ⟨v, rfl, hv, hE⟩
         exact hKO _ W1 hE hv
        ·have e12 := isOf hp.1
         simp only [e12] at hKO
         go_simp
         refine (Try.ratOf 0 _ (by omega) (by omega)).mono ?_
         rintro e W1 ⟨v, rfl, hv, hE⟩
         exact hKO _ W1 hE hv
        ·have e12 := isOf hp.1
         have q15 := hp.2.1
         have q16 := hp.2.2.1
         simp only [e12] at hKO
         go_simp
         refine (Try.ratCmpR q15 q16 SC.out S0.out (by omega) C5.out).mono ?_
         rintro e W1 ⟨rfl, hE⟩
         exact hKO _ W1 hE rfl
        ·have e12 := isOf hp.1
         simp only [e12] at hKO
         go_simp
         exact hKO _ W (Ext.refl W) rfl
        ·have e12 := isOf hp.1
         have e17 := isOf hp.2.1
         have e18 := isOf hp.2.2.1
         simp only [e12, e17, e18] at hKO
         go_simp
         exact hKO _ W (Ext.refl W) rfl
        ·have e12 := isOf hp.1
         have e19 := isOf hp.2.1
         simp only [e12, e19] at hKO
         go_simp
         exact hKO _ W (Ext.refl W) rfl
        ·have e20 := isOf hp.1
         simp only [e20] at hKO
         go_simp
         exact hKO _ W (Ext.refl W) rfl
        ·have e21 := isOf hp.1
         simp only [e21] at hKO
         go_simp
         exact hKO _ W (Ext.refl W) rfl
        ·have e21 := isOf hp.1
         have e22 := isOf hp.2.1
         simp only [e21, e22] at hKO
         go_simp
         exact hKO _ W (Ext.refl W) rfl
        ·have e21 := isOf hp.1
         have e23 := isOf hp.2.1
         simp only [e21, e23] at hKO
         go_simp
         exact hKO _ W (Ext.refl W) rfl
        ·have e24 := isOf hp.1
         simp only [e24] at hKO
         go_simp
         exact hKO _ W (Ext.refl W) rfl
        ·have e24 := isOf hp.1
         simp only [e24] at hKO
         go_simp
         exact hKO _ W (Ext.refl W) rfl
        ·have e24 := isOf hp.1
         simp only [e24] at hKO
         go_simp
         exact hKO _ W (Ext.refl W) rfl
        ·have e24 := isOf hp.1
         simp only [e24] at hKO
         go_simp
         exact hKO _ W (Ext.refl W) rfl
        ·have e24 := isOf hp.1
         simp only [e24] at hKO
         go_simp
         exact hKO _ W (Ext.refl W) rfl
        ·have e24 := isOf hp.1
         simp only [e24] at hKO
         go_simp
         exact hKO _ W (Ext.refl W) rfl
        ·have e24 := isOf hp.1
         simp only [e24] at hKO
         go_simp
         exact hKO _ W (Ext.refl W) rfl
        ·have e24 := isOf hp.1
         simp only [e24] at hKO
         go_simp
         exact hKO _ W (Ext.refl W) rfl
        ·have e24 := isOf hp.1
         simp only [e24] at hKO
         go_simp
         exact hKO _ W (Ext.refl W) rfl
        ·have e21 := isOf hp.1
         have e24 := isOf hp.2.1
         have e33 := isOf hp.2.2.1
         simp only [e21, e24, e33] at hKO
         go_simp
         exact hKO _ W (Ext.refl W) rfl
        ·have e21 := isOf hp.1
         have e34 := isOf hp.2.1
         simp only [e21, e34] at hKO
         go_simp
         exact hKO _ W (Ext.refl W) rfl
        ·have e35 := isOf hp.1
         simp only [e35] at hKO
         go_simp
         exact hKO _ W (Ext.refl W) rfl
       intro vs W23 hS hp
       clear szw23 E0 p3 p4 p5 hx1 hx2 hx3
       obtain ⟨E0, p3, p4, p5, hx1, hx2, hx3, sz23⟩ := hS
       obtain ⟨h23_0, h23_1, h23_2, h23_3, h23_4, h23_5, h23_6, h23_7, h23_8, h23_9, h23_10, h23_11, h23_12, h23_13, h23_14, h23_15, h23_16, h23_17, h23_18, h23_19, h23_20, h23_21, h23_22, h23_23, h23_24, h23_25, h23_26, h23_27, h23_28, h23_29, h23_30, h23_31, h23_32, h23_33, h23_34, h23_35, h23_36, -⟩ := hp
       replace h23_0 : vs 0 = .bool true := h23_0
       replace h23_1 : vs 1 = .bool true := h23_1
       replace h23_2 : vs 2 = .agg #[.bool b1, .slice a1 n1 c1, .slice d1 m1 o1] := h23_2
       replace h23_3 : vs 3 = .agg #[.bool b3, .slice a3 n3 c3, .slice d3 m3 o3] := h23_3
       replace h23_5 : vs 5 = .agg #[.bool b2, .slice a2 n2 c2, .slice d2 m2 o2] := h23_5
       replace h23_6 : vs 6 = .agg #[.bool b3, .slice a3 n3 c3, .slice d3 m3 o3] := h23_6
       replace h23_8 : vs 8 = .int .i64 c := h23_8
       replace h23_9 : vs 9 = .int .i64 c := h23_9
       replace h23_10 : vs 10 = .bool true := h23_10
       replace h23_11 : vs 11 = .bool true := h23_11
       replace h23_12 : vs 12 = .bool true := h23_12
       replace h23_13 : vs 13 = .agg #[.bool b1, .slice a1 n1 c1, .slice d1 m1 o1] := h23_13
       replace h23_14 : vs 14 = .agg #[.bool b2, .slice a2 n2 c2, .slice d2 m2 o2] := h23_14
       replace h23_17 : vs 17 = .int .i64 c := h23_17
       replace h23_18 : vs 18 = .int .i64 c := h23_18
       replace h23_19 : vs 19 = .bool true := h23_19
       replace h23_20 : vs 20 = .bool true := h23_20
       replace h23_21 : vs 21 = .bool true := h23_21
       replace h23_22 : vs 22 = .bool false := h23_22
       replace h23_23 : vs 23 = .bool true := h23_23
       replace h23_24 : vs 24 = .bool true := h23_24
       replace h23_25 : vs 25 = undef := h23_25
       replace h23_26 : vs 26 = undef := h23_26
       replace h23_27 : vs 27 = undef := h23_27
       replace h23_28 : vs 28 = undef := h23_28
       replace h23_29 : vs 29 = undef := h23_29
       replace h23_30 : vs 30 = undef := h23_30
       replace h23_31 : vs 31 = undef := h23_31
       replace h23_32 : vs 32 = undef := h23_32
       replace h23_33 : vs 33 = undef := h23_33
       replace h23_34 : vs 34 = .bool true := h23_34
       replace h23_35 : vs 35 = .bool true := h23_35
       replace h23_36 : vs 36 = .bool true := h23_36
       simp only [h23_0, h23_1, h23_2, h23_3, h23_5, h23_6, h23_8, h23_9, h23_10, h23_11, h23_12, h23_13, h23_14, h23_17, h23_18, h23_19, h23_20, h23_21, h23_22, h23_23, h23_24, h23_25, h23_26, h23_27, h23_28, h23_29, h23_30, h23_31, h23_32, h23_33, h23_34, h23_35, h23_36]
       replace h23_4 : Rw W23 (vs 4) (x + z) := h23_4
       generalize vs 4 = u23_4 at h23_4 ⊢
       replace h23_7 : Rw W23 (vs 7) (y + z) := h23_7
       generalize vs 7 = u23_7 at h23_7 ⊢
       replace h23_15 : Rw W23 (vs 15) (x - y) := h23_15
       generalize vs 15 = u23_15 at h23_15 ⊢
       replace h23_16 : Rw W23 (vs 16) (((0 : Int) : Rat)) := h23_16
       generalize vs 16 = u23_16 at h23_16 ⊢
       clear h23_0 h23_1 h23_2 h23_3 h23_5 h23_6 h23_8 h23_9 h23_10 h23_11 h23_12 h23_13 h23_14 h23_17 h23_18 h23_19 h23_20 h23_21 h23_22 h23_23 h23_24 h23_25 h23_26 h23_27 h23_28 h23_29 h23_30 h23_31 h23_32 h23_33 h23_34 h23_35 h23_36
       have kp3_0 := p3.cell0
       have kp3_1 := p3.cell1
       have kp3_2 := p3.cell2
       have kp4_0 := p4.cell0
       have kp4_1 := p4.cell1
       have kp4_2 := p4.cell2
       have kp5_0 := p5.cell0
       have kp5_1 := p5.cell1
       have kp5_2 := p5.cell2
       go_wp2
       go_ret
       exact ⟨rfl, E0⟩
     ·have hle : c ≤ 0 := by omega
      have hld : d ≤ 0 := by omega
      have hle2 : ¬ 0 < e := by have := hTr.out hc0 hd0; omega
      clear hTr
      have kp3_0 := p3.cell0
      have kp3_1 := p3.cell1
      have kp3_2 := p3.cell2
      have kp4_0 := p4.cell0
      have kp4_1 := p4.cell1
      have kp4_2 := p4.cell2
      have kp5_0 := p5.cell0
      have kp5_1 := p5.cell1
      have kp5_2 := p5.cell2
      go_upto_region 4 with (fail)
      clear kp3_0 kp3_1 kp3_2 kp4_0 kp4_1 kp4_2 kp5_0 kp5_1 kp5_2
      have szw26 := Ext.size E0
      refine region_go [.one fun v _ => v = .int .i64 c,
        .one fun v _ => v = .bool false,
        .one fun v _ => v = .bool false,
        .one fun v _ => v = .int .i64 c,
        .one fun v _ => v = .bool false,
        .one fun v _ => v = .bool false,
        .one fun v _ => v = .bool false,
        .one fun v _ => v = .agg #[.bool b2, .slice a2 n2 c2, .slice d2 m2 o2],
        .one fun v _ => v = .agg #[.bool b1, .slice a1 n1 c1, .slice d1 m1 o1],
        .one fun v _ => v = .int .i64 (-c),
        .one fun v _ => v = .int .i64 c,
        .one fun v _ => v = .int .i64 (-c),
        .one fun v _ => v = .bool false,
        .one fun v _ => v = .bool false,
        .one fun v _ => v = .bool false,
        .one fun v _ => v = .int .i64 c,
        .one fun v _ => v = .bool (c == 0),
        .one fun v _ => v = .agg #[.bool b1, .slice a1 n1 c1, .slice d1 m1 o1],
        .one fun v _ => v = .agg #[.bool b2, .slice a2 n2 c2, .slice d2 m2 o2],
        .one fun v _ => v = .bool (c == 0),
        .one fun v _ => v = .bool false,
        .one fun v _ => v = .bool false,
        .one fun v _ => v = .bool false,
        .one fun v _ => v = .int .i64 c,
        .one fun v _ => v = .bool true,
        .one fun v _ => v = .bool true,
        .one fun v _ => v = .agg #[.bool b2, .slice a2 n2 c2, .slice d2 m2 o2],
        .one fun v _ => v = .agg #[.bool b3, .slice a3 n3 c3, .slice d3 m3 o3],
        .one fun v _ => v = .int .i64 d,
        .one fun v _ => v = .bool true,
        .one fun v _ => v = .bool true,
        .one fun v _ => v = .bool true,
        .one fun v _ => v = .agg #[.bool b1, .slice a1 n1 c1, .slice d1 m1 o1],
        .one fun v _ => v = .agg #[.bool b3, .slice a3 n3 c3, .slice d3 m3 o3],
        .one fun v _ => v = .int .i64 e,
        .one fun v _ => v = .bool false,
        .one fun v _ => v = .bool false,
        .one fun v _ => v = .bool false]
       (fun W => Ext w W ∧ Bx3 W w.heap.size 35 (.bool b1) (.slice a1 n1 c1) (.slice d1 m1 o1) ∧ Bx3 W (w.heap.size + 1) 35 (.bool b2) (.slice a2 n2 c2) (.slice d2 m2 o2) ∧ Bx3 W (w.heap.size + 1 + 1) 35 (.bool b3) (.slice a3 n3 c3) (.slice d3 m3 o3) ∧ Rw W (.agg #[.bool b1, .slice a1 n1 c1, .slice d1 m1 o1]) x ∧ Rw W (.agg #[.bool b2, .slice a2 n2 c2, .slice d2 m2 o2]) y ∧ Rw W (.agg #[.bool b3, .slice a3 n3 c3, .slice d3 m3 o3]) z ∧ W11.heap.size ≤ W.heap.size) ⟨Good.is _, Good.is _, Good.is _, Good.is _, Good.is _, Good.is _, Good.is _, Good.is _, Good.is _, Good.is _, Good.is _, Good.is _, Good.is _, Good.is _, Good.is _, Good.is _, Good.is _, Good.is _, Good.is _, Good.is _, Good.is _, Good.is _, Good.is _, Good.is _, Good.is _, Good.is _, Good.is _, Good.is _, Good.is _, Good.is _, Good.is _, Good.is _, Good.is _, Good.is _, Good.is _, Good.is _, Good.is _, Good.is _, trivial⟩
       (fun W W1 hS hE => ⟨(Ext.trans hS.1 hE), (hS.2.1.ext hE), (hS.2.2.1.ext hE), (hS.2.2.2.1.ext hE), (hS.2.2.2.2.1.ext hE), (hS.2.2.2.2.2.1.ext hE), (hS.2.2.2.2.2.2.1.ext hE), (Nat.le_trans hS.2.2.2.2.2.2.2 (Ext.size hE))⟩) ⟨E0, p3, p4, p5, hx1, hx2, hx3, Nat.le_refl _⟩ (by kernel_rfl) (by kernel_rfl) (by kernel_rfl) (by kernel_rfl) (A := ?A26) ?hA26 ?howe26 ?hfin26
      case hA26 =>
       intro vs
       simp only [putAll, Act.put, List.setIfInBounds_toArray, List.set_cons_zero, List.set_cons_succ, Nat.zero_add, Nat.reduceAdd]
       exact rfl
      case howe26 =>
       clear E0 p3 p4 p5 hx1 hx2 hx3
       intro hf
       refine ⟨owesE 0 [] hf rfl (by kernel_rfl) ?_, owesE 1 [0] hf rfl (by kernel_rfl) ?_, owesE 2 [1] hf rfl (by kernel_rfl) ?_, owesE 3 [2] hf rfl (by kernel_rfl) ?_, owesE 4 [2, 3] hf rfl (by kernel_rfl) ?_, owesE 5 [2, 4] hf rfl (by kernel_rfl) ?_, owesE 6 [5] hf rfl (by kernel_rfl) ?_, owesE 7 [6] hf rfl (by kernel_rfl) ?_, owesE 8 [6] hf rfl (by kernel_rfl) ?_, owesE 9 [6, 7, 8] hf rfl (by kernel_rfl) ?_, owesE 10 [6] hf rfl (by kernel_rfl) ?_, owesE 11 [6, 10] hf rfl (by kernel_rfl) ?_, owesE 12 [6, 9, 11] hf rfl (by kernel_rfl) ?_, owesE 13 [6, 12] hf rfl (by kernel_rfl) ?_, owesE 14 [13] hf rfl (by kernel_rfl) ?_, owesE 15 [14] hf rfl (by kernel_rfl) ?_, owesE 16 [14, 15] hf rfl (by kernel_rfl) ?_, owesE 17 [14] hf rfl (by kernel_rfl) ?_, owesE 18 [14] hf rfl (by kernel_rfl) ?_, owesE 19 [14, 17, 18] hf rfl (by kernel_rfl) ?_, owesE 20 [14, 16, 19] hf rfl (by kernel_rfl) ?_, owesE 21 [14, 20] hf rfl (by kernel_rfl) ?_, owesE 22 [21] hf rfl (by kernel_rfl) ?_, owesE 23 [22] hf rfl (by kernel_rfl) ?_, owesE 24 [22, 23] hf rfl (by kernel_rfl) ?_, owesE 25 [22, 24] hf rfl (by kernel_rfl) ?_, owesE 26 [25] hf rfl (by kernel_rfl) ?_, owesE 27 [25] hf rfl (by kernel_rfl) ?_, owesE 28 [25, 26, 27] hf rfl (by kernel_rfl) ?_, owesE 29 [25, 28] hf rfl (by kernel_rfl) ?_, owesE 30 [22, 25, 29] hf rfl (by kernel_rfl) ?_, owesE 31 [22, 30] hf rfl (by kernel_rfl) ?_, owesE 32 [31] hf rfl (by kernel_rfl) ?_, owesE 33 [31] hf rfl (by kernel_rfl) ?_, owesE 34 [31, 32, 33] hf rfl (by kernel_rfl) ?_, owesE 35 [31, 34] hf rfl (by kernel_rfl) ?_, owesE 36 [22, 31, 35] hf rfl (by kernel_rfl) ?_, owesE 37 [22, 36] hf rfl (by kernel_rfl) ?_, trivial⟩
       all_goals intro vs W hS hp hx KO hKO
       all_goals simp only [Act.put, List.setIfInBounds_toArray, List.set_cons_zero, List.set_cons_succ] at hKO
       ·go_simp
        exact hKO _ W (Ext.refl W) rfl
       ·have e0 := isOf hp.1
        simp only [e0] at hKO
        go_simp
        exact hKO _ W (Ext.refl W) (by first | rfl | exact congrArg Value.bool (decide_eq_false (by omega)))
       ·have e1 := isOf hp.1
        simp only [e1] at hKO
        go_simp
        exact hKO _ W (Ext.refl W) rfl
       ·have e2 := isOf hp.1
        simp only [e2] at hKO
        go_simp
        exact hKO _ W (Ext.refl W) rfl
       ·have e2 := isOf hp.1
        have e3 := isOf hp.2.1
        simp only [e2, e3] at hKO
        go_simp
        exact hKO _ W (Ext.refl W) (by first | rfl | exact congrArg Value.bool (decide_eq_false (by omega)))
       ·have e2 := isOf hp.1
        have e4 := isOf hp.2.1
        simp only [e2, e4] at hKO
        go_simp
        exact hKO _ W (Ext.refl W) rfl
       ·have e5 := isOf hp.1
        simp only [e5] at hKO
        go_simp
        exact hKO _ W (Ext.refl W) rfl
       ·have e6 := isOf hp.1
        simp only [e6] at hKO
        have fc0 := hS.2.2.1.cell0
        have fc1 := hS.2.2.1.cell1
        have fc2 := hS.2.2.1.cell2
        go_simp
        exact hKO _ W (Ext.refl W) rfl
       ·have e6 := isOf hp.1
        simp only [e6] at hKO
        have fc0 := hS.2.1.cell0
        have fc1 := hS.2.1.cell1
        have fc2 := hS.2.1.cell2
        go_simp
        exact hKO _ W (Ext.refl W) rfl
       ·have e6 := isOf hp.1
        have e7 := isOf hp.2.1
        have e8 := isOf hp.2.2.1
        simp only [e6, e7, e8] at hKO
        go_simp
        refine (Try.ratCmpR (hS.2.2.2.2.2.1) (hS.2.2.2.2.1) s2 s1 (by omega) C1.out).mono ?_
        rintro e W1 ⟨rfl, hE⟩
        exact hKO _ W1 hE rfl
       ·have e6 := isOf hp.1
        simp only [e6] at hKO
        go_simp
        exact hKO _ W (Ext.refl W) rfl
       ·have e6 := isOf hp.1
        have e10 := isOf hp.2.1
        simp only [e6, e10] at hKO
        go_simp
        exact hKO _ W (Ext.refl W) rfl
       ·have e6 := isOf hp.1
        have e9 := isOf hp.2.1
        have e11 := isOf hp.2.2.1
        simp only [e6, e9, e11] at hKO
        go_simp
        exact hKO _ W (Ext.refl W) rfl
       ·have e6 := isOf hp.1
        have e12 := isOf hp.2.1
        simp only [e6, e12] at hKO
        go_simp
        exact hKO _ W (Ext.refl W) rfl
       ·have e13 := isOf hp.1
        simp only [e13] at hKO
        go_simp
        exact hKO _ W (Ext.refl W) rfl
       ·have e14 := isOf hp.1
        simp only [e14] at hKO
        go_simp
        exact hKO _ W (Ext.refl W) rfl
       ·have e14 := isOf hp.1
        have e15 := isOf hp.2.1
        simp only [e14, e15] at hKO
        go_simp
        exact hKO _ W (Ext.refl W) rfl
       ·have e14 := isOf hp.1
        simp only [e14] at hKO
        have fc0 := hS.2.1.cell0
        have fc1 := hS.2.1.cell1
        have fc2 := hS.2.1.cell2
        go_simp
        exact hKO _ W (Ext.refl W) rfl
       ·have e14 := isOf hp.1
        simp only [e14] at hKO
        have fc0 := hS.2.2.1.cell0
        have fc1 := hS.2.2.1.cell1
        have fc2 := hS.2.2.1.cell2
        go_simp
        exact hKO _ W (Ext.refl W) rfl
       ·have e14 := isOf hp.1
        have e17 := isOf hp.2.1
        have e18 := isOf hp.2.2.1
        simp only [e14, e17, e18] at hKO
        go_simp
        refine (Try.refRSame (hS.2.2.2.2.1) (hS.2.2.2.2.2.1)).mono ?_
        rintro e W1 ⟨rfl, hE⟩
        rw [hSm.out]
        exact hKO _ W1 hE rfl
       ·have e14 := isOf hp.1
        have e16 := isOf hp.2.1
        have e19 := isOf hp.2.2.1
        simp only [e14, e16, e19] at hKO
        go_simp
        exact hKO _ W (Ext.refl W) rfl
       ·have e14 := isOf hp.1
        have e20 := isOf hp.2.1
        simp only [e14, e20] at hKO
        go_simp
        exact hKO _ W (Ext.refl W) rfl
       ·have e21 := isOf hp.1
        simp only [e21] at hKO
        go_simp
        exact hKO _ W (Ext.refl W) rfl
       ·have e22 := isOf hp.1
        simp only [e22] at hKO
        go_simp
        exact hKO _ W (Ext.refl W) rfl
       ·have e22 := isOf hp.1
        have e23 := isOf hp.2.1
        simp only [e22, e23] at hKO
        go_simp
        exact hKO _ W (Ext.refl W) (by first | rfl | exact congrArg Value.bool (decide_eq_true (by omega)))
       ·have e22 := isOf hp.1
        have e24 := isOf hp.2.1
        simp only [e22, e24] at hKO
        go_simp
        exact hKO _ W (Ext.refl W) rfl
       ·have e25 := isOf hp.1
        simp only [e25] at hKO
        have fc0 := hS.2.2.1.cell0
        have fc1 := hS.2.2.1.cell1
        have fc2 := hS.2.2.1.cell2
        go_simp
        exact hKO _ W (Ext.refl W) rfl
       ·have e25 := isOf hp.1
        simp only [e25] at hKO
        have fc0 := hS.2.2.2.1.cell0
        have fc1 := hS.2.2.2.1.cell1
        have fc2 := hS.2.2.2.1.cell2
        go_simp
        exact hKO _ W (Ext.refl W) rfl
       ·have e25 := isOf hp.1
        have e26 := isOf hp.2.1
        have e27 := isOf hp.2.2.1
        simp only [e25, e26, e27] at hKO
        go_simp
        refine (Try.ratCmpR (hS.2.2.2.2.2.1) (hS.2.2.2.2.2.2.1) s2 s3 (by omega) C2.out).mono ?_
        rintro e W1 ⟨rfl, hE⟩
        exact hKO _ W1 hE rfl
       ·have e25 := isOf hp.1
        have e28 := isOf hp.2.1
        simp only [e25, e28] at hKO
        go_simp
        exact hKO _ W (Ext.refl W) (by first | rfl | exact congrArg Value.bool (decide_eq_true (by omega)))
       ·have e22 := isOf hp.1
        have e25 := isOf hp.2.1
        have e29 := isOf hp.2.2.1
        simp only [e22, e25, e29] at hKO
        go_simp
        exact hKO _ W (Ext.refl W) rfl
       ·have e22 := isOf hp.1
        have e30 := isOf hp.2.1
        simp only [e22, e30] at hKO
        go_simp
        exact hKO _ W (Ext.refl W) rfl
       ·have e31 := isOf hp.1
        simp only [e31] at hKO
        have fc0 := hS.2.1.cell0
        have fc1 := hS.2.1.cell1
        have fc2 := hS.2.1.cell2
        go_simp
        exact hKO _ W (Ext.refl W) rfl
       ·have e31 := isOf hp.1
        simp only [e31] at hKO
        have fc0 := hS.2.2.2.1.cell0
        have fc1 := hS.2.2.2.1.cell1
        have fc2 := hS.2.2.2.1.cell2
        go_simp
        exact hKO _ W (Ext.refl W) rfl
       ·have e31 := isOf hp.1
        have e32 := isOf hp.2.1
        have e33 := isOf hp.2.2.1
        simp only [e31, e32, e33] at hKO
        go_simp
        refine (Try.ratCmpR (hS.2.2.2.2.1) (hS.2.2.2.2.2.2.1) s1 s3 (by omega) C3.out).mono ?_
        rintro e W1 ⟨rfl, hE⟩
        exact hKO _ W1 hE rfl
       ·have e31 := isOf hp.1
        have e34 := isOf hp.2.1
        simp only [e31, e34] at hKO
        go_simp
        exact hKO _ W (Ext.refl W) (by first | rfl | exact congrArg Value.bool (decide_eq_false (by omega)))
       ·have e22 := isOf hp.1
        have e31 := isOf hp.2.1
        have e35 := isOf hp.2.2.1
        simp only [e22, e31, e35] at hKO
        go_simp
        exact hKO _ W (Ext.refl W) rfl
       ·have e22 := isOf hp.1
        have e36 := isOf hp.2.1
        simp only [e22, e36] at hKO
        go_simp
        exact hKO _ W (Ext.refl W) rfl
      intro vs W26 hS hp
      clear szw26 E0 p3 p4 p5 hx1 hx2 hx3
      obtain ⟨E0, p3, p4, p5, hx1, hx2, hx3, sz26⟩ := hS
      obtain ⟨h26_0, h26_1, h26_2, h26_3, h26_4, h26_5, h26_6, h26_7, h26_8, h26_9, h26_10, h26_11, h26_12, h26_13, h26_14, h26_15, h26_16, h26_17, h26_18, h26_19, h26_20, h26_21, h26_22, h26_23, h26_24, h26_25, h26_26, h26_27, h26_28, h26_29, h26_30, h26_31, h26_32, h26_33, h26_34, h26_35, h26_36, h26_37, -⟩ := hp
      replace h26_0 : vs 0 = .int .i64 c := h26_0
      replace h26_1 : vs 1 = .bool false := h26_1
      replace h26_2 : vs 2 = .bool false := h26_2
      replace h26_3 : vs 3 = .int .i64 c := h26_3
      replace h26_4 : vs 4 = .bool false := h26_4
      replace h26_5 : vs 5 = .bool false := h26_5
      replace h26_6 : vs 6 = .bool false := h26_6
      replace h26_7 : vs 7 = .agg #[.bool b2, .slice a2 n2 c2, .slice d2 m2 o2] := h26_7
      replace h26_8 : vs 8 = .agg #[.bool b1, .slice a1 n1 c1, .slice d1 m1 o1] := h26_8
      replace h26_9 : vs 9 = .int .i64 (-c) := h26_9
      replace h26_10 : vs 10 = .int .i64 c := h26_10
      replace h26_11 : vs 11 = .int .i64 (-c) := h26_11
      replace h26_12 : vs 12 = .bool false := h26_12
      replace h26_13 : vs 13 = .bool false := h26_13
      replace h26_14 : vs 14 = .bool false := h26_14
      replace h26_15 : vs 15 = .int .i64 c := h26_15
      replace h26_16 : vs 16 = .bool (c == 0) := h26_16
      replace h26_17 : vs 17 = .agg #[.bool b1, .slice a1 n1 c1, .slice d1 m1 o1] := h26_17
      replace h26_18 : vs 18 = .agg #[.bool b2, .slice a2 n2 c2, .slice d2 m2 o2] := h26_18
      replace h26_19 : vs 19 = .bool (c == 0) := h26_19
      replace h26_20 : vs 20 = .bool false := h26_20
      replace h26_21 : vs 21 = .bool false := h26_21
      replace h26_22 : vs 22 = .bool false := h26_22
      replace h26_23 : vs 23 = .int .i64 c := h26_23
      replace h26_24 : vs 24 = .bool true := h26_24
      replace h26_25 : vs 25 = .bool true := h26_25
      replace h26_26 : vs 26 = .agg #[.bool b2, .slice a2 n2 c2, .slice d2 m2 o2] := h26_26
      replace h26_27 : vs 27 = .agg #[.bool b3, .slice a3 n3 c3, .slice d3 m3 o3] := h26_27
      replace h26_28 : vs 28 = .int .i64 d := h26_28
      replace h26_29 : vs 29 = .bool true := h26_29
      replace h26_30 : vs 30 = .bool true := h26_30
      replace h26_31 : vs 31 = .bool true := h26_31
      replace h26_32 : vs 32 = .agg #[.bool b1, .slice a1 n1 c1, .slice d1 m1 o1] := h26_32
      replace h26_33 : vs 33 = .agg #[.bool b3, .slice a3 n3 c3, .slice d3 m3 o3] := h26_33
      replace h26_34 : vs 34 = .int .i64 e := h26_34
      replace h26_35 : vs 35 = .bool false := h26_35
      replace h26_36 : vs 36 = .bool false := h26_36
      replace h26_37 : vs 37 = .bool false := h26_37
      simp only [h26_0, h26_1, h26_2, h26_3, h26_4, h26_5, h26_6, h26_7, h26_8, h26_9, h26_10, h26_11, h26_12, h26_13, h26_14, h26_15, h26_16, h26_17, h26_18, h26_19, h26_20, h26_21, h26_22, h26_23, h26_24, h26_25, h26_26, h26_27, h26_28, h26_29, h26_30, h26_31, h26_32, h26_33, h26_34, h26_35, h26_36, h26_37]
      clear h26_0 h26_1 h26_2 h26_3 h26_4 h26_5 h26_6 h26_7 h26_8 h26_9 h26_10 h26_11 h26_12 h26_13 h26_14 h26_15 h26_16 h26_17 h26_18 h26_19 h26_20 h26_21 h26_22 h26_23 h26_24 h26_25 h26_26 h26_27 h26_28 h26_29 h26_30 h26_31 h26_32 h26_33 h26_34 h26_35 h26_36 h26_37
      obtain hn3 | hn3 : 0 < n3 ∨ n3 = 0 := by omega
      ·obtain rfl | rfl : b3 = false ∨ b3 = true := by cases b3 <;> simp
       ·have hn0I : (0 : Int) < (n3 : Int) := by omega
        have hn0N : 0 < n3 := by omega
        have HAB : Hid (0 < z) := Lib.hid (by
         have h1 : 0 < z.num.natAbs := Nat.pos_of_ne_zero (fun e => by have := hz0.2 e; omega)
         have h2 : ¬ z.num < 0 := of_decide_eq_false hb3.out.symm
         exact num_pos_iff.1 (by omega))
        clear hz0 hb3 hn3
        have kp3_0 := p3.cell0
        have kp3_1 := p3.cell1
        have kp3_2 := p3.cell2
        have kp4_0 := p4.cell0
        have kp4_1 := p4.cell1
        have kp4_2 := p4.cell2
        have kp5_0 := p5.cell0
        have kp5_1 := p5.cell1
        have kp5_2 := p5.cell2
        go_upto_region 6 with (fail)
        clear kp3_0 kp3_1 kp3_2 kp4_0 kp4_1 kp4_2 kp5_0 kp5_1 kp5_2
        have szw27 := Ext.size E0
        refine region_go [.one fun v _ => v = .pointer (some ⟨w.heap.size + 1 + 1, 0, none⟩),
          .one fun v _ => v = .pointer (some ⟨w.heap.size + 1 + 1, 1, none⟩),
          .one fun v _ => v = .slice a3 n3 c3,
          .one fun v _ => v = .int .i64 (n3 : Int),
          .one fun v _ => v = .bool true,
          .one fun v _ => v = .bool true,
          .one fun v _ => v = .pointer (some ⟨w.heap.size + 1 + 1, 0, none⟩),
          .one fun v _ => v = .pointer (some ⟨w.heap.size + 1 + 1, 0, none⟩),
          .one fun v _ => v = .bool false,
          .one fun v _ => v = .bool true,
          .one fun v _ => v = .bool true,
          .one fun v _ => v = .bool true]
         (fun W => Ext w W ∧ Bx3 W w.heap.size 35 (.bool b1) (.slice a1 n1 c1) (.slice d1 m1 o1) ∧ Bx3 W (w.heap.size + 1) 35 (.bool b2) (.slice a2 n2 c2) (.slice d2 m2 o2) ∧ Bx3 W (w.heap.size + 1 + 1) 35 (.bool false) (.slice a3 n3 c3) (.slice d3 m3 o3) ∧ Rw W (.agg #[.bool b1, .slice a1 n1 c1, .slice d1 m1 o1]) x ∧ Rw W (.agg #[.bool b2, .slice a2 n2 c2, .slice d2 m2 o2]) y ∧ Rw W (.agg #[.bool false, .slice a3 n3 c3, .slice d3 m3 o3]) z ∧ W26.heap.size ≤ W.heap.size) ⟨Good.is _, Good.is _, Good.is _, Good.is _, Good.is _, Good.is _, Good.is _, Good.is _, Good.is _, Good.is _, Good.is _, Good.is _, trivial⟩
         (fun W W1 hS hE => ⟨(Ext.trans hS.1 hE), (hS.2.1.ext hE), (hS.2.2.1.ext hE), (hS.2.2.2.1.ext hE), (hS.2.2.2.2.1.ext hE), (hS.2.2.2.2.2.1.ext hE), (hS.2.2.2.2.2.2.1.ext hE), (Nat.le_trans hS.2.2.2.2.2.2.2 (Ext.size hE))⟩) ⟨E0, p3, p4, p5, hx1, hx2, hx3, Nat.le_refl _⟩ (by kernel_rfl) (by kernel_rfl) (by kernel_rfl) (by kernel_rfl) (A := ?A27) ?hA27 ?howe27 ?hfin27
        case hA27 =>
         intro vs
         simp only [putAll, Act.put, List.setIfInBounds_toArray, List.set_cons_zero, List.set_cons_succ, Nat.zero_add, Nat.reduceAdd]
         exact rfl
        case howe27 =>
         clear E0 p3 p4 p5 hx1 hx2 hx3
         intro hf
         refine ⟨owesE 0 [] hf rfl (by kernel_rfl) ?_, owesE 1 [0] hf rfl (by kernel_rfl) ?_, owesE 2 [1] hf rfl (by kernel_rfl) ?_, owesE 3 [2] hf rfl (by kernel_rfl) ?_, owesE 4 [3] hf rfl (by kernel_rfl) ?_, owesE 5 [4] hf rfl (by kernel_rfl) ?_, owesE 6 [5] hf rfl (by kernel_rfl) ?_, owesE 7 [5, 6] hf rfl (by kernel_rfl) ?_, owesE 8 [5, 7] hf rfl (by kernel_rfl) ?_, owesE 9 [5, 8] hf rfl (by kernel_rfl) ?_, owesE 10 [5, 9] hf rfl (by kernel_rfl) ?_, owesE 11 [10] hf rfl (by kernel_rfl) ?_, trivial⟩
         all_goals intro vs W hS hp hx KO hKO
         all_goals simp only [Act.put, List.setIfInBounds_toArray, List.set_cons_zero, List.set_cons_succ] at hKO
         ·go_simp
          exact hKO _ W (Ext.refl W) rfl
         ·have e0 := isOf hp.1
          simp only [e0] at hKO
          go_simp
          exact hKO _ W (Ext.refl W) rfl
         ·have e1 := isOf hp.1
          simp only [e1] at hKO
          have fc1 := hS.2.2.2.1.cell1
          go_simp
          exact hKO _ W (Ext.refl W) rfl
         ·have e2 := isOf hp.1
          simp only [e2] at hKO
          go_simp
          exact hKO _ W (Ext.refl W) rfl
         ·have e3 := isOf hp.1
          simp only [e3] at hKO
          go_simp
          exact hKO _ W (Ext.refl W) rfl
         ·have e4 := isOf hp.1
          simp only [e4] at hKO
          go_simp
          exact hKO _ W (Ext.refl W) rfl
         ·have e5 := isOf hp.1
          simp only [e5] at hKO
          go_simp
          exact hKO _ W (Ext.refl W) rfl
         ·have e5 := isOf hp.1
          have e6 := isOf hp.2.1
          simp only [e5, e6] at hKO
          go_simp
          exact hKO _ W (Ext.refl W) rfl
         ·have e5 := isOf hp.1
          have e7 := isOf hp.2.1
          simp only [e5, e7] at hKO
          have fc0 := hS.2.2.2.1.cell0
          go_simp
          exact hKO _ W (Ext.refl W) rfl
         ·have e5 := isOf hp.1
          have e8 := isOf hp.2.1
          simp only [e5, e8] at hKO
          go_simp
          exact hKO _ W (Ext.refl W) rfl
         ·have e5 := isOf hp.1
          have e9 := isOf hp.2.1
          simp only [e5, e9] at hKO
          go_simp
          exact hKO _ W (Ext.refl W) rfl
         ·have e10 := isOf hp.1
          simp only [e10] at hKO
          go_simp
          exact hKO _ W (Ext.refl W) rfl
        intro vs W27 hS hp
        clear szw27 E0 p3 p4 p5 hx1 hx2 hx3
        obtain ⟨E0, p3, p4, p5, hx1, hx2, hx3, sz27⟩ := hS
        obtain ⟨h27_0, h27_1, h27_2, h27_3, h27_4, h27_5, h27_6, h27_7, h27_8, h27_9, h27_10, h27_11, -⟩ := hp
        replace h27_0 : vs 0 = .pointer (some ⟨w.heap.size + 1 + 1, 0, none⟩) := h27_0
        replace h27_1 : vs 1 = .pointer (some ⟨w.heap.size + 1 + 1, 1, none⟩) := h27_1
        replace h27_2 : vs 2 = .slice a3 n3 c3 := h27_2
        replace h27_3 : vs 3 = .int .i64 (n3 : Int) := h27_3
        replace h27_4 : vs 4 = .bool true := h27_4
        replace h27_5 : vs 5 = .bool true := h27_5
        replace h27_6 : vs 6 = .pointer (some ⟨w.heap.size + 1 + 1, 0, none⟩) := h27_6
        replace h27_7 : vs 7 = .pointer (some ⟨w.heap.size + 1 + 1, 0, none⟩) := h27_7
        replace h27_8 : vs 8 = .bool false := h27_8
        replace h27_9 : vs 9 = .bool true := h27_9
        replace h27_10 : vs 10 = .bool true := h27_10
        replace h27_11 : vs 11 = .bool true := h27_11
        simp only [h27_0, h27_1, h27_2, h27_3, h27_4, h27_5, h27_6, h27_7, h27_8, h27_9, h27_10, h27_11]
        clear h27_0 h27_1 h27_2 h27_3 h27_4 h27_5 h27_6 h27_7 h27_8 h27_9 h27_10 h27_11
        have kp3_0 := p3.cell0
        have kp3_1 := p3.cell1
        have kp3_2 := p3.cell2
        have kp4_0 := p4.cell0
        have kp4_1 := p4.cell1
        have kp4_2 := p4.cell2
        have kp5_0 := p5.cell0
        have kp5_1 := p5.cell1
        have kp5_2 := p5.cell2
        go_upto_region 7 with (fail)
        clear kp3_0 kp3_1 kp3_2 kp4_0 kp4_1 kp4_2 kp5_0 kp5_1 kp5_2
        have szw28 := Ext.size E0
        refine region_go [.one fun v _ => v = .bool true,
          .one fun v _ => v = .bool true,
          .one fun v _ => v = .agg #[.bool b1, .slice a1 n1 c1, .slice d1 m1 o1],
          .one fun v _ => v = .agg #[.bool false, .slice a3 n3 c3, .slice d3 m3 o3],
          .one fun v W => Rw W v (x + z),
          .one fun v _ => v = .agg #[.bool b2, .slice a2 n2 c2, .slice d2 m2 o2],
          .one fun v _ => v = .agg #[.bool false, .slice a3 n3 c3, .slice d3 m3 o3],
          .one fun v W => Rw W v (y + z),
          .one fun v _ => v = .int .i64 c,
          .one fun v _ => v = .int .i64 c,
          .one fun v _ => v = .bool true,
          .one fun v _ => v = .bool true,
          .one fun v _ => v = .bool true,
          .one fun v _ => v = .agg #[.bool b1, .slice a1 n1 c1, .slice d1 m1 o1],
          .one fun v _ => v = .agg #[.bool b2, .slice a2 n2 c2, .slice d2 m2 o2],
          .one fun v W => Rw W v (x - y),
          .one fun v W => Rw W v (((0 : Int) : Rat)),
          .one fun v _ => v = .int .i64 c,
          .one fun v _ => v = .int .i64 c,
          .one fun v _ => v = .bool true,
          .one fun v _ => v = .bool true,
          .one fun v _ => v = .bool true,
          .one fun v _ => v = .bool true,
          .one fun v _ => v = .bool false,
          .one fun v _ => v = .bool false,
          .one fun v _ => v = .agg #[.bool b1, .slice a1 n1 c1, .slice d1 m1 o1],
          .one fun v _ => v = .agg #[.bool false, .slice a3 n3 c3, .slice d3 m3 o3],
          .one fun v W => Rw W v (x * z),
          .one fun v _ => v = .agg #[.bool b2, .slice a2 n2 c2, .slice d2 m2 o2],
          .one fun v _ => v = .agg #[.bool false, .slice a3 n3 c3, .slice d3 m3 o3],
          .one fun v W => Rw W v (y * z),
          .one fun v _ => v = .int .i64 c,
          .one fun v _ => v = .int .i64 c,
          .one fun v _ => v = .bool true,
          .one fun v _ => v = .bool true,
          .one fun v _ => v = .bool true,
          .one fun v _ => v = .bool true]
         (fun W => Ext w W ∧ Bx3 W w.heap.size 35 (.bool b1) (.slice a1 n1 c1) (.slice d1 m1 o1) ∧ Bx3 W (w.heap.size + 1) 35 (.bool b2) (.slice a2 n2 c2) (.slice d2 m2 o2) ∧ Bx3 W (w.heap.size + 1 + 1) 35 (.bool false) (.slice a3 n3 c3) (.slice d3 m3 o3) ∧ Rw W (.agg #[.bool b1, .slice a1 n1 c1, .slice d1 m1 o1]) x ∧ Rw W (.agg #[.bool b2, .slice a2 n2 c2, .slice d2 m2 o2]) y ∧ Rw W (.agg #[.bool false, .slice a3 n3 c3, .slice d3 m3 o3]) z ∧ W27.heap.size ≤ W.heap.size) ⟨Good.is _, Good.is _, Good.is _, Good.is _, Good.rat _, Good.is _, Good.is _, Good.rat _, Good.is _, Good.is _, Good.is _, Good.is _, Good.is _, Good.is _, Good.is _, Good.rat _, Good.rat _, Good.is _, Good.is _, Good.is _, Good.is _, Good.is _, Good.is _, Good.is _, Good.is _, Good.is _, Good.is _, Good.rat _, Good.is _, Good.is _, Good.rat _, Good.is _, Good.is _, Good.is _, Good.is _, Good.is _, Good.is _, trivial⟩
         (fun W W1 hS hE => ⟨(Ext.trans hS.1 hE), (hS.2.1.ext hE), (hS.2.2.1.ext hE), (hS.2.2.2.1.ext hE), (hS.2.2.2.2.1.ext hE), (hS.2.2.2.2.2.1.ext hE), (hS.2.2.2.2.2.2.1.ext hE), (Nat.le_trans hS.2.2.2.2.2.2.2 (Ext.size hE))⟩) ⟨E0, p3, p4, p5, hx1, hx2, hx3, Nat.le_refl _⟩ (by kernel_rfl) (by kernel_rfl) (by kernel_rfl) (by kernel_rfl) (A := ?A28) ?hA28 ?howe28 ?hfin28
        case hA28 =>
         intro vs
         simp only [putAll, Act.put, List.setIfInBounds_toArray, List.set_cons_zero, List.set_cons_succ, Nat.zero_add, Nat.reduceAdd]
         exact rfl
        case howe28 =>
         clear E0 p3 p4 p5 hx1 hx2 hx3
         intro hf
         refine ⟨owesE 0 [] hf rfl (by kernel_rfl) ?_, owesE 1 [0] hf rfl (by kernel_rfl) ?_, owesE 2 [1] hf rfl (by kernel_rfl) ?_, owesE 3 [1] hf rfl (by kernel_rfl) ?_, owesE 4 [1, 2, 3] hf rfl (by kernel_rfl) ?_, owesE 5 [1] hf rfl (by kernel_rfl) ?_, owesE 6 [1] hf rfl (by kernel_rfl) ?_, owesE 7 [1, 5, 6] hf rfl (by kernel_rfl) ?_, owesE 8 [1, 4, 7] hf rfl (by kernel_rfl) ?_, owesE 9 [1] hf rfl (by kernel_rfl) ?_, owesE 10 [1, 8, 9] hf rfl (by kernel_rfl) ?_, owesE 11 [1, 10] hf rfl (by kernel_rfl) ?_, owesE 12 [11] hf rfl (by kernel_rfl) ?_, owesE 13 [12] hf rfl (by kernel_rfl) ?_, owesE 14 [12] hf rfl (by kernel_rfl) ?_, owesE 15 [12, 13, 14] hf rfl (by kernel_rfl) ?_, owesE 16 [12] hf rfl (by kernel_rfl) ?_, owesE 17 [12, 15, 16] hf rfl (by kernel_rfl) ?_, owesE 18 [12] hf rfl (by kernel_rfl) ?_, owesE 19 [12, 17, 18] hf rfl (by kernel_rfl) ?_, owesE 20 [12, 19] hf rfl (by kernel_rfl) ?_, owesE 21 [20] hf rfl (by kernel_rfl) ?_, owesE 22 [21] hf rfl (by kernel_rfl) ?_, owesE 23 [21, 22] hf rfl (by kernel_rfl) ?_, owesE 24 [21, 23] hf rfl (by kernel_rfl) ?_, owesE 25 [24] hf rfl (by kernel_rfl) ?_, owesE 26 [24] hf rfl (by kernel_rfl) ?_, owesE 27 [24, 25, 26] hf rfl (by kernel_rfl) ?_, owesE 28 [24] hf rfl (by kernel_rfl) ?_, owesE 29 [24] hf rfl (by kernel_rfl) ?_, owesE 30 [24, 28, 29] hf rfl (by kernel_rfl) ?_, owesE 31 [24, 27, 30] hf rfl (by kernel_rfl) ?_, owesE 32 [24] hf rfl (by kernel_rfl) ?_, owesE 33 [24, 31, 32] hf rfl (by kernel_rfl) ?_, owesE 34 [21, 24, 33] hf rfl (by kernel_rfl) ?_, owesE 35 [21, 34] hf rfl (by kernel_rfl) ?_, owesE 36 [35] hf rfl (by kernel_rfl) ?_, trivial⟩
         all_goals intro vs W hS hp hx KO hKO
         all_goals simp only [Act.put, List.setIfInBounds_toArray, List.set_cons_zero, List.set_cons_succ] at hKO
         ·go_simp
          refine (Try.alive05 _).mono ?_
          rintro e W1 ⟨rfl, hE⟩
          exact hKO _ W1 hE rfl
         ·have e0 := isOf hp.1
          simp only [e0] at hKO
          go_simp
          exact hKO _ W (Ext.refl W) rfl
         ·have e1 := isOf hp.1
          simp only [e1] at hKO
          have fc0 := hS.2.1.cell0
          have fc1 := hS.2.1.cell1
          have fc2 := hS.2.1.cell2
          go_simp
          exact hKO _ W (Ext.refl W) rfl
         ·have e1 := isOf hp.1
          simp only [e1] at hKO
          have fc0 := hS.2.2.2.1.cell0
          have fc1 := hS.2.2.2.1.cell1
          have fc2 := hS.2.2.2.1.cell2
          go_simp
          exact hKO _ W (Ext.refl W) rfl
         ·have e1 := isOf hp.1
          have e2 := isOf hp.2.1
          have e3 := isOf hp.2.2.1
          simp only [e1, e2, e3] at hKO
          go_simp
          refine (Try.ratAdd (hS.2.2.2.2.1) (hS.2.2.2.2.2.2.1) s1 s3 (by omega)).mono ?_
          rintro e W1 ⟨v, rfl, hv, hE⟩
          exact hKO _ W1 hE hv
         ·have e1 := isOf hp.1
          simp only [e1] at hKO
          have fc0 := hS.2.2.1.cell0
          have fc1 := hS.2.2.1.cell1
          have fc2 := hS.2.2.1.cell2
          go_simp
          exact hKO _ W (Ext.refl W) rfl
         ·have e1 := isOf hp.1
          simp only [e1] at hKO
          have fc0 := hS.2.2.2.1.cell0
          have fc1 := hS.2.2.2.1.cell1
          have fc2 := hS.2.2.2.1.cell2
          go_simp
          exact hKO _ W (Ext.refl W) rfl
         ·have e1 := isOf hp.1
          have e5 := isOf hp.2.1
          have e6 := isOf hp.2.2.1
          simp only [e1, e5, e6] at hKO
          go_simp
          refine (Try.ratAdd (hS.2.2.2.2.2.1) (hS.2.2.2.2.2.2.1) s2 s3 (by omega)).mono ?_
          rintro e W1 ⟨v, rfl, hv, hE⟩
          exact hKO _ W1 hE hv
         ·have e1 := isOf hp.1
          have q4 := hp.2.1
          have q7 := hp.2.2.1
          simp only [e1] at hKO
          go_simp
          refine (Try.ratCmpR q4 q7 SA.out SB.out (by omega) C4.out).mono ?_
          rintro e W1 ⟨rfl, hE⟩
          exact hKO _ W1 hE rfl
         ·have e1 := isOf hp.1
          simp only [e1] at hKO
          go_simp
          exact hKO _ W (Ext.refl W) rfl
         ·have e1 := isOf hp.1
          have e8 := isOf hp.2.1
          have e9 := isOf hp.2.2.1
          simp only [e1, e8, e9] at hKO
          go_simp
          exact hKO _ W (Ext.refl W) rfl
         ·have e1 := isOf hp.1
          have e10 := isOf hp.2.1
          simp only [e1, e10] at hKO
          go_simp
          exact hKO _ W (Ext.refl W) rfl
         ·have e11 := isOf hp.1
          simp only [e11] at hKO
          go_simp
          exact hKO _ W (Ext.refl W) rfl
         ·have e12 := isOf hp.1
          simp only [e12] at hKO
          have fc0 := hS.2.1.cell0
          have fc1 := hS.2.1.cell1
          have fc2 := hS.2.1.cell2
          go_simp
          exact hKO _ W (Ext.refl W) rfl
         ·have e12 := isOf hp.1
          simp only [e12] at hKO
          have fc0 := hS.2.2.1.cell0
          have fc1 := hS.2.2.1.cell1
          have fc2 := hS.2.2.1.cell2
          go_simp
          exact hKO _ W (Ext.refl W) rfl
         ·have e12 := isOf hp.1
          have e13 := isOf hp.2.1
          have e14 := isOf hp.2.2.1
          simp only [e12, e13, e14] at hKO
          go_simp
          refine (Try.ratSub (hS.2.2.2.2.1) (hS.2.2.2.2.2.1) s1 s2 (by omega)).mono ?_
          rintro e W1 ⟨v, rfl, hv, hE⟩
          exact hKO _ W1 hE hv
         ·have e12 := isOf hp.1
          simp only [e12] at hKO
          go_simp
          refine (Try.ratOf 0 _ (by omega) (by omega)).mono ?_
          rintro e W1 ⟨v, rfl, hv, hE⟩
          exact hKO _ W1 hE hv
         ·have e12 := isOf hp.1
          have q15 := hp.2.1
          have q16 := hp.2.2.1
          simp only [e12] at hKO
          go_simp
          refine (Try.ratCmpR q15 q16 SC.out S0.out (by omega) C5.out).mono ?_
          rintro e W1 ⟨rfl, hE⟩
          exact hKO _ W1 hE rfl
         ·have e12 := isOf hp.1
          simp only [e12] at hKO
          go_simp
          exact hKO _ W (Ext.refl W) rfl
         ·have e12 := isOf hp.1
          have e17 := isOf hp.2.1
          have e18 := isOf hp.2.2.1
          simp only [e12, e17, e18] at hKO
          go_simp
          exact hKO _ W (Ext.refl W) rfl
         ·have e12 := isOf hp.1
          have e19 := isOf hp.2.1
          simp only [e12, e19] at hKO
          go_simp
          exact hKO _ W (Ext.refl W) rfl
         ·have e20 := isOf hp.1
          simp only [e20] at hKO
          go_simp
          exact hKO _ W (Ext.refl W) rfl
         ·have e21 := isOf hp.1
          simp only [e21] at hKO
          go_simp
          exact hKO _ W (Ext.refl W) rfl
         ·have e21 := isOf hp.1
          have e22 := isOf hp.2.1
          simp only [e21, e22] at hKO
          go_simp
          exact hKO _ W (Ext.refl W) rfl
         ·have e21 := isOf hp.1
          have e23 := isOf hp.2.1
          simp only [e21, e23] at hKO
          go_simp
          exact hKO _ W (Ext.refl W) rfl
         ·have e24 := isOf hp.1
          simp only [e24] at hKO
          have fc0 := hS.2.1.cell0
          have fc1 := hS.2.1.cell1
          have fc2 := hS.2.1.cell2
          go_simp
          exact hKO _ W (Ext.refl W) rfl
         ·have e24 := isOf hp.1
          simp only [e24] at hKO
          have fc0 := hS.2.2.2.1.cell0
          have fc1 := hS.2.2.2.1.cell1
          have fc2 := hS.2.2.2.1.cell2
          go_simp
          exact hKO _ W (Ext.refl W) rfl
         ·have e24 := isOf hp.1
          have e25 := isOf hp.2.1
          have e26 := isOf hp.2.2.1
          simp only [e24, e25, e26] at hKO
          go_simp
          refine (Try.ratMul (hS.2.2.2.2.1) (hS.2.2.2.2.2.2.1) s1 s3 (by omega)).mono ?_
          rintro e W1 ⟨v, rfl, hv, hE⟩
          exact hKO _ W1 hE hv
         ·have e24 := isOf hp.1
          simp only [e24] at hKO
          have fc0 := hS.2.2.1.cell0
          have fc1 := hS.2.2.1.cell1
          have fc2 := hS.2.2.1.cell2
          go_simp
          exact hKO _ W (Ext.refl W) rfl
         ·have e24 := isOf hp.1
          simp only [e24] at hKO
          have fc0 := hS.2.2.2.1.cell0
          have fc1 := hS.2.2.2.1.cell1
          have fc2 := hS.2.2.2.1.cell2
          go_simp
          exact hKO _ W (Ext.refl W) rfl
         ·have e24 := isOf hp.1
          have e28 := isOf hp.2.1
          have e29 := isOf hp.2.2.1
          simp only [e24, e28, e29] at hKO
          go_simp
          refine (Try.ratMul (hS.2.2.2.2.2.1) (hS.2.2.2.2.2.2.1) s2 s3 (by omega)).mono ?_
          rintro e W1 ⟨v, rfl, hv, hE⟩
          exact hKO _ W1 hE hv
         ·have e24 := isOf hp.1
          have q27 := hp.2.1
          have q30 := hp.2.2.1
          simp only [e24] at hKO
          go_simp
          refine (Try.ratCmpR q27 q30 SX.out SY.out (by omega) (C6.out HAB.out)).mono ?_
          rintro e W1 ⟨rfl, hE⟩
          exact hKO _ W1 hE rfl
         ·have e24 := isOf hp.1
          simp only [e24] at hKO
          go_simp
          exact hKO _ W (Ext.refl W) rfl
         ·have e24 := isOf hp.1
          have e31 := isOf hp.2.1
          have e32 := isOf hp.2.2.1
          simp only [e24, e31, e32] at hKO
          go_simp
          exact hKO _ W (Ext.refl W) rfl
         ·have e21 := isOf hp.1
          have e24 := isOf hp.2.1
          have e33 := isOf hp.2.2.1
          simp only [e21, e24, e33] at hKO
          go_simp
          exact hKO _ W (Ext.refl W) rfl
         ·have e21 := isOf hp.1
          have e34 := isOf hp.2.1
          simp only [e21, e34] at hKO
          go_simp
          exact hKO _ W (Ext.refl W) rfl
         ·have e35 := isOf hp.1
          simp only [e35] at hKO
          go_simp
          exact hKO _ W (Ext.refl W) rfl
        intro vs W28 hS hp
        clear szw28 E0 p3 p4 p5 hx1 hx2 hx3
        obtain ⟨E0, p3, p4, p5, hx1, hx2, hx3, sz28⟩ := hS
        obtain ⟨h28_0, h28_1, h28_2, h28_3, h28_4, h28_5, h28_6, h28_7, h28_8, h28_9, h28_10, h28_11, h28_12, h28_13, h28_14, h28_15, h28_16, h28_17, h28_18, h28_19, h28_20, h28_21, h28_22, h28_23, h28_24, h28_25, h28_26, h28_27, h28_28, h28_29, h28_30, h28_31, h28_32, h28_33, h28_34, h28_35, h28_36, -⟩ := hp
        replace h28_0 : vs 0 = .bool true := h28_0
        replace h28_1 : vs 1 = .bool true := h28_1
        replace h28_2 : vs 2 = .agg #[.bool b1, .slice a1 n1 c1, .slice d1 m1 o1] := h28_2
        replace h28_3 : vs 3 = .agg #[.bool false, .slice a3 n3 c3, .slice d3 m3 o3] := h28_3
        replace h28_5 : vs 5 = .agg #[.bool b2, .slice a2 n2 c2, .slice d2 m2 o2] := h28_5
        replace h28_6 : vs 6 = .agg #[.bool false, .slice a3 n3 c3, .slice d3 m3 o3] := h28_6
        replace h28_8 : vs 8 = .int .i64 c := h28_8
        replace h28_9 : vs 9 = .int .i64 c := h28_9
        replace h28_10 : vs 10 = .bool true := h28_10
        replace h28_11 : vs 11 = .bool true := h28_11
        replace h28_12 : vs 12 = .bool true := h28_12
        replace h28_13 : vs 13 = .agg #[.bool b1, .slice a1 n1 c1, .slice d1 m1 o1] := h28_13
        replace h28_14 : vs 14 = .agg #[.bool b2, .slice a2 n2 c2, .slice d2 m2 o2] := h28_14
        replace h28_17 : vs 17 = .int .i64 c := h28_17
        replace h28_18 : vs 18 = .int .i64 c := h28_18
        replace h28_19 : vs 19 = .bool true := h28_19
        replace h28_20 : vs 20 = .bool true := h28_20
        replace h28_21 : vs 21 = .bool true := h28_21
        replace h28_22 : vs 22 = .bool true := h28_22
        replace h28_23 : vs 23 = .bool false := h28_23
        replace h28_24 : vs 24 = .bool false := h28_24
        replace h28_25 : vs 25 = .agg #[.bool b1, .slice a1 n1 c1, .slice d1 m1 o1] := h28_25
        replace h28_26 : vs 26 = .agg #[.bool false, .slice a3 n3 c3, .slice d3 m3 o3] := h28_26
        replace h28_28 : vs 28 = .agg #[.bool b2, .slice a2 n2 c2, .slice d2 m2 o2] := h28_28
        replace h28_29 : vs 29 = .agg #[.bool false, .slice a3 n3 c3, .slice d3 m3 o3] := h28_29
        replace h28_31 : vs 31 = .int .i64 c := h28_31
        replace h28_32 : vs 32 = .int .i64 c := h28_32
        replace h28_33 : vs 33 = .bool true := h28_33
        replace h28_34 : vs 34 = .bool true := h28_34
        replace h28_35 : vs 35 = .bool true := h28_35
        replace h28_36 : vs 36 = .bool true := h28_36
        simp only [h28_0, h28_1, h28_2, h28_3, h28_5, h28_6, h28_8, h28_9, h28_10, h28_11, h28_12, h28_13, h28_14, h28_17, h28_18, h28_19, h28_20, h28_21, h28_22, h28_23, h28_24, h28_25, h28_26, h28_28, h28_29, h28_31, h28_32, h28_33, h28_34, h28_35, h28_36]
        replace h28_4 : Rw W28 (vs 4) (x + z) := h28_4
        generalize vs 4 = u28_4 at h28_4 ⊢
        replace h28_7 : Rw W28 (vs 7) (y + z) := h28_7
        generalize vs 7 = u28_7 at h28_7 ⊢
        replace h28_15 : Rw W28 (vs 15) (x - y) := h28_15
        generalize vs 15 = u28_15 at h28_15 ⊢
        replace h28_16 : Rw W28 (vs 16) (((0 : Int) : Rat)) := h28_16
        generalize vs 16 = u28_16 at h28_16 ⊢
        replace h28_27 : Rw W28 (vs 27) (x * z) := h28_27
        generalize vs 27 = u28_27 at h28_27 ⊢
        replace h28_30 : Rw W28 (vs 30) (y * z) := h28_30
        generalize vs 30 = u28_30 at h28_30 ⊢
        clear h28_0 h28_1 h28_2 h28_3 h28_5 h28_6 h28_8 h28_9 h28_10 h28_11 h28_12 h28_13 h28_14 h28_17 h28_18 h28_19 h28_20 h28_21 h28_22 h28_23 h28_24 h28_25 h28_26 h28_28 h28_29 h28_31 h28_32 h28_33 h28_34 h28_35 h28_36
        have kp3_0 := p3.cell0
        have kp3_1 := p3.cell1
        have kp3_2 := p3.cell2
        have kp4_0 := p4.cell0
        have kp4_1 := p4.cell1
        have kp4_2 := p4.cell2
        have kp5_0 := p5.cell0
        have kp5_1 := p5.cell1
        have kp5_2 := p5.cell2
        go_wp2
        go_ret
        exact ⟨rfl, E0⟩
       ·have hn0I : (0 : Int) < (n3 : Int) := by omega
        have hn0N : 0 < n3 := by omega
        clear hz0 hb3 hn3
        have kp3_0 := p3.cell0
        have kp3_1 := p3.cell1
        have kp3_2 := p3.cell2
        have kp4_0 := p4.cell0
        have kp4_1 := p4.cell1
        have kp4_2 := p4.cell2
        have kp5_0 := p5.cell0
        have kp5_1 := p5.cell1
        have kp5_2 := p5.cell2
        go_upto_region 6 with (fail)
        clear kp3_0 kp3_1 kp3_2 kp4_0 kp4_1 kp4_2 kp5_0 kp5_1 kp5_2
        have szw31 := Ext.size E0
        refine region_go [.one fun v _ => v = .pointer (some ⟨w.heap.size + 1 + 1, 0, none⟩),
          .one fun v _ => v = .pointer (some ⟨w.heap.size + 1 + 1, 1, none⟩),
          .one fun v _ => v = .slice a3 n3 c3,
          .one fun v _ => v = .int .i64 (n3 : Int),
          .one fun v _ => v = .bool true,
          .one fun v _ => v = .bool true,
          .one fun v _ => v = .pointer (some ⟨w.heap.size + 1 + 1, 0, none⟩),
          .one fun v _ => v = .pointer (some ⟨w.heap.size + 1 + 1, 0, none⟩),
          .one fun v _ => v = .bool true,
          .one fun v _ => v = .bool false,
          .one fun v _ => v = .bool false,
          .one fun v _ => v = .bool false]
         (fun W => Ext w W ∧ Bx3 W w.heap.size 35 (.bool b1) (.slice a1 n1 c1) (.slice d1 m1 o1) ∧ Bx3 W (w.heap.size + 1) 35 (.bool b2) (.slice a2 n2 c2) (.slice d2 m2 o2) ∧ Bx3 W (w.heap.size + 1 + 1) 35 (.bool true) (.slice a3 n3 c3) (.slice d3 m3 o3) ∧ Rw W (.agg #[.bool b1, .slice a1 n1 c1, .slice d1 m1 o1]) x ∧ Rw W (.agg #[.bool b2, .slice a2 n2 c2, .slice d2 m2 o2]) y ∧ Rw W (.agg #[.bool true, .slice a3 n3 c3, .slice d3 m3 o3]) z ∧ W26.heap.size ≤ W.heap.size) ⟨Good.is _, Good.is _, Good.is _, Good.is _, Good.is _, Good.is _, Good.is _, Good.is _, Good.is _, Good.is _, Good.is _, Good.is _, trivial⟩
         (fun W W1 hS hE => ⟨(Ext.trans hS.1 hE), (hS.2.1.ext hE), (hS.2.2.1.ext hE), (hS.2.2.2.1.ext hE), (hS.2.2.2.2.1.ext hE), (hS.2.2.2.2.2.1.ext hE), (hS.2.2.2.2.2.2.1.ext hE), (Nat.le_trans hS.2.2.2.2.2.2.2 (Ext.size hE))⟩) ⟨E0, p3, p4, p5, hx1, hx2, hx3, Nat.le_refl _⟩ (by kernel_rfl) (by kernel_rfl) (by kernel_rfl) (by kernel_rfl) (A := ?A31) ?hA31 ?howe31 ?hfin31
        case hA31 =>
         intro vs
         simp only [putAll, Act.put, List.setIfInBounds_toArray, List.set_cons_zero, List.set_cons_succ, Nat.zero_add, Nat.reduceAdd]
         exact rfl
        case howe31 =>
         clear E0 p3 p4 p5 hx1 hx2 hx3
         intro hf
         refine ⟨owesE 0 [] hf rfl (by kernel_rfl) ?_, owesE 1 [0] hf rfl (by kernel_rfl) ?_, owesE 2 [1] hf rfl (by kernel_rfl) ?_, owesE 3 [2] hf rfl (by kernel_rfl) ?_, owesE 4 [3] hf rfl (by kernel_rfl) ?_, owesE 5 [4] hf rfl (by kernel_rfl) ?_, owesE 6 [5] hf rfl (by kernel_rfl) ?_, owesE 7 [5, 6] hf rfl (by kernel_rfl) ?_, owesE 8 [5, 7] hf rfl (by kernel_rfl) ?_, owesE 9 [5, 8] hf rfl (by kernel_rfl) ?_, owesE 10 [5, 9] hf rfl (by kernel_rfl) ?_, owesE 11 [10] hf rfl (by kernel_rfl) ?_, trivial⟩
         all_goals intro vs W hS hp hx KO hKO
         all_goals simp only [Act.put, List.setIfInBounds_toArray, List.set_cons_zero, List.set_cons_succ] at hKO
         ·go_simp
          exact hKO _ W (Ext.refl W) rfl
         ·have e0 := isOf hp.1
          simp only [e0] at hKO
          go_simp
          exact hKO _ W (Ext.refl W) rfl
         ·have e1 := isOf hp.1
          simp only [e1] at hKO
          have fc1 := hS.2.2.2.1.cell1
          go_simp
          exact hKO _ W (Ext.refl W) rfl
         ·have e2 := isOf hp.1
          simp only [e2] at hKO
          go_simp
          exact hKO _ W (Ext.refl W) rfl
         ·have e3 := isOf hp.1
          simp only [e3] at hKO
          go_simp
          exact hKO _ W (Ext.refl W) rfl
         ·have e4 := isOf hp.1
          simp only [e4] at hKO
          go_simp
          exact hKO _ W (Ext.refl W) rfl
         ·have e5 := isOf hp.1
          simp only [e5] at hKO
          go_simp
          exact hKO _ W (Ext.refl W) rfl
         ·have e5 := isOf hp.1
          have e6 := isOf hp.2.1
          simp only [e5, e6] at hKO
          go_simp
          exact hKO _ W (Ext.refl W) rfl
         ·have e5 := isOf hp.1
          have e7 := isOf hp.2.1
          simp only [e5, e7] at hKO
          have fc0 := hS.2.2.2.1.cell0
          go_simp
          exact hKO _ W (Ext.refl W) rfl
         ·have e5 := isOf hp.1
          have e8 := isOf hp.2.1
          simp only [e5, e8] at hKO
          go_simp
          exact hKO _ W (Ext.refl W) rfl
         ·have e5 := isOf hp.1
          have e9 := isOf hp.2.1
          simp only [e5, e9] at hKO
          go_simp
          exact hKO _ W (Ext.refl W) rfl
         ·have e10 := isOf hp.1
          simp only [e10] at hKO
          go_simp
          exact hKO _ W (Ext.refl W) rfl
        intro vs W31 hS hp
        clear szw31 E0 p3 p4 p5 hx1 hx2 hx3
        obtain ⟨E0, p3, p4, p5, hx1, hx2, hx3, sz31⟩ := hS
        obtain ⟨h31_0, h31_1, h31_2, h31_3, h31_4, h31_5, h31_6, h31_7, h31_8, h31_9, h31_10, h31_11, -⟩ := hp
        replace h31_0 : vs 0 = .pointer (some ⟨w.heap.size + 1 + 1, 0, none⟩) := h31_0
        replace h31_1 : vs 1 = .pointer (some ⟨w.heap.size + 1 + 1, 1, none⟩) := h31_1
        replace h31_2 : vs 2 = .slice a3 n3 c3 := h31_2
        replace h31_3 : vs 3 = .int .i64 (n3 : Int) := h31_3
        replace h31_4 : vs 4 = .bool true := h31_4
        replace h31_5 : vs 5 = .bool true := h31_5
        replace h31_6 : vs 6 = .pointer (some ⟨w.heap.size + 1 + 1, 0, none⟩) := h31_6
        replace h31_7 : vs 7 = .pointer (some ⟨w.heap.size + 1 + 1, 0, none⟩) := h31_7
        replace h31_8 : vs 8 = .bool true := h31_8
        replace h31_9 : vs 9 = .bool false := h31_9
        replace h31_10 : vs 10 = .bool false := h31_10
        replace h31_11 : vs 11 = .bool false := h31_11
        simp only [h31_0, h31_1, h31_2, h31_3, h31_4, h31_5, h31_6, h31_7, h31_8, h31_9, h31_10, h31_11]
        clear h31_0 h31_1 h31_2 h31_3 h31_4 h31_5 h31_6 h31_7 h31_8 h31_9 h31_10 h31_11
        have kp3_0 := p3.cell0
        have kp3_1 := p3.cell1
        have kp3_2 := p3.cell2
        have kp4_0 := p4.cell0
        have kp4_1 := p4.cell1
        have kp4_2 := p4.cell2
        have kp5_0 := p5.cell0
        have kp5_1 := p5.cell1
        have kp5_2 := p5.cell2
        go_upto_region 7 with (fail)
        clear kp3_0 kp3_1 kp3_2 kp4_0 kp4_1 kp4_2 kp5_0 kp5_1 kp5_2
        have szw32 := Ext.size E0
        refine region_go [.one fun v _ => v = .bool true,
          .one fun v _ => v = .bool true,
          .one fun v _ => v = .agg #[.bool b1, .slice a1 n1 c1, .slice d1 m1 o1],
          .one fun v _ => v = .agg #[.bool true, .slice a3 n3 c3, .slice d3 m3 o3],
          .one fun v W => Rw W v (x + z),
          .one fun v _ => v = .agg #[.bool b2, .slice a2 n2 c2, .slice d2 m2 o2],
          .one fun v _ => v = .agg #[.bool true, .slice a3 n3 c3, .slice d3 m3 o3],
          .one fun v W => Rw W v (y + z),
          .one fun v _ => v = .int .i64 c,
          .one fun v _ => v = .int .i64 c,
          .one fun v _ => v = .bool true,
          .one fun v _ => v = .bool true,
          .one fun v _ => v = .bool true,
          .one fun v _ => v = .agg #[.bool b1, .slice a1 n1 c1, .slice d1 m1 o1],
          .one fun v _ => v = .agg #[.bool b2, .slice a2 n2 c2, .slice d2 m2 o2],
          .one fun v W => Rw W v (x - y),
          .one fun v W => Rw W v (((0 : Int) : Rat)),
          .one fun v _ => v = .int .i64 c,
          .one fun v _ => v = .int .i64 c,
          .one fun v _ => v = .bool true,
          .one fun v _ => v = .bool true,
          .one fun v _ => v = .bool true,
          .one fun v _ => v = .bool false,
          .one fun v _ => v = .bool true,
          .one fun v _ => v = .bool true,
          .one fun v _ => v = undef,
          .one fun v _ => v = undef,
          .one fun v _ => v = undef,
          .one fun v _ => v = undef,
          .one fun v _ => v = undef,
          .one fun v _ => v = undef,
          .one fun v _ => v = undef,
          .one fun v _ => v = undef,
          .one fun v _ => v = undef,
          .one fun v _ => v = .bool true,
          .one fun v _ => v = .bool true,
          .one fun v _ => v = .bool true]
         (fun W => Ext w W ∧ Bx3 W w.heap.size 35 (.bool b1) (.slice a1 n1 c1) (.slice d1 m1 o1) ∧ Bx3 W (w.heap.size + 1) 35 (.bool b2) (.slice a2 n2 c2) (.slice d2 m2 o2) ∧ Bx3 W (w.heap.size + 1 + 1) 35 (.bool true) (.slice a3 n3 c3) (.slice d3 m3 o3) ∧ Rw W (.agg #[.bool b1, .slice a1 n1 c1, .slice d1 m1 o1]) x ∧ Rw W (.agg #[.bool b2, .slice a2 n2 c2, .slice d2 m2 o2]) y ∧ Rw W (.agg #[.bool true, .slice a3 n3 c3, .slice d3 m3 o3]) z ∧ W31.heap.size ≤ W.heap.size) ⟨Good.is _, Good.is _, Good.is _, Good.is _, Good.rat _, Good.is _, Good.is _, Good.rat _, Good.is _, Good.is _, Good.is _, Good.is _, Good.is _, Good.is _, Good.is _, Good.rat _, Good.rat _, Good.is _, Good.is _, Good.is _, Good.is _, Good.is _, Good.is _, Good.is _, Good.is _, Good.is _, Good.is _, Good.is _, Good.is _, Good.is _, Good.is _, Good.is _, Good.is _, Good.is _, Good.is _, Good.is _, Good.is _, trivial⟩
         (fun W W1 hS hE => ⟨(Ext.trans hS.1 hE), (hS.2.1.ext hE), (hS.2.2.1.ext hE), (hS.2.2.2.1.ext hE), (hS.2.2.2.2.1.ext hE), (hS.2.2.2.2.2.1.ext hE), (hS.2.2.2.2.2.2.1.ext hE), (Nat.le_trans hS.2.2.2.2.2.2.2 (Ext.size hE))⟩) ⟨E0, p3, p4, p5, hx1, hx2, hx3, Nat.le_refl _⟩ (by kernel_rfl) (by kernel_rfl) (by kernel_rfl) (by kernel_rfl) (A := ?A32) ?hA32 ?howe32 ?hfin32
        case hA32 =>
         intro vs
         simp only [putAll, Act.put, List.setIfInBounds_toArray, List.set_cons_zero, List.set_cons_succ, Nat.zero_add, Nat.reduceAdd]
         exact rfl
        case howe32 =>
         clear E0 p3 p4 p5 hx1 hx2 hx3
         intro hf
         refine ⟨owesE 0 [] hf rfl (by kernel_rfl) ?_, owesE 1 [0] hf rfl (by kernel_rfl) ?_, owesE 2 [1] hf rfl (by kernel_rfl) ?_, owesE 3 [1] hf rfl (by kernel_rfl) ?_, owesE 4 [1, 2, 3] hf rfl (by kernel_rfl) ?_, owesE 5 [1] hf rfl (by kernel_rfl) ?_, owesE 6 [1] hf rfl (by kernel_rfl) ?_, owesE 7 [1, 5, 6] hf rfl (by kernel_rfl) ?_, owesE 8 [1, 4, 7] hf rfl (by kernel_rfl) ?_, owesE 9 [1] hf rfl (by kernel_rfl) ?_, owesE 10 [1, 8, 9] hf rfl (by kernel_rfl) ?_, owesE 11 [1, 10] hf rfl (by kernel_rfl) ?_, owesE 12 [11] hf rfl (by kernel_rfl) ?_, owesE 13 [12] hf rfl (by kernel_rfl) ?_, owesE 14 [12] hf rfl (by kernel_rfl) ?_, owesE 15 [12, 13, 14] hf rfl (by kernel_rfl) ?_, owesE 16 [12] hf rfl (by kernel_rfl) ?_, owesE 17 [12, 15, 16] hf rfl (by kernel_rfl) ?_, owesE 18 [12] hf rfl (by kernel_rfl) ?_, owesE 19 [12, 17, 18] hf rfl (by kernel_rfl) ?_, owesE 20 [12, 19] hf rfl (by kernel_rfl) ?_, owesE 21 [20] hf rfl (by kernel_rfl) ?_, owesE 22 [21] hf rfl (by kernel_rfl) ?_, owesE 23 [21, 22] hf rfl (by kernel_rfl) ?_, owesE 24 [21, 23] hf rfl (by kernel_rfl) ?_, owesE 25 [24] hf rfl (by kernel_rfl) ?_, owesE 26 [24] hf rfl (by kernel_rfl) ?_, owesE 27 [24] hf rfl (by kernel_rfl) ?_, owesE 28 [24] hf rfl (by kernel_rfl) ?_, owesE 29 [24] hf rfl (by kernel_rfl) ?_, owesE 30 [24] hf rfl (by kernel_rfl) ?_, owesE 31 [24] hf rfl (by kernel_rfl) ?_, owesE 32 [24] hf rfl (by kernel_rfl) ?_, owesE 33 [24] hf rfl (by kernel_rfl) ?_, owesE 34 [21, 24, 33] hf rfl (by kernel_rfl) ?_, owesE 35 [21, 34] hf rfl (by kernel_rfl) ?_, owesE 36 [35] hf rfl (by kernel_rfl) ?_, trivial⟩
         all_goals intro vs W hS hp hx KO hKO
         all_goals simp only [Act.put, List.setIfInBounds_toArray, List.set_cons_zero, List.set_cons_succ] at hKO
         ·go_simp
          refine (Try.alive05 _).mono ?_
          rintro e W1 ⟨rfl, hE⟩
          exact hKO _ W1 hE rfl
         ·have e0 := isOf hp.1
          simp only [e0] at hKO
          go_simp
          exact hKO _ W (Ext.refl W) rfl
         ·have e1 := isOf hp.1
          simp only [e1] at hKO
          have fc0 := hS.2.1.cell0
          have fc1 := hS.2.1.cell1
          have fc2 := hS.2.1.cell2
          go_simp
          exact hKO _ W (Ext.refl W) rfl
         ·have e1 := isOf hp.1
          simp only [e1] at hKO
          have fc0 := hS.2.2.2.1.cell0
          have fc1 := hS.2.2.2.1.cell1
          have fc2 := hS.2.2.2.1.cell2
          go_simp
          exact hKO _ W (Ext.refl W) rfl
         ·have e1 := isOf hp.1
          have e2 := isOf hp.2.1
          have e3 := isOf hp.2.2.1
          simp only [e1, e2, e3] at hKO
          go_simp
          refine (Try.ratAdd (hS.2.2.2.2.1) (hS.2.2.2.2.2.2.1) s1 s3 (by omega)).mono ?_
          rintro e W1 ⟨v, rfl, hv, hE⟩
          exact hKO _ W1 hE hv
         ·have e1 := isOf hp.1
          simp only [e1] at hKO
          have fc0 := hS.2.2.1.cell0
          have fc1 := hS.2.2.1.cell1
          have fc2 := hS.2.2.1.cell2
          go_simp
          exact hKO _ W (Ext.refl W) rfl
         ·have e1 := isOf hp.1
          simp only [e1] at hKO
          have fc0 := hS.2.2.2.1.cell0
          have fc1 := hS.2.2.2.1.cell1
          have fc2 := hS.2.2.2.1.cell2
          go_simp
          exact hKO _ W (Ext.refl W) rfl
         ·have e1 := isOf hp.1
          have e5 := isOf hp.2.1
          have e6 := isOf hp.2.2.1
          simp only [e1, e5, e6] at hKO
          go_simp
          refine (Try.ratAdd (hS.2.2.2.2.2.1) (hS.2.2.2.2.2.2.1) s2 s3 (by omega)).mono ?_
          rintro e W1 ⟨v, rfl, hv, hE⟩
          exact hKO _ W1 hE hv
         ·have e1 := isOf hp.1
          have q4 := hp.2.1
          have q7 := hp.2.2.1
          simp only [e1] at hKO
          go_simp
          refine (Try.ratCmpR q4 q7 SA.out SB.out (by omega) C4.out).mono ?_
          rintro e W1 ⟨rfl, hE⟩
          exact hKO _ W1 hE rfl
         ·have e1 := isOf hp.1
          simp only [e1] at hKO
          go_simp
          exact hKO _ W (Ext.refl W) rfl
         ·have e1 := isOf hp.1
          have e8 := isOf hp.2.1
          have e9 := isOf hp.2.2.1
          simp only [e1, e8, e9] at hKO
          go_simp
          exact hKO _ W (Ext.refl W) rfl
         ·have e1 := isOf hp.1
          have e10 := isOf hp.2.1
          simp only [e1, e10] at hKO
          go_simp
          exact hKO _ W (Ext.refl W) rfl
         ·have e11 := isOf hp.1
          simp only [e11] at hKO
          go_simp
          exact hKO _ W (Ext.refl W) rfl
         ·have e12 := isOf hp.1
          simp only [e12] at hKO
          have fc0 := hS.2.1.cell0
          have fc1 := hS.2.1.cell1
          have fc2 := hS.2.1.cell2
          go_simp
          exact hKO _ W (Ext.refl W) rfl
         ·have e12 := isOf hp.1
          simp only [e12] at hKO
          have fc0 := hS.2.2.1.cell0
          have fc1 := hS.2.2.1.cell1
          have fc2 := hS.2.2.1.cell2
          go_simp
          exact hKO _ W (Ext.refl W) rfl
         ·have e12 := isOf hp.1
          have e13 := isOf hp.2.1
          have e14 := isOf hp.2.2.1
          simp only [e12, e13, e14] at hKO
          go_simp
          refine (Try.ratSub (hS.2.2.2.2.1) (hS.2.2.2.2.2.1) s1 s2 (by omega)).mono ?_
          rintro e W1 ⟨v, rfl, hv, hE⟩
          exact hKO _ W1 hE hv
         ·have e12 := isOf hp.1
          simp only [e12] at hKO
          go_simp
          refine (Try.ratOf 0 _ (by omega) (by omega)).mono ?_
          rintro e W1 ⟨v, rfl, hv, hE⟩
          exact hKO _ W1 hE hv
         ·have e12 := isOf hp.1
          have q15 := hp.2.1
          have q16 := hp.2.2.1
          simp only [e12] at hKO
          go_simp
          refine (Try.ratCmpR q15 q16 SC.out S0.out (by omega) C5.out).mono ?_
          rintro e W1 ⟨rfl, hE⟩
          exact hKO _ W1 hE rfl
         ·have e12 := isOf hp.1
          simp only [e12] at hKO
          go_simp
          exact hKO _ W (Ext.refl W) rfl
         ·have e12 := isOf hp.1
          have e17 := isOf hp.2.1
          have e18 := isOf hp.2.2.1
          simp only [e12, e17, e18] at hKO
          go_simp
          exact hKO _ W (Ext.refl W) rfl
         ·have e12 := isOf hp.1
          have e19 := isOf hp.2.1
          simp only [e12, e19] at hKO
          go_simp
          exact hKO _ W (Ext.refl W) rfl
         ·have e20 := isOf hp.1
          simp only [e20] at hKO
          go_simp
          exact hKO _ W (Ext.refl W) rfl
         ·have e21 := isOf hp.1
          simp only [e21] at hKO
          go_simp
          exact hKO _ W (Ext.refl W) rfl
         ·have e21 := isOf hp.1
          have e22 := isOf hp.2.1
          simp only [e21, e22] at hKO
          go_simp
          exact hKO _ W (Ext.refl W) rfl
         ·have e21 := isOf hp.1
          have e23 := isOf hp.2.1
          simp only [e21, e23] at hKO
          go_simp
          exact hKO _ W (Ext.refl W) rfl
         ·have e24 := isOf hp.1
          simp only [e24] at hKO
          go_simp
          exact hKO _ W (Ext.refl W) rfl
         ·have e24 := isOf hp.1
          simp only [e24] at hKO
          go_simp
          exact hKO _ W (Ext.refl W) rfl
         ·have e24 := isOf hp.1
          simp only [e24] at hKO
          go_simp
          exact hKO _ W (Ext.refl W) rfl
         ·have e24 := isOf hp.1
          simp only [e24] at hKO
          go_simp
          exact hKO _ W (Ext.refl W) rfl
         ·have e24 := isOf hp.1
          simp only [e24] at hKO
          go_simp
          exact hKO _ W (Ext.refl W) rfl
         ·have e24 := isOf hp.1
          simp only [e24] at hKO
          go_simp
          exact hKO _ W (Ext.refl W) rfl
         ·have e24 := isOf hp.1
          simp only [e24] at hKO
          go_simp
          exact hKO _ W (Ext.refl W) rfl
         ·have e24 := isOf hp.1
          simp only [e24] at hKO
          go_simp
          exact hKO _ W (Ext.refl W) rfl
         ·have e24 := isOf hp.1
          simp only [e24] at hKO
          go_simp
          exact hKO _ W (Ext.refl W) rfl
         ·have e21 := isOf hp.1
          have e24 := isOf hp.2.1
          have e33 := isOf hp.2.2.1
          simp only [e21, e24, e33] at hKO
          go_simp
          exact hKO _ W (Ext.refl W) rfl
         ·have e21 := isOf hp.1
          have e34 := isOf hp.2.1
          simp only [e21, e34] at hKO
          go_simp
          exact hKO _ W (Ext.refl W) rfl
         ·have e35 := isOf hp.1
          simp only [e35] at hKO
          go_simp
          exact hKO _ W (Ext.refl W) rfl
        intro vs W32 hS hp
        clear szw32 E0 p3 p4 p5 hx1 hx2 hx3
        obtain ⟨E0, p3, p4, p5, hx1, hx2, hx3, sz32⟩ := hS
        obtain ⟨h32_0, h32_1, h32_2, h32_3, h32_4, h32_5, h32_6, h32_7, h32_8, h32_9, h32_10, h32_11, h32_12, h32_13, h32_14, h32_15, h32_16, h32_17, h32_18, h32_19, h32_20, h32_21, h32_22, h32_23, h32_24, h32_25, h32_26, h32_27, h32_28, h32_29, h32_30, h32_31, h32_32, h32_33, h32_34, h32_35, h32_36, -⟩ := hp
        replace h32_0 : vs 0 = .bool true := h32_0
        replace h32_1 : vs 1 = .bool true := h32_1
        replace h32_2 : vs 2 = .agg #[.bool b1, .slice a1 n1 c1, .slice d1 m1 o1] := h32_2
        replace h32_3 : vs 3 = .agg #[.bool true, .slice a3 n3 c3, .slice d3 m3 o3] := h32_3
        replace h32_5 : vs 5 = .agg #[.bool b2, .slice a2 n2 c2, .slice d2 m2 o2] := h32_5
        replace h32_6 : vs 6 = .agg #[.bool true, .slice a3 n3 c3, .slice d3 m3 o3] := h32_6
        replace h32_8 : vs 8 = .int .i64 c := h32_8
        replace h32_9 : vs 9 = .int .i64 c := h32_9
        replace h32_10 : vs 10 = .bool true := h32_10
        replace h32_11 : vs 11 = .bool true := h32_11
        replace h32_12 : vs 12 = .bool true := h32_12
        replace h32_13 : vs 13 = .agg #[.bool b1, .slice a1 n1 c1, .slice d1 m1 o1] := h32_13
        replace h32_14 : vs 14 = .agg #[.bool b2, .slice a2 n2 c2, .slice d2 m2 o2] := h32_14
        replace h32_17 : vs 17 = .int .i64 c := h32_17
        replace h32_18 : vs 18 = .int .i64 c := h32_18
        replace h32_19 : vs 19 = .bool true := h32_19
        replace h32_20 : vs 20 = .bool true := h32_20
        replace h32_21 : vs 21 = .bool true := h32_21
        replace h32_22 : vs 22 = .bool false := h32_22
        replace h32_23 : vs 23 = .bool true := h32_23
        replace h32_24 : vs 24 = .bool true := h32_24
        replace h32_25 : vs 25 = undef := h32_25
        replace h32_26 : vs 26 = undef := h32_26
        replace h32_27 : vs 27 = undef := h32_27
        replace h32_28 : vs 28 = undef := h32_28
        replace h32_29 : vs 29 = undef := h32_29
        replace h32_30 : vs 30 = undef := h32_30
        replace h32_31 : vs 31 = undef := h32_31
        replace h32_32 : vs 32 = undef := h32_32
        replace h32_33 : vs 33 = undef := h32_33
        replace h32_34 : vs 34 = .bool true := h32_34
        replace h32_35 : vs 35 = .bool true := h32_35
        replace h32_36 : vs 36 = .bool true := h32_36
        simp only [h32_0, h32_1, h32_2, h32_3, h32_5, h32_6, h32_8, h32_9, h32_10, h32_11, h32_12, h32_13, h32_14, h32_17, h32_18, h32_19, h32_20, h32_21, h32_22, h32_23, h32_24, h32_25, h32_26, h32_27, h32_28, h32_29, h32_30, h32_31, h32_32, h32_33, h32_34, h32_35, h32_36]
        replace h32_4 : Rw W32 (vs 4) (x + z) := h32_4
        generalize vs 4 = u32_4 at h32_4 ⊢
        replace h32_7 : Rw W32 (vs 7) (y + z) := h32_7
        generalize vs 7 = u32_7 at h32_7 ⊢
        replace h32_15 : Rw W32 (vs 15) (x - y) := h32_15
        generalize vs 15 = u32_15 at h32_15 ⊢
        replace h32_16 : Rw W32 (vs 16) (((0 : Int) : Rat)) := h32_16
        generalize vs 16 = u32_16 at h32_16 ⊢
        clear h32_0 h32_1 h32_2 h32_3 h32_5 h32_6 h32_8 h32_9 h32_10 h32_11 h32_12 h32_13 h32_14 h32_17 h32_18 h32_19 h32_20 h32_21 h32_22 h32_23 h32_24 h32_25 h32_26 h32_27 h32_28 h32_29 h32_30 h32_31 h32_32 h32_33 h32_34 h32_35 h32_36
        have kp3_0 := p3.cell0
        have kp3_1 := p3.cell1
        have kp3_2 := p3.cell2
        have kp4_0 := p4.cell0
        have kp4_1 := p4.cell1
        have kp4_2 := p4.cell2
        have kp5_0 := p5.cell0
        have kp5_1 := p5.cell1
        have kp5_2 := p5.cell2
        go_wp2
        go_ret
        exact ⟨rfl, E0⟩
      ·have hn0I : ¬ (0 : Int) < (n3 : Int) := by omega
       have hn0N : ¬ 0 < n3 := by omega
       clear hz0 hb3 hn3
       have kp3_0 := p3.cell0
       have kp3_1 := p3.cell1
       have kp3_2 := p3.cell2
       have kp4_0 := p4.cell0
       have kp4_1 := p4.cell1
       have kp4_2 := p4.cell2
       have kp5_0 := p5.cell0
       have kp5_1 := p5.cell1
       have kp5_2 := p5.cell2
       go_upto_region 6 with (fail)
       clear kp3_0 kp3_1 kp3_2 kp4_0 kp4_1 kp4_2 kp5_0 kp5_1 kp5_2
       have szw29 := Ext.size E0
       refine region_go [.one fun v _ => v = .pointer (some ⟨w.heap.size + 1 + 1, 0, none⟩),
         .one fun v _ => v = .pointer (some ⟨w.heap.size + 1 + 1, 1, none⟩),
         .one fun v _ => v = .slice a3 n3 c3,
         .one fun v _ => v = .int .i64 (n3 : Int),
         .one fun v _ => v = .bool false,
         .one fun v _ => v = .bool false,
         .one fun v _ => v = undef,
         .one fun v _ => v = undef,
         .one fun v _ => v = undef,
         .one fun v _ => v = undef,
         .one fun v _ => v = .bool false,
         .one fun v _ => v = .bool false]
        (fun W => Ext w W ∧ Bx3 W w.heap.size 35 (.bool b1) (.slice a1 n1 c1) (.slice d1 m1 o1) ∧ Bx3 W (w.heap.size + 1) 35 (.bool b2) (.slice a2 n2 c2) (.slice d2 m2 o2) ∧ Bx3 W (w.heap.size + 1 + 1) 35 (.bool b3) (.slice a3 n3 c3) (.slice d3 m3 o3) ∧ Rw W (.agg #[.bool b1, .slice a1 n1 c1, .slice d1 m1 o1]) x ∧ Rw W (.agg #[.bool b2, .slice a2 n2 c2, .slice d2 m2 o2]) y ∧ Rw W (.agg #[.bool b3, .slice a3 n3 c3, .slice d3 m3 o3]) z ∧ W26.heap.size ≤ W.heap.size) ⟨Good.is _, Good.is _, Good.is _, Good.is _, Good.is _, Good.is _, Good.is _, Good.is _, Good.is _, Good.is _, Good.is _, Good.is _, trivial⟩
        (fun W W1 hS hE => ⟨(Ext.trans hS.1 hE), (hS.2.1.ext hE), (hS.2.2.1.ext hE), (hS.2.2.2.1.ext hE), (hS.2.2.2.2.1.ext hE), (hS.2.2.2.2.2.1.ext hE), (hS.2.2.2.2.2.2.1.ext hE), (Nat.le_trans hS.2.2.2.2.2.2.2 (Ext.size hE))⟩) ⟨E0, p3, p4, p5, hx1, hx2, hx3, Nat.le_refl _⟩ (by kernel_rfl) (by kernel_rfl) (by kernel_rfl) (by kernel_rfl) (A := ?A29) ?hA29 ?howe29 ?hfin29
       case hA29 =>
        intro vs
        simp only [putAll, Act.put, List.setIfInBounds_toArray, List.set_cons_zero, List.set_cons_succ, Nat.zero_add, Nat.reduceAdd]
        exact rfl
       case howe29 =>
        clear E0 p3 p4 p5 hx1 hx2 hx3
        intro hf
        refine ⟨owesE 0 [] hf rfl (by kernel_rfl) ?_, owesE 1 [0] hf rfl (by kernel_rfl) ?_, owesE 2 [1] hf rfl (by kernel_rfl) ?_, owesE 3 [2] hf rfl (by kernel_rfl) ?_, owesE 4 [3] hf rfl (by kernel_rfl) ?_, owesE 5 [4] hf rfl (by kernel_rfl) ?_, owesE 6 [5] hf rfl (by kernel_rfl) ?_, owesE 7 [5] hf rfl (by kernel_rfl) ?_, owesE 8 [5] hf rfl (by kernel_rfl) ?_, owesE 9 [5] hf rfl (by kernel_rfl) ?_, owesE 10 [5, 9] hf rfl (by kernel_rfl) ?_, owesE 11 [10] hf rfl (by kernel_rfl) ?_, trivial⟩
        all_goals intro vs W hS hp hx KO hKO
        all_goals simp only [Act.put, List.setIfInBounds_toArray, List.set_cons_zero, List.set_cons_succ] at hKO
        ·go_simp
         exact hKO _ W (Ext.refl W) rfl
        ·have e0 := isOf hp.1
         simp only [e0] at hKO
         go_simp
         exact hKO _ W (Ext.refl W) rfl
        ·have e1 := isOf hp.1
         simp only [e1] at hKO
         have fc1 := hS.2.2.2.1.cell1
         go_simp
         exact hKO _ W (Ext.refl W) rfl
        ·have e2 := isOf hp.1
         simp only [e2] at hKO
         go_simp
         exact hKO _ W (Ext.refl W) rfl
        ·have e3 := isOf hp.1
         simp only [e3] at hKO
         go_simp
         exact hKO _ W (Ext.refl W) rfl
        ·have e4 := isOf hp.1
         simp only [e4] at hKO
         go_simp
         exact hKO _ W (Ext.refl W) rfl
        ·have e5 := isOf hp.1
         simp only [e5] at hKO
         go_simp
         exact hKO _ W (Ext.refl W) rfl
        ·have e5 := isOf hp.1
         simp only [e5] at hKO
         go_simp
         exact hKO _ W (Ext.refl W) rfl
        ·have e5 := isOf hp.1
         simp only [e5] at hKO
         go_simp
         exact hKO _ W (Ext.refl W) rfl
        ·have e5 := isOf hp.1
         simp only [e5] at hKO
         go_simp
         exact hKO _ W (Ext.refl W) rfl
        ·have e5 := isOf hp.1
         have e9 := isOf hp.2.1
         simp only [e5, e9] at hKO
         go_simp
         exact hKO _ W (Ext.refl W) rfl
        ·have e10 := isOf hp.1
         simp only [e10] at hKO
         go_simp
         exact hKO _ W (Ext.refl W) rfl
       intro vs W29 hS hp
       clear szw29 E0 p3 p4 p5 hx1 hx2 hx3
       obtain ⟨E0, p3, p4, p5, hx1, hx2, hx3, sz29⟩ := hS
       obtain ⟨h29_0, h29_1, h29_2, h29_3, h29_4, h29_5, h29_6, h29_7, h29_8, h29_9, h29_10, h29_11, -⟩ := hp
       replace h29_0 : vs 0 = .pointer (some ⟨w.heap.size + 1 + 1, 0, none⟩) := h29_0
       replace h29_1 : vs 1 = .pointer (some ⟨w.heap.size + 1 + 1, 1, none⟩) := h29_1
       replace h29_2 : vs 2 = .slice a3 n3 c3 := h29_2
       replace h29_3 : vs 3 = .int .i64 (n3 : Int) := h29_3
       replace h29_4 : vs 4 = .bool false := h29_4
       replace h29_5 : vs 5 = .bool false := h29_5
       replace h29_6 : vs 6 = undef := h29_6
       replace h29_7 : vs 7 = undef := h29_7
       replace h29_8 : vs 8 = undef := h29_8
       replace h29_9 : vs 9 = undef := h29_9
       replace h29_10 : vs 10 = .bool false := h29_10
       replace h29_11 : vs 11 = .bool false := h29_11
       simp only [h29_0, h29_1, h29_2, h29_3, h29_4, h29_5, h29_6, h29_7, h29_8, h29_9, h29_10, h29_11]
       clear h29_0 h29_1 h29_2 h29_3 h29_4 h29_5 h29_6 h29_7 h29_8 h29_9 h29_10 h29_11
       have kp3_0 := p3.cell0
       have kp3_1 := p3.cell1
       have kp3_2 := p3.cell2
       have kp4_0 := p4.cell0
       have kp4_1 := p4.cell1
       have kp4_2 := p4.cell2
       have kp5_0 := p5.cell0
       have kp5_1 := p5.cell1
       have kp5_2 := p5.cell2
       go_upto_region 7 with (fail)
       clear kp3_0 kp3_1 kp3_2 kp4_0 kp4_1 kp4_2 kp5_0 kp5_1 kp5_2
       have szw30 := Ext.size E0
       refine region_go [.one fun v _ => v = .bool true,
         .one fun v _ => v = .bool true,
         .one fun v _ => v = .agg #[.bool b1, .slice a1 n1 c1, .slice d1 m1 o1],
         .one fun v _ => v = .agg #[.bool b3, .slice a3 n3 c3, .slice d3 m3 o3],
         .one fun v W => Rw W v (x + z),
         .one fun v _ => v = .agg #[.bool b2, .slice a2 n2 c2, .slice d2 m2 o2],
         .one fun v _ => v = .agg #[.bool b3, .slice a3 n3 c3, .slice d3 m3 o3],
         .one fun v W => Rw W v (y + z),
         .one fun v _ => v = .int .i64 c,
         .one fun v _ => v = .int .i64 c,
         .one fun v _ => v = .bool true,
         .one fun v _ => v = .bool true,
         .one fun v _ => v = .bool true,
         .one fun v _ => v = .agg #[.bool b1, .slice a1 n1 c1, .slice d1 m1 o1],
         .one fun v _ => v = .agg #[.bool b2, .slice a2 n2 c2, .slice d2 m2 o2],
         .one fun v W => Rw W v (x - y),
         .one fun v W => Rw W v (((0 : Int) : Rat)),
         .one fun v _ => v = .int .i64 c,
         .one fun v _ => v = .int .i64 c,
         .one fun v _ => v = .bool true,
         .one fun v _ => v = .bool true,
         .one fun v _ => v = .bool true,
         .one fun v _ => v = .bool false,
         .one fun v _ => v = .bool true,
         .one fun v _ => v = .bool true,
         .one fun v _ => v = undef,
         .one fun v _ => v = undef,
         .one fun v _ => v = undef,
         .one fun v _ => v = undef,
         .one fun v _ => v = undef,
         .one fun v _ => v = undef,
         .one fun v _ => v = undef,
         .one fun v _ => v = undef,
         .one fun v _ => v = undef,
         .one fun v _ => v = .bool true,
         .one fun v _ => v = .bool true,
         .one fun v _ => v = .bool true]
        (fun W => Ext w W ∧ Bx3 W w.heap.size 35 (.bool b1) (.slice a1 n1 c1) (.slice d1 m1 o1) ∧ Bx3 W (w.heap.size + 1) 35 (.bool b2) (.slice a2 n2 c2) (.slice d2 m2 o2) ∧ Bx3 W (w.heap.size + 1 + 1) 35 (.bool b3) (.slice a3 n3 c3) (.slice d3 m3 o3) ∧ Rw W (.agg #[.bool b1, .slice a1 n1 c1, .slice d1 m1 o1]) x ∧ Rw W (.agg #[.bool b2, .slice a2 n2 c2, .slice d2 m2 o2]) y ∧ Rw W (.agg #[.bool b3, .slice a3 n3 c3, .slice d3 m3 o3]) z ∧ W29.heap.size ≤ W.heap.size) ⟨Good.is _, Good.is _, Good.is _, Good.is _, Good.rat _, Good.is _, Good.is _, Good.rat _, Good.is _, Good.is _, Good.is _, Good.is _, Good.is _, Good.is _, Good.is _, Good.rat _, Good.rat _, Good.is _, Good.is _, Good.is _, Good.is _, Good.is _, Good.is _, Good.is _, Good.is _, Good.is _, Good.is _, Good.is _, Good.is _, Good.is _, Good.is _, Good.is _, Good.is _, Good.is _, Good.is _, Good.is _, Good.is _, trivial⟩
        (fun W W1 hS hE => ⟨(Ext.trans hS.1 hE), (hS.2.1.ext hE), (hS.2.2.1.ext hE), (hS.2.2.2.1.ext hE), (hS.2.2.2.2.1.ext hE), (hS.2.2.2.2.2.1.ext hE), (hS.2.2.2.2.2.2.1.ext hE), (Nat.le_trans hS.2.2.2.2.2.2.2 (Ext.size hE))⟩) ⟨E0, p3, p4, p5, hx1, hx2, hx3, Nat.le_refl _⟩ (by kernel_rfl) (by kernel_rfl) (by kernel_rfl) (by kernel_rfl) (A := ?A30) ?hA30 ?howe30 ?hfin30
       case hA30 =>
        intro vs
        simp only [putAll, Act.put, List.setIfInBounds_toArray, List.set_cons_zero, List.set_cons_succ, Nat.zero_add, Nat.reduceAdd]
        exact rfl
       case howe30 =>
        clear E0 p3 p4 p5 hx1 hx2 hx3
        intro hf
        refine ⟨owesE 0 [] hf rfl (by kernel_rfl) ?_, owesE 1 [0] hf rfl (by kernel_rfl) ?_, owesE 2 [1] hf rfl (by kernel_rfl) ?_, owesE 3 [1] hf rfl (by kernel_rfl) ?_, owesE 4 [1, 2, 3] hf rfl (by kernel_rfl) ?_, owesE 5 [1] hf rfl (by kernel_rfl) ?_, owesE 6 [1] hf rfl (by kernel_rfl) ?_, owesE 7 [1, 5, 6] hf rfl (by kernel_rfl) ?_, owesE 8 [1, 4, 7] hf rfl (by kernel_rfl) ?_, owesE 9 [1] hf rfl (by kernel_rfl) ?_, owesE 10 [1, 8, 9] hf rfl (by kernel_rfl) ?_, owesE 11 [1, 10] hf rfl (by kernel_rfl) ?_, owesE 12 [11] hf rfl (by kernel_rfl) ?_, owesE 13 [12] hf rfl (by kernel_rfl) ?_, owesE 14 [12] hf rfl (by kernel_rfl) ?_, owesE 15 [12, 13, 14] hf rfl (by kernel_rfl) ?_, owesE 16 [12] hf rfl (by kernel_rfl) ?_, owesE 17 [12, 15, 16] hf rfl (by kernel_rfl) ?_, owesE 18 [12] hf rfl (by kernel_rfl) ?_, owesE 19 [12, 17, 18] hf rfl (by kernel_rfl) ?_, owesE 20 [12, 19] hf rfl (by kernel_rfl) ?_, owesE 21 [20] hf rfl (by kernel_rfl) ?_, owesE 22 [21] hf rfl (by kernel_rfl) ?_, owesE 23 [21, 22] hf rfl (by kernel_rfl) ?_, owesE 24 [21, 23] hf rfl (by kernel_rfl) ?_, owesE 25 [24] hf rfl (by kernel_rfl) ?_, owesE 26 [24] hf rfl (by kernel_rfl) ?_, owesE 27 [24] hf rfl (by kernel_rfl) ?_, owesE 28 [24] hf rfl (by kernel_rfl) ?_, owesE 29 [24] hf rfl (by kernel_rfl) ?_, owesE 30 [24] hf rfl (by kernel_rfl) ?_, owesE 31 [24] hf rfl (by kernel_rfl) ?_, owesE 32 [24] hf rfl (by kernel_rfl) ?_, owesE 33 [24] hf rfl (by kernel_rfl) ?_, owesE 34 [21, 24, 33] hf rfl (by kernel_rfl) ?_, owesE 35 [21, 34] hf rfl (by kernel_rfl) ?_, owesE 36 [35] hf rfl (by kernel_rfl) ?_, trivial⟩
        all_goals intro vs W hS hp hx KO hKO
        all_goals simp only [Act.put, List.setIfInBounds_toArray, List.set_cons_zero, List.set_cons_succ] at hKO
        ·go_simp
         refine (Try.alive05 _).mono ?_
         rintro e W1 ⟨rfl, hE⟩
         exact hKO _ W1 hE rfl
        ·have e0 := isOf hp.1
         simp only [e0] at hKO
         go_simp
         exact hKO _ W (Ext.refl W) rfl
        ·have e1 := isOf hp.1
         simp only [e1] at hKO
         have fc0 := hS.2.1.cell0
         have fc1 := hS.2.1.cell1
         have fc2 := hS.2.1.cell2
         go_simp
         exact hKO _ W (Ext.refl W) rfl
        ·have e1 := isOf hp.1
         simp only [e1] at hKO
         have fc0 := hS.2.2.2.1.cell0
         have fc1 := hS.2.2.2.1.cell1
         have fc2 := hS.2.2.2.1.cell2
         go_simp
         exact hKO _ W (Ext.refl W) rfl
        ·have e1 := isOf hp.1
         have e2 := isOf hp.2.1
         have e3 := isOf hp.2.2.1
         simp only [e1, e2, e3] at hKO
         go_simp
         refine (Try.ratAdd (hS.2.2.2.2.1) (hS.2.2.2.2.2.2.1) s1 s3 (by omega)).mono ?_
         rintro e W1 ⟨v, rfl, hv, hE⟩
         exact hKO _ W1 hE hv
        ·have e1 := isOf hp.1
         simp only [e1] at hKO
         have fc0 := hS.2.2.1.cell0
         have fc1 := hS.2.2.1.cell1
         have fc2 := hS.2.2.1.cell2
         go_simp
         exact hKO _ W (Ext.refl W) rfl
        ·have e1 := isOf hp.1
         simp only [e1] at hKO
         have fc0 := hS.2.2.2.1.cell0
         have fc1 := hS.2.2.2.1.cell1
         have fc2 := hS.2.2.2.1.cell2
         go_simp
         exact hKO _ W (Ext.refl W) rfl
        ·have e1 := isOf hp.1
         have e5 := isOf hp.2.1
         have e6 := isOf hp.2.2.1
         simp only [e1, e5, e6] at hKO
         go_simp
         refine (Try.ratAdd (hS.2.2.2.2.2.1) (hS.2.2.2.2.2.2.1) s2 s3 (by omega)).mono ?_
         rintro e W1 ⟨v, rfl, hv, hE⟩
         exact hKO _ W1 hE hv
        ·have e1 := isOf hp.1
         have q4 := hp.2.1
         have q7 := hp.2.2.1
         simp only [e1] at hKO
         go_simp
         refine (Try.ratCmpR q4 q7 SA.out SB.out (by omega) C4.out).mono ?_
         rintro e W1 ⟨rfl, hE⟩
         exact hKO _ W1 hE rfl
        ·have e1 := isOf hp.1
         simp only [e1] at hKO
         go_simp
         exact hKO _ W (Ext.refl W) rfl
        ·have e1 := isOf hp.1
         have e8 := isOf hp.2.1
         have e9 := isOf hp.2.2.1
         simp only [e1, e8, e9] at hKO
         go_simp
         exact hKO _ W (Ext.refl W) rfl
        ·have e1 := isOf hp.1
         have e10 := isOf hp.2.1
         simp only [e1, e10] at hKO
         go_simp
         exact hKO _ W (Ext.refl W) rfl
        ·have e11 := isOf hp.1
         simp only [e11] at hKO
         go_simp
         exact hKO _ W (Ext.refl W) rfl
        ·have e12 := isOf hp.1
         simp only [e12] at hKO
         have fc0 := hS.2.1.cell0
         have fc1 := hS.2.1.cell1
         have fc2 := hS.2.1.cell2
         go_simp
         exact hKO _ W (Ext.refl W) rfl
        ·have e12 := isOf hp.1
         simp only [e12] at hKO
         have fc0 := hS.2.2.1.cell0
         have fc1 := hS.2.2.1.cell1
         have fc2 := hS.2.2.1.cell2
         go_simp
         exact hKO _ W (Ext.refl W) rfl
        ·have e12 := isOf hp.1
         have e13 := isOf hp.2.1
         have e14 := isOf hp.2.2.1
         simp only [e12, e13, e14] at hKO
         go_simp
         refine (Try.ratSub (hS.2.2.2.2.1) (hS.2.2.2.2.2.1) s1 s2 (by omega)).mono ?_
         rintro e W1 ⟨v, rfl, hv, hE⟩
         exact hKO _ W1 hE hv
        ·have e12 := isOf hp.1
         simp only [e12] at hKO
         go_simp
         refine (Try.ratOf 0 _ (by omega) (by omega)).mono ?_
         rintro e W1 ⟨v, rfl, hv, hE⟩
         exact hKO _ W1 hE hv
        ·have e12 := isOf hp.1
         have q15 := hp.2.1
         have q16 := hp.2.2.1
         simp only [e12] at hKO
         go_simp
         refine (Try.ratCmpR q15 q16 SC.out S0.out (by omega) C5.out).mono ?_
         rintro e W1 ⟨rfl, hE⟩
         exact hKO _ W1 hE rfl
        ·have e12 := isOf hp.1
         simp only [e12] at hKO
         go_simp
         exact hKO _ W (Ext.refl W) rfl
        ·have e12 := isOf hp.1
         have e17 := isOf hp.2.1
         have e18 := isOf hp.2.2.1
         simp only [e12, e17, e18] at hKO
         go_simp
         exact hKO _ W (Ext.refl W) rfl
        ·have e12 := isOf hp.1
         have e19 := isOf hp.2.1
         simp only [e12, e19] at hKO
         go_simp
         exact hKO _ W (Ext.refl W) rfl
        ·have e20 := isOf hp.1
         simp only [e20] at hKO
         go_simp
         exact hKO _ W (Ext.refl W) rfl
        ·have e21 := isOf hp.1
         simp only [e21] at hKO
         go_simp
         exact hKO _ W (Ext.refl W) rfl
        ·have e21 := isOf hp.1
         have e22 := isOf hp.2.1
         simp only [e21, e22] at hKO
         go_simp
         exact hKO _ W (Ext.refl W) rfl
        ·have e21 := isOf hp.1
         have e23 := isOf hp.2.1
         simp only [e21, e23] at hKO
         go_simp
         exact hKO _ W (Ext.refl W) rfl
        ·have e24 := isOf hp.1
         simp only [e24] at hKO
         go_simp
         exact hKO _ W (Ext.refl W) rfl
        ·have e24 := isOf hp.1
         simp only [e24] at hKO
         go_simp
         exact hKO _ W (Ext.refl W) rfl
        ·have e24 := isOf hp.1
         simp only [e24] at hKO
         go_simp
         exact hKO _ W (Ext.refl W) rfl
        ·have e24 := isOf hp.1
         simp only [e24] at hKO
         go_simp
         exact hKO _ W (Ext.refl W) rfl
        ·have e24 := isOf hp.1
         simp only [e24] at hKO
         go_simp
         exact hKO _ W (Ext.refl W) rfl
        ·have e24 := isOf hp.1
         simp only [e24] at hKO
         go_simp
         exact hKO _ W (Ext.refl W) rfl
        ·have e24 := isOf hp.1
         simp only [e24] at hKO
         go_simp
         exact hKO _ W (Ext.refl W) rfl
        ·have e24 := isOf hp.1
         simp only [e24] at hKO
         go_simp
         exact hKO _ W (Ext.refl W) rfl
        ·have e24 := isOf hp.1
         simp only [e24] at hKO
         go_simp
         exact hKO _ W (Ext.refl W) rfl
        ·have e21 := isOf hp.1
         have e24 := isOf hp.2.1
         have e33 := isOf hp.2.2.1
         simp only [e21, e24, e33] at hKO
         go_simp
         exact hKO _ W (Ext.refl W) rfl
        ·have e21 := isOf hp.1
         have e34 := isOf hp.2.1
         simp only [e21, e34] at hKO
         go_simp
         exact hKO _ W (Ext.refl W) rfl
        ·have e35 := isOf hp.1
         simp only [e35] at hKO
         go_simp
         exact hKO _ W (Ext.refl W) rfl
       intro vs W30 hS hp
       clear szw30 E0 p3 p4 p5 hx1 hx2 hx3
       obtain ⟨E0, p3, p4, p5, hx1, hx2, hx3, sz30⟩ := hS
       obtain ⟨h30_0, h30_1, h30_2, h30_3, h30_4, h30_5, h30_6, h30_7, h30_8, h30_9, h30_10, h30_11, h30_12, h30_13, h30_14, h30_15, h30_16, h30_17, h30_18, h30_19, h30_20, h30_21, h30_22, h30_23, h30_24, h30_25, h30_26, h30_27, h30_28, h30_29, h30_30, h30_31, h30_32, h30_33, h30_34, h30_35, h30_36, -⟩ := hp
       replace h30_0 : vs 0 = .bool true := h30_0
       replace h30_1 : vs 1 = .bool true := h30_1
       replace h30_2 : vs 2 = .agg #[.bool b1, .slice a1 n1 c1, .slice d1 m1 o1] := h30_2
       replace h30_3 : vs 3 = .agg #[.bool b3, .slice a3 n3 c3, .slice d3 m3 o3] := h30_3
       replace h30_5 : vs 5 = .agg #[.bool b2, .slice a2 n2 c2, .slice d2 m2 o2] := h30_5
       replace h30_6 : vs 6 = .agg #[.bool b3, .slice a3 n3 c3, .slice d3 m3 o3] := h30_6
       replace h30_8 : vs 8 = .int .i64 c := h30_8
       replace h30_9 : vs 9 = .int .i64 c := h30_9
       replace h30_10 : vs 10 = .bool true := h30_10
       replace h30_11 : vs 11 = .bool true := h30_11
       replace h30_12 : vs 12 = .bool true := h30_12
       replace h30_13 : vs 13 = .agg #[.bool b1, .slice a1 n1 c1, .slice d1 m1 o1] := h30_13
       replace h30_14 : vs 14 = .agg #[.bool b2, .slice a2 n2 c2, .slice d2 m2 o2] := h30_14
       replace h30_17 : vs 17 = .int .i64 c := h30_17
       replace h30_18 : vs 18 = .int .i64 c := h30_18
       replace h30_19 : vs 19 = .bool true := h30_19
       replace h30_20 : vs 20 = .bool true := h30_20
       replace h30_21 : vs 21 = .bool true := h30_21
       replace h30_22 : vs 22 = .bool false := h30_22
       replace h30_23 : vs 23 = .bool true := h30_23
       replace h30_24 : vs 24 = .bool true := h30_24
       replace h30_25 : vs 25 = undef := h30_25
       replace h30_26 : vs 26 = undef := h30_26
       replace h30_27 : vs 27 = undef := h30_27
       replace h30_28 : vs 28 = undef := h30_28
       replace h30_29 : vs 29 = undef := h30_29
       replace h30_30 : vs 30 = undef := h30_30
       replace h30_31 : vs 31 = undef := h30_31
       replace h30_32 : vs 32 = undef := h30_32
       replace h30_33 : vs 33 = undef := h30_33
       replace h30_34 : vs 34 = .bool true := h30_34
       replace h30_35 : vs 35 = .bool true := h30_35
       replace h30_36 : vs 36 = .bool true := h30_36
       simp only [h30_0, h30_1, h30_2, h30_3, h30_5, h30_6, h30_8, h30_9, h30_10, h30_11, h30_12, h30_13, h30_14, h30_17, h30_18, h30_19, h30_20, h30_21, h30_22, h30_23, h30_24, h30_25, h30_26, h30_27, h30_28, h30_29, h30_30, h30_31, h30_32, h30_33, h30_34, h30_35, h30_36]
       replace h30_4 : Rw W30 (vs 4) (x + z) := h30_4
       generalize vs 4 = u30_4 at h30_4 ⊢
       replace h30_7 : Rw W30 (vs 7) (y + z) := h30_7
       generalize vs 7 = u30_7 at h30_7 ⊢
       replace h30_15 : Rw W30 (vs 15) (x - y) := h30_15
       generalize vs 15 = u30_15 at h30_15 ⊢
       replace h30_16 : Rw W30 (vs 16) (((0 : Int) : Rat)) := h30_16
       generalize vs 16 = u30_16 at h30_16 ⊢
       clear h30_0 h30_1 h30_2 h30_3 h30_5 h30_6 h30_8 h30_9 h30_10 h30_11 h30_12 h30_13 h30_14 h30_17 h30_18 h30_19 h30_20 h30_21 h30_22 h30_23 h30_24 h30_25 h30_26 h30_27 h30_28 h30_29 h30_30 h30_31 h30_32 h30_33 h30_34 h30_35 h30_36
       have kp3_0 := p3.cell0
       have kp3_1 := p3.cell1
       have kp3_2 := p3.cell2
       have kp4_0 := p4.cell0
       have kp4_1 := p4.cell1
       have kp4_2 := p4.cell2
       have kp5_0 := p5.cell0
       have kp5_1 := p5.cell1
       have kp5_2 := p5.cell2
       go_wp2
       go_ret
       exact ⟨rfl, E0⟩

end Go.Rt
