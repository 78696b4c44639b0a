/-
  The laws of chapter 05 (fractions): Field.
-/
import Derived.Test.YtnldjpnjifnbeaaLaw05
import Derived.Test.YtnldjpnjifnbeaaInv2
namespace Go.Rt
open Go Go.RowKit Go.Proofs


set_option maxRecDepth 100000 in
set_option maxHeartbeats 1000000 in
theorem Try.lawRatField {b1 : Bool} {a1 : Option Addr} {n1 c1 : Nat} {d1 : Option Addr} {m1 o1 : Nat} {xs1 ys1 : List Nat} {b2 : Bool} {a2 : Option Addr} {n2 c2 : Nat} {d2 : Option Addr} {m2 o2 : Nat} {xs2 ys2 : List Nat} {b3 : Bool} {a3 : Option Addr} {n3 c3 : Nat} {d3 : Option Addr} {m3 o3 : Nat} {xs3 ys3 : List Nat} {w : World} (h1 : Nt w (.slice a1 n1 c1) xs1) (k1 : Nt w (.slice d1 m1 o1) ys1) (h2 : Nt w (.slice a2 n2 c2) xs2) (k2 : Nt w (.slice d2 m2 o2) ys2) (h3 : Nt w (.slice a3 n3 c3) xs3) (k3 : Nt w (.slice d3 m3 o3) ys3) :
    Calls Try.prog 11 #[.agg #[.bool b1, .slice a1 n1 c1, .slice d1 m1 o1], .agg #[.bool b2, .slice a2 n2 c2, .slice d2 m2 o2], .agg #[.bool b3, .slice a3 n3 c3, .slice d3 m3 o3]] w fun e w' => e = .returned (.bool true) ∧ Ext w w' := by
  cases hg0 : fewR b1 xs1 ys1 ((3 : Nat) : Int)
  · have HG0 := Lib.hid hg0
    clear hg0
    obtain ⟨W0, hW0⟩ : ∃ W0, W0 = (((w.alloc (.cells #[.bool b1, .slice a1 n1 c1, .slice d1 m1 o1] 27)).alloc (.cells #[.bool b2, .slice a2 n2 c2, .slice d2 m2 o2] 27)).alloc (.cells #[.bool b3, .slice a3 n3 c3, .slice d3 m3 o3] 27)) := ⟨_, rfl⟩
    have E0 : Ext w W0 := by rw [hW0]; exact (((Ext.alloc1 w (.cells #[.bool b1, .slice a1 n1 c1, .slice d1 m1 o1] 27)).alloc (.cells #[.bool b2, .slice a2 n2 c2, .slice d2 m2 o2] 27)).alloc (.cells #[.bool b3, .slice a3 n3 c3, .slice d3 m3 o3] 27))
    replace h1 : Nt W0 (.slice a1 n1 c1) xs1 := h1.ext E0
    replace k1 : Nt W0 (.slice d1 m1 o1) ys1 := k1.ext E0
    replace h2 : Nt W0 (.slice a2 n2 c2) xs2 := h2.ext E0
    replace k2 : Nt W0 (.slice d2 m2 o2) ys2 := k2.ext E0
    replace h3 : Nt W0 (.slice a3 n3 c3) xs3 := h3.ext E0
    replace k3 : Nt W0 (.slice d3 m3 o3) ys3 := k3.ext E0
    have p3 : Bx3 W0 w.heap.size 27 (.bool b1) (.slice a1 n1 c1) (.slice d1 m1 o1) := by rw [hW0]; exact (Bx3.new w 27 (.bool b1) (.slice a1 n1 c1) (.slice d1 m1 o1)).ext ((Ext.alloc1 (w.alloc (.cells #[.bool b1, .slice a1 n1 c1, .slice d1 m1 o1] 27)) (.cells #[.bool b2, .slice a2 n2 c2, .slice d2 m2 o2] 27)).alloc (.cells #[.bool b3, .slice a3 n3 c3, .slice d3 m3 o3] 27))
    have p4 : Bx3 W0 (w.heap.size + 1) 27 (.bool b2) (.slice a2 n2 c2) (.slice d2 m2 o2) := by rw [hW0]; simpa using (Bx3.new (w.alloc (.cells #[.bool b1, .slice a1 n1 c1, .slice d1 m1 o1] 27)) 27 (.bool b2) (.slice a2 n2 c2) (.slice d2 m2 o2)).ext (Ext.alloc1 ((w.alloc (.cells #[.bool b1, .slice a1 n1 c1, .slice d1 m1 o1] 27)).alloc (.cells #[.bool b2, .slice a2 n2 c2, .slice d2 m2 o2] 27)) (.cells #[.bool b3, .slice a3 n3 c3, .slice d3 m3 o3] 27))
    have p5 : Bx3 W0 (w.heap.size + 1 + 1) 27 (.bool b3) (.slice a3 n3 c3) (.slice d3 m3 o3) := by rw [hW0]; simpa using (Bx3.new ((w.alloc (.cells #[.bool b1, .slice a1 n1 c1, .slice d1 m1 o1] 27)).alloc (.cells #[.bool b2, .slice a2 n2 c2, .slice d2 m2 o2] 27)) 27 (.bool b3) (.slice a3 n3 c3) (.slice d3 m3 o3))
    go_enter Try.func11, Try.ntmps11
    have kp3_0 := p3.cell0
    have kp3_1 := p3.cell1
    have kp3_2 := p3.cell2
    have kp4_0 := p4.cell0
    have kp4_1 := p4.cell1
    have kp4_2 := p4.cell2
    have kp5_0 := p5.cell0
    have kp5_1 := p5.cell1
    have kp5_2 := p5.cell2
    go_wp2_with fail
    rw [← hW0]
    clear hW0
    clear kp3_0 kp3_1 kp3_2 kp4_0 kp4_1 kp4_2 kp5_0 kp5_1 kp5_2
    refine (Try.refRFew h1 k1 3 (by omega)).mono ?_
    rintro e Wf0 ⟨rfl, hE⟩
    rw [HG0.out]
    replace E0 := (Ext.trans E0 hE)
    replace h1 := (h1.ext hE)
    replace k1 := (k1.ext hE)
    replace h2 := (h2.ext hE)
    replace k2 := (k2.ext hE)
    replace h3 := (h3.ext hE)
    replace k3 := (k3.ext hE)
    replace p3 := (p3.ext hE)
    replace p4 := (p4.ext hE)
    replace p5 := (p5.ext hE)
    clear hE
    have kp3_0 := p3.cell0
    have kp3_1 := p3.cell1
    have kp3_2 := p3.cell2
    have kp4_0 := p4.cell0
    have kp4_1 := p4.cell1
    have kp4_2 := p4.cell2
    have kp5_0 := p5.cell0
    have kp5_1 := p5.cell1
    have kp5_2 := p5.cell2
    go_wp2_with fail
    clear kp3_0 kp3_1 kp3_2 kp4_0 kp4_1 kp4_2 kp5_0 kp5_1 kp5_2
    refine (Try.alive05 _).mono ?_
    rintro e We ⟨rfl, hE⟩
    replace E0 := (Ext.trans E0 hE)
    replace h1 := (h1.ext hE)
    replace k1 := (k1.ext hE)
    replace h2 := (h2.ext hE)
    replace k2 := (k2.ext hE)
    replace h3 := (h3.ext hE)
    replace k3 := (k3.ext hE)
    replace p3 := (p3.ext hE)
    replace p4 := (p4.ext hE)
    replace p5 := (p5.ext hE)
    clear hE
    have kp3_0 := p3.cell0
    have kp3_1 := p3.cell1
    have kp3_2 := p3.cell2
    have kp4_0 := p4.cell0
    have kp4_1 := p4.cell1
    have kp4_2 := p4.cell2
    have kp5_0 := p5.cell0
    have kp5_1 := p5.cell1
    have kp5_2 := p5.cell2
    go_wp2
    go_ret
    exact ⟨rfl, E0⟩
  · have HG0 := Lib.hid hg0
    clear hg0
    obtain ⟨W0, hW0⟩ : ∃ W0, W0 = (((w.alloc (.cells #[.bool b1, .slice a1 n1 c1, .slice d1 m1 o1] 27)).alloc (.cells #[.bool b2, .slice a2 n2 c2, .slice d2 m2 o2] 27)).alloc (.cells #[.bool b3, .slice a3 n3 c3, .slice d3 m3 o3] 27)) := ⟨_, rfl⟩
    have E0 : Ext w W0 := by rw [hW0]; exact (((Ext.alloc1 w (.cells #[.bool b1, .slice a1 n1 c1, .slice d1 m1 o1] 27)).alloc (.cells #[.bool b2, .slice a2 n2 c2, .slice d2 m2 o2] 27)).alloc (.cells #[.bool b3, .slice a3 n3 c3, .slice d3 m3 o3] 27))
    replace h1 : Nt W0 (.slice a1 n1 c1) xs1 := h1.ext E0
    replace k1 : Nt W0 (.slice d1 m1 o1) ys1 := k1.ext E0
    replace h2 : Nt W0 (.slice a2 n2 c2) xs2 := h2.ext E0
    replace k2 : Nt W0 (.slice d2 m2 o2) ys2 := k2.ext E0
    replace h3 : Nt W0 (.slice a3 n3 c3) xs3 := h3.ext E0
    replace k3 : Nt W0 (.slice d3 m3 o3) ys3 := k3.ext E0
    have p3 : Bx3 W0 w.heap.size 27 (.bool b1) (.slice a1 n1 c1) (.slice d1 m1 o1) := by rw [hW0]; exact (Bx3.new w 27 (.bool b1) (.slice a1 n1 c1) (.slice d1 m1 o1)).ext ((Ext.alloc1 (w.alloc (.cells #[.bool b1, .slice a1 n1 c1, .slice d1 m1 o1] 27)) (.cells #[.bool b2, .slice a2 n2 c2, .slice d2 m2 o2] 27)).alloc (.cells #[.bool b3, .slice a3 n3 c3, .slice d3 m3 o3] 27))
    have p4 : Bx3 W0 (w.heap.size + 1) 27 (.bool b2) (.slice a2 n2 c2) (.slice d2 m2 o2) := by rw [hW0]; simpa using (Bx3.new (w.alloc (.cells #[.bool b1, .slice a1 n1 c1, .slice d1 m1 o1] 27)) 27 (.bool b2) (.slice a2 n2 c2) (.slice d2 m2 o2)).ext (Ext.alloc1 ((w.alloc (.cells #[.bool b1, .slice a1 n1 c1, .slice d1 m1 o1] 27)).alloc (.cells #[.bool b2, .slice a2 n2 c2, .slice d2 m2 o2] 27)) (.cells #[.bool b3, .slice a3 n3 c3, .slice d3 m3 o3] 27))
    have p5 : Bx3 W0 (w.heap.size + 1 + 1) 27 (.bool b3) (.slice a3 n3 c3) (.slice d3 m3 o3) := by rw [hW0]; simpa using (Bx3.new ((w.alloc (.cells #[.bool b1, .slice a1 n1 c1, .slice d1 m1 o1] 27)).alloc (.cells #[.bool b2, .slice a2 n2 c2, .slice d2 m2 o2] 27)) 27 (.bool b3) (.slice a3 n3 c3) (.slice d3 m3 o3))
    go_enter Try.func11, Try.ntmps11
    have kp3_0 := p3.cell0
    have kp3_1 := p3.cell1
    have kp3_2 := p3.cell2
    have kp4_0 := p4.cell0
    have kp4_1 := p4.cell1
    have kp4_2 := p4.cell2
    have kp5_0 := p5.cell0
    have kp5_1 := p5.cell1
    have kp5_2 := p5.cell2
    go_wp2_with fail
    rw [← hW0]
    clear hW0
    clear kp3_0 kp3_1 kp3_2 kp4_0 kp4_1 kp4_2 kp5_0 kp5_1 kp5_2
    refine (Try.refRFew h1 k1 3 (by omega)).mono ?_
    rintro e Wf0 ⟨rfl, hE⟩
    rw [HG0.out]
    replace E0 := (Ext.trans E0 hE)
    replace h1 := (h1.ext hE)
    replace k1 := (k1.ext hE)
    replace h2 := (h2.ext hE)
    replace k2 := (k2.ext hE)
    replace h3 := (h3.ext hE)
    replace k3 := (k3.ext hE)
    replace p3 := (p3.ext hE)
    replace p4 := (p4.ext hE)
    replace p5 := (p5.ext hE)
    clear hE
    cases hg1 : fewR b2 xs2 ys2 ((3 : Nat) : Int)
    · have HG1 := Lib.hid hg1
      clear hg1
      have kp3_0 := p3.cell0
      have kp3_1 := p3.cell1
      have kp3_2 := p3.cell2
      have kp4_0 := p4.cell0
      have kp4_1 := p4.cell1
      have kp4_2 := p4.cell2
      have kp5_0 := p5.cell0
      have kp5_1 := p5.cell1
      have kp5_2 := p5.cell2
      go_wp2_with fail
      clear kp3_0 kp3_1 kp3_2 kp4_0 kp4_1 kp4_2 kp5_0 kp5_1 kp5_2
      refine (Try.refRFew h2 k2 3 (by omega)).mono ?_
      rintro e Wf1 ⟨rfl, hE⟩
      rw [HG1.out]
      replace E0 := (Ext.trans E0 hE)
      replace h1 := (h1.ext hE)
      replace k1 := (k1.ext hE)
      replace h2 := (h2.ext hE)
      replace k2 := (k2.ext hE)
      replace h3 := (h3.ext hE)
      replace k3 := (k3.ext hE)
      replace p3 := (p3.ext hE)
      replace p4 := (p4.ext hE)
      replace p5 := (p5.ext hE)
      clear hE
      have kp3_0 := p3.cell0
      have kp3_1 := p3.cell1
      have kp3_2 := p3.cell2
      have kp4_0 := p4.cell0
      have kp4_1 := p4.cell1
      have kp4_2 := p4.cell2
      have kp5_0 := p5.cell0
      have kp5_1 := p5.cell1
      have kp5_2 := p5.cell2
      go_wp2_with fail
      clear kp3_0 kp3_1 kp3_2 kp4_0 kp4_1 kp4_2 kp5_0 kp5_1 kp5_2
      refine (Try.alive05 _).mono ?_
      rintro e We ⟨rfl, hE⟩
      replace E0 := (Ext.trans E0 hE)
      replace h1 := (h1.ext hE)
      replace k1 := (k1.ext hE)
      replace h2 := (h2.ext hE)
      replace k2 := (k2.ext hE)
      replace h3 := (h3.ext hE)
      replace k3 := (k3.ext hE)
      replace p3 := (p3.ext hE)
      replace p4 := (p4.ext hE)
      replace p5 := (p5.ext hE)
      clear hE
      have kp3_0 := p3.cell0
      have kp3_1 := p3.cell1
      have kp3_2 := p3.cell2
      have kp4_0 := p4.cell0
      have kp4_1 := p4.cell1
      have kp4_2 := p4.cell2
      have kp5_0 := p5.cell0
      have kp5_1 := p5.cell1
      have kp5_2 := p5.cell2
      go_wp2
      go_ret
      exact ⟨rfl, E0⟩
    · have HG1 := Lib.hid hg1
      clear hg1
      have kp3_0 := p3.cell0
      have kp3_1 := p3.cell1
      have kp3_2 := p3.cell2
      have kp4_0 := p4.cell0
      have kp4_1 := p4.cell1
      have kp4_2 := p4.cell2
      have kp5_0 := p5.cell0
      have kp5_1 := p5.cell1
      have kp5_2 := p5.cell2
      go_wp2_with fail
      clear kp3_0 kp3_1 kp3_2 kp4_0 kp4_1 kp4_2 kp5_0 kp5_1 kp5_2
      refine (Try.refRFew h2 k2 3 (by omega)).mono ?_
      rintro e Wf1 ⟨rfl, hE⟩
      rw [HG1.out]
      replace E0 := (Ext.trans E0 hE)
      replace h1 := (h1.ext hE)
      replace k1 := (k1.ext hE)
      replace h2 := (h2.ext hE)
      replace k2 := (k2.ext hE)
      replace h3 := (h3.ext hE)
      replace k3 := (k3.ext hE)
      replace p3 := (p3.ext hE)
      replace p4 := (p4.ext hE)
      replace p5 := (p5.ext hE)
      clear hE
      cases hg2 : fewR b3 xs3 ys3 ((3 : Nat) : Int)
      · have HG2 := Lib.hid hg2
        clear hg2
        have kp3_0 := p3.cell0
        have kp3_1 := p3.cell1
        have kp3_2 := p3.cell2
        have kp4_0 := p4.cell0
        have kp4_1 := p4.cell1
        have kp4_2 := p4.cell2
        have kp5_0 := p5.cell0
        have kp5_1 := p5.cell1
        have kp5_2 := p5.cell2
        go_wp2_with fail
        clear kp3_0 kp3_1 kp3_2 kp4_0 kp4_1 kp4_2 kp5_0 kp5_1 kp5_2
        refine (Try.refRFew h3 k3 3 (by omega)).mono ?_
        rintro e Wf2 ⟨rfl, hE⟩
        rw [HG2.out]
        replace E0 := (Ext.trans E0 hE)
        replace h1 := (h1.ext hE)
        replace k1 := (k1.ext hE)
        replace h2 := (h2.ext hE)
        replace k2 := (k2.ext hE)
        replace h3 := (h3.ext hE)
        replace k3 := (k3.ext hE)
        replace p3 := (p3.ext hE)
        replace p4 := (p4.ext hE)
        replace p5 := (p5.ext hE)
        clear hE
        have kp3_0 := p3.cell0
        have kp3_1 := p3.cell1
        have kp3_2 := p3.cell2
        have kp4_0 := p4.cell0
        have kp4_1 := p4.cell1
        have kp4_2 := p4.cell2
        have kp5_0 := p5.cell0
        have kp5_1 := p5.cell1
        have kp5_2 := p5.cell2
        go_wp2_with fail
        clear kp3_0 kp3_1 kp3_2 kp4_0 kp4_1 kp4_2 kp5_0 kp5_1 kp5_2
        refine (Try.alive05 _).mono ?_
        rintro e We ⟨rfl, hE⟩
        replace E0 := (Ext.trans E0 hE)
        replace h1 := (h1.ext hE)
        replace k1 := (k1.ext hE)
        replace h2 := (h2.ext hE)
        replace k2 := (k2.ext hE)
        replace h3 := (h3.ext hE)
        replace k3 := (k3.ext hE)
        replace p3 := (p3.ext hE)
        replace p4 := (p4.ext hE)
        replace p5 := (p5.ext hE)
        clear hE
        have kp3_0 := p3.cell0
        have kp3_1 := p3.cell1
        have kp3_2 := p3.cell2
        have kp4_0 := p4.cell0
        have kp4_1 := p4.cell1
        have kp4_2 := p4.cell2
        have kp5_0 := p5.cell0
        have kp5_1 := p5.cell1
        have kp5_2 := p5.cell2
        go_wp2
        go_ret
        exact ⟨rfl, E0⟩
      · have HG2 := Lib.hid hg2
        clear hg2
        have kp3_0 := p3.cell0
        have kp3_1 := p3.cell1
        have kp3_2 := p3.cell2
        have kp4_0 := p4.cell0
        have kp4_1 := p4.cell1
        have kp4_2 := p4.cell2
        have kp5_0 := p5.cell0
        have kp5_1 := p5.cell1
        have kp5_2 := p5.cell2
        go_wp2_with fail
        clear kp3_0 kp3_1 kp3_2 kp4_0 kp4_1 kp4_2 kp5_0 kp5_1 kp5_2
        refine (Try.refRFew h3 k3 3 (by omega)).mono ?_
        rintro e Wf2 ⟨rfl, hE⟩
        rw [HG2.out]
        replace E0 := (Ext.trans E0 hE)
        replace h1 := (h1.ext hE)
        replace k1 := (k1.ext hE)
        replace h2 := (h2.ext hE)
        replace k2 := (k2.ext hE)
        replace h3 := (h3.ext hE)
        replace k3 := (k3.ext hE)
        replace p3 := (p3.ext hE)
        replace p4 := (p4.ext hE)
        replace p5 := (p5.ext hE)
        clear hE
        obtain ⟨x, hx1, s1⟩ := fewR_rw (L := 3) h1 k1 HG0.out
        clear h1 k1 HG0
        obtain ⟨y, hx2, s2⟩ := fewR_rw (L := 3) h2 k2 HG1.out
        clear h2 k2 HG1
        obtain ⟨z, hx3, s3⟩ := fewR_rw (L := 3) h3 k3 HG2.out
        clear h3 k3 HG2
        have SA : Hid (SmR 7 (x + y)) := Lib.hid (s1.add s2)
        have SM : Hid (SmR 6 (x * y)) := Lib.hid (s1.mul s2)
        have SB : Hid (SmR 7 (y + z)) := Lib.hid (s2.add s3)
        have SN : Hid (SmR 6 (y * z)) := Lib.hid (s2.mul s3)
        have SX : Hid (SmR 6 (x * z)) := Lib.hid (s1.mul s3)
        have E1 : Hid (x + y = y + x) := Lib.hid (Rat.add_comm x y)
        have E2 : Hid (x * y = y * x) := Lib.hid (Rat.mul_comm x y)
        have E3 : Hid (x + y + z = x + (y + z)) := Lib.hid (Rat.add_assoc x y z)
        have E4 : Hid (x * y * z = x * (y * z)) := Lib.hid (Rat.mul_assoc x y z)
        have E5 : Hid ((x + y) * z = x * z + y * z) := Lib.hid (Rat.add_mul x y z)
        have kp3_0 := p3.cell0
        have kp3_1 := p3.cell1
        have kp3_2 := p3.cell2
        have kp4_0 := p4.cell0
        have kp4_1 := p4.cell1
        have kp4_2 := p4.cell2
        have kp5_0 := p5.cell0
        have kp5_1 := p5.cell1
        have kp5_2 := p5.cell2
        go_upto_region 3 with (fail)
        clear kp3_0 kp3_1 kp3_2 kp4_0 kp4_1 kp4_2 kp5_0 kp5_1 kp5_2
        have ltp3 := p3.lt
        have ltp4 := p4.lt
        have ltp5 := p5.lt
        have szw1 := Ext.size E0
        refine region_go2 [.one fun v _ => v = .agg #[.bool b1, .slice a1 n1 c1, .slice d1 m1 o1],
            .one fun v _ => v = .agg #[.bool b2, .slice a2 n2 c2, .slice d2 m2 o2],
            .one fun v W => Rw W v (x + y),
            .one fun v _ => v = .agg #[.bool b1, .slice a1 n1 c1, .slice d1 m1 o1],
            .one fun v _ => v = .agg #[.bool b2, .slice a2 n2 c2, .slice d2 m2 o2],
            .one fun v W => Rw W v (x * y),
            .one fun v W => ∃ g, v = .pointer (some ⟨g, 0, none⟩) ∧ Wf2.heap.size ≤ g ∧ Form W g 27 3,
            .one fun v W => ∃ g, v = .pointer (some ⟨g, 0, none⟩) ∧ Wf2.heap.size ≤ g ∧ Form W g 27 3,
            .three 6 2 (fun p r _ W => Put3 Wf2.heap.size 27 p r W),
            .three 7 5 (fun p r _ W => Put3 Wf2.heap.size 27 p r W)]
          (fun W => Ext w W ∧ Bx3 W w.heap.size 27 (.bool b1) (.slice a1 n1 c1) (.slice d1 m1 o1) ∧ Bx3 W (w.heap.size + 1) 27 (.bool b2) (.slice a2 n2 c2) (.slice d2 m2 o2) ∧ Bx3 W (w.heap.size + 1 + 1) 27 (.bool b3) (.slice a3 n3 c3) (.slice d3 m3 o3) ∧ Rw W (.agg #[.bool b1, .slice a1 n1 c1, .slice d1 m1 o1]) x ∧ Rw W (.agg #[.bool b2, .slice a2 n2 c2, .slice d2 m2 o2]) y ∧ Rw W (.agg #[.bool b3, .slice a3 n3 c3, .slice d3 m3 o3]) z ∧ Wf2.heap.size ≤ W.heap.size) Wf2.heap.size [6, 7] [.any, .any, .any, .any, .any, .any, .any, .any, .new 6, .new 7] ⟨Good.is _, Good.is _, Good.rat _, Good.is _, Good.is _, Good.rat _, Good.box _ _ _, Good.box _ _ _, tag_put3, tag_put3, trivial⟩ (fun g0 hg => by simp at hg)
          (fun W W1 hS hE => ⟨(Ext.trans hS.1 hE), (hS.2.1.ext hE), (hS.2.2.1.ext hE), (hS.2.2.2.1.ext hE), (hS.2.2.2.2.1.ext hE), (hS.2.2.2.2.2.1.ext hE), (hS.2.2.2.2.2.2.1.ext hE), (Nat.le_trans hS.2.2.2.2.2.2.2 (Ext.size hE))⟩) ⟨E0, p3, p4, p5, hx1, hx2, hx3, Nat.le_refl _⟩ (fun m hm => by simp at hm; rcases hm with rfl | rfl <;> rfl) (by kernel_rfl) (by kernel_rfl) (by kernel_rfl) (by kernel_rfl) (A := ?A1) ?hA1 ?howe1 ?hfin1
        case hA1 =>
          intro vs
          simp only [putAll, Act.put, List.setIfInBounds_toArray, List.set_cons_zero, List.set_cons_succ, Nat.zero_add, Nat.reduceAdd]
          exact rfl
        case howe1 =>
          clear E0 p3 p4 p5 hx1 hx2 hx3
          intro hf
          refine ⟨owesM 0 [] hf rfl rfl (by kernel_rfl) ?_, owesM 1 [] hf rfl rfl (by kernel_rfl) ?_, owesM 2 [0, 1] hf rfl rfl (by kernel_rfl) ?_, owesM 3 [] hf rfl rfl (by kernel_rfl) ?_, owesM 4 [] hf rfl rfl (by kernel_rfl) ?_, owesM 5 [3, 4] hf rfl rfl (by kernel_rfl) ?_, owesN 6 [] hf rfl (by kernel_rfl) ?_, owesN 7 [] hf rfl (by kernel_rfl) ?_, owesP 8 6 [6, 2] hf rfl rfl (by kernel_rfl) rfl (by kernel_rfl) ?_, owesP 9 7 [7, 5] hf rfl rfl (by kernel_rfl) rfl (by kernel_rfl) ?_, trivial⟩
          all_goals intro vs W hS hp hx KO hKO
          all_goals simp only [Act.put, List.setIfInBounds_toArray, List.set_cons_zero, List.set_cons_succ] at hKO
          · have fc0 := hS.2.1.cell0
            have fc1 := hS.2.1.cell1
            have fc2 := hS.2.1.cell2
            go_simp
            exact hKO _ W (Ext.refl W) rfl
          · have fc0 := hS.2.2.1.cell0
            have fc1 := hS.2.2.1.cell1
            have fc2 := hS.2.2.1.cell2
            go_simp
            exact hKO _ W (Ext.refl W) rfl
          · have e0 := isOf hp.1
            have e1 := isOf hp.2.1
            simp only [e0, e1] at hKO
            go_simp
            refine (Try.ratAdd (hS.2.2.2.2.1) (hS.2.2.2.2.2.1) s1 s2 (by omega)).mono ?_
            rintro e W1 ⟨v, rfl, hv, hE⟩
            exact hKO _ W1 hE hv
          · have fc0 := hS.2.1.cell0
            have fc1 := hS.2.1.cell1
            have fc2 := hS.2.1.cell2
            go_simp
            exact hKO _ W (Ext.refl W) rfl
          · have fc0 := hS.2.2.1.cell0
            have fc1 := hS.2.2.1.cell1
            have fc2 := hS.2.2.1.cell2
            go_simp
            exact hKO _ W (Ext.refl W) rfl
          · have e3 := isOf hp.1
            have e4 := isOf hp.2.1
            simp only [e3, e4] at hKO
            go_simp
            refine (Try.ratMul (hS.2.2.2.2.1) (hS.2.2.2.2.2.1) s1 s2 (by omega)).mono ?_
            rintro e W1 ⟨v, rfl, hv, hE⟩
            exact hKO _ W1 hE hv
          · have hn := Bx3.new W 27 (.bool false) (.slice none 0 0) (.slice none 0 0)
            have hE := Ext.alloc1 W (.cells #[.bool false, .slice none 0 0, .slice none 0 0] 27)
            have hsz := hS.2.2.2.2.2.2.2
            go_simp
            exact hKO _ _ rfl ⟨_, rfl, hsz, hn.form⟩
          · have hn := Bx3.new W 27 (.bool false) (.slice none 0 0) (.slice none 0 0)
            have hE := Ext.alloc1 W (.cells #[.bool false, .slice none 0 0, .slice none 0 0] 27)
            have hsz := hS.2.2.2.2.2.2.2
            go_simp
            exact hKO _ _ rfl ⟨_, rfl, hsz, hn.form⟩
          · have q6 := hp.1
            have q2 := hp.2.1
            obtain ⟨g, ev, hg, hf⟩ := q6
            replace ev : vs 6 = _ := ev
            obtain ⟨x0_0, x0_1, x0_2, hx, hno⟩ := hf.bx3
            have qr := q2
            obtain ⟨b3, a3, n3, c3, d3, m3, o3, er, -, -, -⟩ := qr
            replace er : vs 2 = _ := er
            have r0 := hx.froz0
            have t0 := hx.cell0
            have r1 := hx.froz1
            have t1 := hx.cell1
            have r2 := hx.froz2
            have t2 := hx.cell2
            have hw := Wr.set3 hx hno b3 a3 n3 c3 d3 m3 o3
            have hq := hx.set (.bool b3) (.slice a3 n3 c3) (.slice d3 m3 o3)
            simp only [ev, er] at hKO
            go_simp
            exact hKO _ g rfl hg hw ⟨(Ext.wr hS.1 hw (by omega)), (hS.2.1.wr hw (by omega)), (hS.2.2.1.wr hw (by omega)), (hS.2.2.2.1.wr hw (by omega)), (hS.2.2.2.2.1.wr hw), (hS.2.2.2.2.2.1.wr hw), (hS.2.2.2.2.2.2.1.wr hw), (Nat.le_trans hS.2.2.2.2.2.2.2 hw.apart.size)⟩ ⟨g, b3, a3, n3, c3, d3, m3, o3, ev, er, hg, hq⟩
          · have q7 := hp.1
            have q5 := hp.2.1
            obtain ⟨g, ev, hg, hf⟩ := q7
            replace ev : vs 7 = _ := ev
            obtain ⟨x0_0, x0_1, x0_2, hx, hno⟩ := hf.bx3
            have qr := q5
            obtain ⟨b3, a3, n3, c3, d3, m3, o3, er, -, -, -⟩ := qr
            replace er : vs 5 = _ := er
            have r0 := hx.froz0
            have t0 := hx.cell0
            have r1 := hx.froz1
            have t1 := hx.cell1
            have r2 := hx.froz2
            have t2 := hx.cell2
            have hw := Wr.set3 hx hno b3 a3 n3 c3 d3 m3 o3
            have hq := hx.set (.bool b3) (.slice a3 n3 c3) (.slice d3 m3 o3)
            simp only [ev, er] at hKO
            go_simp
            exact hKO _ g rfl hg hw ⟨(Ext.wr hS.1 hw (by omega)), (hS.2.1.wr hw (by omega)), (hS.2.2.1.wr hw (by omega)), (hS.2.2.2.1.wr hw (by omega)), (hS.2.2.2.2.1.wr hw), (hS.2.2.2.2.2.1.wr hw), (hS.2.2.2.2.2.2.1.wr hw), (Nat.le_trans hS.2.2.2.2.2.2.2 hw.apart.size)⟩ ⟨g, b3, a3, n3, c3, d3, m3, o3, ev, er, hg, hq⟩
        intro vs W1 hS hM hp
        clear szw1 E0 p3 p4 p5 hx1 hx2 hx3
        obtain ⟨E0, p3, p4, p5, hx1, hx2, hx3, sz1⟩ := hS
        obtain ⟨h1_0, h1_1, h1_2, h1_3, h1_4, h1_5, h1_6, h1_7, h1_8, h1_9, -⟩ := hp
        obtain ⟨g1_8, b1_8, a1_8, n1_8, c1_8, d1_8, m1_8, o1_8, ev1_8, er1_8, hg1_8, p1_8⟩ := h1_8
        replace ev1_8 : vs 6 = _ := ev1_8
        replace er1_8 : vs 2 = _ := er1_8
        replace h1_2 := (show Rw W1 (vs 2) (x + y) from h1_2)
        rw [er1_8] at h1_2
        obtain ⟨g1_9, b1_9, a1_9, n1_9, c1_9, d1_9, m1_9, o1_9, ev1_9, er1_9, hg1_9, p1_9⟩ := h1_9
        replace ev1_9 : vs 7 = _ := ev1_9
        replace er1_9 : vs 5 = _ := er1_9
        replace h1_5 := (show Rw W1 (vs 5) (x * y) from h1_5)
        rw [er1_9] at h1_5
        replace h1_0 : vs 0 = .agg #[.bool b1, .slice a1 n1 c1, .slice d1 m1 o1] := h1_0
        replace h1_1 : vs 1 = .agg #[.bool b2, .slice a2 n2 c2, .slice d2 m2 o2] := h1_1
        replace h1_3 : vs 3 = .agg #[.bool b1, .slice a1 n1 c1, .slice d1 m1 o1] := h1_3
        replace h1_4 : vs 4 = .agg #[.bool b2, .slice a2 n2 c2, .slice d2 m2 o2] := h1_4
        clear hM
        simp only [ev1_8, er1_8, ev1_9, er1_9, h1_0, h1_1, h1_3, h1_4]
        clear ev1_8 er1_8 ev1_9 er1_9 h1_0 h1_1 h1_3 h1_4 h1_6 h1_7
        have kp3_0 := p3.cell0
        have kp3_1 := p3.cell1
        have kp3_2 := p3.cell2
        have kp4_0 := p4.cell0
        have kp4_1 := p4.cell1
        have kp4_2 := p4.cell2
        have kp5_0 := p5.cell0
        have kp5_1 := p5.cell1
        have kp5_2 := p5.cell2
        have kp1_8_0 := p1_8.cell0
        have kp1_8_1 := p1_8.cell1
        have kp1_8_2 := p1_8.cell2
        have kp1_9_0 := p1_9.cell0
        have kp1_9_1 := p1_9.cell1
        have kp1_9_2 := p1_9.cell2
        go_upto_region 4 with (fail)
        clear kp3_0 kp3_1 kp3_2 kp4_0 kp4_1 kp4_2 kp5_0 kp5_1 kp5_2 kp1_8_0 kp1_8_1 kp1_8_2 kp1_9_0 kp1_9_1 kp1_9_2
        have ltp1_8 := p1_8.lt
        have ltp1_9 := p1_9.lt
        have szw2 := Ext.size E0
        refine region_go [.one fun v _ => v = .agg #[.bool b1_8, .slice a1_8 n1_8 c1_8, .slice d1_8 m1_8 o1_8],
            .one fun v _ => v = .bool true,
            .one fun v _ => v = .bool false,
            .one fun v _ => v = .bool false,
            .one fun v _ => v = .agg #[.bool b1_9, .slice a1_9 n1_9 c1_9, .slice d1_9 m1_9 o1_9],
            .one fun v _ => v = .bool true,
            .one fun v _ => v = .bool false,
            .one fun v _ => v = .bool false,
            .one fun v _ => v = .bool false,
            .one fun v _ => v = .agg #[.bool b1_8, .slice a1_8 n1_8 c1_8, .slice d1_8 m1_8 o1_8],
            .one fun v _ => v = .agg #[.bool b2, .slice a2 n2 c2, .slice d2 m2 o2],
            .one fun v _ => v = .agg #[.bool b1, .slice a1 n1 c1, .slice d1 m1 o1],
            .one fun v W => Rw W v (y + x),
            .one fun v _ => v = .bool true,
            .one fun v _ => v = .bool false,
            .one fun v _ => v = .bool false,
            .one fun v _ => v = .bool false,
            .one fun v _ => v = .agg #[.bool b1_9, .slice a1_9 n1_9 c1_9, .slice d1_9 m1_9 o1_9],
            .one fun v _ => v = .agg #[.bool b2, .slice a2 n2 c2, .slice d2 m2 o2],
            .one fun v _ => v = .agg #[.bool b1, .slice a1 n1 c1, .slice d1 m1 o1],
            .one fun v W => Rw W v (y * x),
            .one fun v _ => v = .bool true,
            .one fun v _ => v = .bool false,
            .one fun v _ => v = .bool false]
          (fun W => Ext w W ∧ Bx3 W w.heap.size 27 (.bool b1) (.slice a1 n1 c1) (.slice d1 m1 o1) ∧ Bx3 W (w.heap.size + 1) 27 (.bool b2) (.slice a2 n2 c2) (.slice d2 m2 o2) ∧ Bx3 W (w.heap.size + 1 + 1) 27 (.bool b3) (.slice a3 n3 c3) (.slice d3 m3 o3) ∧ Rw W (.agg #[.bool b1, .slice a1 n1 c1, .slice d1 m1 o1]) x ∧ Rw W (.agg #[.bool b2, .slice a2 n2 c2, .slice d2 m2 o2]) y ∧ Rw W (.agg #[.bool b3, .slice a3 n3 c3, .slice d3 m3 o3]) z ∧ Rw W (.agg #[.bool b1_8, .slice a1_8 n1_8 c1_8, .slice d1_8 m1_8 o1_8]) (x + y) ∧ Bx3 W g1_8 27 (.bool b1_8) (.slice a1_8 n1_8 c1_8) (.slice d1_8 m1_8 o1_8) ∧ Rw W (.agg #[.bool b1_9, .slice a1_9 n1_9 c1_9, .slice d1_9 m1_9 o1_9]) (x * y) ∧ Bx3 W g1_9 27 (.bool b1_9) (.slice a1_9 n1_9 c1_9) (.slice d1_9 m1_9 o1_9) ∧ W1.heap.size ≤ W.heap.size) ⟨Good.is _, Good.is _, Good.is _, Good.is _, Good.is _, Good.is _, Good.is _, Good.is _, Good.is _, Good.is _, Good.is _, Good.is _, Good.rat _, Good.is _, Good.is _, Good.is _, Good.is _, Good.is _, Good.is _, Good.is _, Good.rat _, Good.is _, Good.is _, Good.is _, trivial⟩
          (fun W W1 hS hE => ⟨(Ext.trans hS.1 hE), (hS.2.1.ext hE), (hS.2.2.1.ext hE), (hS.2.2.2.1.ext hE), (hS.2.2.2.2.1.ext hE), (hS.2.2.2.2.2.1.ext hE), (hS.2.2.2.2.2.2.1.ext hE), (hS.2.2.2.2.2.2.2.1.ext hE), (hS.2.2.2.2.2.2.2.2.1.ext hE), (hS.2.2.2.2.2.2.2.2.2.1.ext hE), (hS.2.2.2.2.2.2.2.2.2.2.1.ext hE), (Nat.le_trans hS.2.2.2.2.2.2.2.2.2.2.2 (Ext.size hE))⟩) ⟨E0, p3, p4, p5, hx1, hx2, hx3, h1_2, p1_8, h1_5, p1_9, Nat.le_refl _⟩ (by kernel_rfl) (by kernel_rfl) (by kernel_rfl) (by kernel_rfl) (A := ?A2) ?hA2 ?howe2 ?hfin2
        case hA2 =>
          intro vs
          simp only [putAll, Act.put, List.setIfInBounds_toArray, List.set_cons_zero, List.set_cons_succ, Nat.zero_add, Nat.reduceAdd]
          exact rfl
        case howe2 =>
          clear E0 p3 p4 p5 hx1 hx2 hx3 h1_2 p1_8 h1_5 p1_9
          intro hf
          refine ⟨owesE 0 [] hf rfl (by kernel_rfl) ?_, owesE 1 [0] hf rfl (by kernel_rfl) ?_, owesE 2 [1] hf rfl (by kernel_rfl) ?_, owesE 3 [2] hf rfl (by kernel_rfl) ?_, owesE 4 [3] hf rfl (by kernel_rfl) ?_, owesE 5 [3, 4] hf rfl (by kernel_rfl) ?_, owesE 6 [3, 5] hf rfl (by kernel_rfl) ?_, owesE 7 [3, 6] hf rfl (by kernel_rfl) ?_, owesE 8 [7] hf rfl (by kernel_rfl) ?_, owesE 9 [8] hf rfl (by kernel_rfl) ?_, owesE 10 [8] hf rfl (by kernel_rfl) ?_, owesE 11 [8] hf rfl (by kernel_rfl) ?_, owesE 12 [8, 10, 11] hf rfl (by kernel_rfl) ?_, owesE 13 [8, 9, 12] hf rfl (by kernel_rfl) ?_, owesE 14 [8, 13] hf rfl (by kernel_rfl) ?_, owesE 15 [8, 14] hf rfl (by kernel_rfl) ?_, owesE 16 [15] hf rfl (by kernel_rfl) ?_, owesE 17 [16] hf rfl (by kernel_rfl) ?_, owesE 18 [16] hf rfl (by kernel_rfl) ?_, owesE 19 [16] hf rfl (by kernel_rfl) ?_, owesE 20 [16, 18, 19] hf rfl (by kernel_rfl) ?_, owesE 21 [16, 17, 20] hf rfl (by kernel_rfl) ?_, owesE 22 [16, 21] hf rfl (by kernel_rfl) ?_, owesE 23 [16, 22] hf rfl (by kernel_rfl) ?_, trivial⟩
          all_goals intro vs W hS hp hx KO hKO
          all_goals simp only [Act.put, List.setIfInBounds_toArray, List.set_cons_zero, List.set_cons_succ] at hKO
          · have fc0 := hS.2.2.2.2.2.2.2.2.1.cell0
            have fc1 := hS.2.2.2.2.2.2.2.2.1.cell1
            have fc2 := hS.2.2.2.2.2.2.2.2.1.cell2
            go_simp
            exact hKO _ W (Ext.refl W) rfl
          · have e0 := isOf hp.1
            simp only [e0] at hKO
            go_simp
            refine (Try.refRRightT (hS.2.2.2.2.2.2.2.1) SA.out (by omega)).mono ?_
            rintro e W1 ⟨rfl, hE⟩
            exact hKO _ W1 hE rfl
          · have e1 := isOf hp.1
            simp only [e1] at hKO
            go_simp
            exact hKO _ W (Ext.refl W) rfl
          · have e2 := isOf hp.1
            simp only [e2] at hKO
            go_simp
            exact hKO _ W (Ext.refl W) rfl
          · have e3 := isOf hp.1
            simp only [e3] at hKO
            have fc0 := hS.2.2.2.2.2.2.2.2.2.2.1.cell0
            have fc1 := hS.2.2.2.2.2.2.2.2.2.2.1.cell1
            have fc2 := hS.2.2.2.2.2.2.2.2.2.2.1.cell2
            go_simp
            exact hKO _ W (Ext.refl W) rfl
          · have e3 := isOf hp.1
            have e4 := isOf hp.2.1
            simp only [e3, e4] at hKO
            go_simp
            refine (Try.refRRightT (hS.2.2.2.2.2.2.2.2.2.1) SM.out (by omega)).mono ?_
            rintro e W1 ⟨rfl, hE⟩
            exact hKO _ W1 hE rfl
          · have e3 := isOf hp.1
            have e5 := isOf hp.2.1
            simp only [e3, e5] at hKO
            go_simp
            exact hKO _ W (Ext.refl W) rfl
          · have e3 := isOf hp.1
            have e6 := isOf hp.2.1
            simp only [e3, e6] at hKO
            go_simp
            exact hKO _ W (Ext.refl W) rfl
          · have e7 := isOf hp.1
            simp only [e7] at hKO
            go_simp
            exact hKO _ W (Ext.refl W) rfl
          · have e8 := isOf hp.1
            simp only [e8] at hKO
            have fc0 := hS.2.2.2.2.2.2.2.2.1.cell0
            have fc1 := hS.2.2.2.2.2.2.2.2.1.cell1
            have fc2 := hS.2.2.2.2.2.2.2.2.1.cell2
            go_simp
            exact hKO _ W (Ext.refl W) rfl
          · have e8 := isOf hp.1
            simp only [e8] at hKO
            have fc0 := hS.2.2.1.cell0
            have fc1 := hS.2.2.1.cell1
            have fc2 := hS.2.2.1.cell2
            go_simp
            exact hKO _ W (Ext.refl W) rfl
          · have e8 := isOf hp.1
            simp only [e8] at hKO
            have fc0 := hS.2.1.cell0
            have fc1 := hS.2.1.cell1
            have fc2 := hS.2.1.cell2
            go_simp
            exact hKO _ W (Ext.refl W) rfl
          · have e8 := isOf hp.1
            have e10 := isOf hp.2.1
            have e11 := isOf hp.2.2.1
            simp only [e8, e10, e11] at hKO
            go_simp
            refine (Try.ratAdd (hS.2.2.2.2.2.1) (hS.2.2.2.2.1) s2 s1 (by omega)).mono ?_
            rintro e W1 ⟨v, rfl, hv, hE⟩
            exact hKO _ W1 hE hv
          · have e8 := isOf hp.1
            have e9 := isOf hp.2.1
            have q12 := hp.2.2.1
            simp only [e8, e9] at hKO
            go_simp
            refine (Try.refRSameT (hS.2.2.2.2.2.2.2.1) q12 E1.out).mono ?_
            rintro e W1 ⟨rfl, hE⟩
            exact hKO _ W1 hE rfl
          · have e8 := isOf hp.1
            have e13 := isOf hp.2.1
            simp only [e8, e13] at hKO
            go_simp
            exact hKO _ W (Ext.refl W) rfl
          · have e8 := isOf hp.1
            have e14 := isOf hp.2.1
            simp only [e8, e14] at hKO
            go_simp
            exact hKO _ W (Ext.refl W) rfl
          · have e15 := isOf hp.1
            simp only [e15] at hKO
            go_simp
            exact hKO _ W (Ext.refl W) rfl
          · have e16 := isOf hp.1
            simp only [e16] at hKO
            have fc0 := hS.2.2.2.2.2.2.2.2.2.2.1.cell0
            have fc1 := hS.2.2.2.2.2.2.2.2.2.2.1.cell1
            have fc2 := hS.2.2.2.2.2.2.2.2.2.2.1.cell2
            go_simp
            exact hKO _ W (Ext.refl W) rfl
          · have e16 := isOf hp.1
            simp only [e16] at hKO
            have fc0 := hS.2.2.1.cell0
            have fc1 := hS.2.2.1.cell1
            have fc2 := hS.2.2.1.cell2
            go_simp
            exact hKO _ W (Ext.refl W) rfl
          · have e16 := isOf hp.1
            simp only [e16] at hKO
            have fc0 := hS.2.1.cell0
            have fc1 := hS.2.1.cell1
            have fc2 := hS.2.1.cell2
            go_simp
            exact hKO _ W (Ext.refl W) rfl
          · have e16 := isOf hp.1
            have e18 := isOf hp.2.1
            have e19 := isOf hp.2.2.1
            simp only [e16, e18, e19] at hKO
            go_simp
            refine (Try.ratMul (hS.2.2.2.2.2.1) (hS.2.2.2.2.1) s2 s1 (by omega)).mono ?_
            rintro e W1 ⟨v, rfl, hv, hE⟩
            exact hKO _ W1 hE hv
          · have e16 := isOf hp.1
            have e17 := isOf hp.2.1
            have q20 := hp.2.2.1
            simp only [e16, e17] at hKO
            go_simp
            refine (Try.refRSameT (hS.2.2.2.2.2.2.2.2.2.1) q20 E2.out).mono ?_
            rintro e W1 ⟨rfl, hE⟩
            exact hKO _ W1 hE rfl
          · have e16 := isOf hp.1
            have e21 := isOf hp.2.1
            simp only [e16, e21] at hKO
            go_simp
            exact hKO _ W (Ext.refl W) rfl
          · have e16 := isOf hp.1
            have e22 := isOf hp.2.1
            simp only [e16, e22] at hKO
            go_simp
            exact hKO _ W (Ext.refl W) rfl
        intro vs W2 hS hp
        clear szw2 E0 p3 p4 p5 hx1 hx2 hx3 h1_2 p1_8 h1_5 p1_9
        obtain ⟨E0, p3, p4, p5, hx1, hx2, hx3, h1_2, p1_8, h1_5, p1_9, sz2⟩ := hS
        obtain ⟨h2_0, h2_1, h2_2, h2_3, h2_4, h2_5, h2_6, h2_7, h2_8, h2_9, h2_10, h2_11, h2_12, h2_13, h2_14, h2_15, h2_16, h2_17, h2_18, h2_19, h2_20, h2_21, h2_22, h2_23, -⟩ := hp
        replace h2_0 : vs 0 = .agg #[.bool b1_8, .slice a1_8 n1_8 c1_8, .slice d1_8 m1_8 o1_8] := h2_0
        replace h2_1 : vs 1 = .bool true := h2_1
        replace h2_2 : vs 2 = .bool false := h2_2
        replace h2_3 : vs 3 = .bool false := h2_3
        replace h2_4 : vs 4 = .agg #[.bool b1_9, .slice a1_9 n1_9 c1_9, .slice d1_9 m1_9 o1_9] := h2_4
        replace h2_5 : vs 5 = .bool true := h2_5
        replace h2_6 : vs 6 = .bool false := h2_6
        replace h2_7 : vs 7 = .bool false := h2_7
        replace h2_8 : vs 8 = .bool false := h2_8
        replace h2_9 : vs 9 = .agg #[.bool b1_8, .slice a1_8 n1_8 c1_8, .slice d1_8 m1_8 o1_8] := h2_9
        replace h2_10 : vs 10 = .agg #[.bool b2, .slice a2 n2 c2, .slice d2 m2 o2] := h2_10
        replace h2_11 : vs 11 = .agg #[.bool b1, .slice a1 n1 c1, .slice d1 m1 o1] := h2_11
        replace h2_13 : vs 13 = .bool true := h2_13
        replace h2_14 : vs 14 = .bool false := h2_14
        replace h2_15 : vs 15 = .bool false := h2_15
        replace h2_16 : vs 16 = .bool false := h2_16
        replace h2_17 : vs 17 = .agg #[.bool b1_9, .slice a1_9 n1_9 c1_9, .slice d1_9 m1_9 o1_9] := h2_17
        replace h2_18 : vs 18 = .agg #[.bool b2, .slice a2 n2 c2, .slice d2 m2 o2] := h2_18
        replace h2_19 : vs 19 = .agg #[.bool b1, .slice a1 n1 c1, .slice d1 m1 o1] := h2_19
        replace h2_21 : vs 21 = .bool true := h2_21
        replace h2_22 : vs 22 = .bool false := h2_22
        replace h2_23 : vs 23 = .bool false := h2_23
        simp only [h2_0, h2_1, h2_2, h2_3, h2_4, h2_5, h2_6, h2_7, h2_8, h2_9, h2_10, h2_11, h2_13, h2_14, h2_15, h2_16, h2_17, h2_18, h2_19, h2_21, h2_22, h2_23]
        replace h2_12 : Rw W2 (vs 12) (y + x) := h2_12
        generalize vs 12 = u2_12 at h2_12 ⊢
        replace h2_20 : Rw W2 (vs 20) (y * x) := h2_20
        generalize vs 20 = u2_20 at h2_20 ⊢
        clear h2_0 h2_1 h2_2 h2_3 h2_4 h2_5 h2_6 h2_7 h2_8 h2_9 h2_10 h2_11 h2_13 h2_14 h2_15 h2_16 h2_17 h2_18 h2_19 h2_21 h2_22 h2_23
        have kp3_0 := p3.cell0
        have kp3_1 := p3.cell1
        have kp3_2 := p3.cell2
        have kp4_0 := p4.cell0
        have kp4_1 := p4.cell1
        have kp4_2 := p4.cell2
        have kp5_0 := p5.cell0
        have kp5_1 := p5.cell1
        have kp5_2 := p5.cell2
        have kp1_8_0 := p1_8.cell0
        have kp1_8_1 := p1_8.cell1
        have kp1_8_2 := p1_8.cell2
        have kp1_9_0 := p1_9.cell0
        have kp1_9_1 := p1_9.cell1
        have kp1_9_2 := p1_9.cell2
        go_upto_region 6 with (fail)
        clear kp3_0 kp3_1 kp3_2 kp4_0 kp4_1 kp4_2 kp5_0 kp5_1 kp5_2 kp1_8_0 kp1_8_1 kp1_8_2 kp1_9_0 kp1_9_1 kp1_9_2
        have szw3 := Ext.size E0
        refine region_go [.one fun v _ => v = .agg #[.bool b1_8, .slice a1_8 n1_8 c1_8, .slice d1_8 m1_8 o1_8],
            .one fun v _ => v = .agg #[.bool b3, .slice a3 n3 c3, .slice d3 m3 o3],
            .one fun v W => Rw W v (x + y + z),
            .one fun v _ => v = .agg #[.bool b1, .slice a1 n1 c1, .slice d1 m1 o1],
            .one fun v _ => v = .agg #[.bool b2, .slice a2 n2 c2, .slice d2 m2 o2],
            .one fun v _ => v = .agg #[.bool b3, .slice a3 n3 c3, .slice d3 m3 o3],
            .one fun v W => Rw W v (y + z),
            .one fun v W => Rw W v (x + (y + z)),
            .one fun v _ => v = .bool true,
            .one fun v _ => v = .bool true]
          (fun W => Ext w W ∧ Bx3 W w.heap.size 27 (.bool b1) (.slice a1 n1 c1) (.slice d1 m1 o1) ∧ Bx3 W (w.heap.size + 1) 27 (.bool b2) (.slice a2 n2 c2) (.slice d2 m2 o2) ∧ Bx3 W (w.heap.size + 1 + 1) 27 (.bool b3) (.slice a3 n3 c3) (.slice d3 m3 o3) ∧ Rw W (.agg #[.bool b1, .slice a1 n1 c1, .slice d1 m1 o1]) x ∧ Rw W (.agg #[.bool b2, .slice a2 n2 c2, .slice d2 m2 o2]) y ∧ Rw W (.agg #[.bool b3, .slice a3 n3 c3, .slice d3 m3 o3]) z ∧ Rw W (.agg #[.bool b1_8, .slice a1_8 n1_8 c1_8, .slice d1_8 m1_8 o1_8]) (x + y) ∧ Bx3 W g1_8 27 (.bool b1_8) (.slice a1_8 n1_8 c1_8) (.slice d1_8 m1_8 o1_8) ∧ Rw W (.agg #[.bool b1_9, .slice a1_9 n1_9 c1_9, .slice d1_9 m1_9 o1_9]) (x * y) ∧ Bx3 W g1_9 27 (.bool b1_9) (.slice a1_9 n1_9 c1_9) (.slice d1_9 m1_9 o1_9) ∧ Rw W u2_12 (y + x) ∧ Rw W u2_20 (y * x) ∧ W2.heap.size ≤ W.heap.size) ⟨Good.is _, Good.is _, Good.rat _, Good.is _, Good.is _, Good.is _, Good.rat _, Good.rat _, Good.is _, Good.is _, trivial⟩
          (fun W W1 hS hE => ⟨(Ext.trans hS.1 hE), (hS.2.1.ext hE), (hS.2.2.1.ext hE), (hS.2.2.2.1.ext hE), (hS.2.2.2.2.1.ext hE), (hS.2.2.2.2.2.1.ext hE), (hS.2.2.2.2.2.2.1.ext hE), (hS.2.2.2.2.2.2.2.1.ext hE), (hS.2.2.2.2.2.2.2.2.1.ext hE), (hS.2.2.2.2.2.2.2.2.2.1.ext hE), (hS.2.2.2.2.2.2.2.2.2.2.1.ext hE), (hS.2.2.2.2.2.2.2.2.2.2.2.1.ext hE), (hS.2.2.2.2.2.2.2.2.2.2.2.2.1.ext hE), (Nat.le_trans hS.2.2.2.2.2.2.2.2.2.2.2.2.2 (Ext.size hE))⟩) ⟨E0, p3, p4, p5, hx1, hx2, hx3, h1_2, p1_8, h1_5, p1_9, h2_12, h2_20, Nat.le_refl _⟩ (by kernel_rfl) (by kernel_rfl) (by kernel_rfl) (by kernel_rfl) (A := ?A3) ?hA3 ?howe3 ?hfin3
        case hA3 =>
          intro vs
          simp only [putAll, Act.put, List.setIfInBounds_toArray, List.set_cons_zero, List.set_cons_succ, Nat.zero_add, Nat.reduceAdd]
          exact rfl
        case howe3 =>
          clear E0 p3 p4 p5 hx1 hx2 hx3 h1_2 p1_8 h1_5 p1_9 h2_12 h2_20
          intro hf
          refine ⟨owesE 0 [] hf rfl (by kernel_rfl) ?_, owesE 1 [] hf rfl (by kernel_rfl) ?_, owesE 2 [0, 1] hf rfl (by kernel_rfl) ?_, owesE 3 [] hf rfl (by kernel_rfl) ?_, owesE 4 [] hf rfl (by kernel_rfl) ?_, owesE 5 [] hf rfl (by kernel_rfl) ?_, owesE 6 [4, 5] hf rfl (by kernel_rfl) ?_, owesE 7 [3, 6] hf rfl (by kernel_rfl) ?_, owesE 8 [2, 7] hf rfl (by kernel_rfl) ?_, owesE 9 [8] hf rfl (by kernel_rfl) ?_, trivial⟩
          all_goals intro vs W hS hp hx KO hKO
          all_goals simp only [Act.put, List.setIfInBounds_toArray, List.set_cons_zero, List.set_cons_succ] at hKO
          · have fc0 := hS.2.2.2.2.2.2.2.2.1.cell0
            have fc1 := hS.2.2.2.2.2.2.2.2.1.cell1
            have fc2 := hS.2.2.2.2.2.2.2.2.1.cell2
            go_simp
            exact hKO _ W (Ext.refl W) rfl
          · have fc0 := hS.2.2.2.1.cell0
            have fc1 := hS.2.2.2.1.cell1
            have fc2 := hS.2.2.2.1.cell2
            go_simp
            exact hKO _ W (Ext.refl W) rfl
          · have e0 := isOf hp.1
            have e1 := isOf hp.2.1
            simp only [e0, e1] at hKO
            go_simp
            refine (Try.ratAdd (hS.2.2.2.2.2.2.2.1) (hS.2.2.2.2.2.2.1) SA.out (s3.mono (by omega)) (by omega)).mono ?_
            rintro e W1 ⟨v, rfl, hv, hE⟩
            exact hKO _ W1 hE hv
          · have fc0 := hS.2.1.cell0
            have fc1 := hS.2.1.cell1
            have fc2 := hS.2.1.cell2
            go_simp
            exact hKO _ W (Ext.refl W) rfl
          · have fc0 := hS.2.2.1.cell0
            have fc1 := hS.2.2.1.cell1
            have fc2 := hS.2.2.1.cell2
            go_simp
            exact hKO _ W (Ext.refl W) rfl
          · have fc0 := hS.2.2.2.1.cell0
            have fc1 := hS.2.2.2.1.cell1
            have fc2 := hS.2.2.2.1.cell2
            go_simp
            exact hKO _ W (Ext.refl W) rfl
          · have e4 := isOf hp.1
            have e5 := isOf hp.2.1
            simp only [e4, e5] at hKO
            go_simp
            refine (Try.ratAdd (hS.2.2.2.2.2.1) (hS.2.2.2.2.2.2.1) s2 s3 (by omega)).mono ?_
            rintro e W1 ⟨v, rfl, hv, hE⟩
            exact hKO _ W1 hE hv
          · have e3 := isOf hp.1
            have q6 := hp.2.1
            simp only [e3] at hKO
            go_simp
            refine (Try.ratAdd (hS.2.2.2.2.1) q6 (s1.mono (by omega)) SB.out (by omega)).mono ?_
            rintro e W1 ⟨v, rfl, hv, hE⟩
            exact hKO _ W1 hE hv
          · have q2 := hp.1
            have q7 := hp.2.1
            go_simp
            refine (Try.refRSameT q2 q7 E3.out).mono ?_
            rintro e W1 ⟨rfl, hE⟩
            exact hKO _ W1 hE rfl
          · have e8 := isOf hp.1
            simp only [e8] at hKO
            go_simp
            exact hKO _ W (Ext.refl W) rfl
        intro vs W3 hS hp
        clear szw3 E0 p3 p4 p5 hx1 hx2 hx3 h1_2 p1_8 h1_5 p1_9 h2_12 h2_20
        obtain ⟨E0, p3, p4, p5, hx1, hx2, hx3, h1_2, p1_8, h1_5, p1_9, h2_12, h2_20, sz3⟩ := hS
        obtain ⟨h3_0, h3_1, h3_2, h3_3, h3_4, h3_5, h3_6, h3_7, h3_8, h3_9, -⟩ := hp
        replace h3_0 : vs 0 = .agg #[.bool b1_8, .slice a1_8 n1_8 c1_8, .slice d1_8 m1_8 o1_8] := h3_0
        replace h3_1 : vs 1 = .agg #[.bool b3, .slice a3 n3 c3, .slice d3 m3 o3] := h3_1
        replace h3_3 : vs 3 = .agg #[.bool b1, .slice a1 n1 c1, .slice d1 m1 o1] := h3_3
        replace h3_4 : vs 4 = .agg #[.bool b2, .slice a2 n2 c2, .slice d2 m2 o2] := h3_4
        replace h3_5 : vs 5 = .agg #[.bool b3, .slice a3 n3 c3, .slice d3 m3 o3] := h3_5
        replace h3_8 : vs 8 = .bool true := h3_8
        replace h3_9 : vs 9 = .bool true := h3_9
        simp only [h3_0, h3_1, h3_3, h3_4, h3_5, h3_8, h3_9]
        replace h3_2 : Rw W3 (vs 2) (x + y + z) := h3_2
        generalize vs 2 = u3_2 at h3_2 ⊢
        replace h3_6 : Rw W3 (vs 6) (y + z) := h3_6
        generalize vs 6 = u3_6 at h3_6 ⊢
        replace h3_7 : Rw W3 (vs 7) (x + (y + z)) := h3_7
        generalize vs 7 = u3_7 at h3_7 ⊢
        clear h3_0 h3_1 h3_3 h3_4 h3_5 h3_8 h3_9
        have kp3_0 := p3.cell0
        have kp3_1 := p3.cell1
        have kp3_2 := p3.cell2
        have kp4_0 := p4.cell0
        have kp4_1 := p4.cell1
        have kp4_2 := p4.cell2
        have kp5_0 := p5.cell0
        have kp5_1 := p5.cell1
        have kp5_2 := p5.cell2
        have kp1_8_0 := p1_8.cell0
        have kp1_8_1 := p1_8.cell1
        have kp1_8_2 := p1_8.cell2
        have kp1_9_0 := p1_9.cell0
        have kp1_9_1 := p1_9.cell1
        have kp1_9_2 := p1_9.cell2
        go_upto_region 7 with (fail)
        clear kp3_0 kp3_1 kp3_2 kp4_0 kp4_1 kp4_2 kp5_0 kp5_1 kp5_2 kp1_8_0 kp1_8_1 kp1_8_2 kp1_9_0 kp1_9_1 kp1_9_2
        have szw4 := Ext.size E0
        refine region_go [.one fun v _ => v = .agg #[.bool b1_9, .slice a1_9 n1_9 c1_9, .slice d1_9 m1_9 o1_9],
            .one fun v _ => v = .agg #[.bool b3, .slice a3 n3 c3, .slice d3 m3 o3],
            .one fun v W => Rw W v (x * y * z),
            .one fun v _ => v = .agg #[.bool b1, .slice a1 n1 c1, .slice d1 m1 o1],
            .one fun v _ => v = .agg #[.bool b2, .slice a2 n2 c2, .slice d2 m2 o2],
            .one fun v _ => v = .agg #[.bool b3, .slice a3 n3 c3, .slice d3 m3 o3],
            .one fun v W => Rw W v (y * z),
            .one fun v W => Rw W v (x * (y * z)),
            .one fun v _ => v = .bool true,
            .one fun v _ => v = .bool true]
          (fun W => Ext w W ∧ Bx3 W w.heap.size 27 (.bool b1) (.slice a1 n1 c1) (.slice d1 m1 o1) ∧ Bx3 W (w.heap.size + 1) 27 (.bool b2) (.slice a2 n2 c2) (.slice d2 m2 o2) ∧ Bx3 W (w.heap.size + 1 + 1) 27 (.bool b3) (.slice a3 n3 c3) (.slice d3 m3 o3) ∧ Rw W (.agg #[.bool b1, .slice a1 n1 c1, .slice d1 m1 o1]) x ∧ Rw W (.agg #[.bool b2, .slice a2 n2 c2, .slice d2 m2 o2]) y ∧ Rw W (.agg #[.bool b3, .slice a3 n3 c3, .slice d3 m3 o3]) z ∧ Rw W (.agg #[.bool b1_8, .slice a1_8 n1_8 c1_8, .slice d1_8 m1_8 o1_8]) (x + y) ∧ Bx3 W g1_8 27 (.bool b1_8) (.slice a1_8 n1_8 c1_8) (.slice d1_8 m1_8 o1_8) ∧ Rw W (.agg #[.bool b1_9, .slice a1_9 n1_9 c1_9, .slice d1_9 m1_9 o1_9]) (x * y) ∧ Bx3 W g1_9 27 (.bool b1_9) (.slice a1_9 n1_9 c1_9) (.slice d1_9 m1_9 o1_9) ∧ Rw W u2_12 (y + x) ∧ Rw W u2_20 (y * x) ∧ Rw W u3_2 (x + y + z) ∧ Rw W u3_6 (y + z) ∧ Rw W u3_7 (x + (y + z)) ∧ W3.heap.size ≤ W.heap.size) ⟨Good.is _, Good.is _, Good.rat _, Good.is _, Good.is _, Good.is _, Good.rat _, Good.rat _, Good.is _, Good.is _, trivial⟩
          (fun W W1 hS hE => ⟨(Ext.trans hS.1 hE), (hS.2.1.ext hE), (hS.2.2.1.ext hE), (hS.2.2.2.1.ext hE), (hS.2.2.2.2.1.ext hE), (hS.2.2.2.2.2.1.ext hE), (hS.2.2.2.2.2.2.1.ext hE), (hS.2.2.2.2.2.2.2.1.ext hE), (hS.2.2.2.2.2.2.2.2.1.ext hE), (hS.2.2.2.2.2.2.2.2.2.1.ext hE), (hS.2.2.2.2.2.2.2.2.2.2.1.ext hE), (hS.2.2.2.2.2.2.2.2.2.2.2.1.ext hE), (hS.2.2.2.2.2.2.2.2.2.2.2.2.1.ext hE), (hS.2.2.2.2.2.2.2.2.2.2.2.2.2.1.ext hE), (hS.2.2.2.2.2.2.2.2.2.2.2.2.2.2.1.ext hE), (hS.2.2.2.2.2.2.2.2.2.2.2.2.2.2.2.1.ext hE), (Nat.le_trans hS.2.2.2.2.2.2.2.2.2.2.2.2.2.2.2.2 (Ext.size hE))⟩) ⟨E0, p3, p4, p5, hx1, hx2, hx3, h1_2, p1_8, h1_5, p1_9, h2_12, h2_20, h3_2, h3_6, h3_7, Nat.le_refl _⟩ (by kernel_rfl) (by kernel_rfl) (by kernel_rfl) (by kernel_rfl) (A := ?A4) ?hA4 ?howe4 ?hfin4
        case hA4 =>
          intro vs
          simp only [putAll, Act.put, List.setIfInBounds_toArray, List.set_cons_zero, List.set_cons_succ, Nat.zero_add, Nat.reduceAdd]
          exact rfl
        case howe4 =>
          clear E0 p3 p4 p5 hx1 hx2 hx3 h1_2 p1_8 h1_5 p1_9 h2_12 h2_20 h3_2 h3_6 h3_7
          intro hf
          refine ⟨owesE 0 [] hf rfl (by kernel_rfl) ?_, owesE 1 [] hf rfl (by kernel_rfl) ?_, owesE 2 [0, 1] hf rfl (by kernel_rfl) ?_, owesE 3 [] hf rfl (by kernel_rfl) ?_, owesE 4 [] hf rfl (by kernel_rfl) ?_, owesE 5 [] hf rfl (by kernel_rfl) ?_, owesE 6 [4, 5] hf rfl (by kernel_rfl) ?_, owesE 7 [3, 6] hf rfl (by kernel_rfl) ?_, owesE 8 [2, 7] hf rfl (by kernel_rfl) ?_, owesE 9 [8] hf rfl (by kernel_rfl) ?_, trivial⟩
          all_goals intro vs W hS hp hx KO hKO
          all_goals simp only [Act.put, List.setIfInBounds_toArray, List.set_cons_zero, List.set_cons_succ] at hKO
          · have fc0 := hS.2.2.2.2.2.2.2.2.2.2.1.cell0
            have fc1 := hS.2.2.2.2.2.2.2.2.2.2.1.cell1
            have fc2 := hS.2.2.2.2.2.2.2.2.2.2.1.cell2
            go_simp
            exact hKO _ W (Ext.refl W) rfl
          · have fc0 := hS.2.2.2.1.cell0
            have fc1 := hS.2.2.2.1.cell1
            have fc2 := hS.2.2.2.1.cell2
            go_simp
            exact hKO _ W (Ext.refl W) rfl
          · have e0 := isOf hp.1
            have e1 := isOf hp.2.1
            simp only [e0, e1] at hKO
            go_simp
            refine (Try.ratMul (hS.2.2.2.2.2.2.2.2.2.1) (hS.2.2.2.2.2.2.1) SM.out (s3.mono (by omega)) (by omega)).mono ?_
            rintro e W1 ⟨v, rfl, hv, hE⟩
            exact hKO _ W1 hE hv
          · have fc0 := hS.2.1.cell0
            have fc1 := hS.2.1.cell1
            have fc2 := hS.2.1.cell2
            go_simp
            exact hKO _ W (Ext.refl W) rfl
          · have fc0 := hS.2.2.1.cell0
            have fc1 := hS.2.2.1.cell1
            have fc2 := hS.2.2.1.cell2
            go_simp
            exact hKO _ W (Ext.refl W) rfl
          · have fc0 := hS.2.2.2.1.cell0
            have fc1 := hS.2.2.2.1.cell1
            have fc2 := hS.2.2.2.1.cell2
            go_simp
            exact hKO _ W (Ext.refl W) rfl
          · have e4 := isOf hp.1
            have e5 := isOf hp.2.1
            simp only [e4, e5] at hKO
            go_simp
            refine (Try.ratMul (hS.2.2.2.2.2.1) (hS.2.2.2.2.2.2.1) s2 s3 (by omega)).mono ?_
            rintro e W1 ⟨v, rfl, hv, hE⟩
            exact hKO _ W1 hE hv
          · have e3 := isOf hp.1
            have q6 := hp.2.1
            simp only [e3] at hKO
            go_simp
            refine (Try.ratMul (hS.2.2.2.2.1) q6 (s1.mono (by omega)) SN.out (by omega)).mono ?_
            rintro e W1 ⟨v, rfl, hv, hE⟩
            exact hKO _ W1 hE hv
          · have q2 := hp.1
            have q7 := hp.2.1
            go_simp
            refine (Try.refRSameT q2 q7 E4.out).mono ?_
            rintro e W1 ⟨rfl, hE⟩
            exact hKO _ W1 hE rfl
          · have e8 := isOf hp.1
            simp only [e8] at hKO
            go_simp
            exact hKO _ W (Ext.refl W) rfl
        intro vs W4 hS hp
        clear szw4 E0 p3 p4 p5 hx1 hx2 hx3 h1_2 p1_8 h1_5 p1_9 h2_12 h2_20 h3_2 h3_6 h3_7
        obtain ⟨E0, p3, p4, p5, hx1, hx2, hx3, h1_2, p1_8, h1_5, p1_9, h2_12, h2_20, h3_2, h3_6, h3_7, sz4⟩ := hS
        obtain ⟨h4_0, h4_1, h4_2, h4_3, h4_4, h4_5, h4_6, h4_7, h4_8, h4_9, -⟩ := hp
        replace h4_0 : vs 0 = .agg #[.bool b1_9, .slice a1_9 n1_9 c1_9, .slice d1_9 m1_9 o1_9] := h4_0
        replace h4_1 : vs 1 = .agg #[.bool b3, .slice a3 n3 c3, .slice d3 m3 o3] := h4_1
        replace h4_3 : vs 3 = .agg #[.bool b1, .slice a1 n1 c1, .slice d1 m1 o1] := h4_3
        replace h4_4 : vs 4 = .agg #[.bool b2, .slice a2 n2 c2, .slice d2 m2 o2] := h4_4
        replace h4_5 : vs 5 = .agg #[.bool b3, .slice a3 n3 c3, .slice d3 m3 o3] := h4_5
        replace h4_8 : vs 8 = .bool true := h4_8
        replace h4_9 : vs 9 = .bool true := h4_9
        simp only [h4_0, h4_1, h4_3, h4_4, h4_5, h4_8, h4_9]
        replace h4_2 : Rw W4 (vs 2) (x * y * z) := h4_2
        generalize vs 2 = u4_2 at h4_2 ⊢
        replace h4_6 : Rw W4 (vs 6) (y * z) := h4_6
        generalize vs 6 = u4_6 at h4_6 ⊢
        replace h4_7 : Rw W4 (vs 7) (x * (y * z)) := h4_7
        generalize vs 7 = u4_7 at h4_7 ⊢
        clear h4_0 h4_1 h4_3 h4_4 h4_5 h4_8 h4_9
        have kp3_0 := p3.cell0
        have kp3_1 := p3.cell1
        have kp3_2 := p3.cell2
        have kp4_0 := p4.cell0
        have kp4_1 := p4.cell1
        have kp4_2 := p4.cell2
        have kp5_0 := p5.cell0
        have kp5_1 := p5.cell1
        have kp5_2 := p5.cell2
        have kp1_8_0 := p1_8.cell0
        have kp1_8_1 := p1_8.cell1
        have kp1_8_2 := p1_8.cell2
        have kp1_9_0 := p1_9.cell0
        have kp1_9_1 := p1_9.cell1
        have kp1_9_2 := p1_9.cell2
        go_upto_region 8 with (fail)
        clear kp3_0 kp3_1 kp3_2 kp4_0 kp4_1 kp4_2 kp5_0 kp5_1 kp5_2 kp1_8_0 kp1_8_1 kp1_8_2 kp1_9_0 kp1_9_1 kp1_9_2
        have szw5 := Ext.size E0
        refine region_go [.one fun v _ => v = .bool true,
            .one fun v _ => v = .bool true,
            .one fun v _ => v = .bool true,
            .one fun v _ => v = .bool true,
            .one fun v _ => v = .bool true,
            .one fun v _ => v = .bool true,
            .one fun v _ => v = .bool true,
            .one fun v _ => v = .bool true,
            .one fun v _ => v = .agg #[.bool b1_8, .slice a1_8 n1_8 c1_8, .slice d1_8 m1_8 o1_8],
            .one fun v _ => v = .agg #[.bool b3, .slice a3 n3 c3, .slice d3 m3 o3],
            .one fun v W => Rw W v ((x + y) * z),
            .one fun v _ => v = .agg #[.bool b1, .slice a1 n1 c1, .slice d1 m1 o1],
            .one fun v _ => v = .agg #[.bool b3, .slice a3 n3 c3, .slice d3 m3 o3],
            .one fun v W => Rw W v (x * z),
            .one fun v _ => v = .agg #[.bool b2, .slice a2 n2 c2, .slice d2 m2 o2],
            .one fun v _ => v = .agg #[.bool b3, .slice a3 n3 c3, .slice d3 m3 o3],
            .one fun v W => Rw W v (y * z),
            .one fun v W => Rw W v (x * z + y * z),
            .one fun v _ => v = .bool true,
            .one fun v _ => v = .bool true,
            .one fun v _ => v = .bool true]
          (fun W => Ext w W ∧ Bx3 W w.heap.size 27 (.bool b1) (.slice a1 n1 c1) (.slice d1 m1 o1) ∧ Bx3 W (w.heap.size + 1) 27 (.bool b2) (.slice a2 n2 c2) (.slice d2 m2 o2) ∧ Bx3 W (w.heap.size + 1 + 1) 27 (.bool b3) (.slice a3 n3 c3) (.slice d3 m3 o3) ∧ Rw W (.agg #[.bool b1, .slice a1 n1 c1, .slice d1 m1 o1]) x ∧ Rw W (.agg #[.bool b2, .slice a2 n2 c2, .slice d2 m2 o2]) y ∧ Rw W (.agg #[.bool b3, .slice a3 n3 c3, .slice d3 m3 o3]) z ∧ Rw W (.agg #[.bool b1_8, .slice a1_8 n1_8 c1_8, .slice d1_8 m1_8 o1_8]) (x + y) ∧ Bx3 W g1_8 27 (.bool b1_8) (.slice a1_8 n1_8 c1_8) (.slice d1_8 m1_8 o1_8) ∧ Rw W (.agg #[.bool b1_9, .slice a1_9 n1_9 c1_9, .slice d1_9 m1_9 o1_9]) (x * y) ∧ Bx3 W g1_9 27 (.bool b1_9) (.slice a1_9 n1_9 c1_9) (.slice d1_9 m1_9 o1_9) ∧ Rw W u2_12 (y + x) ∧ Rw W u2_20 (y * x) ∧ Rw W u3_2 (x + y + z) ∧ Rw W u3_6 (y + z) ∧ Rw W u3_7 (x + (y + z)) ∧ Rw W u4_2 (x * y * z) ∧ Rw W u4_6 (y * z) ∧ Rw W u4_7 (x * (y * z)) ∧ W4.heap.size ≤ W.heap.size) ⟨Good.is _, Good.is _, Good.is _, Good.is _, Good.is _, Good.is _, Good.is _, Good.is _, Good.is _, Good.is _, Good.rat _, Good.is _, Good.is _, Good.rat _, Good.is _, Good.is _, Good.rat _, Good.rat _, Good.is _, Good.is _, Good.is _, trivial⟩
          (fun W W1 hS hE => ⟨(Ext.trans hS.1 hE), (hS.2.1.ext hE), (hS.2.2.1.ext hE), (hS.2.2.2.1.ext hE), (hS.2.2.2.2.1.ext hE), (hS.2.2.2.2.2.1.ext hE), (hS.2.2.2.2.2.2.1.ext hE), (hS.2.2.2.2.2.2.2.1.ext hE), (hS.2.2.2.2.2.2.2.2.1.ext hE), (hS.2.2.2.2.2.2.2.2.2.1.ext hE), (hS.2.2.2.2.2.2.2.2.2.2.1.ext hE), (hS.2.2.2.2.2.2.2.2.2.2.2.1.ext hE), (hS.2.2.2.2.2.2.2.2.2.2.2.2.1.ext hE), (hS.2.2.2.2.2.2.2.2.2.2.2.2.2.1.ext hE), (hS.2.2.2.2.2.2.2.2.2.2.2.2.2.2.1.ext hE), (hS.2.2.2.2.2.2.2.2.2.2.2.2.2.2.2.1.ext hE), (hS.2.2.2.2.2.2.2.2.2.2.2.2.2.2.2.2.1.ext hE), (hS.2.2.2.2.2.2.2.2.2.2.2.2.2.2.2.2.2.1.ext hE), (hS.2.2.2.2.2.2.2.2.2.2.2.2.2.2.2.2.2.2.1.ext hE), (Nat.le_trans hS.2.2.2.2.2.2.2.2.2.2.2.2.2.2.2.2.2.2.2 (Ext.size hE))⟩) ⟨E0, p3, p4, p5, hx1, hx2, hx3, h1_2, p1_8, h1_5, p1_9, h2_12, h2_20, h3_2, h3_6, h3_7, h4_2, h4_6, h4_7, Nat.le_refl _⟩ (by kernel_rfl) (by kernel_rfl) (by kernel_rfl) (by kernel_rfl) (A := ?A5) ?hA5 ?howe5 ?hfin5
        case hA5 =>
          intro vs
          simp only [putAll, Act.put, List.setIfInBounds_toArray, List.set_cons_zero, List.set_cons_succ, Nat.zero_add, Nat.reduceAdd]
          exact rfl
        case howe5 =>
          clear E0 p3 p4 p5 hx1 hx2 hx3 h1_2 p1_8 h1_5 p1_9 h2_12 h2_20 h3_2 h3_6 h3_7 h4_2 h4_6 h4_7
          intro hf
          refine ⟨owesE 0 [] hf rfl (by kernel_rfl) ?_, owesE 1 [0] hf rfl (by kernel_rfl) ?_, owesE 2 [1] hf rfl (by kernel_rfl) ?_, owesE 3 [1, 2] hf rfl (by kernel_rfl) ?_, owesE 4 [3] hf rfl (by kernel_rfl) ?_, owesE 5 [4] hf rfl (by kernel_rfl) ?_, owesE 6 [4, 5] hf rfl (by kernel_rfl) ?_, owesE 7 [6] hf rfl (by kernel_rfl) ?_, owesE 8 [7] hf rfl (by kernel_rfl) ?_, owesE 9 [7] hf rfl (by kernel_rfl) ?_, owesE 10 [7, 8, 9] hf rfl (by kernel_rfl) ?_, owesE 11 [7] hf rfl (by kernel_rfl) ?_, owesE 12 [7] hf rfl (by kernel_rfl) ?_, owesE 13 [7, 11, 12] hf rfl (by kernel_rfl) ?_, owesE 14 [7] hf rfl (by kernel_rfl) ?_, owesE 15 [7] hf rfl (by kernel_rfl) ?_, owesE 16 [7, 14, 15] hf rfl (by kernel_rfl) ?_, owesE 17 [7, 13, 16] hf rfl (by kernel_rfl) ?_, owesE 18 [7, 10, 17] hf rfl (by kernel_rfl) ?_, owesE 19 [7, 18] hf rfl (by kernel_rfl) ?_, owesE 20 [19] hf rfl (by kernel_rfl) ?_, trivial⟩
          all_goals intro vs W hS hp hx KO hKO
          all_goals simp only [Act.put, List.setIfInBounds_toArray, List.set_cons_zero, List.set_cons_succ] at hKO
          · go_simp
            refine (Try.alive05 _).mono ?_
            rintro e W1 ⟨rfl, hE⟩
            exact hKO _ W1 hE rfl
          · have e0 := isOf hp.1
            simp only [e0] at hKO
            go_simp
            exact hKO _ W (Ext.refl W) rfl
          · have e1 := isOf hp.1
            simp only [e1] at hKO
            go_simp
            exact hKO _ W (Ext.refl W) rfl
          · have e1 := isOf hp.1
            have e2 := isOf hp.2.1
            simp only [e1, e2] at hKO
            go_simp
            exact hKO _ W (Ext.refl W) rfl
          · have e3 := isOf hp.1
            simp only [e3] at hKO
            go_simp
            exact hKO _ W (Ext.refl W) rfl
          · have e4 := isOf hp.1
            simp only [e4] at hKO
            go_simp
            exact hKO _ W (Ext.refl W) rfl
          · have e4 := isOf hp.1
            have e5 := isOf hp.2.1
            simp only [e4, e5] at hKO
            go_simp
            exact hKO _ W (Ext.refl W) rfl
          · have e6 := isOf hp.1
            simp only [e6] at hKO
            go_simp
            exact hKO _ W (Ext.refl W) rfl
          · have e7 := isOf hp.1
            simp only [e7] at hKO
            have fc0 := hS.2.2.2.2.2.2.2.2.1.cell0
            have fc1 := hS.2.2.2.2.2.2.2.2.1.cell1
            have fc2 := hS.2.2.2.2.2.2.2.2.1.cell2
            go_simp
            exact hKO _ W (Ext.refl W) rfl
          · have e7 := isOf hp.1
            simp only [e7] at hKO
            have fc0 := hS.2.2.2.1.cell0
            have fc1 := hS.2.2.2.1.cell1
            have fc2 := hS.2.2.2.1.cell2
            go_simp
            exact hKO _ W (Ext.refl W) rfl
          · have e7 := isOf hp.1
            have e8 := isOf hp.2.1
            have e9 := isOf hp.2.2.1
            simp only [e7, e8, e9] at hKO
            go_simp
            refine (Try.ratMul (hS.2.2.2.2.2.2.2.1) (hS.2.2.2.2.2.2.1) SA.out (s3.mono (by omega)) (by omega)).mono ?_
            rintro e W1 ⟨v, rfl, hv, hE⟩
            exact hKO _ W1 hE hv
          · have e7 := isOf hp.1
            simp only [e7] at hKO
            have fc0 := hS.2.1.cell0
            have fc1 := hS.2.1.cell1
            have fc2 := hS.2.1.cell2
            go_simp
            exact hKO _ W (Ext.refl W) rfl
          · have e7 := isOf hp.1
            simp only [e7] at hKO
            have fc0 := hS.2.2.2.1.cell0
            have fc1 := hS.2.2.2.1.cell1
            have fc2 := hS.2.2.2.1.cell2
            go_simp
            exact hKO _ W (Ext.refl W) rfl
          · have e7 := isOf hp.1
            have e11 := isOf hp.2.1
            have e12 := isOf hp.2.2.1
            simp only [e7, e11, e12] at hKO
            go_simp
            refine (Try.ratMul (hS.2.2.2.2.1) (hS.2.2.2.2.2.2.1) s1 s3 (by omega)).mono ?_
            rintro e W1 ⟨v, rfl, hv, hE⟩
            exact hKO _ W1 hE hv
          · have e7 := isOf hp.1
            simp only [e7] at hKO
            have fc0 := hS.2.2.1.cell0
            have fc1 := hS.2.2.1.cell1
            have fc2 := hS.2.2.1.cell2
            go_simp
            exact hKO _ W (Ext.refl W) rfl
          · have e7 := isOf hp.1
            simp only [e7] at hKO
            have fc0 := hS.2.2.2.1.cell0
            have fc1 := hS.2.2.2.1.cell1
            have fc2 := hS.2.2.2.1.cell2
            go_simp
            exact hKO _ W (Ext.refl W) rfl
          · have e7 := isOf hp.1
            have e14 := isOf hp.2.1
            have e15 := isOf hp.2.2.1
            simp only [e7, e14, e15] at hKO
            go_simp
            refine (Try.ratMul (hS.2.2.2.2.2.1) (hS.2.2.2.2.2.2.1) s2 s3 (by omega)).mono ?_
            rintro e W1 ⟨v, rfl, hv, hE⟩
            exact hKO _ W1 hE hv
          · have e7 := isOf hp.1
            have q13 := hp.2.1
            have q16 := hp.2.2.1
            simp only [e7] at hKO
            go_simp
            refine (Try.ratAdd q13 q16 SX.out SN.out (by omega)).mono ?_
            rintro e W1 ⟨v, rfl, hv, hE⟩
            exact hKO _ W1 hE hv
          · have e7 := isOf hp.1
            have q10 := hp.2.1
            have q17 := hp.2.2.1
            simp only [e7] at hKO
            go_simp
            refine (Try.refRSameT q10 q17 E5.out).mono ?_
            rintro e W1 ⟨rfl, hE⟩
            exact hKO _ W1 hE rfl
          · have e7 := isOf hp.1
            have e18 := isOf hp.2.1
            simp only [e7, e18] at hKO
            go_simp
            exact hKO _ W (Ext.refl W) rfl
          · have e19 := isOf hp.1
            simp only [e19] at hKO
            go_simp
            exact hKO _ W (Ext.refl W) rfl
        intro vs W5 hS hp
        clear szw5 E0 p3 p4 p5 hx1 hx2 hx3 h1_2 p1_8 h1_5 p1_9 h2_12 h2_20 h3_2 h3_6 h3_7 h4_2 h4_6 h4_7
        obtain ⟨E0, p3, p4, p5, hx1, hx2, hx3, h1_2, p1_8, h1_5, p1_9, h2_12, h2_20, h3_2, h3_6, h3_7, h4_2, h4_6, h4_7, sz5⟩ := hS
        obtain ⟨h5_0, h5_1, h5_2, h5_3, h5_4, h5_5, h5_6, h5_7, h5_8, h5_9, h5_10, h5_11, h5_12, h5_13, h5_14, h5_15, h5_16, h5_17, h5_18, h5_19, h5_20, -⟩ := hp
        replace h5_0 : vs 0 = .bool true := h5_0
        replace h5_1 : vs 1 = .bool true := h5_1
        replace h5_2 : vs 2 = .bool true := h5_2
        replace h5_3 : vs 3 = .bool true := h5_3
        replace h5_4 : vs 4 = .bool true := h5_4
        replace h5_5 : vs 5 = .bool true := h5_5
        replace h5_6 : vs 6 = .bool true := h5_6
        replace h5_7 : vs 7 = .bool true := h5_7
        replace h5_8 : vs 8 = .agg #[.bool b1_8, .slice a1_8 n1_8 c1_8, .slice d1_8 m1_8 o1_8] := h5_8
        replace h5_9 : vs 9 = .agg #[.bool b3, .slice a3 n3 c3, .slice d3 m3 o3] := h5_9
        replace h5_11 : vs 11 = .agg #[.bool b1, .slice a1 n1 c1, .slice d1 m1 o1] := h5_11
        replace h5_12 : vs 12 = .agg #[.bool b3, .slice a3 n3 c3, .slice d3 m3 o3] := h5_12
        replace h5_14 : vs 14 = .agg #[.bool b2, .slice a2 n2 c2, .slice d2 m2 o2] := h5_14
        replace h5_15 : vs 15 = .agg #[.bool b3, .slice a3 n3 c3, .slice d3 m3 o3] := h5_15
        replace h5_18 : vs 18 = .bool true := h5_18
        replace h5_19 : vs 19 = .bool true := h5_19
        replace h5_20 : vs 20 = .bool true := h5_20
        simp only [h5_0, h5_1, h5_2, h5_3, h5_4, h5_5, h5_6, h5_7, h5_8, h5_9, h5_11, h5_12, h5_14, h5_15, h5_18, h5_19, h5_20]
        replace h5_10 : Rw W5 (vs 10) ((x + y) * z) := h5_10
        generalize vs 10 = u5_10 at h5_10 ⊢
        replace h5_13 : Rw W5 (vs 13) (x * z) := h5_13
        generalize vs 13 = u5_13 at h5_13 ⊢
        replace h5_16 : Rw W5 (vs 16) (y * z) := h5_16
        generalize vs 16 = u5_16 at h5_16 ⊢
        replace h5_17 : Rw W5 (vs 17) (x * z + y * z) := h5_17
        generalize vs 17 = u5_17 at h5_17 ⊢
        clear h5_0 h5_1 h5_2 h5_3 h5_4 h5_5 h5_6 h5_7 h5_8 h5_9 h5_11 h5_12 h5_14 h5_15 h5_18 h5_19 h5_20
        have kp3_0 := p3.cell0
        have kp3_1 := p3.cell1
        have kp3_2 := p3.cell2
        have kp4_0 := p4.cell0
        have kp4_1 := p4.cell1
        have kp4_2 := p4.cell2
        have kp5_0 := p5.cell0
        have kp5_1 := p5.cell1
        have kp5_2 := p5.cell2
        have kp1_8_0 := p1_8.cell0
        have kp1_8_1 := p1_8.cell1
        have kp1_8_2 := p1_8.cell2
        have kp1_9_0 := p1_9.cell0
        have kp1_9_1 := p1_9.cell1
        have kp1_9_2 := p1_9.cell2
        go_wp2
        go_ret
        exact ⟨rfl, E0⟩

end Go.Rt
