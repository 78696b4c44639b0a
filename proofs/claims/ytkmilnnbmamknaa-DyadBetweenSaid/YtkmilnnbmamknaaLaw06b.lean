/-
  The laws of chapter 06 (dyads): Between.
-/
import Derived.Test.YtkmilnnbmamknaaLaw06e
import Derived.Test.YtkmilnnbmamknaaLaw06f
import Derived.Test.YtkmilnnbmamknaaLaw06g
namespace Go.Rt
open Go Go.RowKit Go.Proofs

theorem near_on {x : Rat} {K : Nat} (h : ((x * P2 K).floor : Rat) / P2 K = x) : nearR (x * P2 K) = (x * P2 K).floor := by
  have e := back_scale (x * P2 K).floor K
  rw [h] at e
  conv => lhs; rw [e]
  exact near_int _

set_option maxRecDepth 100000 in
set_option maxHeartbeats 4000000 in
theorem Try.lawDyadBetween {b1 : Bool} {a1 : Option Addr} {n1 c1 : Nat} {d1 : Option Addr} {m1 o1 : Nat} {xs1 ys1 : List Nat} {w : World} (h1 : Nt w (.slice a1 n1 c1) xs1) (k1 : Nt w (.slice d1 m1 o1) ys1) (kk : Int) :
    Calls Try.prog 3 #[.agg #[.bool b1, .slice a1 n1 c1, .slice d1 m1 o1], .int .i64 kk] w fun e w' => e = .returned (.bool true) ∧ Ext w w' := by
  cases hg0 : fewR b1 xs1 ys1 ((4 : Nat) : Int)
  · have HG0 := Lib.hid hg0
    clear hg0
    obtain ⟨W0, hW0⟩ : ∃ W0, W0 = (w.alloc (.cells #[.bool b1, .slice a1 n1 c1, .slice d1 m1 o1] 27)) := ⟨_, rfl⟩
    have E0 : Ext w W0 := by rw [hW0]; exact (Ext.alloc1 w (.cells #[.bool b1, .slice a1 n1 c1, .slice d1 m1 o1] 27))
    replace h1 : Nt W0 (.slice a1 n1 c1) xs1 := h1.ext E0
    replace k1 : Nt W0 (.slice d1 m1 o1) ys1 := k1.ext E0
    have p2 : Bx3 W0 w.heap.size 27 (.bool b1) (.slice a1 n1 c1) (.slice d1 m1 o1) := by rw [hW0]; exact (Bx3.new w 27 (.bool b1) (.slice a1 n1 c1) (.slice d1 m1 o1))
    go_enter Try.func3, Try.ntmps3
    have kp2_0 := p2.cell0
    have kp2_1 := p2.cell1
    have kp2_2 := p2.cell2
    go_wp2_with fail
    rw [← hW0]
    clear hW0
    clear kp2_0 kp2_1 kp2_2
    refine (Try.refRFew h1 k1 4 (by omega)).mono ?_
    rintro e Wf0 ⟨rfl, hE⟩
    rw [HG0.out]
    replace E0 := (Ext.trans E0 hE)
    replace h1 := (h1.ext hE)
    replace k1 := (k1.ext hE)
    replace p2 := (p2.ext hE)
    clear hE
    have kp2_0 := p2.cell0
    have kp2_1 := p2.cell1
    have kp2_2 := p2.cell2
    go_wp2_with fail
    clear kp2_0 kp2_1 kp2_2
    refine (Try.alive06 _).mono ?_
    rintro e We ⟨rfl, hE⟩
    replace E0 := (Ext.trans E0 hE)
    replace h1 := (h1.ext hE)
    replace k1 := (k1.ext hE)
    replace p2 := (p2.ext hE)
    clear hE
    have kp2_0 := p2.cell0
    have kp2_1 := p2.cell1
    have kp2_2 := p2.cell2
    go_wp2
    go_ret
    exact ⟨rfl, E0⟩
  · have HG0 := Lib.hid hg0
    clear hg0
    by_cases hk0 : kk < 0
    · have hk0d := decide_eq_true hk0
      obtain ⟨W0, hW0⟩ : ∃ W0, W0 = (w.alloc (.cells #[.bool b1, .slice a1 n1 c1, .slice d1 m1 o1] 27)) := ⟨_, rfl⟩
      have E0 : Ext w W0 := by rw [hW0]; exact (Ext.alloc1 w (.cells #[.bool b1, .slice a1 n1 c1, .slice d1 m1 o1] 27))
      replace h1 : Nt W0 (.slice a1 n1 c1) xs1 := h1.ext E0
      replace k1 : Nt W0 (.slice d1 m1 o1) ys1 := k1.ext E0
      have p2 : Bx3 W0 w.heap.size 27 (.bool b1) (.slice a1 n1 c1) (.slice d1 m1 o1) := by rw [hW0]; exact (Bx3.new w 27 (.bool b1) (.slice a1 n1 c1) (.slice d1 m1 o1))
      go_enter Try.func3, Try.ntmps3
      have kp2_0 := p2.cell0
      have kp2_1 := p2.cell1
      have kp2_2 := p2.cell2
      go_wp2_with fail
      rw [← hW0]
      clear hW0
      clear kp2_0 kp2_1 kp2_2
      refine (Try.refRFew h1 k1 4 (by omega)).mono ?_
      rintro e Wf0 ⟨rfl, hE⟩
      rw [HG0.out]
      replace E0 := (Ext.trans E0 hE)
      replace h1 := (h1.ext hE)
      replace k1 := (k1.ext hE)
      replace p2 := (p2.ext hE)
      clear hE
      have kp2_0 := p2.cell0
      have kp2_1 := p2.cell1
      have kp2_2 := p2.cell2
      go_wp2_with fail
      clear kp2_0 kp2_1 kp2_2
      refine (Try.alive06 _).mono ?_
      rintro e We ⟨rfl, hE⟩
      replace E0 := (Ext.trans E0 hE)
      replace h1 := (h1.ext hE)
      replace k1 := (k1.ext hE)
      replace p2 := (p2.ext hE)
      clear hE
      have kp2_0 := p2.cell0
      have kp2_1 := p2.cell1
      have kp2_2 := p2.cell2
      go_wp2
      go_ret
      exact ⟨rfl, E0⟩
    · by_cases hk4 : 400 < kk
      · have hk0d := decide_eq_false hk0
        have hk4d := decide_eq_true hk4
        obtain ⟨W0, hW0⟩ : ∃ W0, W0 = (w.alloc (.cells #[.bool b1, .slice a1 n1 c1, .slice d1 m1 o1] 27)) := ⟨_, rfl⟩
        have E0 : Ext w W0 := by rw [hW0]; exact (Ext.alloc1 w (.cells #[.bool b1, .slice a1 n1 c1, .slice d1 m1 o1] 27))
        replace h1 : Nt W0 (.slice a1 n1 c1) xs1 := h1.ext E0
        replace k1 : Nt W0 (.slice d1 m1 o1) ys1 := k1.ext E0
        have p2 : Bx3 W0 w.heap.size 27 (.bool b1) (.slice a1 n1 c1) (.slice d1 m1 o1) := by rw [hW0]; exact (Bx3.new w 27 (.bool b1) (.slice a1 n1 c1) (.slice d1 m1 o1))
        go_enter Try.func3, Try.ntmps3
        have kp2_0 := p2.cell0
        have kp2_1 := p2.cell1
        have kp2_2 := p2.cell2
        go_wp2_with fail
        rw [← hW0]
        clear hW0
        clear kp2_0 kp2_1 kp2_2
        refine (Try.refRFew h1 k1 4 (by omega)).mono ?_
        rintro e Wf0 ⟨rfl, hE⟩
        rw [HG0.out]
        replace E0 := (Ext.trans E0 hE)
        replace h1 := (h1.ext hE)
        replace k1 := (k1.ext hE)
        replace p2 := (p2.ext hE)
        clear hE
        have kp2_0 := p2.cell0
        have kp2_1 := p2.cell1
        have kp2_2 := p2.cell2
        go_wp2_with fail
        clear kp2_0 kp2_1 kp2_2
        refine (Try.alive06 _).mono ?_
        rintro e We ⟨rfl, hE⟩
        replace E0 := (Ext.trans E0 hE)
        replace h1 := (h1.ext hE)
        replace k1 := (k1.ext hE)
        replace p2 := (p2.ext hE)
        clear hE
        have kp2_0 := p2.cell0
        have kp2_1 := p2.cell1
        have kp2_2 := p2.cell2
        go_wp2
        go_ret
        exact ⟨rfl, E0⟩
      · obtain ⟨K, rfl⟩ := Int.eq_ofNat_of_zero_le (show 0 ≤ kk by omega)
        obtain ⟨x, hx1, s1⟩ := fewR_rw (L := 4) h1 k1 HG0.out
        by_cases hxo : ((x * P2 K).floor : Rat) / P2 K = x
        · exact Try.lawDyadBetweenTT h1 k1 HG0 x hx1 s1 K (by omega) (Lib.hid hxo) (Lib.hid (near_on hxo))
        · by_cases hmf : nearR (x * P2 K) = (x * P2 K).floor
          · exact Try.lawDyadBetweenFT h1 k1 HG0 x hx1 s1 K (by omega) (Lib.hid hxo) (Lib.hid hmf)
          · exact Try.lawDyadBetweenFF h1 k1 HG0 x hx1 s1 K (by omega) (Lib.hid hxo) (Lib.hid hmf)

end Go.Rt
