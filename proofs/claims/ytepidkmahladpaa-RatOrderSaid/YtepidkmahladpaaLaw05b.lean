/-
  The laws of chapter 05 (fractions): Back, Between, Order.
-/
import Derived.Test.YtepidkmahladpaaLaw05
namespace Go.Rt
open Go.RowKit Go.Proofs

theorem num_pos_iff {x : Rat} : 0 < x.num ↔ 0 < x := by
  rw [Rat.lt_iff]
  simp
theorem cmpR_self (x : Rat) : cmpR x x = 0 := by unfold cmpR; rw [if_neg (by grind), if_neg (by grind)]
theorem cmpR_eq_zero {x y : Rat} : cmpR x y = 0 ↔ x = y := by
  unfold cmpR
  constructor
  · intro h
    split at h
    · cases h
    · split at h
      · cases h
      · grind
  · intro h
    rw [if_neg (by grind), if_neg (by grind)]
theorem cmpR_bd (x y : Rat) : -1 ≤ cmpR x y ∧ cmpR x y ≤ 1 := by unfold cmpR; split; omega; split <;> omega
theorem cmpR_swap (x y : Rat) : cmpR y x = -cmpR x y := by
  unfold cmpR
  by_cases h1 : x < y
  · by_cases h2 : y < x
    · grind
    · simp [h1, h2]
  · by_cases h2 : y < x
    · simp [h1, h2]
    · simp [h1, h2]
theorem cmpR_le {x y : Rat} : cmpR x y ≤ 0 ↔ x ≤ y := by
  unfold cmpR
  by_cases h1 : x < y
  · rw [if_pos h1]; constructor; intro; grind; intro; omega
  · rw [if_neg h1]
    by_cases h2 : y < x
    · rw [if_pos h2]; constructor; intro h; omega; intro h; grind
    · rw [if_neg h2]; constructor; intro; grind; intro; omega
theorem cmpR_congr {x y u v : Rat} (h1 : x < y ↔ u < v) (h2 : y < x ↔ v < u) : cmpR x y = cmpR u v := by
  unfold cmpR
  by_cases a : x < y
  · rw [if_pos a, if_pos (h1.1 a)]
  · rw [if_neg a, if_neg (fun h => a (h1.2 h))]
    by_cases b : y < x
    · rw [if_pos b, if_pos (h2.1 b)]
    · rw [if_neg b, if_neg (fun h => b (h2.2 h))]
theorem cmpR_mid (x y : Rat) : cmpR x ((x + y) / ((2 : Int) : Rat)) = cmpR x y ∧ cmpR ((x + y) / ((2 : Int) : Rat)) y = cmpR x y := by
  have e : ((2 : Int) : Rat) = 2 := rfl
  rw [e]
  have h : (x + y) / 2 * 2 = x + y := Rat.div_mul_cancel (by decide)
  generalize (x + y) / 2 = m at *
  constructor
  · exact cmpR_congr (by constructor <;> intro <;> grind) (by constructor <;> intro <;> grind)
  · exact cmpR_congr (by constructor <;> intro <;> grind) (by constructor <;> intro <;> grind)
theorem cmpR_add (x y z : Rat) : cmpR (x + z) (y + z) = cmpR x y := cmpR_congr (by constructor <;> intro <;> grind) (by constructor <;> intro <;> grind)
theorem cmpR_sub (x y : Rat) : cmpR (x - y) ((0 : Int) : Rat) = cmpR x y := by
  rw [show ((0 : Int) : Rat) = 0 from rfl]
  exact cmpR_congr (by constructor <;> intro <;> grind) (by constructor <;> intro <;> grind)
theorem cmpR_mul {x y z : Rat} (hz : 0 < z) : cmpR (x * z) (y * z) = cmpR x y := cmpR_congr (Rat.mul_lt_mul_right hz) (Rat.mul_lt_mul_right hz)
theorem two_ne : ((2 : Int) : Rat) ≠ 0 := by decide

set_option maxRecDepth 100000 in
set_option maxHeartbeats 1000000 in
theorem Try.lawRatBack {b1 : Bool} {a1 : Option Addr} {n1 c1 : Nat} {d1 : Option Addr} {m1 o1 : Nat} {xs1 ys1 : List Nat} {b2 : Bool} {a2 : Option Addr} {n2 c2 : Nat} {d2 : Option Addr} {m2 o2 : Nat} {xs2 ys2 : List Nat} {w : World} (h1 : Nt w (.slice a1 n1 c1) xs1) (k1 : Nt w (.slice d1 m1 o1) ys1) (h2 : Nt w (.slice a2 n2 c2) xs2) (k2 : Nt w (.slice d2 m2 o2) ys2) :
    Calls Try.prog 20 #[.agg #[.bool b1, .slice a1 n1 c1, .slice d1 m1 o1], .agg #[.bool b2, .slice a2 n2 c2, .slice d2 m2 o2]] w fun e w' => e = .returned (.bool true) ∧ Ext w w' := by
  cases hg0 : fewR b1 xs1 ys1 ((4 : Nat) : Int)
  · have HG0 := Lib.hid hg0
    clear hg0
    obtain ⟨W0, hW0⟩ : ∃ W0, W0 = ((w.alloc (.cells #[.bool b1, .slice a1 n1 c1, .slice d1 m1 o1] 35)).alloc (.cells #[.bool b2, .slice a2 n2 c2, .slice d2 m2 o2] 35)) := ⟨_, rfl⟩
    have E0 : Ext w W0 := by rw [hW0]; exact ((Ext.alloc1 w (.cells #[.bool b1, .slice a1 n1 c1, .slice d1 m1 o1] 35)).alloc (.cells #[.bool b2, .slice a2 n2 c2, .slice d2 m2 o2] 35))
    replace h1 : Nt W0 (.slice a1 n1 c1) xs1 := h1.ext E0
    replace k1 : Nt W0 (.slice d1 m1 o1) ys1 := k1.ext E0
    replace h2 : Nt W0 (.slice a2 n2 c2) xs2 := h2.ext E0
    replace k2 : Nt W0 (.slice d2 m2 o2) ys2 := k2.ext E0
    have p2 : Bx3 W0 w.heap.size 35 (.bool b1) (.slice a1 n1 c1) (.slice d1 m1 o1) := by rw [hW0]; exact (Bx3.new w 35 (.bool b1) (.slice a1 n1 c1) (.slice d1 m1 o1)).ext (Ext.alloc1 (w.alloc (.cells #[.bool b1, .slice a1 n1 c1, .slice d1 m1 o1] 35)) (.cells #[.bool b2, .slice a2 n2 c2, .slice d2 m2 o2] 35))
    have p3 : Bx3 W0 (w.heap.size + 1) 35 (.bool b2) (.slice a2 n2 c2) (.slice d2 m2 o2) := by rw [hW0]; simpa using (Bx3.new (w.alloc (.cells #[.bool b1, .slice a1 n1 c1, .slice d1 m1 o1] 35)) 35 (.bool b2) (.slice a2 n2 c2) (.slice d2 m2 o2))
    go_enter Try.func20, Try.ntmps20
    have kp2_0 := p2.cell0
    have kp2_1 := p2.cell1
    have kp2_2 := p2.cell2
    have kp3_0 := p3.cell0
    have kp3_1 := p3.cell1
    have kp3_2 := p3.cell2
    go_wp2_with fail
    rw [← hW0]
    clear hW0
    clear kp2_0 kp2_1 kp2_2 kp3_0 kp3_1 kp3_2
    refine (Try.refRFew h1 k1 4 (by omega)).mono ?_
    rintro e Wf0 ⟨rfl, hE⟩
    rw [HG0.out]
    replace E0 : Ext w Wf0 := (Ext.trans E0 hE)
    replace h1 : Nt Wf0 (.slice a1 n1 c1) xs1 := (h1.ext hE)
    replace k1 : Nt Wf0 (.slice d1 m1 o1) ys1 := (k1.ext hE)
    replace h2 : Nt Wf0 (.slice a2 n2 c2) xs2 := (h2.ext hE)
    replace k2 : Nt Wf0 (.slice d2 m2 o2) ys2 := (k2.ext hE)
    replace p2 : Bx3 Wf0 w.heap.size 35 (.bool b1) (.slice a1 n1 c1) (.slice d1 m1 o1) := (p2.ext hE)
    replace p3 : Bx3 Wf0 (w.heap.size + 1) 35 (.bool b2) (.slice a2 n2 c2) (.slice d2 m2 o2) := (p3.ext hE)
    clear hE
    have kp2_0 := p2.cell0
    have kp2_1 := p2.cell1
    have kp2_2 := p2.cell2
    have kp3_0 := p3.cell0
    have kp3_1 := p3.cell1
    have kp3_2 := p3.cell2
    go_wp2_with fail
    clear kp2_0 kp2_1 kp2_2 kp3_0 kp3_1 kp3_2
    refine (Try.alive05 _).mono ?_
    rintro e We ⟨rfl, hE⟩
    replace E0 : Ext w We := (Ext.trans E0 hE)
    replace h1 : Nt We (.slice a1 n1 c1) xs1 := (h1.ext hE)
    replace k1 : Nt We (.slice d1 m1 o1) ys1 := (k1.ext hE)
    replace h2 : Nt We (.slice a2 n2 c2) xs2 := (h2.ext hE)
    replace k2 : Nt We (.slice d2 m2 o2) ys2 := (k2.ext hE)
    replace p2 : Bx3 We w.heap.size 35 (.bool b1) (.slice a1 n1 c1) (.slice d1 m1 o1) := (p2.ext hE)
    replace p3 : Bx3 We (w.heap.size + 1) 35 (.bool b2) (.slice a2 n2 c2) (.slice d2 m2 o2) := (p3.ext hE)
    clear hE
    have kp2_0 := p2.cell0
    have kp2_1 := p2.cell1
    have kp2_2 := p2.cell2
    have kp3_0 := p3.cell0
    have kp3_1 := p3.cell1
    have kp3_2 := p3.cell2
    go_wp2
    go_ret
    exact ⟨rfl, E0⟩
  · have HG0 := Lib.hid hg0
    clear hg0
    obtain ⟨W0, hW0⟩ : ∃ W0, W0 = ((w.alloc (.cells #[.bool b1, .slice a1 n1 c1, .slice d1 m1 o1] 35)).alloc (.cells #[.bool b2, .slice a2 n2 c2, .slice d2 m2 o2] 35)) := ⟨_, rfl⟩
    have E0 : Ext w W0 := by rw [hW0]; exact ((Ext.alloc1 w (.cells #[.bool b1, .slice a1 n1 c1, .slice d1 m1 o1] 35)).alloc (.cells #[.bool b2, .slice a2 n2 c2, .slice d2 m2 o2] 35))
    replace h1 : Nt W0 (.slice a1 n1 c1) xs1 := h1.ext E0
    replace k1 : Nt W0 (.slice d1 m1 o1) ys1 := k1.ext E0
    replace h2 : Nt W0 (.slice a2 n2 c2) xs2 := h2.ext E0
    replace k2 : Nt W0 (.slice d2 m2 o2) ys2 := k2.ext E0
    have p2 : Bx3 W0 w.heap.size 35 (.bool b1) (.slice a1 n1 c1) (.slice d1 m1 o1) := by rw [hW0]; exact (Bx3.new w 35 (.bool b1) (.slice a1 n1 c1) (.slice d1 m1 o1)).ext (Ext.alloc1 (w.alloc (.cells #[.bool b1, .slice a1 n1 c1, .slice d1 m1 o1] 35)) (.cells #[.bool b2, .slice a2 n2 c2, .slice d2 m2 o2] 35))
    have p3 : Bx3 W0 (w.heap.size + 1) 35 (.bool b2) (.slice a2 n2 c2) (.slice d2 m2 o2) := by rw [hW0]; simpa using (Bx3.new (w.alloc (.cells #[.bool b1, .slice a1 n1 c1, .slice d1 m1 o1] 35)) 35 (.bool b2) (.slice a2 n2 c2) (.slice d2 m2 o2))
    go_enter Try.func20, Try.ntmps20
    have kp2_0 := p2.cell0
    have kp2_1 := p2.cell1
    have kp2_2 := p2.cell2
    have kp3_0 := p3.cell0
    have kp3_1 := p3.cell1
    have kp3_2 := p3.cell2
    go_wp2_with fail
    rw [← hW0]
    clear hW0
    clear kp2_0 kp2_1 kp2_2 kp3_0 kp3_1 kp3_2
    refine (Try.refRFew h1 k1 4 (by omega)).mono ?_
    rintro e Wf0 ⟨rfl, hE⟩
    rw [HG0.out]
    replace E0 : Ext w Wf0 := (Ext.trans E0 hE)
    replace h1 : Nt Wf0 (.slice a1 n1 c1) xs1 := (h1.ext hE)
    replace k1 : Nt Wf0 (.slice d1 m1 o1) ys1 := (k1.ext hE)
    replace h2 : Nt Wf0 (.slice a2 n2 c2) xs2 := (h2.ext hE)
    replace k2 : Nt Wf0 (.slice d2 m2 o2) ys2 := (k2.ext hE)
    replace p2 : Bx3 Wf0 w.heap.size 35 (.bool b1) (.slice a1 n1 c1) (.slice d1 m1 o1) := (p2.ext hE)
    replace p3 : Bx3 Wf0 (w.heap.size + 1) 35 (.bool b2) (.slice a2 n2 c2) (.slice d2 m2 o2) := (p3.ext hE)
    clear hE
    cases hg1 : fewR b2 xs2 ys2 ((4 : Nat) : Int)
    · have HG1 := Lib.hid hg1
      clear hg1
      have kp2_0 := p2.cell0
      have kp2_1 := p2.cell1
      have kp2_2 := p2.cell2
      have kp3_0 := p3.cell0
      have kp3_1 := p3.cell1
      have kp3_2 := p3.cell2
      go_wp2_with fail
      clear kp2_0 kp2_1 kp2_2 kp3_0 kp3_1 kp3_2
      refine (Try.refRFew h2 k2 4 (by omega)).mono ?_
      rintro e Wf1 ⟨rfl, hE⟩
      rw [HG1.out]
      replace E0 : Ext w Wf1 := (Ext.trans E0 hE)
      replace h1 : Nt Wf1 (.slice a1 n1 c1) xs1 := (h1.ext hE)
      replace k1 : Nt Wf1 (.slice d1 m1 o1) ys1 := (k1.ext hE)
      replace h2 : Nt Wf1 (.slice a2 n2 c2) xs2 := (h2.ext hE)
      replace k2 : Nt Wf1 (.slice d2 m2 o2) ys2 := (k2.ext hE)
      replace p2 : Bx3 Wf1 w.heap.size 35 (.bool b1) (.slice a1 n1 c1) (.slice d1 m1 o1) := (p2.ext hE)
      replace p3 : Bx3 Wf1 (w.heap.size + 1) 35 (.bool b2) (.slice a2 n2 c2) (.slice d2 m2 o2) := (p3.ext hE)
      clear hE
      have kp2_0 := p2.cell0
      have kp2_1 := p2.cell1
      have kp2_2 := p2.cell2
      have kp3_0 := p3.cell0
      have kp3_1 := p3.cell1
      have kp3_2 := p3.cell2
      go_wp2_with fail
      clear kp2_0 kp2_1 kp2_2 kp3_0 kp3_1 kp3_2
      refine (Try.alive05 _).mono ?_
      rintro e We ⟨rfl, hE⟩
      replace E0 : Ext w We := (Ext.trans E0 hE)
      replace h1 : Nt We (.slice a1 n1 c1) xs1 := (h1.ext hE)
      replace k1 : Nt We (.slice d1 m1 o1) ys1 := (k1.ext hE)
      replace h2 : Nt We (.slice a2 n2 c2) xs2 := (h2.ext hE)
      replace k2 : Nt We (.slice d2 m2 o2) ys2 := (k2.ext hE)
      replace p2 : Bx3 We w.heap.size 35 (.bool b1) (.slice a1 n1 c1) (.slice d1 m1 o1) := (p2.ext hE)
      replace p3 : Bx3 We (w.heap.size + 1) 35 (.bool b2) (.slice a2 n2 c2) (.slice d2 m2 o2) := (p3.ext hE)
      clear hE
      have kp2_0 := p2.cell0
      have kp2_1 := p2.cell1
      have kp2_2 := p2.cell2
      have kp3_0 := p3.cell0
      have kp3_1 := p3.cell1
      have kp3_2 := p3.cell2
      go_wp2
      go_ret
      exact ⟨rfl, E0⟩
    · have HG1 := Lib.hid hg1
      clear hg1
      have kp2_0 := p2.cell0
      have kp2_1 := p2.cell1
      have kp2_2 := p2.cell2
      have kp3_0 := p3.cell0
      have kp3_1 := p3.cell1
      have kp3_2 := p3.cell2
      go_wp2_with fail
      clear kp2_0 kp2_1 kp2_2 kp3_0 kp3_1 kp3_2
      refine (Try.refRFew h2 k2 4 (by omega)).mono ?_
      rintro e Wf1 ⟨rfl, hE⟩
      rw [HG1.out]
      replace E0 : Ext w Wf1 := (Ext.trans E0 hE)
      replace h1 : Nt Wf1 (.slice a1 n1 c1) xs1 := (h1.ext hE)
      replace k1 : Nt Wf1 (.slice d1 m1 o1) ys1 := (k1.ext hE)
      replace h2 : Nt Wf1 (.slice a2 n2 c2) xs2 := (h2.ext hE)
      replace k2 : Nt Wf1 (.slice d2 m2 o2) ys2 := (k2.ext hE)
      replace p2 : Bx3 Wf1 w.heap.size 35 (.bool b1) (.slice a1 n1 c1) (.slice d1 m1 o1) := (p2.ext hE)
      replace p3 : Bx3 Wf1 (w.heap.size + 1) 35 (.bool b2) (.slice a2 n2 c2) (.slice d2 m2 o2) := (p3.ext hE)
      clear hE
      obtain ⟨x, hx1, s1⟩ := fewR_rw (L := 4) h1 k1 HG0.out
      clear h1 k1 HG0
      obtain ⟨y, hx2, s2⟩ := fewR_rw (L := 4) h2 k2 HG1.out
      clear h2 k2 HG1
      have hnl := hx2.top.num.len
      obtain ⟨_, _, _, er, hz0, -⟩ := hnl
      cases er
      by_cases hy : y = 0
      · have hm2 : ((n2 : Int) == 0) = true := by simp [hz0.2 (by rw [hy]; rfl)]
        clear hz0
        subst hy
        have SM : Hid (SmR 8 (x * 0)) := Lib.hid (s1.mul s2)
        have SA : Hid (SmR 9 (x + 0)) := Lib.hid (s1.add s2)
        have S0 : Hid (SmR 4 ((0 : Int) : Rat)) := Lib.hid ((SmR.int (by omega)).mono (by omega))
        have S1 : Hid (SmR 4 ((1 : Int) : Rat)) := Lib.hid ((SmR.int (by omega)).mono (by omega))
        have E1 : Hid (x + 0 - 0 = x) := Lib.hid (by grind)
        have E2 : Hid (x - ((0 : Int) : Rat) = x) := Lib.hid (by rw [show ((0 : Int) : Rat) = 0 from rfl]; grind)
        have E3 : Hid (x * ((1 : Int) : Rat) = x) := Lib.hid (by rw [show ((1 : Int) : Rat) = 1 from rfl]; grind)
        have kp2_0 := p2.cell0
        have kp2_1 := p2.cell1
        have kp2_2 := p2.cell2
        have kp3_0 := p3.cell0
        have kp3_1 := p3.cell1
        have kp3_2 := p3.cell2
        go_upto_region 3 with (fail)
        clear kp2_0 kp2_1 kp2_2 kp3_0 kp3_1 kp3_2
        have ltp2 := p2.lt
        have ltp3 := p3.lt
        have szw1 := Ext.size E0
        refine region_go [.one fun v _ => v = .agg #[.bool b1, .slice a1 n1 c1, .slice d1 m1 o1],
            .one fun v _ => v = .agg #[.bool b2, .slice a2 n2 c2, .slice d2 m2 o2],
            .one fun v W => Rw W v (x * 0),
            .one fun v _ => v = .agg #[.bool b2, .slice a2 n2 c2, .slice d2 m2 o2],
            .one fun v _ => v = .tuple #[.agg #[.bool false, .slice none 0 0, .slice none 0 0], .int .i64 4],
            .one fun v _ => v = .tuple #[.agg #[.bool false, .slice none 0 0, .slice none 0 0], .int .i64 4],
            .one fun v _ => v = .agg #[.bool false, .slice none 0 0, .slice none 0 0],
            .one fun v _ => v = .int .i64 4,
            .one fun v W => ∃ g, v = .pointer (some ⟨g, 0, none⟩) ∧ Wf1.heap.size ≤ g ∧ Form W g 35 3,
            .two 8 (fun p _ W => New3 Wf1.heap.size 35 (.bool false) (.slice none 0 0) (.slice none 0 0) p W),
            .one fun v _ => v = .int .i64 4]
          (fun W => Ext w W ∧ Bx3 W w.heap.size 35 (.bool b1) (.slice a1 n1 c1) (.slice d1 m1 o1) ∧ Bx3 W (w.heap.size + 1) 35 (.bool b2) (.slice a2 n2 c2) (.slice d2 m2 o2) ∧ Rw W (.agg #[.bool b1, .slice a1 n1 c1, .slice d1 m1 o1]) x ∧ Rw W (.agg #[.bool b2, .slice a2 n2 c2, .slice d2 m2 o2]) 0 ∧ Wf1.heap.size ≤ W.heap.size) ⟨Good.is _, Good.is _, Good.rat _, Good.is _, Good.is _, Good.is _, Good.is _, Good.is _, Good.box _ _ _, cert_new3, Good.is _, trivial⟩
          (fun W W1 hS hE => ⟨(Ext.trans hS.1 hE), (hS.2.1.ext hE), (hS.2.2.1.ext hE), (hS.2.2.2.1.ext hE), (hS.2.2.2.2.1.ext hE), (Nat.le_trans hS.2.2.2.2.2 (Ext.size hE))⟩) ⟨E0, p2, p3, hx1, hx2, Nat.le_refl _⟩ (by kernel_rfl) (by kernel_rfl) (by kernel_rfl) (by kernel_rfl) (A := ?A1) ?hA1 ?howe1 ?hfin1
        case hA1 =>
          intro vs
          simp only [putAll, Act.put, List.setIfInBounds_toArray, List.set_cons_zero, List.set_cons_succ, Nat.zero_add, Nat.reduceAdd]
          exact rfl
        case howe1 =>
          clear E0 p2 p3 hx1 hx2
          intro hf
          refine ⟨owesE 0 [] hf rfl (by kernel_rfl) ?_, owesE 1 [] hf rfl (by kernel_rfl) ?_, owesE 2 [0, 1] hf rfl (by kernel_rfl) ?_, owesE 3 [] hf rfl (by kernel_rfl) ?_, owesE 4 [2, 3] hf rfl (by kernel_rfl) ?_, owesE 5 [4] hf rfl (by kernel_rfl) ?_, owesE 6 [5] hf rfl (by kernel_rfl) ?_, owesE 7 [5] hf rfl (by kernel_rfl) ?_, owesE 8 [] hf rfl (by kernel_rfl) ?_, owesW 9 [8, 6] hf rfl (by kernel_rfl) (by kernel_rfl) ?_, owesE 10 [7] hf rfl (by kernel_rfl) ?_, trivial⟩
          all_goals intro vs W hS hp hx KO hKO
          all_goals simp only [Act.put, List.setIfInBounds_toArray, List.set_cons_zero, List.set_cons_succ] at hKO
          · have fc0 := hS.2.1.cell0
            have fc1 := hS.2.1.cell1
            have fc2 := hS.2.1.cell2
            go_simp
            exact hKO _ W (Ext.refl W) rfl
          · have fc0 := hS.2.2.1.cell0
            have fc1 := hS.2.2.1.cell1
            have fc2 := hS.2.2.1.cell2
            go_simp
            exact hKO _ W (Ext.refl W) rfl
          · have e0 := isOf hp.1
            have e1 := isOf hp.2.1
            simp only [e0, e1] at hKO
            go_simp
            refine (Try.ratMul (hS.2.2.2.1) (hS.2.2.2.2.1) s1 s2 (by omega)).mono ?_
            rintro e W1 ⟨v, rfl, hv, hE⟩
            exact hKO _ W1 hE hv
          · have fc0 := hS.2.2.1.cell0
            have fc1 := hS.2.2.1.cell1
            have fc2 := hS.2.2.1.cell2
            go_simp
            exact hKO _ W (Ext.refl W) rfl
          · have q2 := hp.1
            have e3 := isOf hp.2.1
            simp only [e3] at hKO
            go_simp
            refine (Try.ratDiv0 q2 (hS.2.2.2.2.1) SM.out (by omega)).mono ?_
            rintro e W1 ⟨rfl, hE⟩
            exact hKO _ W1 hE rfl
          · have e4 := isOf hp.1
            simp only [e4] at hKO
            go_simp
            exact hKO _ W (Ext.refl W) rfl
          · have e5 := isOf hp.1
            simp only [e5] at hKO
            go_simp
            exact hKO _ W (Ext.refl W) rfl
          · have e5 := isOf hp.1
            simp only [e5] at hKO
            go_simp
            exact hKO _ W (Ext.refl W) rfl
          · have hn := Bx3.new W 35 (.bool false) (.slice none 0 0) (.slice none 0 0)
            have hE := Ext.alloc1 W (.cells #[.bool false, .slice none 0 0, .slice none 0 0] 35)
            have hsz := hS.2.2.2.2.2
            go_simp
            exact hKO _ _ hE ⟨_, rfl, hsz, hn.form⟩
          · have q8 := hp.1
            have e6 := isOf hp.2.1
            simp only [e6] at hKO
            obtain ⟨g, ev, hg, hf⟩ := q8
            replace ev : vs 8 = _ := ev
            obtain ⟨x0, y0, z0, hx, hno⟩ := hf.bx3
            have r0 := hx.froz0
            have t0 := hx.cell0
            have r1 := hx.froz1
            have t1 := hx.cell1
            have r2 := hx.froz2
            have t2 := hx.cell2
            have hw := Wr.set3 hx hno false none 0 0 none 0 0
            have hq := hx.set (.bool false) (.slice none 0 0) (.slice none 0 0)
            simp only [ev] at hKO
            go_simp
            exact hKO _ _ hw ⟨(Ext.wr hS.1 hw (by omega)), (hS.2.1.wr hw (by omega)), (hS.2.2.1.wr hw (by omega)), (hS.2.2.2.1.wr hw), (hS.2.2.2.2.1.wr hw), (Nat.le_trans hS.2.2.2.2.2 hw.apart.size)⟩ ⟨g, ev, hg, hq⟩
          · have e7 := isOf hp.1
            simp only [e7] at hKO
            go_simp
            exact hKO _ W (Ext.refl W) rfl
        intro vs W1 hS hp
        clear szw1 E0 p2 p3 hx1 hx2
        obtain ⟨E0, p2, p3, hx1, hx2, sz1⟩ := hS
        obtain ⟨h1_0, h1_1, h1_2, h1_3, h1_4, h1_5, h1_6, h1_7, h1_8, h1_9, h1_10, -⟩ := hp
        obtain ⟨g1_9, ev1_9, hg1_9, p1_9⟩ := h1_9
        replace ev1_9 : vs 8 = _ := ev1_9
        replace h1_0 : vs 0 = .agg #[.bool b1, .slice a1 n1 c1, .slice d1 m1 o1] := h1_0
        replace h1_1 : vs 1 = .agg #[.bool b2, .slice a2 n2 c2, .slice d2 m2 o2] := h1_1
        replace h1_3 : vs 3 = .agg #[.bool b2, .slice a2 n2 c2, .slice d2 m2 o2] := h1_3
        replace h1_4 : vs 4 = .tuple #[.agg #[.bool false, .slice none 0 0, .slice none 0 0], .int .i64 4] := h1_4
        replace h1_5 : vs 5 = .tuple #[.agg #[.bool false, .slice none 0 0, .slice none 0 0], .int .i64 4] := h1_5
        replace h1_6 : vs 6 = .agg #[.bool false, .slice none 0 0, .slice none 0 0] := h1_6
        replace h1_7 : vs 7 = .int .i64 4 := h1_7
        replace h1_10 : vs 10 = .int .i64 4 := h1_10
        simp only [ev1_9, h1_0, h1_1, h1_3, h1_4, h1_5, h1_6, h1_7, h1_10]
        replace h1_2 : Rw W1 (vs 2) (x * 0) := h1_2
        generalize vs 2 = u1_2 at h1_2 ⊢
        clear ev1_9 h1_0 h1_1 h1_3 h1_4 h1_5 h1_6 h1_7 h1_10 h1_8
        have kp2_0 := p2.cell0
        have kp2_1 := p2.cell1
        have kp2_2 := p2.cell2
        have kp3_0 := p3.cell0
        have kp3_1 := p3.cell1
        have kp3_2 := p3.cell2
        have kp1_9_0 := p1_9.cell0
        have kp1_9_1 := p1_9.cell1
        have kp1_9_2 := p1_9.cell2
        go_upto_region 4 with (fail)
        clear kp2_0 kp2_1 kp2_2 kp3_0 kp3_1 kp3_2 kp1_9_0 kp1_9_1 kp1_9_2
        have ltp1_9 := p1_9.lt
        have szw2 := Ext.size E0
        refine region_go [.one fun v _ => v = .agg #[.bool b1, .slice a1 n1 c1, .slice d1 m1 o1],
            .one fun v _ => v = .agg #[.bool b2, .slice a2 n2 c2, .slice d2 m2 o2],
            .one fun v W => Rw W v (x + 0),
            .one fun v _ => v = .agg #[.bool b2, .slice a2 n2 c2, .slice d2 m2 o2],
            .one fun v W => Rw W v (x + 0 - 0),
            .one fun v _ => v = .agg #[.bool b1, .slice a1 n1 c1, .slice d1 m1 o1],
            .one fun v _ => v = .bool true,
            .one fun v _ => v = .bool false,
            .one fun v _ => v = .bool false,
            .one fun v _ => v = .agg #[.bool b1, .slice a1 n1 c1, .slice d1 m1 o1],
            .one fun v W => Rw W v (((0 : Int) : Rat)),
            .one fun v W => Rw W v (x - ((0 : Int) : Rat)),
            .one fun v _ => v = .agg #[.bool b1, .slice a1 n1 c1, .slice d1 m1 o1],
            .one fun v _ => v = .bool true,
            .one fun v _ => v = .bool false,
            .one fun v _ => v = .bool false,
            .one fun v _ => v = .bool false,
            .one fun v _ => v = .agg #[.bool b1, .slice a1 n1 c1, .slice d1 m1 o1],
            .one fun v W => Rw W v (((1 : Int) : Rat)),
            .one fun v W => Rw W v (x * ((1 : Int) : Rat)),
            .one fun v _ => v = .agg #[.bool b1, .slice a1 n1 c1, .slice d1 m1 o1],
            .one fun v _ => v = .bool true,
            .one fun v _ => v = .bool false,
            .one fun v _ => v = .bool false]
          (fun W => Ext w W ∧ Bx3 W w.heap.size 35 (.bool b1) (.slice a1 n1 c1) (.slice d1 m1 o1) ∧ Bx3 W (w.heap.size + 1) 35 (.bool b2) (.slice a2 n2 c2) (.slice d2 m2 o2) ∧ Rw W (.agg #[.bool b1, .slice a1 n1 c1, .slice d1 m1 o1]) x ∧ Rw W (.agg #[.bool b2, .slice a2 n2 c2, .slice d2 m2 o2]) 0 ∧ Bx3 W g1_9 35 (.bool false) (.slice none 0 0) (.slice none 0 0) ∧ Rw W u1_2 (x * 0) ∧ W1.heap.size ≤ W.heap.size) ⟨Good.is _, Good.is _, Good.rat _, Good.is _, Good.rat _, Good.is _, Good.is _, Good.is _, Good.is _, Good.is _, Good.rat _, Good.rat _, Good.is _, Good.is _, Good.is _, Good.is _, Good.is _, Good.is _, Good.rat _, Good.rat _, Good.is _, Good.is _, Good.is _, Good.is _, trivial⟩
          (fun W W1 hS hE => ⟨(Ext.trans hS.1 hE), (hS.2.1.ext hE), (hS.2.2.1.ext hE), (hS.2.2.2.1.ext hE), (hS.2.2.2.2.1.ext hE), (hS.2.2.2.2.2.1.ext hE), (hS.2.2.2.2.2.2.1.ext hE), (Nat.le_trans hS.2.2.2.2.2.2.2 (Ext.size hE))⟩) ⟨E0, p2, p3, hx1, hx2, p1_9, h1_2, Nat.le_refl _⟩ (by kernel_rfl) (by kernel_rfl) (by kernel_rfl) (by kernel_rfl) (A := ?A2) ?hA2 ?howe2 ?hfin2
        case hA2 =>
          intro vs
          simp only [putAll, Act.put, List.setIfInBounds_toArray, List.set_cons_zero, List.set_cons_succ, Nat.zero_add, Nat.reduceAdd]
          exact rfl
        case howe2 =>
          clear E0 p2 p3 hx1 hx2 p1_9 h1_2
          intro hf
          refine ⟨owesE 0 [] hf rfl (by kernel_rfl) ?_, owesE 1 [] hf rfl (by kernel_rfl) ?_, owesE 2 [0, 1] hf rfl (by kernel_rfl) ?_, owesE 3 [] hf rfl (by kernel_rfl) ?_, owesE 4 [2, 3] hf rfl (by kernel_rfl) ?_, owesE 5 [] hf rfl (by kernel_rfl) ?_, owesE 6 [4, 5] hf rfl (by kernel_rfl) ?_, owesE 7 [6] hf rfl (by kernel_rfl) ?_, owesE 8 [7] hf rfl (by kernel_rfl) ?_, owesE 9 [8] hf rfl (by kernel_rfl) ?_, owesE 10 [8] hf rfl (by kernel_rfl) ?_, owesE 11 [8, 9, 10] hf rfl (by kernel_rfl) ?_, owesE 12 [8] hf rfl (by kernel_rfl) ?_, owesE 13 [8, 11, 12] hf rfl (by kernel_rfl) ?_, owesE 14 [8, 13] hf rfl (by kernel_rfl) ?_, owesE 15 [8, 14] hf rfl (by kernel_rfl) ?_, owesE 16 [15] hf rfl (by kernel_rfl) ?_, owesE 17 [16] hf rfl (by kernel_rfl) ?_, owesE 18 [16] hf rfl (by kernel_rfl) ?_, owesE 19 [16, 17, 18] hf rfl (by kernel_rfl) ?_, owesE 20 [16] hf rfl (by kernel_rfl) ?_, owesE 21 [16, 19, 20] hf rfl (by kernel_rfl) ?_, owesE 22 [16, 21] hf rfl (by kernel_rfl) ?_, owesE 23 [16, 22] hf rfl (by kernel_rfl) ?_, trivial⟩
          all_goals intro vs W hS hp hx KO hKO
          all_goals simp only [Act.put, List.setIfInBounds_toArray, List.set_cons_zero, List.set_cons_succ] at hKO
          · have fc0 := hS.2.1.cell0
            have fc1 := hS.2.1.cell1
            have fc2 := hS.2.1.cell2
            go_simp
            exact hKO _ W (Ext.refl W) rfl
          · have fc0 := hS.2.2.1.cell0
            have fc1 := hS.2.2.1.cell1
            have fc2 := hS.2.2.1.cell2
            go_simp
            exact hKO _ W (Ext.refl W) rfl
          · have e0 := isOf hp.1
            have e1 := isOf hp.2.1
            simp only [e0, e1] at hKO
            go_simp
            refine (Try.ratAdd (hS.2.2.2.1) (hS.2.2.2.2.1) s1 s2 (by omega)).mono ?_
            rintro e W1 ⟨v, rfl, hv, hE⟩
            exact hKO _ W1 hE hv
          · have fc0 := hS.2.2.1.cell0
            have fc1 := hS.2.2.1.cell1
            have fc2 := hS.2.2.1.cell2
            go_simp
            exact hKO _ W (Ext.refl W) rfl
          · have q2 := hp.1
            have e3 := isOf hp.2.1
            simp only [e3] at hKO
            go_simp
            refine (Try.ratSub q2 (hS.2.2.2.2.1) SA.out (s2.mono (by omega)) (by omega)).mono ?_
            rintro e W1 ⟨v, rfl, hv, hE⟩
            exact hKO _ W1 hE hv
          · have fc0 := hS.2.1.cell0
            have fc1 := hS.2.1.cell1
            have fc2 := hS.2.1.cell2
            go_simp
            exact hKO _ W (Ext.refl W) rfl
          · have q4 := hp.1
            have e5 := isOf hp.2.1
            simp only [e5] at hKO
            go_simp
            refine (Try.refRSameT q4 (hS.2.2.2.1) E1.out).mono ?_
            rintro e W1 ⟨rfl, hE⟩
            exact hKO _ W1 hE rfl
          · have e6 := isOf hp.1
            simp only [e6] at hKO
            go_simp
            exact hKO _ W (Ext.refl W) rfl
          · have e7 := isOf hp.1
            simp only [e7] at hKO
            go_simp
            exact hKO _ W (Ext.refl W) rfl
          · have e8 := isOf hp.1
            simp only [e8] at hKO
            have fc0 := hS.2.1.cell0
            have fc1 := hS.2.1.cell1
            have fc2 := hS.2.1.cell2
            go_simp
            exact hKO _ W (Ext.refl W) rfl
          · have e8 := isOf hp.1
            simp only [e8] at hKO
            go_simp
            refine (Try.ratOf 0 _ (by omega) (by omega)).mono ?_
            rintro e W1 ⟨v, rfl, hv, hE⟩
            exact hKO _ W1 hE hv
          · have e8 := isOf hp.1
            have e9 := isOf hp.2.1
            have q10 := hp.2.2.1
            simp only [e8, e9] at hKO
            go_simp
            refine (Try.ratSub (hS.2.2.2.1) q10 s1 S0.out (by omega)).mono ?_
            rintro e W1 ⟨v, rfl, hv, hE⟩
            exact hKO _ W1 hE hv
          · have e8 := isOf hp.1
            simp only [e8] at hKO
            have fc0 := hS.2.1.cell0
            have fc1 := hS.2.1.cell1
            have fc2 := hS.2.1.cell2
            go_simp
            exact hKO _ W (Ext.refl W) rfl
          · have e8 := isOf hp.1
            have q11 := hp.2.1
            have e12 := isOf hp.2.2.1
            simp only [e8, e12] at hKO
            go_simp
            refine (Try.refRSameT q11 (hS.2.2.2.1) E2.out).mono ?_
            rintro e W1 ⟨rfl, hE⟩
            exact hKO _ W1 hE rfl
          · have e8 := isOf hp.1
            have e13 := isOf hp.2.1
            simp only [e8, e13] at hKO
            go_simp
            exact hKO _ W (Ext.refl W) rfl
          · have e8 := isOf hp.1
            have e14 := isOf hp.2.1
            simp only [e8, e14] at hKO
            go_simp
            exact hKO _ W (Ext.refl W) rfl
          · have e15 := isOf hp.1
            simp only [e15] at hKO
            go_simp
            exact hKO _ W (Ext.refl W) rfl
          · have e16 := isOf hp.1
            simp only [e16] at hKO
            have fc0 := hS.2.1.cell0
            have fc1 := hS.2.1.cell1
            have fc2 := hS.2.1.cell2
            go_simp
            exact hKO _ W (Ext.refl W) rfl
          · have e16 := isOf hp.1
            simp only [e16] at hKO
            go_simp
            refine (Try.ratOf 1 _ (by omega) (by omega)).mono ?_
            rintro e W1 ⟨v, rfl, hv, hE⟩
            exact hKO _ W1 hE hv
          · have e16 := isOf hp.1
            have e17 := isOf hp.2.1
            have q18 := hp.2.2.1
            simp only [e16, e17] at hKO
            go_simp
            refine (Try.ratMul (hS.2.2.2.1) q18 s1 S1.out (by omega)).mono ?_
            rintro e W1 ⟨v, rfl, hv, hE⟩
            exact hKO _ W1 hE hv
          · have e16 := isOf hp.1
            simp only [e16] at hKO
            have fc0 := hS.2.1.cell0
            have fc1 := hS.2.1.cell1
            have fc2 := hS.2.1.cell2
            go_simp
            exact hKO _ W (Ext.refl W) rfl
          · have e16 := isOf hp.1
            have q19 := hp.2.1
            have e20 := isOf hp.2.2.1
            simp only [e16, e20] at hKO
            go_simp
            refine (Try.refRSameT q19 (hS.2.2.2.1) E3.out).mono ?_
            rintro e W1 ⟨rfl, hE⟩
            exact hKO _ W1 hE rfl
          · have e16 := isOf hp.1
            have e21 := isOf hp.2.1
            simp only [e16, e21] at hKO
            go_simp
            exact hKO _ W (Ext.refl W) rfl
          · have e16 := isOf hp.1
            have e22 := isOf hp.2.1
            simp only [e16, e22] at hKO
            go_simp
            exact hKO _ W (Ext.refl W) rfl
        intro vs W2 hS hp
        clear szw2 E0 p2 p3 hx1 hx2 p1_9 h1_2
        obtain ⟨E0, p2, p3, hx1, hx2, p1_9, h1_2, sz2⟩ := hS
        obtain ⟨h2_0, h2_1, h2_2, h2_3, h2_4, h2_5, h2_6, h2_7, h2_8, h2_9, h2_10, h2_11, h2_12, h2_13, h2_14, h2_15, h2_16, h2_17, h2_18, h2_19, h2_20, h2_21, h2_22, h2_23, -⟩ := hp
        replace h2_0 : vs 0 = .agg #[.bool b1, .slice a1 n1 c1, .slice d1 m1 o1] := h2_0
        replace h2_1 : vs 1 = .agg #[.bool b2, .slice a2 n2 c2, .slice d2 m2 o2] := h2_1
        replace h2_3 : vs 3 = .agg #[.bool b2, .slice a2 n2 c2, .slice d2 m2 o2] := h2_3
        replace h2_5 : vs 5 = .agg #[.bool b1, .slice a1 n1 c1, .slice d1 m1 o1] := h2_5
        replace h2_6 : vs 6 = .bool true := h2_6
        replace h2_7 : vs 7 = .bool false := h2_7
        replace h2_8 : vs 8 = .bool false := h2_8
        replace h2_9 : vs 9 = .agg #[.bool b1, .slice a1 n1 c1, .slice d1 m1 o1] := h2_9
        replace h2_12 : vs 12 = .agg #[.bool b1, .slice a1 n1 c1, .slice d1 m1 o1] := h2_12
        replace h2_13 : vs 13 = .bool true := h2_13
        replace h2_14 : vs 14 = .bool false := h2_14
        replace h2_15 : vs 15 = .bool false := h2_15
        replace h2_16 : vs 16 = .bool false := h2_16
        replace h2_17 : vs 17 = .agg #[.bool b1, .slice a1 n1 c1, .slice d1 m1 o1] := h2_17
        replace h2_20 : vs 20 = .agg #[.bool b1, .slice a1 n1 c1, .slice d1 m1 o1] := h2_20
        replace h2_21 : vs 21 = .bool true := h2_21
        replace h2_22 : vs 22 = .bool false := h2_22
        replace h2_23 : vs 23 = .bool false := h2_23
        simp only [h2_0, h2_1, h2_3, h2_5, h2_6, h2_7, h2_8, h2_9, h2_12, h2_13, h2_14, h2_15, h2_16, h2_17, h2_20, h2_21, h2_22, h2_23]
        replace h2_2 : Rw W2 (vs 2) (x + 0) := h2_2
        generalize vs 2 = u2_2 at h2_2 ⊢
        replace h2_4 : Rw W2 (vs 4) (x + 0 - 0) := h2_4
        generalize vs 4 = u2_4 at h2_4 ⊢
        replace h2_10 : Rw W2 (vs 10) (((0 : Int) : Rat)) := h2_10
        generalize vs 10 = u2_10 at h2_10 ⊢
        replace h2_11 : Rw W2 (vs 11) (x - ((0 : Int) : Rat)) := h2_11
        generalize vs 11 = u2_11 at h2_11 ⊢
        replace h2_18 : Rw W2 (vs 18) (((1 : Int) : Rat)) := h2_18
        generalize vs 18 = u2_18 at h2_18 ⊢
        replace h2_19 : Rw W2 (vs 19) (x * ((1 : Int) : Rat)) := h2_19
        generalize vs 19 = u2_19 at h2_19 ⊢
        clear h2_0 h2_1 h2_3 h2_5 h2_6 h2_7 h2_8 h2_9 h2_12 h2_13 h2_14 h2_15 h2_16 h2_17 h2_20 h2_21 h2_22 h2_23
        have kp2_0 := p2.cell0
        have kp2_1 := p2.cell1
        have kp2_2 := p2.cell2
        have kp3_0 := p3.cell0
        have kp3_1 := p3.cell1
        have kp3_2 := p3.cell2
        have kp1_9_0 := p1_9.cell0
        have kp1_9_1 := p1_9.cell1
        have kp1_9_2 := p1_9.cell2
        go_upto_region 7 with (fail)
        clear kp2_0 kp2_1 kp2_2 kp3_0 kp3_1 kp3_2 kp1_9_0 kp1_9_1 kp1_9_2
        have szw3 := Ext.size E0
        refine region_go [.one fun v _ => v = .bool true,
            .one fun v _ => v = .bool true,
            .one fun v _ => v = .int .i64 4,
            .one fun v _ => v = .bool true,
            .one fun v _ => v = .bool true,
            .one fun v _ => v = .bool true,
            .one fun v _ => v = .agg #[.bool false, .slice none 0 0, .slice none 0 0],
            .one fun v _ => v = .agg #[.bool false, .slice none 0 0, .slice none 0 0],
            .one fun v _ => v = .bool true,
            .one fun v _ => v = .bool true,
            .one fun v _ => v = .bool true]
          (fun W => Ext w W ∧ Bx3 W w.heap.size 35 (.bool b1) (.slice a1 n1 c1) (.slice d1 m1 o1) ∧ Bx3 W (w.heap.size + 1) 35 (.bool b2) (.slice a2 n2 c2) (.slice d2 m2 o2) ∧ Rw W (.agg #[.bool b1, .slice a1 n1 c1, .slice d1 m1 o1]) x ∧ Rw W (.agg #[.bool b2, .slice a2 n2 c2, .slice d2 m2 o2]) 0 ∧ Bx3 W g1_9 35 (.bool false) (.slice none 0 0) (.slice none 0 0) ∧ Rw W u1_2 (x * 0) ∧ Rw W u2_2 (x + 0) ∧ Rw W u2_4 (x + 0 - 0) ∧ Rw W u2_10 (((0 : Int) : Rat)) ∧ Rw W u2_11 (x - ((0 : Int) : Rat)) ∧ Rw W u2_18 (((1 : Int) : Rat)) ∧ Rw W u2_19 (x * ((1 : Int) : Rat)) ∧ W2.heap.size ≤ W.heap.size) ⟨Good.is _, Good.is _, Good.is _, Good.is _, Good.is _, Good.is _, Good.is _, Good.is _, Good.is _, Good.is _, Good.is _, trivial⟩
          (fun W W1 hS hE => ⟨(Ext.trans hS.1 hE), (hS.2.1.ext hE), (hS.2.2.1.ext hE), (hS.2.2.2.1.ext hE), (hS.2.2.2.2.1.ext hE), (hS.2.2.2.2.2.1.ext hE), (hS.2.2.2.2.2.2.1.ext hE), (hS.2.2.2.2.2.2.2.1.ext hE), (hS.2.2.2.2.2.2.2.2.1.ext hE), (hS.2.2.2.2.2.2.2.2.2.1.ext hE), (hS.2.2.2.2.2.2.2.2.2.2.1.ext hE), (hS.2.2.2.2.2.2.2.2.2.2.2.1.ext hE), (hS.2.2.2.2.2.2.2.2.2.2.2.2.1.ext hE), (Nat.le_trans hS.2.2.2.2.2.2.2.2.2.2.2.2.2 (Ext.size hE))⟩) ⟨E0, p2, p3, hx1, hx2, p1_9, h1_2, h2_2, h2_4, h2_10, h2_11, h2_18, h2_19, Nat.le_refl _⟩ (by kernel_rfl) (by kernel_rfl) (by kernel_rfl) (by kernel_rfl) (A := ?A3) ?hA3 ?howe3 ?hfin3
        case hA3 =>
          intro vs
          simp only [putAll, Act.put, List.setIfInBounds_toArray, List.set_cons_zero, List.set_cons_succ, Nat.zero_add, Nat.reduceAdd]
          exact rfl
        case howe3 =>
          clear E0 p2 p3 hx1 hx2 p1_9 h1_2 h2_2 h2_4 h2_10 h2_11 h2_18 h2_19
          intro hf
          refine ⟨owesE 0 [] hf rfl (by kernel_rfl) ?_, owesE 1 [0] hf rfl (by kernel_rfl) ?_, owesE 2 [1] hf rfl (by kernel_rfl) ?_, owesE 3 [1, 2] hf rfl (by kernel_rfl) ?_, owesE 4 [1, 3] hf rfl (by kernel_rfl) ?_, owesE 5 [4] hf rfl (by kernel_rfl) ?_, owesE 6 [5] hf rfl (by kernel_rfl) ?_, owesE 7 [5] hf rfl (by kernel_rfl) ?_, owesE 8 [5, 6, 7] hf rfl (by kernel_rfl) ?_, owesE 9 [5, 8] hf rfl (by kernel_rfl) ?_, owesE 10 [9] hf rfl (by kernel_rfl) ?_, trivial⟩
          all_goals intro vs W hS hp hx KO hKO
          all_goals simp only [Act.put, List.setIfInBounds_toArray, List.set_cons_zero, List.set_cons_succ] at hKO
          · go_simp
            refine (Try.alive05 _).mono ?_
            rintro e W1 ⟨rfl, hE⟩
            exact hKO _ W1 hE rfl
          · have e0 := isOf hp.1
            simp only [e0] at hKO
            go_simp
            exact hKO _ W (Ext.refl W) rfl
          · have e1 := isOf hp.1
            simp only [e1] at hKO
            go_simp
            exact hKO _ W (Ext.refl W) rfl
          · have e1 := isOf hp.1
            have e2 := isOf hp.2.1
            simp only [e1, e2] at hKO
            go_simp
            exact hKO _ W (Ext.refl W) rfl
          · have e1 := isOf hp.1
            have e3 := isOf hp.2.1
            simp only [e1, e3] at hKO
            go_simp
            exact hKO _ W (Ext.refl W) rfl
          · have e4 := isOf hp.1
            simp only [e4] at hKO
            go_simp
            exact hKO _ W (Ext.refl W) rfl
          · have e5 := isOf hp.1
            simp only [e5] at hKO
            have fc0 := hS.2.2.2.2.2.1.cell0
            have fc1 := hS.2.2.2.2.2.1.cell1
            have fc2 := hS.2.2.2.2.2.1.cell2
            go_simp
            exact hKO _ W (Ext.refl W) rfl
          · have e5 := isOf hp.1
            simp only [e5] at hKO
            go_simp
            exact hKO _ W (Ext.refl W) rfl
          · have e5 := isOf hp.1
            have e6 := isOf hp.2.1
            have e7 := isOf hp.2.2.1
            simp only [e5, e6, e7] at hKO
            go_simp
            refine (Try.refRSame0 _).mono ?_
            rintro e W1 ⟨rfl, hE⟩
            exact hKO _ W1 hE rfl
          · have e5 := isOf hp.1
            have e8 := isOf hp.2.1
            simp only [e5, e8] at hKO
            go_simp
            exact hKO _ W (Ext.refl W) rfl
          · have e9 := isOf hp.1
            simp only [e9] at hKO
            go_simp
            exact hKO _ W (Ext.refl W) rfl
        intro vs W3 hS hp
        clear szw3 E0 p2 p3 hx1 hx2 p1_9 h1_2 h2_2 h2_4 h2_10 h2_11 h2_18 h2_19
        obtain ⟨E0, p2, p3, hx1, hx2, p1_9, h1_2, h2_2, h2_4, h2_10, h2_11, h2_18, h2_19, sz3⟩ := hS
        obtain ⟨h3_0, h3_1, h3_2, h3_3, h3_4, h3_5, h3_6, h3_7, h3_8, h3_9, h3_10, -⟩ := hp
        replace h3_0 : vs 0 = .bool true := h3_0
        replace h3_1 : vs 1 = .bool true := h3_1
        replace h3_2 : vs 2 = .int .i64 4 := h3_2
        replace h3_3 : vs 3 = .bool true := h3_3
        replace h3_4 : vs 4 = .bool true := h3_4
        replace h3_5 : vs 5 = .bool true := h3_5
        replace h3_6 : vs 6 = .agg #[.bool false, .slice none 0 0, .slice none 0 0] := h3_6
        replace h3_7 : vs 7 = .agg #[.bool false, .slice none 0 0, .slice none 0 0] := h3_7
        replace h3_8 : vs 8 = .bool true := h3_8
        replace h3_9 : vs 9 = .bool true := h3_9
        replace h3_10 : vs 10 = .bool true := h3_10
        simp only [h3_0, h3_1, h3_2, h3_3, h3_4, h3_5, h3_6, h3_7, h3_8, h3_9, h3_10]
        clear h3_0 h3_1 h3_2 h3_3 h3_4 h3_5 h3_6 h3_7 h3_8 h3_9 h3_10
        have kp2_0 := p2.cell0
        have kp2_1 := p2.cell1
        have kp2_2 := p2.cell2
        have kp3_0 := p3.cell0
        have kp3_1 := p3.cell1
        have kp3_2 := p3.cell2
        have kp1_9_0 := p1_9.cell0
        have kp1_9_1 := p1_9.cell1
        have kp1_9_2 := p1_9.cell2
        go_wp2
        go_ret
        exact ⟨rfl, E0⟩
      · have hm2 : ((n2 : Int) == 0) = false := beq_eq_false_iff_ne.2 (by have : y.num ≠ 0 := fun e => hy (Rat.num_eq_zero.1 e); have := mt hz0.1 (by omega); omega)
        have HY := Lib.hid hy
        clear hz0 hy
        have SM : Hid (SmR 8 (x * y)) := Lib.hid (s1.mul s2)
        have SA : Hid (SmR 9 (x + y)) := Lib.hid (s1.add s2)
        have S0 : Hid (SmR 4 ((0 : Int) : Rat)) := Lib.hid ((SmR.int (by omega)).mono (by omega))
        have S1 : Hid (SmR 4 ((1 : Int) : Rat)) := Lib.hid ((SmR.int (by omega)).mono (by omega))
        have E1 : Hid (x + y - y = x) := Lib.hid (by grind)
        have E2 : Hid (x - ((0 : Int) : Rat) = x) := Lib.hid (by rw [show ((0 : Int) : Rat) = 0 from rfl]; grind)
        have E3 : Hid (x * ((1 : Int) : Rat) = x) := Lib.hid (by rw [show ((1 : Int) : Rat) = 1 from rfl]; grind)
        have E4 : Hid (x * y / y = x) := Lib.hid (Rat.mul_div_cancel HY.out)
        have kp2_0 := p2.cell0
        have kp2_1 := p2.cell1
        have kp2_2 := p2.cell2
        have kp3_0 := p3.cell0
        have kp3_1 := p3.cell1
        have kp3_2 := p3.cell2
        go_upto_region 3 with (fail)
        clear kp2_0 kp2_1 kp2_2 kp3_0 kp3_1 kp3_2
        have ltp2 := p2.lt
        have ltp3 := p3.lt
        have szw4 := Ext.size E0
        refine region_go [.one fun v _ => v = .agg #[.bool b1, .slice a1 n1 c1, .slice d1 m1 o1],
            .one fun v _ => v = .agg #[.bool b2, .slice a2 n2 c2, .slice d2 m2 o2],
            .one fun v W => Rw W v (x * y),
            .one fun v _ => v = .agg #[.bool b2, .slice a2 n2 c2, .slice d2 m2 o2],
            .one fun v W => ∃ v', v = .tuple #[v', .int .i64 0] ∧ (fun v W => Rw W v (x * y / y)) v' W,
            .one fun v W => ∃ v', v = .tuple #[v', .int .i64 0] ∧ (fun v W => Rw W v (x * y / y)) v' W,
            .one fun v W => Rw W v (x * y / y),
            .one fun v _ => v = .int .i64 0,
            .one fun v W => ∃ g, v = .pointer (some ⟨g, 0, none⟩) ∧ Wf1.heap.size ≤ g ∧ Form W g 35 3,
            .three 8 6 (fun p r _ W => Put3 Wf1.heap.size 35 p r W),
            .one fun v _ => v = .int .i64 0]
          (fun W => Ext w W ∧ Bx3 W w.heap.size 35 (.bool b1) (.slice a1 n1 c1) (.slice d1 m1 o1) ∧ Bx3 W (w.heap.size + 1) 35 (.bool b2) (.slice a2 n2 c2) (.slice d2 m2 o2) ∧ Rw W (.agg #[.bool b1, .slice a1 n1 c1, .slice d1 m1 o1]) x ∧ Rw W (.agg #[.bool b2, .slice a2 n2 c2, .slice d2 m2 o2]) y ∧ Wf1.heap.size ≤ W.heap.size) ⟨Good.is _, Good.is _, Good.rat _, Good.is _, (Good.rat _).tup _, (Good.rat _).tup _, Good.rat _, Good.is _, Good.box _ _ _, cert_put3, Good.is _, trivial⟩
          (fun W W1 hS hE => ⟨(Ext.trans hS.1 hE), (hS.2.1.ext hE), (hS.2.2.1.ext hE), (hS.2.2.2.1.ext hE), (hS.2.2.2.2.1.ext hE), (Nat.le_trans hS.2.2.2.2.2 (Ext.size hE))⟩) ⟨E0, p2, p3, hx1, hx2, Nat.le_refl _⟩ (by kernel_rfl) (by kernel_rfl) (by kernel_rfl) (by kernel_rfl) (A := ?A4) ?hA4 ?howe4 ?hfin4
        case hA4 =>
          intro vs
          simp only [putAll, Act.put, List.setIfInBounds_toArray, List.set_cons_zero, List.set_cons_succ, Nat.zero_add, Nat.reduceAdd]
          exact rfl
        case howe4 =>
          clear E0 p2 p3 hx1 hx2
          intro hf
          refine ⟨owesE 0 [] hf rfl (by kernel_rfl) ?_, owesE 1 [] hf rfl (by kernel_rfl) ?_, owesE 2 [0, 1] hf rfl (by kernel_rfl) ?_, owesE 3 [] hf rfl (by kernel_rfl) ?_, owesE 4 [2, 3] hf rfl (by kernel_rfl) ?_, owesE 5 [4] hf rfl (by kernel_rfl) ?_, owesE 6 [5] hf rfl (by kernel_rfl) ?_, owesE 7 [5] hf rfl (by kernel_rfl) ?_, owesE 8 [] hf rfl (by kernel_rfl) ?_, owesW 9 [8, 6] hf rfl (by kernel_rfl) (by kernel_rfl) ?_, owesE 10 [7] hf rfl (by kernel_rfl) ?_, trivial⟩
          all_goals intro vs W hS hp hx KO hKO
          all_goals simp only [Act.put, List.setIfInBounds_toArray, List.set_cons_zero, List.set_cons_succ] at hKO
          · have fc0 := hS.2.1.cell0
            have fc1 := hS.2.1.cell1
            have fc2 := hS.2.1.cell2
            go_simp
            exact hKO _ W (Ext.refl W) rfl
          · have fc0 := hS.2.2.1.cell0
            have fc1 := hS.2.2.1.cell1
            have fc2 := hS.2.2.1.cell2
            go_simp
            exact hKO _ W (Ext.refl W) rfl
          · have e0 := isOf hp.1
            have e1 := isOf hp.2.1
            simp only [e0, e1] at hKO
            go_simp
            refine (Try.ratMul (hS.2.2.2.1) (hS.2.2.2.2.1) s1 s2 (by omega)).mono ?_
            rintro e W1 ⟨v, rfl, hv, hE⟩
            exact hKO _ W1 hE hv
          · have fc0 := hS.2.2.1.cell0
            have fc1 := hS.2.2.1.cell1
            have fc2 := hS.2.2.1.cell2
            go_simp
            exact hKO _ W (Ext.refl W) rfl
          · have q2 := hp.1
            have e3 := isOf hp.2.1
            simp only [e3] at hKO
            go_simp
            refine (Try.ratDiv q2 (hS.2.2.2.2.1) SM.out (s2.mono (by omega)) (by omega) HY.out).mono ?_
            rintro e W1 ⟨v, rfl, hv, hE⟩
            exact hKO _ W1 hE ⟨_, rfl, hv⟩
          · have q4 := hp.1
            obtain ⟨u, ev, hu⟩ := q4
            replace ev : vs 4 = _ := ev
            simp only [ev] at hKO
            go_simp
            exact hKO _ W (Ext.refl W) ⟨u, rfl, hu⟩
          · have q5 := hp.1
            obtain ⟨u, ev, hu⟩ := q5
            replace ev : vs 5 = _ := ev
            simp only [ev] at hKO
            go_simp
            exact hKO _ W (Ext.refl W) hu
          · have q5 := hp.1
            obtain ⟨u, ev, hu⟩ := q5
            replace ev : vs 5 = _ := ev
            simp only [ev] at hKO
            go_simp
            exact hKO _ W (Ext.refl W) rfl
          · have hn := Bx3.new W 35 (.bool false) (.slice none 0 0) (.slice none 0 0)
            have hE := Ext.alloc1 W (.cells #[.bool false, .slice none 0 0, .slice none 0 0] 35)
            have hsz := hS.2.2.2.2.2
            go_simp
            exact hKO _ _ hE ⟨_, rfl, hsz, hn.form⟩
          · have q8 := hp.1
            have q6 := hp.2.1
            obtain ⟨g, ev, hg, hf⟩ := q8
            replace ev : vs 8 = _ := ev
            obtain ⟨x0, y0, z0, hx, hno⟩ := hf.bx3
            have qr := q6
            obtain ⟨b3, a3, n3, c3, d3, m3, o3, er, -, -, -⟩ := qr
            replace er : vs 6 = _ := er
            have r0 := hx.froz0
            have t0 := hx.cell0
            have r1 := hx.froz1
            have t1 := hx.cell1
            have r2 := hx.froz2
            have t2 := hx.cell2
            have hw := Wr.set3 hx hno b3 a3 n3 c3 d3 m3 o3
            have hq := hx.set (.bool b3) (.slice a3 n3 c3) (.slice d3 m3 o3)
            simp only [ev, er] at hKO
            go_simp
            exact hKO _ _ hw ⟨(Ext.wr hS.1 hw (by omega)), (hS.2.1.wr hw (by omega)), (hS.2.2.1.wr hw (by omega)), (hS.2.2.2.1.wr hw), (hS.2.2.2.2.1.wr hw), (Nat.le_trans hS.2.2.2.2.2 hw.apart.size)⟩ ⟨g, b3, a3, n3, c3, d3, m3, o3, ev, er, hg, hq⟩
          · have e7 := isOf hp.1
            simp only [e7] at hKO
            go_simp
            exact hKO _ W (Ext.refl W) rfl
        intro vs W4 hS hp
        clear szw4 E0 p2 p3 hx1 hx2
        obtain ⟨E0, p2, p3, hx1, hx2, sz4⟩ := hS
        obtain ⟨h4_0, h4_1, h4_2, h4_3, h4_4, h4_5, h4_6, h4_7, h4_8, h4_9, h4_10, -⟩ := hp
        obtain ⟨g4_9, b4_9, a4_9, n4_9, c4_9, d4_9, m4_9, o4_9, ev4_9, er4_9, hg4_9, p4_9⟩ := h4_9
        replace ev4_9 : vs 8 = _ := ev4_9
        replace er4_9 : vs 6 = _ := er4_9
        replace h4_6 := (show Rw W4 (vs 6) (x * y / y) from h4_6)
        rw [er4_9] at h4_6
        replace h4_0 : vs 0 = .agg #[.bool b1, .slice a1 n1 c1, .slice d1 m1 o1] := h4_0
        replace h4_1 : vs 1 = .agg #[.bool b2, .slice a2 n2 c2, .slice d2 m2 o2] := h4_1
        replace h4_3 : vs 3 = .agg #[.bool b2, .slice a2 n2 c2, .slice d2 m2 o2] := h4_3
        replace h4_7 : vs 7 = .int .i64 0 := h4_7
        replace h4_10 : vs 10 = .int .i64 0 := h4_10
        simp only [ev4_9, er4_9, h4_0, h4_1, h4_3, h4_7, h4_10]
        replace h4_2 : Rw W4 (vs 2) (x * y) := h4_2
        generalize vs 2 = u4_2 at h4_2 ⊢
        clear ev4_9 er4_9 h4_0 h4_1 h4_3 h4_7 h4_10 h4_4 h4_5 h4_8
        have kp2_0 := p2.cell0
        have kp2_1 := p2.cell1
        have kp2_2 := p2.cell2
        have kp3_0 := p3.cell0
        have kp3_1 := p3.cell1
        have kp3_2 := p3.cell2
        have kp4_9_0 := p4_9.cell0
        have kp4_9_1 := p4_9.cell1
        have kp4_9_2 := p4_9.cell2
        go_upto_region 4 with (fail)
        clear kp2_0 kp2_1 kp2_2 kp3_0 kp3_1 kp3_2 kp4_9_0 kp4_9_1 kp4_9_2
        have ltp4_9 := p4_9.lt
        have szw5 := Ext.size E0
        refine region_go [.one fun v _ => v = .agg #[.bool b1, .slice a1 n1 c1, .slice d1 m1 o1],
            .one fun v _ => v = .agg #[.bool b2, .slice a2 n2 c2, .slice d2 m2 o2],
            .one fun v W => Rw W v (x + y),
            .one fun v _ => v = .agg #[.bool b2, .slice a2 n2 c2, .slice d2 m2 o2],
            .one fun v W => Rw W v (x + y - y),
            .one fun v _ => v = .agg #[.bool b1, .slice a1 n1 c1, .slice d1 m1 o1],
            .one fun v _ => v = .bool true,
            .one fun v _ => v = .bool false,
            .one fun v _ => v = .bool false,
            .one fun v _ => v = .agg #[.bool b1, .slice a1 n1 c1, .slice d1 m1 o1],
            .one fun v W => Rw W v (((0 : Int) : Rat)),
            .one fun v W => Rw W v (x - ((0 : Int) : Rat)),
            .one fun v _ => v = .agg #[.bool b1, .slice a1 n1 c1, .slice d1 m1 o1],
            .one fun v _ => v = .bool true,
            .one fun v _ => v = .bool false,
            .one fun v _ => v = .bool false,
            .one fun v _ => v = .bool false,
            .one fun v _ => v = .agg #[.bool b1, .slice a1 n1 c1, .slice d1 m1 o1],
            .one fun v W => Rw W v (((1 : Int) : Rat)),
            .one fun v W => Rw W v (x * ((1 : Int) : Rat)),
            .one fun v _ => v = .agg #[.bool b1, .slice a1 n1 c1, .slice d1 m1 o1],
            .one fun v _ => v = .bool true,
            .one fun v _ => v = .bool false,
            .one fun v _ => v = .bool false]
          (fun W => Ext w W ∧ Bx3 W w.heap.size 35 (.bool b1) (.slice a1 n1 c1) (.slice d1 m1 o1) ∧ Bx3 W (w.heap.size + 1) 35 (.bool b2) (.slice a2 n2 c2) (.slice d2 m2 o2) ∧ Rw W (.agg #[.bool b1, .slice a1 n1 c1, .slice d1 m1 o1]) x ∧ Rw W (.agg #[.bool b2, .slice a2 n2 c2, .slice d2 m2 o2]) y ∧ Rw W (.agg #[.bool b4_9, .slice a4_9 n4_9 c4_9, .slice d4_9 m4_9 o4_9]) (x * y / y) ∧ Bx3 W g4_9 35 (.bool b4_9) (.slice a4_9 n4_9 c4_9) (.slice d4_9 m4_9 o4_9) ∧ Rw W u4_2 (x * y) ∧ W4.heap.size ≤ W.heap.size) ⟨Good.is _, Good.is _, Good.rat _, Good.is _, Good.rat _, Good.is _, Good.is _, Good.is _, Good.is _, Good.is _, Good.rat _, Good.rat _, Good.is _, Good.is _, Good.is _, Good.is _, Good.is _, Good.is _, Good.rat _, Good.rat _, Good.is _, Good.is _, Good.is _, Good.is _, trivial⟩
          (fun W W1 hS hE => ⟨(Ext.trans hS.1 hE), (hS.2.1.ext hE), (hS.2.2.1.ext hE), (hS.2.2.2.1.ext hE), (hS.2.2.2.2.1.ext hE), (hS.2.2.2.2.2.1.ext hE), (hS.2.2.2.2.2.2.1.ext hE), (hS.2.2.2.2.2.2.2.1.ext hE), (Nat.le_trans hS.2.2.2.2.2.2.2.2 (Ext.size hE))⟩) ⟨E0, p2, p3, hx1, hx2, h4_6, p4_9, h4_2, Nat.le_refl _⟩ (by kernel_rfl) (by kernel_rfl) (by kernel_rfl) (by kernel_rfl) (A := ?A5) ?hA5 ?howe5 ?hfin5
        case hA5 =>
          intro vs
          simp only [putAll, Act.put, List.setIfInBounds_toArray, List.set_cons_zero, List.set_cons_succ, Nat.zero_add, Nat.reduceAdd]
          exact rfl
        case howe5 =>
          clear E0 p2 p3 hx1 hx2 h4_6 p4_9 h4_2
          intro hf
          refine ⟨owesE 0 [] hf rfl (by kernel_rfl) ?_, owesE 1 [] hf rfl (by kernel_rfl) ?_, owesE 2 [0, 1] hf rfl (by kernel_rfl) ?_, owesE 3 [] hf rfl (by kernel_rfl) ?_, owesE 4 [2, 3] hf rfl (by kernel_rfl) ?_, owesE 5 [] hf rfl (by kernel_rfl) ?_, owesE 6 [4, 5] hf rfl (by kernel_rfl) ?_, owesE 7 [6] hf rfl (by kernel_rfl) ?_, owesE 8 [7] hf rfl (by kernel_rfl) ?_, owesE 9 [8] hf rfl (by kernel_rfl) ?_, owesE 10 [8] hf rfl (by kernel_rfl) ?_, owesE 11 [8, 9, 10] hf rfl (by kernel_rfl) ?_, owesE 12 [8] hf rfl (by kernel_rfl) ?_, owesE 13 [8, 11, 12] hf rfl (by kernel_rfl) ?_, owesE 14 [8, 13] hf rfl (by kernel_rfl) ?_, owesE 15 [8, 14] hf rfl (by kernel_rfl) ?_, owesE 16 [15] hf rfl (by kernel_rfl) ?_, owesE 17 [16] hf rfl (by kernel_rfl) ?_, owesE 18 [16] hf rfl (by kernel_rfl) ?_, owesE 19 [16, 17, 18] hf rfl (by kernel_rfl) ?_, owesE 20 [16] hf rfl (by kernel_rfl) ?_, owesE 21 [16, 19, 20] hf rfl (by kernel_rfl) ?_, owesE 22 [16, 21] hf rfl (by kernel_rfl) ?_, owesE 23 [16, 22] hf rfl (by kernel_rfl) ?_, trivial⟩
          all_goals intro vs W hS hp hx KO hKO
          all_goals simp only [Act.put, List.setIfInBounds_toArray, List.set_cons_zero, List.set_cons_succ] at hKO
          · have fc0 := hS.2.1.cell0
            have fc1 := hS.2.1.cell1
            have fc2 := hS.2.1.cell2
            go_simp
            exact hKO _ W (Ext.refl W) rfl
          · have fc0 := hS.2.2.1.cell0
            have fc1 := hS.2.2.1.cell1
            have fc2 := hS.2.2.1.cell2
            go_simp
            exact hKO _ W (Ext.refl W) rfl
          · have e0 := isOf hp.1
            have e1 := isOf hp.2.1
            simp only [e0, e1] at hKO
            go_simp
            refine (Try.ratAdd (hS.2.2.2.1) (hS.2.2.2.2.1) s1 s2 (by omega)).mono ?_
            rintro e W1 ⟨v, rfl, hv, hE⟩
            exact hKO _ W1 hE hv
          · have fc0 := hS.2.2.1.cell0
            have fc1 := hS.2.2.1.cell1
            have fc2 := hS.2.2.1.cell2
            go_simp
            exact hKO _ W (Ext.refl W) rfl
          · have q2 := hp.1
            have e3 := isOf hp.2.1
            simp only [e3] at hKO
            go_simp
            refine (Try.ratSub q2 (hS.2.2.2.2.1) SA.out (s2.mono (by omega)) (by omega)).mono ?_
            rintro e W1 ⟨v, rfl, hv, hE⟩
            exact hKO _ W1 hE hv
          · have fc0 := hS.2.1.cell0
            have fc1 := hS.2.1.cell1
            have fc2 := hS.2.1.cell2
            go_simp
            exact hKO _ W (Ext.refl W) rfl
          · have q4 := hp.1
            have e5 := isOf hp.2.1
            simp only [e5] at hKO
            go_simp
            refine (Try.refRSameT q4 (hS.2.2.2.1) E1.out).mono ?_
            rintro e W1 ⟨rfl, hE⟩
            exact hKO _ W1 hE rfl
          · have e6 := isOf hp.1
            simp only [e6] at hKO
            go_simp
            exact hKO _ W (Ext.refl W) rfl
          · have e7 := isOf hp.1
            simp only [e7] at hKO
            go_simp
            exact hKO _ W (Ext.refl W) rfl
          · have e8 := isOf hp.1
            simp only [e8] at hKO
            have fc0 := hS.2.1.cell0
            have fc1 := hS.2.1.cell1
            have fc2 := hS.2.1.cell2
            go_simp
            exact hKO _ W (Ext.refl W) rfl
          · have e8 := isOf hp.1
            simp only [e8] at hKO
            go_simp
            refine (Try.ratOf 0 _ (by omega) (by omega)).mono ?_
            rintro e W1 ⟨v, rfl, hv, hE⟩
            exact hKO _ W1 hE hv
          · have e8 := isOf hp.1
            have e9 := isOf hp.2.1
            have q10 := hp.2.2.1
            simp only [e8, e9] at hKO
            go_simp
            refine (Try.ratSub (hS.2.2.2.1) q10 s1 S0.out (by omega)).mono ?_
            rintro e W1 ⟨v, rfl, hv, hE⟩
            exact hKO _ W1 hE hv
          · have e8 := isOf hp.1
            simp only [e8] at hKO
            have fc0 := hS.2.1.cell0
            have fc1 := hS.2.1.cell1
            have fc2 := hS.2.1.cell2
            go_simp
            exact hKO _ W (Ext.refl W) rfl
          · have e8 := isOf hp.1
            have q11 := hp.2.1
            have e12 := isOf hp.2.2.1
            simp only [e8, e12] at hKO
            go_simp
            refine (Try.refRSameT q11 (hS.2.2.2.1) E2.out).mono ?_
            rintro e W1 ⟨rfl, hE⟩
            exact hKO _ W1 hE rfl
          · have e8 := isOf hp.1
            have e13 := isOf hp.2.1
            simp only [e8, e13] at hKO
            go_simp
            exact hKO _ W (Ext.refl W) rfl
          · have e8 := isOf hp.1
            have e14 := isOf hp.2.1
            simp only [e8, e14] at hKO
            go_simp
            exact hKO _ W (Ext.refl W) rfl
          · have e15 := isOf hp.1
            simp only [e15] at hKO
            go_simp
            exact hKO _ W (Ext.refl W) rfl
          · have e16 := isOf hp.1
            simp only [e16] at hKO
            have fc0 := hS.2.1.cell0
            have fc1 := hS.2.1.cell1
            have fc2 := hS.2.1.cell2
            go_simp
            exact hKO _ W (Ext.refl W) rfl
          · have e16 := isOf hp.1
            simp only [e16] at hKO
            go_simp
            refine (Try.ratOf 1 _ (by omega) (by omega)).mono ?_
            rintro e W1 ⟨v, rfl, hv, hE⟩
            exact hKO _ W1 hE hv
          · have e16 := isOf hp.1
            have e17 := isOf hp.2.1
            have q18 := hp.2.2.1
            simp only [e16, e17] at hKO
            go_simp
            refine (Try.ratMul (hS.2.2.2.1) q18 s1 S1.out (by omega)).mono ?_
            rintro e W1 ⟨v, rfl, hv, hE⟩
            exact hKO _ W1 hE hv
          · have e16 := isOf hp.1
            simp only [e16] at hKO
            have fc0 := hS.2.1.cell0
            have fc1 := hS.2.1.cell1
            have fc2 := hS.2.1.cell2
            go_simp
            exact hKO _ W (Ext.refl W) rfl
          · have e16 := isOf hp.1
            have q19 := hp.2.1
            have e20 := isOf hp.2.2.1
            simp only [e16, e20] at hKO
            go_simp
            refine (Try.refRSameT q19 (hS.2.2.2.1) E3.out).mono ?_
            rintro e W1 ⟨rfl, hE⟩
            exact hKO _ W1 hE rfl
          · have e16 := isOf hp.1
            have e21 := isOf hp.2.1
            simp only [e16, e21] at hKO
            go_simp
            exact hKO _ W (Ext.refl W) rfl
          · have e16 := isOf hp.1
            have e22 := isOf hp.2.1
            simp only [e16, e22] at hKO
            go_simp
            exact hKO _ W (Ext.refl W) rfl
        intro vs W5 hS hp
        clear szw5 E0 p2 p3 hx1 hx2 h4_6 p4_9 h4_2
        obtain ⟨E0, p2, p3, hx1, hx2, h4_6, p4_9, h4_2, sz5⟩ := hS
        obtain ⟨h5_0, h5_1, h5_2, h5_3, h5_4, h5_5, h5_6, h5_7, h5_8, h5_9, h5_10, h5_11, h5_12, h5_13, h5_14, h5_15, h5_16, h5_17, h5_18, h5_19, h5_20, h5_21, h5_22, h5_23, -⟩ := hp
        replace h5_0 : vs 0 = .agg #[.bool b1, .slice a1 n1 c1, .slice d1 m1 o1] := h5_0
        replace h5_1 : vs 1 = .agg #[.bool b2, .slice a2 n2 c2, .slice d2 m2 o2] := h5_1
        replace h5_3 : vs 3 = .agg #[.bool b2, .slice a2 n2 c2, .slice d2 m2 o2] := h5_3
        replace h5_5 : vs 5 = .agg #[.bool b1, .slice a1 n1 c1, .slice d1 m1 o1] := h5_5
        replace h5_6 : vs 6 = .bool true := h5_6
        replace h5_7 : vs 7 = .bool false := h5_7
        replace h5_8 : vs 8 = .bool false := h5_8
        replace h5_9 : vs 9 = .agg #[.bool b1, .slice a1 n1 c1, .slice d1 m1 o1] := h5_9
        replace h5_12 : vs 12 = .agg #[.bool b1, .slice a1 n1 c1, .slice d1 m1 o1] := h5_12
        replace h5_13 : vs 13 = .bool true := h5_13
        replace h5_14 : vs 14 = .bool false := h5_14
        replace h5_15 : vs 15 = .bool false := h5_15
        replace h5_16 : vs 16 = .bool false := h5_16
        replace h5_17 : vs 17 = .agg #[.bool b1, .slice a1 n1 c1, .slice d1 m1 o1] := h5_17
        replace h5_20 : vs 20 = .agg #[.bool b1, .slice a1 n1 c1, .slice d1 m1 o1] := h5_20
        replace h5_21 : vs 21 = .bool true := h5_21
        replace h5_22 : vs 22 = .bool false := h5_22
        replace h5_23 : vs 23 = .bool false := h5_23
        simp only [h5_0, h5_1, h5_3, h5_5, h5_6, h5_7, h5_8, h5_9, h5_12, h5_13, h5_14, h5_15, h5_16, h5_17, h5_20, h5_21, h5_22, h5_23]
        replace h5_2 : Rw W5 (vs 2) (x + y) := h5_2
        generalize vs 2 = u5_2 at h5_2 ⊢
        replace h5_4 : Rw W5 (vs 4) (x + y - y) := h5_4
        generalize vs 4 = u5_4 at h5_4 ⊢
        replace h5_10 : Rw W5 (vs 10) (((0 : Int) : Rat)) := h5_10
        generalize vs 10 = u5_10 at h5_10 ⊢
        replace h5_11 : Rw W5 (vs 11) (x - ((0 : Int) : Rat)) := h5_11
        generalize vs 11 = u5_11 at h5_11 ⊢
        replace h5_18 : Rw W5 (vs 18) (((1 : Int) : Rat)) := h5_18
        generalize vs 18 = u5_18 at h5_18 ⊢
        replace h5_19 : Rw W5 (vs 19) (x * ((1 : Int) : Rat)) := h5_19
        generalize vs 19 = u5_19 at h5_19 ⊢
        clear h5_0 h5_1 h5_3 h5_5 h5_6 h5_7 h5_8 h5_9 h5_12 h5_13 h5_14 h5_15 h5_16 h5_17 h5_20 h5_21 h5_22 h5_23
        have kp2_0 := p2.cell0
        have kp2_1 := p2.cell1
        have kp2_2 := p2.cell2
        have kp3_0 := p3.cell0
        have kp3_1 := p3.cell1
        have kp3_2 := p3.cell2
        have kp4_9_0 := p4_9.cell0
        have kp4_9_1 := p4_9.cell1
        have kp4_9_2 := p4_9.cell2
        go_upto_region 8 with (fail)
        clear kp2_0 kp2_1 kp2_2 kp3_0 kp3_1 kp3_2 kp4_9_0 kp4_9_1 kp4_9_2
        have szw6 := Ext.size E0
        refine region_go [.one fun v _ => v = .bool true,
            .one fun v _ => v = .bool true,
            .one fun v _ => v = .int .i64 0,
            .one fun v _ => v = .bool true,
            .one fun v _ => v = .bool true,
            .one fun v _ => v = .bool true,
            .one fun v _ => v = .agg #[.bool b4_9, .slice a4_9 n4_9 c4_9, .slice d4_9 m4_9 o4_9],
            .one fun v _ => v = .agg #[.bool b1, .slice a1 n1 c1, .slice d1 m1 o1],
            .one fun v _ => v = .bool true,
            .one fun v _ => v = .bool true,
            .one fun v _ => v = .bool true]
          (fun W => Ext w W ∧ Bx3 W w.heap.size 35 (.bool b1) (.slice a1 n1 c1) (.slice d1 m1 o1) ∧ Bx3 W (w.heap.size + 1) 35 (.bool b2) (.slice a2 n2 c2) (.slice d2 m2 o2) ∧ Rw W (.agg #[.bool b1, .slice a1 n1 c1, .slice d1 m1 o1]) x ∧ Rw W (.agg #[.bool b2, .slice a2 n2 c2, .slice d2 m2 o2]) y ∧ Rw W (.agg #[.bool b4_9, .slice a4_9 n4_9 c4_9, .slice d4_9 m4_9 o4_9]) (x * y / y) ∧ Bx3 W g4_9 35 (.bool b4_9) (.slice a4_9 n4_9 c4_9) (.slice d4_9 m4_9 o4_9) ∧ Rw W u4_2 (x * y) ∧ Rw W u5_2 (x + y) ∧ Rw W u5_4 (x + y - y) ∧ Rw W u5_10 (((0 : Int) : Rat)) ∧ Rw W u5_11 (x - ((0 : Int) : Rat)) ∧ Rw W u5_18 (((1 : Int) : Rat)) ∧ Rw W u5_19 (x * ((1 : Int) : Rat)) ∧ W5.heap.size ≤ W.heap.size) ⟨Good.is _, Good.is _, Good.is _, Good.is _, Good.is _, Good.is _, Good.is _, Good.is _, Good.is _, Good.is _, Good.is _, trivial⟩
          (fun W W1 hS hE => ⟨(Ext.trans hS.1 hE), (hS.2.1.ext hE), (hS.2.2.1.ext hE), (hS.2.2.2.1.ext hE), (hS.2.2.2.2.1.ext hE), (hS.2.2.2.2.2.1.ext hE), (hS.2.2.2.2.2.2.1.ext hE), (hS.2.2.2.2.2.2.2.1.ext hE), (hS.2.2.2.2.2.2.2.2.1.ext hE), (hS.2.2.2.2.2.2.2.2.2.1.ext hE), (hS.2.2.2.2.2.2.2.2.2.2.1.ext hE), (hS.2.2.2.2.2.2.2.2.2.2.2.1.ext hE), (hS.2.2.2.2.2.2.2.2.2.2.2.2.1.ext hE), (hS.2.2.2.2.2.2.2.2.2.2.2.2.2.1.ext hE), (Nat.le_trans hS.2.2.2.2.2.2.2.2.2.2.2.2.2.2 (Ext.size hE))⟩) ⟨E0, p2, p3, hx1, hx2, h4_6, p4_9, h4_2, h5_2, h5_4, h5_10, h5_11, h5_18, h5_19, Nat.le_refl _⟩ (by kernel_rfl) (by kernel_rfl) (by kernel_rfl) (by kernel_rfl) (A := ?A6) ?hA6 ?howe6 ?hfin6
        case hA6 =>
          intro vs
          simp only [putAll, Act.put, List.setIfInBounds_toArray, List.set_cons_zero, List.set_cons_succ, Nat.zero_add, Nat.reduceAdd]
          exact rfl
        case howe6 =>
          clear E0 p2 p3 hx1 hx2 h4_6 p4_9 h4_2 h5_2 h5_4 h5_10 h5_11 h5_18 h5_19
          intro hf
          refine ⟨owesE 0 [] hf rfl (by kernel_rfl) ?_, owesE 1 [0] hf rfl (by kernel_rfl) ?_, owesE 2 [1] hf rfl (by kernel_rfl) ?_, owesE 3 [1, 2] hf rfl (by kernel_rfl) ?_, owesE 4 [1, 3] hf rfl (by kernel_rfl) ?_, owesE 5 [4] hf rfl (by kernel_rfl) ?_, owesE 6 [5] hf rfl (by kernel_rfl) ?_, owesE 7 [5] hf rfl (by kernel_rfl) ?_, owesE 8 [5, 6, 7] hf rfl (by kernel_rfl) ?_, owesE 9 [5, 8] hf rfl (by kernel_rfl) ?_, owesE 10 [9] hf rfl (by kernel_rfl) ?_, trivial⟩
          all_goals intro vs W hS hp hx KO hKO
          all_goals simp only [Act.put, List.setIfInBounds_toArray, List.set_cons_zero, List.set_cons_succ] at hKO
          · go_simp
            refine (Try.alive05 _).mono ?_
            rintro e W1 ⟨rfl, hE⟩
            exact hKO _ W1 hE rfl
          · have e0 := isOf hp.1
            simp only [e0] at hKO
            go_simp
            exact hKO _ W (Ext.refl W) rfl
          · have e1 := isOf hp.1
            simp only [e1] at hKO
            go_simp
            exact hKO _ W (Ext.refl W) rfl
          · have e1 := isOf hp.1
            have e2 := isOf hp.2.1
            simp only [e1, e2] at hKO
            go_simp
            exact hKO _ W (Ext.refl W) rfl
          · have e1 := isOf hp.1
            have e3 := isOf hp.2.1
            simp only [e1, e3] at hKO
            go_simp
            exact hKO _ W (Ext.refl W) rfl
          · have e4 := isOf hp.1
            simp only [e4] at hKO
            go_simp
            exact hKO _ W (Ext.refl W) rfl
          · have e5 := isOf hp.1
            simp only [e5] at hKO
            have fc0 := hS.2.2.2.2.2.2.1.cell0
            have fc1 := hS.2.2.2.2.2.2.1.cell1
            have fc2 := hS.2.2.2.2.2.2.1.cell2
            go_simp
            exact hKO _ W (Ext.refl W) rfl
          · have e5 := isOf hp.1
            simp only [e5] at hKO
            have fc0 := hS.2.1.cell0
            have fc1 := hS.2.1.cell1
            have fc2 := hS.2.1.cell2
            go_simp
            exact hKO _ W (Ext.refl W) rfl
          · have e5 := isOf hp.1
            have e6 := isOf hp.2.1
            have e7 := isOf hp.2.2.1
            simp only [e5, e6, e7] at hKO
            go_simp
            refine (Try.refRSameT (hS.2.2.2.2.2.1) (hS.2.2.2.1) E4.out).mono ?_
            rintro e W1 ⟨rfl, hE⟩
            exact hKO _ W1 hE rfl
          · have e5 := isOf hp.1
            have e8 := isOf hp.2.1
            simp only [e5, e8] at hKO
            go_simp
            exact hKO _ W (Ext.refl W) rfl
          · have e9 := isOf hp.1
            simp only [e9] at hKO
            go_simp
            exact hKO _ W (Ext.refl W) rfl
        intro vs W6 hS hp
        clear szw6 E0 p2 p3 hx1 hx2 h4_6 p4_9 h4_2 h5_2 h5_4 h5_10 h5_11 h5_18 h5_19
        obtain ⟨E0, p2, p3, hx1, hx2, h4_6, p4_9, h4_2, h5_2, h5_4, h5_10, h5_11, h5_18, h5_19, sz6⟩ := hS
        obtain ⟨h6_0, h6_1, h6_2, h6_3, h6_4, h6_5, h6_6, h6_7, h6_8, h6_9, h6_10, -⟩ := hp
        replace h6_0 : vs 0 = .bool true := h6_0
        replace h6_1 : vs 1 = .bool true := h6_1
        replace h6_2 : vs 2 = .int .i64 0 := h6_2
        replace h6_3 : vs 3 = .bool true := h6_3
        replace h6_4 : vs 4 = .bool true := h6_4
        replace h6_5 : vs 5 = .bool true := h6_5
        replace h6_6 : vs 6 = .agg #[.bool b4_9, .slice a4_9 n4_9 c4_9, .slice d4_9 m4_9 o4_9] := h6_6
        replace h6_7 : vs 7 = .agg #[.bool b1, .slice a1 n1 c1, .slice d1 m1 o1] := h6_7
        replace h6_8 : vs 8 = .bool true := h6_8
        replace h6_9 : vs 9 = .bool true := h6_9
        replace h6_10 : vs 10 = .bool true := h6_10
        simp only [h6_0, h6_1, h6_2, h6_3, h6_4, h6_5, h6_6, h6_7, h6_8, h6_9, h6_10]
        clear h6_0 h6_1 h6_2 h6_3 h6_4 h6_5 h6_6 h6_7 h6_8 h6_9 h6_10
        have kp2_0 := p2.cell0
        have kp2_1 := p2.cell1
        have kp2_2 := p2.cell2
        have kp3_0 := p3.cell0
        have kp3_1 := p3.cell1
        have kp3_2 := p3.cell2
        have kp4_9_0 := p4_9.cell0
        have kp4_9_1 := p4_9.cell1
        have kp4_9_2 := p4_9.cell2
        go_wp2
        go_ret
        exact ⟨rfl, E0⟩

set_option maxRecDepth 100000 in
set_option maxHeartbeats 1000000 in
theorem Try.lawRatBetween {b1 : Bool} {a1 : Option Addr} {n1 c1 : Nat} {d1 : Option Addr} {m1 o1 : Nat} {xs1 ys1 : List Nat} {b2 : Bool} {a2 : Option Addr} {n2 c2 : Nat} {d2 : Option Addr} {m2 o2 : Nat} {xs2 ys2 : List Nat} {w : World} (h1 : Nt w (.slice a1 n1 c1) xs1) (k1 : Nt w (.slice d1 m1 o1) ys1) (h2 : Nt w (.slice a2 n2 c2) xs2) (k2 : Nt w (.slice d2 m2 o2) ys2) :
    Calls Try.prog 17 #[.agg #[.bool b1, .slice a1 n1 c1, .slice d1 m1 o1], .agg #[.bool b2, .slice a2 n2 c2, .slice d2 m2 o2]] w fun e w' => e = .returned (.bool true) ∧ Ext w w' := by
  cases hg0 : fewR b1 xs1 ys1 ((3 : Nat) : Int)
  · have HG0 := Lib.hid hg0
    clear hg0
    obtain ⟨W0, hW0⟩ : ∃ W0, W0 = ((w.alloc (.cells #[.bool b1, .slice a1 n1 c1, .slice d1 m1 o1] 35)).alloc (.cells #[.bool b2, .slice a2 n2 c2, .slice d2 m2 o2] 35)) := ⟨_, rfl⟩
    have E0 : Ext w W0 := by rw [hW0]; exact ((Ext.alloc1 w (.cells #[.bool b1, .slice a1 n1 c1, .slice d1 m1 o1] 35)).alloc (.cells #[.bool b2, .slice a2 n2 c2, .slice d2 m2 o2] 35))
    replace h1 : Nt W0 (.slice a1 n1 c1) xs1 := h1.ext E0
    replace k1 : Nt W0 (.slice d1 m1 o1) ys1 := k1.ext E0
    replace h2 : Nt W0 (.slice a2 n2 c2) xs2 := h2.ext E0
    replace k2 : Nt W0 (.slice d2 m2 o2) ys2 := k2.ext E0
    have p2 : Bx3 W0 w.heap.size 35 (.bool b1) (.slice a1 n1 c1) (.slice d1 m1 o1) := by rw [hW0]; exact (Bx3.new w 35 (.bool b1) (.slice a1 n1 c1) (.slice d1 m1 o1)).ext (Ext.alloc1 (w.alloc (.cells #[.bool b1, .slice a1 n1 c1, .slice d1 m1 o1] 35)) (.cells #[.bool b2, .slice a2 n2 c2, .slice d2 m2 o2] 35))
    have p3 : Bx3 W0 (w.heap.size + 1) 35 (.bool b2) (.slice a2 n2 c2) (.slice d2 m2 o2) := by rw [hW0]; simpa using (Bx3.new (w.alloc (.cells #[.bool b1, .slice a1 n1 c1, .slice d1 m1 o1] 35)) 35 (.bool b2) (.slice a2 n2 c2) (.slice d2 m2 o2))
    go_enter Try.func17, Try.ntmps17
    have kp2_0 := p2.cell0
    have kp2_1 := p2.cell1
    have kp2_2 := p2.cell2
    have kp3_0 := p3.cell0
    have kp3_1 := p3.cell1
    have kp3_2 := p3.cell2
    go_wp2_with fail
    rw [← hW0]
    clear hW0
    clear kp2_0 kp2_1 kp2_2 kp3_0 kp3_1 kp3_2
    refine (Try.refRFew h1 k1 3 (by omega)).mono ?_
    rintro e Wf0 ⟨rfl, hE⟩
    rw [HG0.out]
    replace E0 : Ext w Wf0 := (Ext.trans E0 hE)
    replace h1 : Nt Wf0 (.slice a1 n1 c1) xs1 := (h1.ext hE)
    replace k1 : Nt Wf0 (.slice d1 m1 o1) ys1 := (k1.ext hE)
    replace h2 : Nt Wf0 (.slice a2 n2 c2) xs2 := (h2.ext hE)
    replace k2 : Nt Wf0 (.slice d2 m2 o2) ys2 := (k2.ext hE)
    replace p2 : Bx3 Wf0 w.heap.size 35 (.bool b1) (.slice a1 n1 c1) (.slice d1 m1 o1) := (p2.ext hE)
    replace p3 : Bx3 Wf0 (w.heap.size + 1) 35 (.bool b2) (.slice a2 n2 c2) (.slice d2 m2 o2) := (p3.ext hE)
    clear hE
    have kp2_0 := p2.cell0
    have kp2_1 := p2.cell1
    have kp2_2 := p2.cell2
    have kp3_0 := p3.cell0
    have kp3_1 := p3.cell1
    have kp3_2 := p3.cell2
    go_wp2_with fail
    clear kp2_0 kp2_1 kp2_2 kp3_0 kp3_1 kp3_2
    refine (Try.alive05 _).mono ?_
    rintro e We ⟨rfl, hE⟩
    replace E0 : Ext w We := (Ext.trans E0 hE)
    replace h1 : Nt We (.slice a1 n1 c1) xs1 := (h1.ext hE)
    replace k1 : Nt We (.slice d1 m1 o1) ys1 := (k1.ext hE)
    replace h2 : Nt We (.slice a2 n2 c2) xs2 := (h2.ext hE)
    replace k2 : Nt We (.slice d2 m2 o2) ys2 := (k2.ext hE)
    replace p2 : Bx3 We w.heap.size 35 (.bool b1) (.slice a1 n1 c1) (.slice d1 m1 o1) := (p2.ext hE)
    replace p3 : Bx3 We (w.heap.size + 1) 35 (.bool b2) (.slice a2 n2 c2) (.slice d2 m2 o2) := (p3.ext hE)
    clear hE
    have kp2_0 := p2.cell0
    have kp2_1 := p2.cell1
    have kp2_2 := p2.cell2
    have kp3_0 := p3.cell0
    have kp3_1 := p3.cell1
    have kp3_2 := p3.cell2
    go_wp2
    go_ret
    exact ⟨rfl, E0⟩
  · have HG0 := Lib.hid hg0
    clear hg0
    obtain ⟨W0, hW0⟩ : ∃ W0, W0 = ((w.alloc (.cells #[.bool b1, .slice a1 n1 c1, .slice d1 m1 o1] 35)).alloc (.cells #[.bool b2, .slice a2 n2 c2, .slice d2 m2 o2] 35)) := ⟨_, rfl⟩
    have E0 : Ext w W0 := by rw [hW0]; exact ((Ext.alloc1 w (.cells #[.bool b1, .slice a1 n1 c1, .slice d1 m1 o1] 35)).alloc (.cells #[.bool b2, .slice a2 n2 c2, .slice d2 m2 o2] 35))
    replace h1 : Nt W0 (.slice a1 n1 c1) xs1 := h1.ext E0
    replace k1 : Nt W0 (.slice d1 m1 o1) ys1 := k1.ext E0
    replace h2 : Nt W0 (.slice a2 n2 c2) xs2 := h2.ext E0
    replace k2 : Nt W0 (.slice d2 m2 o2) ys2 := k2.ext E0
    have p2 : Bx3 W0 w.heap.size 35 (.bool b1) (.slice a1 n1 c1) (.slice d1 m1 o1) := by rw [hW0]; exact (Bx3.new w 35 (.bool b1) (.slice a1 n1 c1) (.slice d1 m1 o1)).ext (Ext.alloc1 (w.alloc (.cells #[.bool b1, .slice a1 n1 c1, .slice d1 m1 o1] 35)) (.cells #[.bool b2, .slice a2 n2 c2, .slice d2 m2 o2] 35))
    have p3 : Bx3 W0 (w.heap.size + 1) 35 (.bool b2) (.slice a2 n2 c2) (.slice d2 m2 o2) := by rw [hW0]; simpa using (Bx3.new (w.alloc (.cells #[.bool b1, .slice a1 n1 c1, .slice d1 m1 o1] 35)) 35 (.bool b2) (.slice a2 n2 c2) (.slice d2 m2 o2))
    go_enter Try.func17, Try.ntmps17
    have kp2_0 := p2.cell0
    have kp2_1 := p2.cell1
    have kp2_2 := p2.cell2
    have kp3_0 := p3.cell0
    have kp3_1 := p3.cell1
    have kp3_2 := p3.cell2
    go_wp2_with fail
    rw [← hW0]
    clear hW0
    clear kp2_0 kp2_1 kp2_2 kp3_0 kp3_1 kp3_2
    refine (Try.refRFew h1 k1 3 (by omega)).mono ?_
    rintro e Wf0 ⟨rfl, hE⟩
    rw [HG0.out]
    replace E0 : Ext w Wf0 := (Ext.trans E0 hE)
    replace h1 : Nt Wf0 (.slice a1 n1 c1) xs1 := (h1.ext hE)
    replace k1 : Nt Wf0 (.slice d1 m1 o1) ys1 := (k1.ext hE)
    replace h2 : Nt Wf0 (.slice a2 n2 c2) xs2 := (h2.ext hE)
    replace k2 : Nt Wf0 (.slice d2 m2 o2) ys2 := (k2.ext hE)
    replace p2 : Bx3 Wf0 w.heap.size 35 (.bool b1) (.slice a1 n1 c1) (.slice d1 m1 o1) := (p2.ext hE)
    replace p3 : Bx3 Wf0 (w.heap.size + 1) 35 (.bool b2) (.slice a2 n2 c2) (.slice d2 m2 o2) := (p3.ext hE)
    clear hE
    cases hg1 : fewR b2 xs2 ys2 ((3 : Nat) : Int)
    · have HG1 := Lib.hid hg1
      clear hg1
      have kp2_0 := p2.cell0
      have kp2_1 := p2.cell1
      have kp2_2 := p2.cell2
      have kp3_0 := p3.cell0
      have kp3_1 := p3.cell1
      have kp3_2 := p3.cell2
      go_wp2_with fail
      clear kp2_0 kp2_1 kp2_2 kp3_0 kp3_1 kp3_2
      refine (Try.refRFew h2 k2 3 (by omega)).mono ?_
      rintro e Wf1 ⟨rfl, hE⟩
      rw [HG1.out]
      replace E0 : Ext w Wf1 := (Ext.trans E0 hE)
      replace h1 : Nt Wf1 (.slice a1 n1 c1) xs1 := (h1.ext hE)
      replace k1 : Nt Wf1 (.slice d1 m1 o1) ys1 := (k1.ext hE)
      replace h2 : Nt Wf1 (.slice a2 n2 c2) xs2 := (h2.ext hE)
      replace k2 : Nt Wf1 (.slice d2 m2 o2) ys2 := (k2.ext hE)
      replace p2 : Bx3 Wf1 w.heap.size 35 (.bool b1) (.slice a1 n1 c1) (.slice d1 m1 o1) := (p2.ext hE)
      replace p3 : Bx3 Wf1 (w.heap.size + 1) 35 (.bool b2) (.slice a2 n2 c2) (.slice d2 m2 o2) := (p3.ext hE)
      clear hE
      have kp2_0 := p2.cell0
      have kp2_1 := p2.cell1
      have kp2_2 := p2.cell2
      have kp3_0 := p3.cell0
      have kp3_1 := p3.cell1
      have kp3_2 := p3.cell2
      go_wp2_with fail
      clear kp2_0 kp2_1 kp2_2 kp3_0 kp3_1 kp3_2
      refine (Try.alive05 _).mono ?_
      rintro e We ⟨rfl, hE⟩
      replace E0 : Ext w We := (Ext.trans E0 hE)
      replace h1 : Nt We (.slice a1 n1 c1) xs1 := (h1.ext hE)
      replace k1 : Nt We (.slice d1 m1 o1) ys1 := (k1.ext hE)
      replace h2 : Nt We (.slice a2 n2 c2) xs2 := (h2.ext hE)
      replace k2 : Nt We (.slice d2 m2 o2) ys2 := (k2.ext hE)
      replace p2 : Bx3 We w.heap.size 35 (.bool b1) (.slice a1 n1 c1) (.slice d1 m1 o1) := (p2.ext hE)
      replace p3 : Bx3 We (w.heap.size + 1) 35 (.bool b2) (.slice a2 n2 c2) (.slice d2 m2 o2) := (p3.ext hE)
      clear hE
      have kp2_0 := p2.cell0
      have kp2_1 := p2.cell1
      have kp2_2 := p2.cell2
      have kp3_0 := p3.cell0
      have kp3_1 := p3.cell1
      have kp3_2 := p3.cell2
      go_wp2
      go_ret
      exact ⟨rfl, E0⟩
    · have HG1 := Lib.hid hg1
      clear hg1
      have kp2_0 := p2.cell0
      have kp2_1 := p2.cell1
      have kp2_2 := p2.cell2
      have kp3_0 := p3.cell0
      have kp3_1 := p3.cell1
      have kp3_2 := p3.cell2
      go_wp2_with fail
      clear kp2_0 kp2_1 kp2_2 kp3_0 kp3_1 kp3_2
      refine (Try.refRFew h2 k2 3 (by omega)).mono ?_
      rintro e Wf1 ⟨rfl, hE⟩
      rw [HG1.out]
      replace E0 : Ext w Wf1 := (Ext.trans E0 hE)
      replace h1 : Nt Wf1 (.slice a1 n1 c1) xs1 := (h1.ext hE)
      replace k1 : Nt Wf1 (.slice d1 m1 o1) ys1 := (k1.ext hE)
      replace h2 : Nt Wf1 (.slice a2 n2 c2) xs2 := (h2.ext hE)
      replace k2 : Nt Wf1 (.slice d2 m2 o2) ys2 := (k2.ext hE)
      replace p2 : Bx3 Wf1 w.heap.size 35 (.bool b1) (.slice a1 n1 c1) (.slice d1 m1 o1) := (p2.ext hE)
      replace p3 : Bx3 Wf1 (w.heap.size + 1) 35 (.bool b2) (.slice a2 n2 c2) (.slice d2 m2 o2) := (p3.ext hE)
      clear hE
      obtain ⟨x, hx1, s1⟩ := fewR_rw (L := 3) h1 k1 HG0.out
      clear h1 k1 HG0
      obtain ⟨y, hx2, s2⟩ := fewR_rw (L := 3) h2 k2 HG1.out
      clear h2 k2 HG1
      have SA : Hid (SmR 7 (x + y)) := Lib.hid (s1.add s2)
      have S2 : Hid (SmR 7 ((2 : Int) : Rat)) := Lib.hid ((SmR.int (by omega)).mono (by omega))
      have SMid : Hid (SmR 14 ((x + y) / ((2 : Int) : Rat))) := Lib.hid (SA.out.div S2.out two_ne)
      have SD : Hid (SmR 7 (x - y)) := Lib.hid (s1.sub s2)
      obtain ⟨c, hc⟩ : ∃ c, c = cmpR x y := ⟨_, rfl⟩
      have C0 : Hid (cmpR x y = c) := Lib.hid hc.symm
      have C1 : Hid (cmpR x ((x + y) / ((2 : Int) : Rat)) = c) := Lib.hid ((cmpR_mid x y).1.trans hc.symm)
      have C2 : Hid (cmpR ((x + y) / ((2 : Int) : Rat)) y = c) := Lib.hid ((cmpR_mid x y).2.trans hc.symm)
      have EB : Hid (y + (x - y) = x) := Lib.hid (by grind)
      clear hc
      have kp2_0 := p2.cell0
      have kp2_1 := p2.cell1
      have kp2_2 := p2.cell2
      have kp3_0 := p3.cell0
      have kp3_1 := p3.cell1
      have kp3_2 := p3.cell2
      go_upto_region 3 with (fail)
      clear kp2_0 kp2_1 kp2_2 kp3_0 kp3_1 kp3_2
      have ltp2 := p2.lt
      have ltp3 := p3.lt
      have szw7 := Ext.size E0
      refine region_go [.one fun v _ => v = .agg #[.bool b1, .slice a1 n1 c1, .slice d1 m1 o1],
          .one fun v _ => v = .agg #[.bool b2, .slice a2 n2 c2, .slice d2 m2 o2],
          .one fun v W => Rw W v (x + y),
          .one fun v W => Rw W v (((2 : Int) : Rat)),
          .one fun v W => ∃ v', v = .tuple #[v', .int .i64 0] ∧ (fun v W => Rw W v ((x + y) / ((2 : Int) : Rat))) v' W,
          .one fun v W => ∃ v', v = .tuple #[v', .int .i64 0] ∧ (fun v W => Rw W v ((x + y) / ((2 : Int) : Rat))) v' W,
          .one fun v W => Rw W v ((x + y) / ((2 : Int) : Rat)),
          .one fun v _ => v = .int .i64 0,
          .one fun v W => ∃ g, v = .pointer (some ⟨g, 0, none⟩) ∧ Wf1.heap.size ≤ g ∧ Form W g 35 3,
          .three 8 6 (fun p r _ W => Put3 Wf1.heap.size 35 p r W),
          .one fun v _ => v = .int .i64 0]
        (fun W => Ext w W ∧ Bx3 W w.heap.size 35 (.bool b1) (.slice a1 n1 c1) (.slice d1 m1 o1) ∧ Bx3 W (w.heap.size + 1) 35 (.bool b2) (.slice a2 n2 c2) (.slice d2 m2 o2) ∧ Rw W (.agg #[.bool b1, .slice a1 n1 c1, .slice d1 m1 o1]) x ∧ Rw W (.agg #[.bool b2, .slice a2 n2 c2, .slice d2 m2 o2]) y ∧ Wf1.heap.size ≤ W.heap.size) ⟨Good.is _, Good.is _, Good.rat _, Good.rat _, (Good.rat _).tup _, (Good.rat _).tup _, Good.rat _, Good.is _, Good.box _ _ _, cert_put3, Good.is _, trivial⟩
        (fun W W1 hS hE => ⟨(Ext.trans hS.1 hE), (hS.2.1.ext hE), (hS.2.2.1.ext hE), (hS.2.2.2.1.ext hE), (hS.2.2.2.2.1.ext hE), (Nat.le_trans hS.2.2.2.2.2 (Ext.size hE))⟩) ⟨E0, p2, p3, hx1, hx2, Nat.le_refl _⟩ (by kernel_rfl) (by kernel_rfl) (by kernel_rfl) (by kernel_rfl) (A := ?A7) ?hA7 ?howe7 ?hfin7
      case hA7 =>
        intro vs
        simp only [putAll, Act.put, List.setIfInBounds_toArray, List.set_cons_zero, List.set_cons_succ, Nat.zero_add, Nat.reduceAdd]
        exact rfl
      case howe7 =>
        clear E0 p2 p3 hx1 hx2
        intro hf
        refine ⟨owesE 0 [] hf rfl (by kernel_rfl) ?_, owesE 1 [] hf rfl (by kernel_rfl) ?_, owesE 2 [0, 1] hf rfl (by kernel_rfl) ?_, owesE 3 [] hf rfl (by kernel_rfl) ?_, owesE 4 [2, 3] hf rfl (by kernel_rfl) ?_, owesE 5 [4] hf rfl (by kernel_rfl) ?_, owesE 6 [5] hf rfl (by kernel_rfl) ?_, owesE 7 [5] hf rfl (by kernel_rfl) ?_, owesE 8 [] hf rfl (by kernel_rfl) ?_, owesW 9 [8, 6] hf rfl (by kernel_rfl) (by kernel_rfl) ?_, owesE 10 [7] hf rfl (by kernel_rfl) ?_, trivial⟩
        all_goals intro vs W hS hp hx KO hKO
        all_goals simp only [Act.put, List.setIfInBounds_toArray, List.set_cons_zero, List.set_cons_succ] at hKO
        · have fc0 := hS.2.1.cell0
          have fc1 := hS.2.1.cell1
          have fc2 := hS.2.1.cell2
          go_simp
          exact hKO _ W (Ext.refl W) rfl
        · have fc0 := hS.2.2.1.cell0
          have fc1 := hS.2.2.1.cell1
          have fc2 := hS.2.2.1.cell2
          go_simp
          exact hKO _ W (Ext.refl W) rfl
        · have e0 := isOf hp.1
          have e1 := isOf hp.2.1
          simp only [e0, e1] at hKO
          go_simp
          refine (Try.ratAdd (hS.2.2.2.1) (hS.2.2.2.2.1) s1 s2 (by omega)).mono ?_
          rintro e W1 ⟨v, rfl, hv, hE⟩
          exact hKO _ W1 hE hv
        · go_simp
          refine (Try.ratOf 2 _ (by omega) (by omega)).mono ?_
          rintro e W1 ⟨v, rfl, hv, hE⟩
          exact hKO _ W1 hE hv
        · have q2 := hp.1
          have q3 := hp.2.1
          go_simp
          refine (Try.ratDiv q2 q3 SA.out S2.out (by omega) two_ne).mono ?_
          rintro e W1 ⟨v, rfl, hv, hE⟩
          exact hKO _ W1 hE ⟨_, rfl, hv⟩
        · have q4 := hp.1
          obtain ⟨u, ev, hu⟩ := q4
          replace ev : vs 4 = _ := ev
          simp only [ev] at hKO
          go_simp
          exact hKO _ W (Ext.refl W) ⟨u, rfl, hu⟩
        · have q5 := hp.1
          obtain ⟨u, ev, hu⟩ := q5
          replace ev : vs 5 = _ := ev
          simp only [ev] at hKO
          go_simp
          exact hKO _ W (Ext.refl W) hu
        · have q5 := hp.1
          obtain ⟨u, ev, hu⟩ := q5
          replace ev : vs 5 = _ := ev
          simp only [ev] at hKO
          go_simp
          exact hKO _ W (Ext.refl W) rfl
        · have hn := Bx3.new W 35 (.bool false) (.slice none 0 0) (.slice none 0 0)
          have hE := Ext.alloc1 W (.cells #[.bool false, .slice none 0 0, .slice none 0 0] 35)
          have hsz := hS.2.2.2.2.2
          go_simp
          exact hKO _ _ hE ⟨_, rfl, hsz, hn.form⟩
        · have q8 := hp.1
          have q6 := hp.2.1
          obtain ⟨g, ev, hg, hf⟩ := q8
          replace ev : vs 8 = _ := ev
          obtain ⟨x0, y0, z0, hx, hno⟩ := hf.bx3
          have qr := q6
          obtain ⟨b3, a3, n3, c3, d3, m3, o3, er, -, -, -⟩ := qr
          replace er : vs 6 = _ := er
          have r0 := hx.froz0
          have t0 := hx.cell0
          have r1 := hx.froz1
          have t1 := hx.cell1
          have r2 := hx.froz2
          have t2 := hx.cell2
          have hw := Wr.set3 hx hno b3 a3 n3 c3 d3 m3 o3
          have hq := hx.set (.bool b3) (.slice a3 n3 c3) (.slice d3 m3 o3)
          simp only [ev, er] at hKO
          go_simp
          exact hKO _ _ hw ⟨(Ext.wr hS.1 hw (by omega)), (hS.2.1.wr hw (by omega)), (hS.2.2.1.wr hw (by omega)), (hS.2.2.2.1.wr hw), (hS.2.2.2.2.1.wr hw), (Nat.le_trans hS.2.2.2.2.2 hw.apart.size)⟩ ⟨g, b3, a3, n3, c3, d3, m3, o3, ev, er, hg, hq⟩
        · have e7 := isOf hp.1
          simp only [e7] at hKO
          go_simp
          exact hKO _ W (Ext.refl W) rfl
      intro vs W7 hS hp
      clear szw7 E0 p2 p3 hx1 hx2
      obtain ⟨E0, p2, p3, hx1, hx2, sz7⟩ := hS
      obtain ⟨h7_0, h7_1, h7_2, h7_3, h7_4, h7_5, h7_6, h7_7, h7_8, h7_9, h7_10, -⟩ := hp
      obtain ⟨g7_9, b7_9, a7_9, n7_9, c7_9, d7_9, m7_9, o7_9, ev7_9, er7_9, hg7_9, p7_9⟩ := h7_9
      replace ev7_9 : vs 8 = _ := ev7_9
      replace er7_9 : vs 6 = _ := er7_9
      replace h7_6 := (show Rw W7 (vs 6) ((x + y) / ((2 : Int) : Rat)) from h7_6)
      rw [er7_9] at h7_6
      replace h7_0 : vs 0 = .agg #[.bool b1, .slice a1 n1 c1, .slice d1 m1 o1] := h7_0
      replace h7_1 : vs 1 = .agg #[.bool b2, .slice a2 n2 c2, .slice d2 m2 o2] := h7_1
      replace h7_7 : vs 7 = .int .i64 0 := h7_7
      replace h7_10 : vs 10 = .int .i64 0 := h7_10
      simp only [ev7_9, er7_9, h7_0, h7_1, h7_7, h7_10]
      replace h7_2 : Rw W7 (vs 2) (x + y) := h7_2
      generalize vs 2 = u7_2 at h7_2 ⊢
      replace h7_3 : Rw W7 (vs 3) (((2 : Int) : Rat)) := h7_3
      generalize vs 3 = u7_3 at h7_3 ⊢
      clear ev7_9 er7_9 h7_0 h7_1 h7_7 h7_10 h7_4 h7_5 h7_8
      have kp2_0 := p2.cell0
      have kp2_1 := p2.cell1
      have kp2_2 := p2.cell2
      have kp3_0 := p3.cell0
      have kp3_1 := p3.cell1
      have kp3_2 := p3.cell2
      have kp7_9_0 := p7_9.cell0
      have kp7_9_1 := p7_9.cell1
      have kp7_9_2 := p7_9.cell2
      go_upto_region 4 with (fail)
      clear kp2_0 kp2_1 kp2_2 kp3_0 kp3_1 kp3_2 kp7_9_0 kp7_9_1 kp7_9_2
      have ltp7_9 := p7_9.lt
      have szw8 := Ext.size E0
      refine region_go [.one fun v _ => v = .agg #[.bool b1, .slice a1 n1 c1, .slice d1 m1 o1],
          .one fun v _ => v = .agg #[.bool b7_9, .slice a7_9 n7_9 c7_9, .slice d7_9 m7_9 o7_9],
          .one fun v _ => v = .int .i64 c,
          .one fun v _ => v = .agg #[.bool b7_9, .slice a7_9 n7_9 c7_9, .slice d7_9 m7_9 o7_9],
          .one fun v _ => v = .agg #[.bool b2, .slice a2 n2 c2, .slice d2 m2 o2],
          .one fun v _ => v = .int .i64 c,
          .one fun v _ => v = .int .i64 c,
          .one fun v _ => v = .int .i64 c]
        (fun W => Ext w W ∧ Bx3 W w.heap.size 35 (.bool b1) (.slice a1 n1 c1) (.slice d1 m1 o1) ∧ Bx3 W (w.heap.size + 1) 35 (.bool b2) (.slice a2 n2 c2) (.slice d2 m2 o2) ∧ Rw W (.agg #[.bool b1, .slice a1 n1 c1, .slice d1 m1 o1]) x ∧ Rw W (.agg #[.bool b2, .slice a2 n2 c2, .slice d2 m2 o2]) y ∧ Rw W (.agg #[.bool b7_9, .slice a7_9 n7_9 c7_9, .slice d7_9 m7_9 o7_9]) ((x + y) / ((2 : Int) : Rat)) ∧ Bx3 W g7_9 35 (.bool b7_9) (.slice a7_9 n7_9 c7_9) (.slice d7_9 m7_9 o7_9) ∧ Rw W u7_2 (x + y) ∧ Rw W u7_3 (((2 : Int) : Rat)) ∧ W7.heap.size ≤ W.heap.size) ⟨Good.is _, Good.is _, Good.is _, Good.is _, Good.is _, Good.is _, Good.is _, Good.is _, trivial⟩
        (fun W W1 hS hE => ⟨(Ext.trans hS.1 hE), (hS.2.1.ext hE), (hS.2.2.1.ext hE), (hS.2.2.2.1.ext hE), (hS.2.2.2.2.1.ext hE), (hS.2.2.2.2.2.1.ext hE), (hS.2.2.2.2.2.2.1.ext hE), (hS.2.2.2.2.2.2.2.1.ext hE), (hS.2.2.2.2.2.2.2.2.1.ext hE), (Nat.le_trans hS.2.2.2.2.2.2.2.2.2 (Ext.size hE))⟩) ⟨E0, p2, p3, hx1, hx2, h7_6, p7_9, h7_2, h7_3, Nat.le_refl _⟩ (by kernel_rfl) (by kernel_rfl) (by kernel_rfl) (by kernel_rfl) (A := ?A8) ?hA8 ?howe8 ?hfin8
      case hA8 =>
        intro vs
        simp only [putAll, Act.put, List.setIfInBounds_toArray, List.set_cons_zero, List.set_cons_succ, Nat.zero_add, Nat.reduceAdd]
        exact rfl
      case howe8 =>
        clear E0 p2 p3 hx1 hx2 h7_6 p7_9 h7_2 h7_3
        intro hf
        refine ⟨owesE 0 [] hf rfl (by kernel_rfl) ?_, owesE 1 [] hf rfl (by kernel_rfl) ?_, owesE 2 [0, 1] hf rfl (by kernel_rfl) ?_, owesE 3 [] hf rfl (by kernel_rfl) ?_, owesE 4 [] hf rfl (by kernel_rfl) ?_, owesE 5 [3, 4] hf rfl (by kernel_rfl) ?_, owesE 6 [2] hf rfl (by kernel_rfl) ?_, owesE 7 [5] hf rfl (by kernel_rfl) ?_, trivial⟩
        all_goals intro vs W hS hp hx KO hKO
        all_goals simp only [Act.put, List.setIfInBounds_toArray, List.set_cons_zero, List.set_cons_succ] at hKO
        · have fc0 := hS.2.1.cell0
          have fc1 := hS.2.1.cell1
          have fc2 := hS.2.1.cell2
          go_simp
          exact hKO _ W (Ext.refl W) rfl
        · have fc0 := hS.2.2.2.2.2.2.1.cell0
          have fc1 := hS.2.2.2.2.2.2.1.cell1
          have fc2 := hS.2.2.2.2.2.2.1.cell2
          go_simp
          exact hKO _ W (Ext.refl W) rfl
        · have e0 := isOf hp.1
          have e1 := isOf hp.2.1
          simp only [e0, e1] at hKO
          go_simp
          refine (Try.ratCmpR (hS.2.2.2.1) (hS.2.2.2.2.2.1) (s1.mono (by omega)) SMid.out (by omega) C1.out).mono ?_
          rintro e W1 ⟨rfl, hE⟩
          exact hKO _ W1 hE rfl
        · have fc0 := hS.2.2.2.2.2.2.1.cell0
          have fc1 := hS.2.2.2.2.2.2.1.cell1
          have fc2 := hS.2.2.2.2.2.2.1.cell2
          go_simp
          exact hKO _ W (Ext.refl W) rfl
        · have fc0 := hS.2.2.1.cell0
          have fc1 := hS.2.2.1.cell1
          have fc2 := hS.2.2.1.cell2
          go_simp
          exact hKO _ W (Ext.refl W) rfl
        · have e3 := isOf hp.1
          have e4 := isOf hp.2.1
          simp only [e3, e4] at hKO
          go_simp
          refine (Try.ratCmpR (hS.2.2.2.2.2.1) (hS.2.2.2.2.1) SMid.out (s2.mono (by omega)) (by omega) C2.out).mono ?_
          rintro e W1 ⟨rfl, hE⟩
          exact hKO _ W1 hE rfl
        · have e2 := isOf hp.1
          simp only [e2] at hKO
          go_simp
          exact hKO _ W (Ext.refl W) rfl
        · have e5 := isOf hp.1
          simp only [e5] at hKO
          go_simp
          exact hKO _ W (Ext.refl W) rfl
      intro vs W8 hS hp
      clear szw8 E0 p2 p3 hx1 hx2 h7_6 p7_9 h7_2 h7_3
      obtain ⟨E0, p2, p3, hx1, hx2, h7_6, p7_9, h7_2, h7_3, sz8⟩ := hS
      obtain ⟨h8_0, h8_1, h8_2, h8_3, h8_4, h8_5, h8_6, h8_7, -⟩ := hp
      replace h8_0 : vs 0 = .agg #[.bool b1, .slice a1 n1 c1, .slice d1 m1 o1] := h8_0
      replace h8_1 : vs 1 = .agg #[.bool b7_9, .slice a7_9 n7_9 c7_9, .slice d7_9 m7_9 o7_9] := h8_1
      replace h8_2 : vs 2 = .int .i64 c := h8_2
      replace h8_3 : vs 3 = .agg #[.bool b7_9, .slice a7_9 n7_9 c7_9, .slice d7_9 m7_9 o7_9] := h8_3
      replace h8_4 : vs 4 = .agg #[.bool b2, .slice a2 n2 c2, .slice d2 m2 o2] := h8_4
      replace h8_5 : vs 5 = .int .i64 c := h8_5
      replace h8_6 : vs 6 = .int .i64 c := h8_6
      replace h8_7 : vs 7 = .int .i64 c := h8_7
      simp only [h8_0, h8_1, h8_2, h8_3, h8_4, h8_5, h8_6, h8_7]
      clear h8_0 h8_1 h8_2 h8_3 h8_4 h8_5 h8_6 h8_7
      have kp2_0 := p2.cell0
      have kp2_1 := p2.cell1
      have kp2_2 := p2.cell2
      have kp3_0 := p3.cell0
      have kp3_1 := p3.cell1
      have kp3_2 := p3.cell2
      have kp7_9_0 := p7_9.cell0
      have kp7_9_1 := p7_9.cell1
      have kp7_9_2 := p7_9.cell2
      go_upto_region 5 with (fail)
      clear kp2_0 kp2_1 kp2_2 kp3_0 kp3_1 kp3_2 kp7_9_0 kp7_9_1 kp7_9_2
      have szw9 := Ext.size E0
      refine region_go [.one fun v _ => v = .agg #[.bool b2, .slice a2 n2 c2, .slice d2 m2 o2],
          .one fun v _ => v = .agg #[.bool b1, .slice a1 n1 c1, .slice d1 m1 o1],
          .one fun v _ => v = .agg #[.bool b2, .slice a2 n2 c2, .slice d2 m2 o2],
          .one fun v W => Rw W v (x - y),
          .one fun v W => Rw W v (y + (x - y)),
          .one fun v W => ∃ g, v = .pointer (some ⟨g, 0, none⟩) ∧ W8.heap.size ≤ g ∧ Form W g 35 3,
          .three 5 4 (fun p r _ W => Put3 W8.heap.size 35 p r W)]
        (fun W => Ext w W ∧ Bx3 W w.heap.size 35 (.bool b1) (.slice a1 n1 c1) (.slice d1 m1 o1) ∧ Bx3 W (w.heap.size + 1) 35 (.bool b2) (.slice a2 n2 c2) (.slice d2 m2 o2) ∧ Rw W (.agg #[.bool b1, .slice a1 n1 c1, .slice d1 m1 o1]) x ∧ Rw W (.agg #[.bool b2, .slice a2 n2 c2, .slice d2 m2 o2]) y ∧ Rw W (.agg #[.bool b7_9, .slice a7_9 n7_9 c7_9, .slice d7_9 m7_9 o7_9]) ((x + y) / ((2 : Int) : Rat)) ∧ Bx3 W g7_9 35 (.bool b7_9) (.slice a7_9 n7_9 c7_9) (.slice d7_9 m7_9 o7_9) ∧ Rw W u7_2 (x + y) ∧ Rw W u7_3 (((2 : Int) : Rat)) ∧ W8.heap.size ≤ W.heap.size) ⟨Good.is _, Good.is _, Good.is _, Good.rat _, Good.rat _, Good.box _ _ _, cert_put3, trivial⟩
        (fun W W1 hS hE => ⟨(Ext.trans hS.1 hE), (hS.2.1.ext hE), (hS.2.2.1.ext hE), (hS.2.2.2.1.ext hE), (hS.2.2.2.2.1.ext hE), (hS.2.2.2.2.2.1.ext hE), (hS.2.2.2.2.2.2.1.ext hE), (hS.2.2.2.2.2.2.2.1.ext hE), (hS.2.2.2.2.2.2.2.2.1.ext hE), (Nat.le_trans hS.2.2.2.2.2.2.2.2.2 (Ext.size hE))⟩) ⟨E0, p2, p3, hx1, hx2, h7_6, p7_9, h7_2, h7_3, Nat.le_refl _⟩ (by kernel_rfl) (by kernel_rfl) (by kernel_rfl) (by kernel_rfl) (A := ?A9) ?hA9 ?howe9 ?hfin9
      case hA9 =>
        intro vs
        simp only [putAll, Act.put, List.setIfInBounds_toArray, List.set_cons_zero, List.set_cons_succ, Nat.zero_add, Nat.reduceAdd]
        exact rfl
      case howe9 =>
        clear E0 p2 p3 hx1 hx2 h7_6 p7_9 h7_2 h7_3
        intro hf
        refine ⟨owesE 0 [] hf rfl (by kernel_rfl) ?_, owesE 1 [] hf rfl (by kernel_rfl) ?_, owesE 2 [] hf rfl (by kernel_rfl) ?_, owesE 3 [1, 2] hf rfl (by kernel_rfl) ?_, owesE 4 [0, 3] hf rfl (by kernel_rfl) ?_, owesE 5 [] hf rfl (by kernel_rfl) ?_, owesW 6 [5, 4] hf rfl (by kernel_rfl) (by kernel_rfl) ?_, trivial⟩
        all_goals intro vs W hS hp hx KO hKO
        all_goals simp only [Act.put, List.setIfInBounds_toArray, List.set_cons_zero, List.set_cons_succ] at hKO
        · have fc0 := hS.2.2.1.cell0
          have fc1 := hS.2.2.1.cell1
          have fc2 := hS.2.2.1.cell2
          go_simp
          exact hKO _ W (Ext.refl W) rfl
        · have fc0 := hS.2.1.cell0
          have fc1 := hS.2.1.cell1
          have fc2 := hS.2.1.cell2
          go_simp
          exact hKO _ W (Ext.refl W) rfl
        · have fc0 := hS.2.2.1.cell0
          have fc1 := hS.2.2.1.cell1
          have fc2 := hS.2.2.1.cell2
          go_simp
          exact hKO _ W (Ext.refl W) rfl
        · have e1 := isOf hp.1
          have e2 := isOf hp.2.1
          simp only [e1, e2] at hKO
          go_simp
          refine (Try.ratSub (hS.2.2.2.1) (hS.2.2.2.2.1) s1 s2 (by omega)).mono ?_
          rintro e W1 ⟨v, rfl, hv, hE⟩
          exact hKO _ W1 hE hv
        · have e0 := isOf hp.1
          have q3 := hp.2.1
          simp only [e0] at hKO
          go_simp
          refine (Try.ratAdd (hS.2.2.2.2.1) q3 (s2.mono (by omega)) SD.out (by omega)).mono ?_
          rintro e W1 ⟨v, rfl, hv, hE⟩
          exact hKO _ W1 hE hv
        · have hn := Bx3.new W 35 (.bool false) (.slice none 0 0) (.slice none 0 0)
          have hE := Ext.alloc1 W (.cells #[.bool false, .slice none 0 0, .slice none 0 0] 35)
          have hsz := hS.2.2.2.2.2.2.2.2.2
          go_simp
          exact hKO _ _ hE ⟨_, rfl, hsz, hn.form⟩
        · have q5 := hp.1
          have q4 := hp.2.1
          obtain ⟨g, ev, hg, hf⟩ := q5
          replace ev : vs 5 = _ := ev
          obtain ⟨x0, y0, z0, hx, hno⟩ := hf.bx3
          have qr := q4
          obtain ⟨b3, a3, n3, c3, d3, m3, o3, er, -, -, -⟩ := qr
          replace er : vs 4 = _ := er
          have r0 := hx.froz0
          have t0 := hx.cell0
          have r1 := hx.froz1
          have t1 := hx.cell1
          have r2 := hx.froz2
          have t2 := hx.cell2
          have hw := Wr.set3 hx hno b3 a3 n3 c3 d3 m3 o3
          have hq := hx.set (.bool b3) (.slice a3 n3 c3) (.slice d3 m3 o3)
          simp only [ev, er] at hKO
          go_simp
          exact hKO _ _ hw ⟨(Ext.wr hS.1 hw (by omega)), (hS.2.1.wr hw (by omega)), (hS.2.2.1.wr hw (by omega)), (hS.2.2.2.1.wr hw), (hS.2.2.2.2.1.wr hw), (hS.2.2.2.2.2.1.wr hw), (hS.2.2.2.2.2.2.1.wr hw (by omega)), (hS.2.2.2.2.2.2.2.1.wr hw), (hS.2.2.2.2.2.2.2.2.1.wr hw), (Nat.le_trans hS.2.2.2.2.2.2.2.2.2 hw.apart.size)⟩ ⟨g, b3, a3, n3, c3, d3, m3, o3, ev, er, hg, hq⟩
      intro vs W9 hS hp
      clear szw9 E0 p2 p3 hx1 hx2 h7_6 p7_9 h7_2 h7_3
      obtain ⟨E0, p2, p3, hx1, hx2, h7_6, p7_9, h7_2, h7_3, sz9⟩ := hS
      obtain ⟨h9_0, h9_1, h9_2, h9_3, h9_4, h9_5, h9_6, -⟩ := hp
      obtain ⟨g9_6, b9_6, a9_6, n9_6, c9_6, d9_6, m9_6, o9_6, ev9_6, er9_6, hg9_6, p9_6⟩ := h9_6
      replace ev9_6 : vs 5 = _ := ev9_6
      replace er9_6 : vs 4 = _ := er9_6
      replace h9_4 := (show Rw W9 (vs 4) (y + (x - y)) from h9_4)
      rw [er9_6] at h9_4
      replace h9_0 : vs 0 = .agg #[.bool b2, .slice a2 n2 c2, .slice d2 m2 o2] := h9_0
      replace h9_1 : vs 1 = .agg #[.bool b1, .slice a1 n1 c1, .slice d1 m1 o1] := h9_1
      replace h9_2 : vs 2 = .agg #[.bool b2, .slice a2 n2 c2, .slice d2 m2 o2] := h9_2
      simp only [ev9_6, er9_6, h9_0, h9_1, h9_2]
      replace h9_3 : Rw W9 (vs 3) (x - y) := h9_3
      generalize vs 3 = u9_3 at h9_3 ⊢
      clear ev9_6 er9_6 h9_0 h9_1 h9_2 h9_5
      have kp2_0 := p2.cell0
      have kp2_1 := p2.cell1
      have kp2_2 := p2.cell2
      have kp3_0 := p3.cell0
      have kp3_1 := p3.cell1
      have kp3_2 := p3.cell2
      have kp7_9_0 := p7_9.cell0
      have kp7_9_1 := p7_9.cell1
      have kp7_9_2 := p7_9.cell2
      have kp9_6_0 := p9_6.cell0
      have kp9_6_1 := p9_6.cell1
      have kp9_6_2 := p9_6.cell2
      go_upto_region 6 with (fail)
      clear kp2_0 kp2_1 kp2_2 kp3_0 kp3_1 kp3_2 kp7_9_0 kp7_9_1 kp7_9_2 kp9_6_0 kp9_6_1 kp9_6_2
      have ltp9_6 := p9_6.lt
      have szw10 := Ext.size E0
      refine region_go [.one fun v _ => v = .bool true,
          .one fun v _ => v = .bool true,
          .one fun v _ => v = .int .i64 0,
          .one fun v _ => v = .bool true,
          .one fun v _ => v = .bool true,
          .one fun v _ => v = .bool true,
          .one fun v _ => v = .int .i64 c,
          .one fun v _ => v = .int .i64 c,
          .one fun v _ => v = .bool true,
          .one fun v _ => v = .bool true,
          .one fun v _ => v = .bool true,
          .one fun v _ => v = .int .i64 c,
          .one fun v _ => v = .agg #[.bool b1, .slice a1 n1 c1, .slice d1 m1 o1],
          .one fun v _ => v = .agg #[.bool b2, .slice a2 n2 c2, .slice d2 m2 o2],
          .one fun v _ => v = .int .i64 c,
          .one fun v _ => v = .bool true,
          .one fun v _ => v = .bool true,
          .one fun v _ => v = .bool true,
          .one fun v _ => v = .agg #[.bool b7_9, .slice a7_9 n7_9 c7_9, .slice d7_9 m7_9 o7_9],
          .one fun v _ => v = .bool true,
          .one fun v _ => v = .bool true,
          .one fun v _ => v = .bool true,
          .one fun v _ => v = .agg #[.bool b9_6, .slice a9_6 n9_6 c9_6, .slice d9_6 m9_6 o9_6],
          .one fun v _ => v = .agg #[.bool b1, .slice a1 n1 c1, .slice d1 m1 o1],
          .one fun v _ => v = .bool true,
          .one fun v _ => v = .bool true,
          .one fun v _ => v = .bool true]
        (fun W => Ext w W ∧ Bx3 W w.heap.size 35 (.bool b1) (.slice a1 n1 c1) (.slice d1 m1 o1) ∧ Bx3 W (w.heap.size + 1) 35 (.bool b2) (.slice a2 n2 c2) (.slice d2 m2 o2) ∧ Rw W (.agg #[.bool b1, .slice a1 n1 c1, .slice d1 m1 o1]) x ∧ Rw W (.agg #[.bool b2, .slice a2 n2 c2, .slice d2 m2 o2]) y ∧ Rw W (.agg #[.bool b7_9, .slice a7_9 n7_9 c7_9, .slice d7_9 m7_9 o7_9]) ((x + y) / ((2 : Int) : Rat)) ∧ Bx3 W g7_9 35 (.bool b7_9) (.slice a7_9 n7_9 c7_9) (.slice d7_9 m7_9 o7_9) ∧ Rw W u7_2 (x + y) ∧ Rw W u7_3 (((2 : Int) : Rat)) ∧ Rw W (.agg #[.bool b9_6, .slice a9_6 n9_6 c9_6, .slice d9_6 m9_6 o9_6]) (y + (x - y)) ∧ Bx3 W g9_6 35 (.bool b9_6) (.slice a9_6 n9_6 c9_6) (.slice d9_6 m9_6 o9_6) ∧ Rw W u9_3 (x - y) ∧ W9.heap.size ≤ W.heap.size) ⟨Good.is _, Good.is _, Good.is _, Good.is _, Good.is _, Good.is _, Good.is _, Good.is _, Good.is _, Good.is _, Good.is _, Good.is _, Good.is _, Good.is _, Good.is _, Good.is _, Good.is _, Good.is _, Good.is _, Good.is _, Good.is _, Good.is _, Good.is _, Good.is _, Good.is _, Good.is _, Good.is _, trivial⟩
        (fun W W1 hS hE => ⟨(Ext.trans hS.1 hE), (hS.2.1.ext hE), (hS.2.2.1.ext hE), (hS.2.2.2.1.ext hE), (hS.2.2.2.2.1.ext hE), (hS.2.2.2.2.2.1.ext hE), (hS.2.2.2.2.2.2.1.ext hE), (hS.2.2.2.2.2.2.2.1.ext hE), (hS.2.2.2.2.2.2.2.2.1.ext hE), (hS.2.2.2.2.2.2.2.2.2.1.ext hE), (hS.2.2.2.2.2.2.2.2.2.2.1.ext hE), (hS.2.2.2.2.2.2.2.2.2.2.2.1.ext hE), (Nat.le_trans hS.2.2.2.2.2.2.2.2.2.2.2.2 (Ext.size hE))⟩) ⟨E0, p2, p3, hx1, hx2, h7_6, p7_9, h7_2, h7_3, h9_4, p9_6, h9_3, Nat.le_refl _⟩ (by kernel_rfl) (by kernel_rfl) (by kernel_rfl) (by kernel_rfl) (A := ?A10) ?hA10 ?howe10 ?hfin10
      case hA10 =>
        intro vs
        simp only [putAll, Act.put, List.setIfInBounds_toArray, List.set_cons_zero, List.set_cons_succ, Nat.zero_add, Nat.reduceAdd]
        exact rfl
      case howe10 =>
        clear E0 p2 p3 hx1 hx2 h7_6 p7_9 h7_2 h7_3 h9_4 p9_6 h9_3
        intro hf
        refine ⟨owesE 0 [] hf rfl (by kernel_rfl) ?_, owesE 1 [0] hf rfl (by kernel_rfl) ?_, owesE 2 [1] hf rfl (by kernel_rfl) ?_, owesE 3 [1, 2] hf rfl (by kernel_rfl) ?_, owesE 4 [1, 3] hf rfl (by kernel_rfl) ?_, owesE 5 [4] hf rfl (by kernel_rfl) ?_, owesE 6 [5] hf rfl (by kernel_rfl) ?_, owesE 7 [5] hf rfl (by kernel_rfl) ?_, owesE 8 [5, 6, 7] hf rfl (by kernel_rfl) ?_, owesE 9 [5, 8] hf rfl (by kernel_rfl) ?_, owesE 10 [9] hf rfl (by kernel_rfl) ?_, owesE 11 [10] hf rfl (by kernel_rfl) ?_, owesE 12 [10] hf rfl (by kernel_rfl) ?_, owesE 13 [10] hf rfl (by kernel_rfl) ?_, owesE 14 [10, 12, 13] hf rfl (by kernel_rfl) ?_, owesE 15 [10, 11, 14] hf rfl (by kernel_rfl) ?_, owesE 16 [10, 15] hf rfl (by kernel_rfl) ?_, owesE 17 [16] hf rfl (by kernel_rfl) ?_, owesE 18 [17] hf rfl (by kernel_rfl) ?_, owesE 19 [17, 18] hf rfl (by kernel_rfl) ?_, owesE 20 [17, 19] hf rfl (by kernel_rfl) ?_, owesE 21 [20] hf rfl (by kernel_rfl) ?_, owesE 22 [21] hf rfl (by kernel_rfl) ?_, owesE 23 [21] hf rfl (by kernel_rfl) ?_, owesE 24 [21, 22, 23] hf rfl (by kernel_rfl) ?_, owesE 25 [21, 24] hf rfl (by kernel_rfl) ?_, owesE 26 [25] hf rfl (by kernel_rfl) ?_, trivial⟩
        all_goals intro vs W hS hp hx KO hKO
        all_goals simp only [Act.put, List.setIfInBounds_toArray, List.set_cons_zero, List.set_cons_succ] at hKO
        · go_simp
          refine (Try.alive05 _).mono ?_
          rintro e W1 ⟨rfl, hE⟩
          exact hKO _ W1 hE rfl
        · have e0 := isOf hp.1
          simp only [e0] at hKO
          go_simp
          exact hKO _ W (Ext.refl W) rfl
        · have e1 := isOf hp.1
          simp only [e1] at hKO
          go_simp
          exact hKO _ W (Ext.refl W) rfl
        · have e1 := isOf hp.1
          have e2 := isOf hp.2.1
          simp only [e1, e2] at hKO
          go_simp
          exact hKO _ W (Ext.refl W) rfl
        · have e1 := isOf hp.1
          have e3 := isOf hp.2.1
          simp only [e1, e3] at hKO
          go_simp
          exact hKO _ W (Ext.refl W) rfl
        · have e4 := isOf hp.1
          simp only [e4] at hKO
          go_simp
          exact hKO _ W (Ext.refl W) rfl
        · have e5 := isOf hp.1
          simp only [e5] at hKO
          go_simp
          exact hKO _ W (Ext.refl W) rfl
        · have e5 := isOf hp.1
          simp only [e5] at hKO
          go_simp
          exact hKO _ W (Ext.refl W) rfl
        · have e5 := isOf hp.1
          have e6 := isOf hp.2.1
          have e7 := isOf hp.2.2.1
          simp only [e5, e6, e7] at hKO
          go_simp
          exact hKO _ W (Ext.refl W) rfl
        · have e5 := isOf hp.1
          have e8 := isOf hp.2.1
          simp only [e5, e8] at hKO
          go_simp
          exact hKO _ W (Ext.refl W) rfl
        · have e9 := isOf hp.1
          simp only [e9] at hKO
          go_simp
          exact hKO _ W (Ext.refl W) rfl
        · have e10 := isOf hp.1
          simp only [e10] at hKO
          go_simp
          exact hKO _ W (Ext.refl W) rfl
        · have e10 := isOf hp.1
          simp only [e10] at hKO
          have fc0 := hS.2.1.cell0
          have fc1 := hS.2.1.cell1
          have fc2 := hS.2.1.cell2
          go_simp
          exact hKO _ W (Ext.refl W) rfl
        · have e10 := isOf hp.1
          simp only [e10] at hKO
          have fc0 := hS.2.2.1.cell0
          have fc1 := hS.2.2.1.cell1
          have fc2 := hS.2.2.1.cell2
          go_simp
          exact hKO _ W (Ext.refl W) rfl
        · have e10 := isOf hp.1
          have e12 := isOf hp.2.1
          have e13 := isOf hp.2.2.1
          simp only [e10, e12, e13] at hKO
          go_simp
          refine (Try.ratCmpR (hS.2.2.2.1) (hS.2.2.2.2.1) s1 s2 (by omega) C0.out).mono ?_
          rintro e W1 ⟨rfl, hE⟩
          exact hKO _ W1 hE rfl
        · have e10 := isOf hp.1
          have e11 := isOf hp.2.1
          have e14 := isOf hp.2.2.1
          simp only [e10, e11, e14] at hKO
          go_simp
          exact hKO _ W (Ext.refl W) rfl
        · have e10 := isOf hp.1
          have e15 := isOf hp.2.1
          simp only [e10, e15] at hKO
          go_simp
          exact hKO _ W (Ext.refl W) rfl
        · have e16 := isOf hp.1
          simp only [e16] at hKO
          go_simp
          exact hKO _ W (Ext.refl W) rfl
        · have e17 := isOf hp.1
          simp only [e17] at hKO
          have fc0 := hS.2.2.2.2.2.2.1.cell0
          have fc1 := hS.2.2.2.2.2.2.1.cell1
          have fc2 := hS.2.2.2.2.2.2.1.cell2
          go_simp
          exact hKO _ W (Ext.refl W) rfl
        · have e17 := isOf hp.1
          have e18 := isOf hp.2.1
          simp only [e17, e18] at hKO
          go_simp
          refine (Try.refRRightT (hS.2.2.2.2.2.1) SMid.out (by omega)).mono ?_
          rintro e W1 ⟨rfl, hE⟩
          exact hKO _ W1 hE rfl
        · have e17 := isOf hp.1
          have e19 := isOf hp.2.1
          simp only [e17, e19] at hKO
          go_simp
          exact hKO _ W (Ext.refl W) rfl
        · have e20 := isOf hp.1
          simp only [e20] at hKO
          go_simp
          exact hKO _ W (Ext.refl W) rfl
        · have e21 := isOf hp.1
          simp only [e21] at hKO
          have fc0 := hS.2.2.2.2.2.2.2.2.2.2.1.cell0
          have fc1 := hS.2.2.2.2.2.2.2.2.2.2.1.cell1
          have fc2 := hS.2.2.2.2.2.2.2.2.2.2.1.cell2
          go_simp
          exact hKO _ W (Ext.refl W) rfl
        · have e21 := isOf hp.1
          simp only [e21] at hKO
          have fc0 := hS.2.1.cell0
          have fc1 := hS.2.1.cell1
          have fc2 := hS.2.1.cell2
          go_simp
          exact hKO _ W (Ext.refl W) rfl
        · have e21 := isOf hp.1
          have e22 := isOf hp.2.1
          have e23 := isOf hp.2.2.1
          simp only [e21, e22, e23] at hKO
          go_simp
          refine (Try.refRSameT (hS.2.2.2.2.2.2.2.2.2.1) (hS.2.2.2.1) EB.out).mono ?_
          rintro e W1 ⟨rfl, hE⟩
          exact hKO _ W1 hE rfl
        · have e21 := isOf hp.1
          have e24 := isOf hp.2.1
          simp only [e21, e24] at hKO
          go_simp
          exact hKO _ W (Ext.refl W) rfl
        · have e25 := isOf hp.1
          simp only [e25] at hKO
          go_simp
          exact hKO _ W (Ext.refl W) rfl
      intro vs W10 hS hp
      clear szw10 E0 p2 p3 hx1 hx2 h7_6 p7_9 h7_2 h7_3 h9_4 p9_6 h9_3
      obtain ⟨E0, p2, p3, hx1, hx2, h7_6, p7_9, h7_2, h7_3, h9_4, p9_6, h9_3, sz10⟩ := hS
      obtain ⟨h10_0, h10_1, h10_2, h10_3, h10_4, h10_5, h10_6, h10_7, h10_8, h10_9, h10_10, h10_11, h10_12, h10_13, h10_14, h10_15, h10_16, h10_17, h10_18, h10_19, h10_20, h10_21, h10_22, h10_23, h10_24, h10_25, h10_26, -⟩ := hp
      replace h10_0 : vs 0 = .bool true := h10_0
      replace h10_1 : vs 1 = .bool true := h10_1
      replace h10_2 : vs 2 = .int .i64 0 := h10_2
      replace h10_3 : vs 3 = .bool true := h10_3
      replace h10_4 : vs 4 = .bool true := h10_4
      replace h10_5 : vs 5 = .bool true := h10_5
      replace h10_6 : vs 6 = .int .i64 c := h10_6
      replace h10_7 : vs 7 = .int .i64 c := h10_7
      replace h10_8 : vs 8 = .bool true := h10_8
      replace h10_9 : vs 9 = .bool true := h10_9
      replace h10_10 : vs 10 = .bool true := h10_10
      replace h10_11 : vs 11 = .int .i64 c := h10_11
      replace h10_12 : vs 12 = .agg #[.bool b1, .slice a1 n1 c1, .slice d1 m1 o1] := h10_12
      replace h10_13 : vs 13 = .agg #[.bool b2, .slice a2 n2 c2, .slice d2 m2 o2] := h10_13
      replace h10_14 : vs 14 = .int .i64 c := h10_14
      replace h10_15 : vs 15 = .bool true := h10_15
      replace h10_16 : vs 16 = .bool true := h10_16
      replace h10_17 : vs 17 = .bool true := h10_17
      replace h10_18 : vs 18 = .agg #[.bool b7_9, .slice a7_9 n7_9 c7_9, .slice d7_9 m7_9 o7_9] := h10_18
      replace h10_19 : vs 19 = .bool true := h10_19
      replace h10_20 : vs 20 = .bool true := h10_20
      replace h10_21 : vs 21 = .bool true := h10_21
      replace h10_22 : vs 22 = .agg #[.bool b9_6, .slice a9_6 n9_6 c9_6, .slice d9_6 m9_6 o9_6] := h10_22
      replace h10_23 : vs 23 = .agg #[.bool b1, .slice a1 n1 c1, .slice d1 m1 o1] := h10_23
      replace h10_24 : vs 24 = .bool true := h10_24
      replace h10_25 : vs 25 = .bool true := h10_25
      replace h10_26 : vs 26 = .bool true := h10_26
      simp only [h10_0, h10_1, h10_2, h10_3, h10_4, h10_5, h10_6, h10_7, h10_8, h10_9, h10_10, h10_11, h10_12, h10_13, h10_14, h10_15, h10_16, h10_17, h10_18, h10_19, h10_20, h10_21, h10_22, h10_23, h10_24, h10_25, h10_26]
      clear h10_0 h10_1 h10_2 h10_3 h10_4 h10_5 h10_6 h10_7 h10_8 h10_9 h10_10 h10_11 h10_12 h10_13 h10_14 h10_15 h10_16 h10_17 h10_18 h10_19 h10_20 h10_21 h10_22 h10_23 h10_24 h10_25 h10_26
      have kp2_0 := p2.cell0
      have kp2_1 := p2.cell1
      have kp2_2 := p2.cell2
      have kp3_0 := p3.cell0
      have kp3_1 := p3.cell1
      have kp3_2 := p3.cell2
      have kp7_9_0 := p7_9.cell0
      have kp7_9_1 := p7_9.cell1
      have kp7_9_2 := p7_9.cell2
      have kp9_6_0 := p9_6.cell0
      have kp9_6_1 := p9_6.cell1
      have kp9_6_2 := p9_6.cell2
      go_wp2
      go_ret
      exact ⟨rfl, E0⟩

end Go.Rt
