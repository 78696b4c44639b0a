/-
  The program's comparisons; quotients by nought.
-/
import Derived.Test.YtepidkmahladpaaRight
namespace Go.Rt
open Go.RowKit Go.Proofs

theorem cmpI_swap {x y : Int} (h1 : x < 0) (h2 : y < 0) : cmpI (y.natAbs : Nat) (x.natAbs : Nat) = cmpI x y := by
  unfold cmpI
  by_cases ha : x < y
  · rw [if_pos ha, if_pos (by omega)]
  · rw [if_neg ha, if_neg (by omega)]
    by_cases hc : y < x
    · rw [if_pos hc, if_pos (by omega)]
    · rw [if_neg hc, if_neg (by omega)]

set_option maxRecDepth 100000 in
set_option maxHeartbeats 400000 in
theorem Try.zedCmp {v1 v2 : Value} {x y : Int} {w : World} (h1 : Zw w v1 x) (h2 : Zw w v2 y) :
    Calls Try.prog 114 #[v1, v2] w fun e w' => e = .returned (.int .i64 (cmpI x y)) ∧ Ext w w' := by
  obtain ⟨b1, a1, n1, c1, rfl, q1⟩ : ∃ b a n c, v1 = .agg #[.bool b, .slice a n c] ∧ True := let ⟨b, a, n, c, e, _⟩ := h1; ⟨b, a, n, c, e, trivial⟩
  clear q1
  obtain ⟨b2, a2, n2, c2, rfl, q2⟩ : ∃ b a n c, v2 = .agg #[.bool b, .slice a n c] ∧ True := let ⟨b, a, n, c, e, _⟩ := h2; ⟨b, a, n, c, e, trivial⟩
  clear q2
  have hb1 := h1.neg
  have hb2 := h2.neg
  have g1 := h1.num
  have g2 := h2.num
  clear h1 h2
  cases b1
  · cases b2
    · have s1 := of_decide_eq_false hb1.out.symm
      have s2 := of_decide_eq_false hb2.out.symm
      have HR : Hid (cmpI (x.natAbs : Nat) (y.natAbs : Nat) = cmpI x y) := Lib.hid (by rw [show ((x.natAbs : Nat) : Int) = x by omega, show ((y.natAbs : Nat) : Int) = y by omega])
      clear s1 s2 hb1 hb2
      obtain ⟨W0, hW0⟩ : ∃ W0, W0 = ((w.alloc (.cells #[.bool false, .slice a1 n1 c1] 33)).alloc (.cells #[.bool false, .slice a2 n2 c2] 33)) := ⟨_, rfl⟩
      have E0 : Ext w W0 := by rw [hW0]; exact ((Ext.alloc1 w (.cells #[.bool false, .slice a1 n1 c1] 33)).alloc (.cells #[.bool false, .slice a2 n2 c2] 33))
      replace g1 : Nw W0 (.slice a1 n1 c1) x.natAbs := g1.ext E0
      replace g2 : Nw W0 (.slice a2 n2 c2) y.natAbs := g2.ext E0
      have p2 : Bx2 W0 w.heap.size 33 (.bool false) (.slice a1 n1 c1) := by rw [hW0]; exact (Bx2.new w 33 (.bool false) (.slice a1 n1 c1)).ext (Ext.alloc1 (w.alloc (.cells #[.bool false, .slice a1 n1 c1] 33)) (.cells #[.bool false, .slice a2 n2 c2] 33))
      have p3 : Bx2 W0 (w.heap.size + 1) 33 (.bool false) (.slice a2 n2 c2) := by rw [hW0]; simpa using (Bx2.new (w.alloc (.cells #[.bool false, .slice a1 n1 c1] 33)) 33 (.bool false) (.slice a2 n2 c2))
      go_enter Try.func114, Try.ntmps114
      have kp2_0 := p2.cell0
      have kp2_1 := p2.cell1
      have kp3_0 := p3.cell0
      have kp3_1 := p3.cell1
      go_wp2_with fail
      rw [← hW0]
      clear hW0
      clear kp2_0 kp2_1 kp3_0 kp3_1
      refine (Try.natCmp g1 g2).mono ?_
      rintro e Wc ⟨rfl, hE⟩
      rw [HR.out]
      replace E0 : Ext w Wc := (Ext.trans E0 hE)
      replace g1 : Nw Wc (.slice a1 n1 c1) x.natAbs := (g1.ext hE)
      replace g2 : Nw Wc (.slice a2 n2 c2) y.natAbs := (g2.ext hE)
      replace p2 : Bx2 Wc w.heap.size 33 (.bool false) (.slice a1 n1 c1) := (p2.ext hE)
      replace p3 : Bx2 Wc (w.heap.size + 1) 33 (.bool false) (.slice a2 n2 c2) := (p3.ext hE)
      clear hE
      have kp2_0 := p2.cell0
      have kp2_1 := p2.cell1
      have kp3_0 := p3.cell0
      have kp3_1 := p3.cell1
      go_wp2
      go_ret
      exact ⟨rfl, E0⟩
    · have s1 := of_decide_eq_false hb1.out.symm
      have s2 := of_decide_eq_true hb2.out.symm
      have HR : Hid (1 = cmpI x y) := Lib.hid (by rw [cmpI_gt (by omega)])
      clear s1 s2 hb1 hb2
      obtain ⟨W0, hW0⟩ : ∃ W0, W0 = ((w.alloc (.cells #[.bool false, .slice a1 n1 c1] 33)).alloc (.cells #[.bool true, .slice a2 n2 c2] 33)) := ⟨_, rfl⟩
      have E0 : Ext w W0 := by rw [hW0]; exact ((Ext.alloc1 w (.cells #[.bool false, .slice a1 n1 c1] 33)).alloc (.cells #[.bool true, .slice a2 n2 c2] 33))
      replace g1 : Nw W0 (.slice a1 n1 c1) x.natAbs := g1.ext E0
      replace g2 : Nw W0 (.slice a2 n2 c2) y.natAbs := g2.ext E0
      have p2 : Bx2 W0 w.heap.size 33 (.bool false) (.slice a1 n1 c1) := by rw [hW0]; exact (Bx2.new w 33 (.bool false) (.slice a1 n1 c1)).ext (Ext.alloc1 (w.alloc (.cells #[.bool false, .slice a1 n1 c1] 33)) (.cells #[.bool true, .slice a2 n2 c2] 33))
      have p3 : Bx2 W0 (w.heap.size + 1) 33 (.bool true) (.slice a2 n2 c2) := by rw [hW0]; simpa using (Bx2.new (w.alloc (.cells #[.bool false, .slice a1 n1 c1] 33)) 33 (.bool true) (.slice a2 n2 c2))
      go_enter Try.func114, Try.ntmps114
      have kp2_0 := p2.cell0
      have kp2_1 := p2.cell1
      have kp3_0 := p3.cell0
      have kp3_1 := p3.cell1
      go_wp2
      go_ret
      exact ⟨ret_i HR.out, by rw [← hW0]; exact E0⟩
  · cases b2
    · have s1 := of_decide_eq_true hb1.out.symm
      have s2 := of_decide_eq_false hb2.out.symm
      have HR : Hid (-1 = cmpI x y) := Lib.hid (by rw [cmpI_lt (by omega)])
      clear s1 s2 hb1 hb2
      obtain ⟨W0, hW0⟩ : ∃ W0, W0 = ((w.alloc (.cells #[.bool true, .slice a1 n1 c1] 33)).alloc (.cells #[.bool false, .slice a2 n2 c2] 33)) := ⟨_, rfl⟩
      have E0 : Ext w W0 := by rw [hW0]; exact ((Ext.alloc1 w (.cells #[.bool true, .slice a1 n1 c1] 33)).alloc (.cells #[.bool false, .slice a2 n2 c2] 33))
      replace g1 : Nw W0 (.slice a1 n1 c1) x.natAbs := g1.ext E0
      replace g2 : Nw W0 (.slice a2 n2 c2) y.natAbs := g2.ext E0
      have p2 : Bx2 W0 w.heap.size 33 (.bool true) (.slice a1 n1 c1) := by rw [hW0]; exact (Bx2.new w 33 (.bool true) (.slice a1 n1 c1)).ext (Ext.alloc1 (w.alloc (.cells #[.bool true, .slice a1 n1 c1] 33)) (.cells #[.bool false, .slice a2 n2 c2] 33))
      have p3 : Bx2 W0 (w.heap.size + 1) 33 (.bool false) (.slice a2 n2 c2) := by rw [hW0]; simpa using (Bx2.new (w.alloc (.cells #[.bool true, .slice a1 n1 c1] 33)) 33 (.bool false) (.slice a2 n2 c2))
      go_enter Try.func114, Try.ntmps114
      have kp2_0 := p2.cell0
      have kp2_1 := p2.cell1
      have kp3_0 := p3.cell0
      have kp3_1 := p3.cell1
      go_wp2
      go_ret
      exact ⟨ret_i HR.out, by rw [← hW0]; exact E0⟩
    · have s1 := of_decide_eq_true hb1.out.symm
      have s2 := of_decide_eq_true hb2.out.symm
      have HR : Hid (cmpI (y.natAbs : Nat) (x.natAbs : Nat) = cmpI x y) := Lib.hid (cmpI_swap s1 s2)
      clear s1 s2 hb1 hb2
      have G1 := g1
      have G2 := g2
      obtain ⟨W0, hW0⟩ : ∃ W0, W0 = ((w.alloc (.cells #[.bool true, .slice a1 n1 c1] 33)).alloc (.cells #[.bool true, .slice a2 n2 c2] 33)) := ⟨_, rfl⟩
      have E0 : Ext w W0 := by rw [hW0]; exact ((Ext.alloc1 w (.cells #[.bool true, .slice a1 n1 c1] 33)).alloc (.cells #[.bool true, .slice a2 n2 c2] 33))
      replace g1 : Nw W0 (.slice a1 n1 c1) x.natAbs := g1.ext E0
      replace g2 : Nw W0 (.slice a2 n2 c2) y.natAbs := g2.ext E0
      have p2 : Bx2 W0 w.heap.size 33 (.bool true) (.slice a1 n1 c1) := by rw [hW0]; exact (Bx2.new w 33 (.bool true) (.slice a1 n1 c1)).ext (Ext.alloc1 (w.alloc (.cells #[.bool true, .slice a1 n1 c1] 33)) (.cells #[.bool true, .slice a2 n2 c2] 33))
      have p3 : Bx2 W0 (w.heap.size + 1) 33 (.bool true) (.slice a2 n2 c2) := by rw [hW0]; simpa using (Bx2.new (w.alloc (.cells #[.bool true, .slice a1 n1 c1] 33)) 33 (.bool true) (.slice a2 n2 c2))
      go_enter Try.func114, Try.ntmps114
      have kp2_0 := p2.cell0
      have kp2_1 := p2.cell1
      have zp2_0 := p2.froz0
      have zp2_1 := p2.froz1
      have kp3_0 := p3.cell0
      have kp3_1 := p3.cell1
      have zp3_0 := p3.froz0
      have zp3_1 := p3.froz1
      go_wp2_with fail
      refine (Try.natCmp (G2.ext ((Ext.alloc1 _ _).alloc _)) (G1.ext ((Ext.alloc1 _ _).alloc _))).mono ?_
      rintro e W1 ⟨rfl, hE⟩
      rw [HR.out]
      replace E0 := ((Ext.alloc1 w _).alloc _).trans hE
      go_wp2
      go_ret
      exact ⟨rfl, E0⟩

set_option maxRecDepth 100000 in
set_option maxHeartbeats 400000 in
theorem Try.ratCmp {v1 v2 : Value} {x y : Rat} {L : Nat} {w : World} (h1 : Rw w v1 x) (h2 : Rw w v2 y) (s1 : SmR L x) (s2 : SmR L y) (hL : L + L ≤ 10000000) :
    Calls Try.prog 66 #[v1, v2] w fun e w' => e = .returned (.int .i64 (if x < y then -1 else if y < x then 1 else 0)) ∧ Ext w w' := by
  rw [← cmpI_mul]
  obtain ⟨b1, a1, n1, c1, d1, m1, o1, rfl, q1⟩ : ∃ b a n c d m o, v1 = .agg #[.bool b, .slice a n c, .slice d m o] ∧ True := let ⟨b, a, n, c, d, m, o, e, _⟩ := h1; ⟨b, a, n, c, d, m, o, e, trivial⟩
  clear q1
  obtain ⟨b2, a2, n2, c2, d2, m2, o2, rfl, q2⟩ : ∃ b a n c d m o, v2 = .agg #[.bool b, .slice a n c, .slice d m o] ∧ True := let ⟨b, a, n, c, d, m, o, e, _⟩ := h2; ⟨b, a, n, c, d, m, o, e, trivial⟩
  clear q2
  obtain ⟨X, hX⟩ : ∃ X, X = x.num * (y.den : Int) := ⟨_, rfl⟩
  obtain ⟨Y, hY⟩ : ∃ Y, Y = y.num * (x.den : Int) := ⟨_, rfl⟩
  rw [← hX, ← hY]
  have HX := Lib.hid hX
  have HY := Lib.hid hY
  clear hX hY
  obtain ⟨W0, hW0⟩ : ∃ W0, W0 = ((w.alloc (.cells #[.bool b1, .slice a1 n1 c1, .slice d1 m1 o1] 35)).alloc (.cells #[.bool b2, .slice a2 n2 c2, .slice d2 m2 o2] 35)) := ⟨_, rfl⟩
  have E0 : Ext w W0 := by rw [hW0]; exact ((Ext.alloc1 w (.cells #[.bool b1, .slice a1 n1 c1, .slice d1 m1 o1] 35)).alloc (.cells #[.bool b2, .slice a2 n2 c2, .slice d2 m2 o2] 35))
  replace h1 : Rw W0 (.agg #[.bool b1, .slice a1 n1 c1, .slice d1 m1 o1]) x := h1.ext E0
  replace h2 : Rw W0 (.agg #[.bool b2, .slice a2 n2 c2, .slice d2 m2 o2]) y := h2.ext E0
  have p2 : Bx3 W0 w.heap.size 35 (.bool b1) (.slice a1 n1 c1) (.slice d1 m1 o1) := by rw [hW0]; exact (Bx3.new w 35 (.bool b1) (.slice a1 n1 c1) (.slice d1 m1 o1)).ext (Ext.alloc1 (w.alloc (.cells #[.bool b1, .slice a1 n1 c1, .slice d1 m1 o1] 35)) (.cells #[.bool b2, .slice a2 n2 c2, .slice d2 m2 o2] 35))
  have p3 : Bx3 W0 (w.heap.size + 1) 35 (.bool b2) (.slice a2 n2 c2) (.slice d2 m2 o2) := by rw [hW0]; simpa using (Bx3.new (w.alloc (.cells #[.bool b1, .slice a1 n1 c1, .slice d1 m1 o1] 35)) 35 (.bool b2) (.slice a2 n2 c2) (.slice d2 m2 o2))
  go_enter Try.func66, Try.ntmps66
  have kp2_0 := p2.cell0
  have kp2_1 := p2.cell1
  have kp2_2 := p2.cell2
  have kp3_0 := p3.cell0
  have kp3_1 := p3.cell1
  have kp3_2 := p3.cell2
  go_upto_region 1 with (fail)
  rw [← hW0]
  clear hW0
  clear kp2_0 kp2_1 kp2_2 kp3_0 kp3_1 kp3_2
  have ltp2 := p2.lt
  have ltp3 := p3.lt
  have szw1 := Ext.size E0
  refine region_go [.one fun v _ => v = .pointer (some ⟨w.heap.size, 0, none⟩),
      .one fun v _ => v = .agg #[.bool b1, .slice a1 n1 c1],
      .one fun v _ => v = .pointer (some ⟨w.heap.size + 1, 2, none⟩),
      .one fun v _ => v = .slice d2 m2 o2,
      .one fun v W => Zw W v X,
      .one fun v _ => v = .pointer (some ⟨w.heap.size + 1, 0, none⟩),
      .one fun v _ => v = .agg #[.bool b2, .slice a2 n2 c2],
      .one fun v _ => v = .pointer (some ⟨w.heap.size, 2, none⟩),
      .one fun v _ => v = .slice d1 m1 o1,
      .one fun v W => Zw W v Y,
      .one fun v _ => v = .int .i64 (cmpI X Y),
      .one fun v _ => v = .int .i64 (cmpI X Y)]
    (fun W => Ext w W ∧ Rw W (.agg #[.bool b1, .slice a1 n1 c1, .slice d1 m1 o1]) x ∧ Rw W (.agg #[.bool b2, .slice a2 n2 c2, .slice d2 m2 o2]) y ∧ Bx3 W w.heap.size 35 (.bool b1) (.slice a1 n1 c1) (.slice d1 m1 o1) ∧ Bx3 W (w.heap.size + 1) 35 (.bool b2) (.slice a2 n2 c2) (.slice d2 m2 o2) ∧ W0.heap.size ≤ W.heap.size) ⟨Good.is _, Good.is _, Good.is _, Good.is _, Good.zed _, Good.is _, Good.is _, Good.is _, Good.is _, Good.zed _, Good.is _, Good.is _, trivial⟩
    (fun W W1 hS hE => ⟨(Ext.trans hS.1 hE), (hS.2.1.ext hE), (hS.2.2.1.ext hE), (hS.2.2.2.1.ext hE), (hS.2.2.2.2.1.ext hE), (Nat.le_trans hS.2.2.2.2.2 (Ext.size hE))⟩) ⟨E0, h1, h2, p2, p3, Nat.le_refl _⟩ (by kernel_rfl) (by kernel_rfl) (by kernel_rfl) (by kernel_rfl) (A := ?A1) ?hA1 ?howe1 ?hfin1
  case hA1 =>
    intro vs
    simp only [putAll, Act.put, List.setIfInBounds_toArray, List.set_cons_zero, List.set_cons_succ, Nat.zero_add, Nat.reduceAdd]
    exact rfl
  case howe1 =>
    clear E0 h1 h2 p2 p3
    intro hf
    refine ⟨owesE 0 [] hf rfl (by kernel_rfl) ?_, owesE 1 [0] hf rfl (by kernel_rfl) ?_, owesE 2 [] hf rfl (by kernel_rfl) ?_, owesE 3 [2] hf rfl (by kernel_rfl) ?_, owesE 4 [1, 3] hf rfl (by kernel_rfl) ?_, owesE 5 [] hf rfl (by kernel_rfl) ?_, owesE 6 [5] hf rfl (by kernel_rfl) ?_, owesE 7 [] hf rfl (by kernel_rfl) ?_, owesE 8 [7] hf rfl (by kernel_rfl) ?_, owesE 9 [6, 8] hf rfl (by kernel_rfl) ?_, owesE 10 [4, 9] hf rfl (by kernel_rfl) ?_, owesE 11 [10] hf rfl (by kernel_rfl) ?_, trivial⟩
    all_goals intro vs W hS hp hx KO hKO
    all_goals simp only [Act.put, List.setIfInBounds_toArray, List.set_cons_zero, List.set_cons_succ] at hKO
    · go_simp
      exact hKO _ W (Ext.refl W) rfl
    · have e0 := isOf hp.1
      simp only [e0] at hKO
      have fc0 := hS.2.2.2.1.cell0
      have fc1 := hS.2.2.2.1.cell1
      go_simp
      exact hKO _ W (Ext.refl W) rfl
    · go_simp
      exact hKO _ W (Ext.refl W) rfl
    · have e2 := isOf hp.1
      simp only [e2] at hKO
      have fc2 := hS.2.2.2.2.1.cell2
      go_simp
      exact hKO _ W (Ext.refl W) rfl
    · have e1 := isOf hp.1
      have e3 := isOf hp.2.1
      simp only [e1, e3] at hKO
      go_simp
      refine (Try.ratTimes (hS.2.1.top) (hS.2.2.1.den) s1.1 s2.2 hL).mono ?_
      rintro e W1 ⟨v, rfl, hv, hE⟩
      rw [← HX.out] at hv
      exact hKO _ W1 hE hv
    · go_simp
      exact hKO _ W (Ext.refl W) rfl
    · have e5 := isOf hp.1
      simp only [e5] at hKO
      have fc0 := hS.2.2.2.2.1.cell0
      have fc1 := hS.2.2.2.2.1.cell1
      go_simp
      exact hKO _ W (Ext.refl W) rfl
    · go_simp
      exact hKO _ W (Ext.refl W) rfl
    · have e7 := isOf hp.1
      simp only [e7] at hKO
      have fc2 := hS.2.2.2.1.cell2
      go_simp
      exact hKO _ W (Ext.refl W) rfl
    · have e6 := isOf hp.1
      have e8 := isOf hp.2.1
      simp only [e6, e8] at hKO
      go_simp
      refine (Try.ratTimes (hS.2.2.1.top) (hS.2.1.den) s2.1 s1.2 hL).mono ?_
      rintro e W1 ⟨v, rfl, hv, hE⟩
      rw [← HY.out] at hv
      exact hKO _ W1 hE hv
    · have q4 := hp.1
      have q9 := hp.2.1
      go_simp
      refine (Try.zedCmp q4 q9).mono ?_
      rintro e W1 ⟨rfl, hE⟩
      exact hKO _ W1 hE rfl
    · have e10 := isOf hp.1
      simp only [e10] at hKO
      go_simp
      exact hKO _ W (Ext.refl W) rfl
  intro vs W1 hS hp
  clear szw1 E0 h1 h2 p2 p3
  obtain ⟨E0, h1, h2, p2, p3, sz1⟩ := hS
  obtain ⟨h1_0, h1_1, h1_2, h1_3, h1_4, h1_5, h1_6, h1_7, h1_8, h1_9, h1_10, h1_11, -⟩ := hp
  replace h1_0 : vs 0 = .pointer (some ⟨w.heap.size, 0, none⟩) := h1_0
  replace h1_1 : vs 1 = .agg #[.bool b1, .slice a1 n1 c1] := h1_1
  replace h1_2 : vs 2 = .pointer (some ⟨w.heap.size + 1, 2, none⟩) := h1_2
  replace h1_3 : vs 3 = .slice d2 m2 o2 := h1_3
  replace h1_5 : vs 5 = .pointer (some ⟨w.heap.size + 1, 0, none⟩) := h1_5
  replace h1_6 : vs 6 = .agg #[.bool b2, .slice a2 n2 c2] := h1_6
  replace h1_7 : vs 7 = .pointer (some ⟨w.heap.size, 2, none⟩) := h1_7
  replace h1_8 : vs 8 = .slice d1 m1 o1 := h1_8
  replace h1_10 : vs 10 = .int .i64 (cmpI X Y) := h1_10
  replace h1_11 : vs 11 = .int .i64 (cmpI X Y) := h1_11
  simp only [h1_0, h1_1, h1_2, h1_3, h1_5, h1_6, h1_7, h1_8, h1_10, h1_11]
  replace h1_4 : Zw W1 (vs 4) X := h1_4
  generalize vs 4 = u1_4 at h1_4 ⊢
  replace h1_9 : Zw W1 (vs 9) Y := h1_9
  generalize vs 9 = u1_9 at h1_9 ⊢
  clear h1_0 h1_1 h1_2 h1_3 h1_5 h1_6 h1_7 h1_8 h1_10 h1_11
  go_wp2
  go_ret
  exact ⟨rfl, E0⟩

set_option maxRecDepth 100000 in
set_option maxHeartbeats 400000 in
theorem Try.refRDiv0 {v1 v2 : Value} {x : Rat} {L : Nat} {w : World} (h1 : Rw w v1 x) (h2 : Rw w v2 0) (s1 : SmR L x) (hL : L ≤ 100000) :
    Calls Try.prog 32 #[v1, v2] w fun e w' => e = .returned (.tuple #[.agg #[.bool false, .slice none 0 0, .slice none 0 0], .int .i64 4]) ∧ Ext w w' := by
  obtain ⟨b1, a1, n1, c1, d1, m1, o1, rfl, q1⟩ : ∃ b a n c d m o, v1 = .agg #[.bool b, .slice a n c, .slice d m o] ∧ True := let ⟨b, a, n, c, d, m, o, e, _⟩ := h1; ⟨b, a, n, c, d, m, o, e, trivial⟩
  clear q1
  obtain ⟨b2, a2, n2, c2, d2, m2, o2, rfl, q2⟩ : ∃ b a n c d m o, v2 = .agg #[.bool b, .slice a n c, .slice d m o] ∧ True := let ⟨b, a, n, c, d, m, o, e, _⟩ := h2; ⟨b, a, n, c, d, m, o, e, trivial⟩
  clear q2
  have hyz := h2.top.num.len
  obtain ⟨_, _, _, er, hz0, -⟩ := hyz
  cases er
  have hm2 : ((n2 : Int) == 0) = true := by simp [hz0.2 rfl]
  clear hz0
  obtain ⟨W0, hW0⟩ : ∃ W0, W0 = (((w.alloc (.cells #[.bool b1, .slice a1 n1 c1, .slice d1 m1 o1] 35)).alloc (.cells #[.bool b2, .slice a2 n2 c2, .slice d2 m2 o2] 35)).alloc (.cells #[.bool false, .slice none 0 0, .slice none 0 0] 35)) := ⟨_, rfl⟩
  have E0 : Ext w W0 := by rw [hW0]; exact (((Ext.alloc1 w (.cells #[.bool b1, .slice a1 n1 c1, .slice d1 m1 o1] 35)).alloc (.cells #[.bool b2, .slice a2 n2 c2, .slice d2 m2 o2] 35)).alloc (.cells #[.bool false, .slice none 0 0, .slice none 0 0] 35))
  replace h1 : Rw W0 (.agg #[.bool b1, .slice a1 n1 c1, .slice d1 m1 o1]) x := h1.ext E0
  replace h2 : Rw W0 (.agg #[.bool b2, .slice a2 n2 c2, .slice d2 m2 o2]) 0 := h2.ext E0
  have p2 : Bx3 W0 w.heap.size 35 (.bool b1) (.slice a1 n1 c1) (.slice d1 m1 o1) := by rw [hW0]; exact (Bx3.new w 35 (.bool b1) (.slice a1 n1 c1) (.slice d1 m1 o1)).ext ((Ext.alloc1 (w.alloc (.cells #[.bool b1, .slice a1 n1 c1, .slice d1 m1 o1] 35)) (.cells #[.bool b2, .slice a2 n2 c2, .slice d2 m2 o2] 35)).alloc (.cells #[.bool false, .slice none 0 0, .slice none 0 0] 35))
  have p3 : Bx3 W0 (w.heap.size + 1) 35 (.bool b2) (.slice a2 n2 c2) (.slice d2 m2 o2) := by rw [hW0]; simpa using (Bx3.new (w.alloc (.cells #[.bool b1, .slice a1 n1 c1, .slice d1 m1 o1] 35)) 35 (.bool b2) (.slice a2 n2 c2) (.slice d2 m2 o2)).ext (Ext.alloc1 ((w.alloc (.cells #[.bool b1, .slice a1 n1 c1, .slice d1 m1 o1] 35)).alloc (.cells #[.bool b2, .slice a2 n2 c2, .slice d2 m2 o2] 35)) (.cells #[.bool false, .slice none 0 0, .slice none 0 0] 35))
  have p4 : Bx3 W0 (w.heap.size + 1 + 1) 35 (.bool false) (.slice none 0 0) (.slice none 0 0) := by rw [hW0]; simpa using (Bx3.new ((w.alloc (.cells #[.bool b1, .slice a1 n1 c1, .slice d1 m1 o1] 35)).alloc (.cells #[.bool b2, .slice a2 n2 c2, .slice d2 m2 o2] 35)) 35 (.bool false) (.slice none 0 0) (.slice none 0 0))
  go_enter Try.func32, Try.ntmps32
  have kp2_0 := p2.cell0
  have kp2_1 := p2.cell1
  have kp2_2 := p2.cell2
  have kp3_0 := p3.cell0
  have kp3_1 := p3.cell1
  have kp3_2 := p3.cell2
  have kp4_0 := p4.cell0
  have kp4_1 := p4.cell1
  have kp4_2 := p4.cell2
  go_upto_region 2 with (fail)
  rw [← hW0]
  clear hW0
  clear kp2_0 kp2_1 kp2_2 kp3_0 kp3_1 kp3_2 kp4_0 kp4_1 kp4_2
  have fp4 := p4.form
  have ltp2 := p2.lt
  have ltp3 := p3.lt
  have ltfp4 := fp4.lt
  have szw2 := Ext.size E0
  refine region_go [.one fun v _ => v = .agg #[.bool false, .slice none 0 0, .slice none 0 0],
      .own fun W => Bx3 W (w.heap.size + 1 + 1) 35 (.bool false) (.slice none 0 0) (.slice none 0 0),
      .one fun v _ => v = .int .i64 4]
    (fun W => Ext w W ∧ Rw W (.agg #[.bool b1, .slice a1 n1 c1, .slice d1 m1 o1]) x ∧ Rw W (.agg #[.bool b2, .slice a2 n2 c2, .slice d2 m2 o2]) 0 ∧ Bx3 W w.heap.size 35 (.bool b1) (.slice a1 n1 c1) (.slice d1 m1 o1) ∧ Bx3 W (w.heap.size + 1) 35 (.bool b2) (.slice a2 n2 c2) (.slice d2 m2 o2) ∧ Form W (w.heap.size + 1 + 1) 35 3 ∧ W0.heap.size ≤ W.heap.size) ⟨Good.is _, cert_bx3, Good.is _, trivial⟩
    (fun W W1 hS hE => ⟨(Ext.trans hS.1 hE), (hS.2.1.ext hE), (hS.2.2.1.ext hE), (hS.2.2.2.1.ext hE), (hS.2.2.2.2.1.ext hE), (hS.2.2.2.2.2.1.ext hE), (Nat.le_trans hS.2.2.2.2.2.2 (Ext.size hE))⟩) ⟨E0, h1, h2, p2, p3, fp4, Nat.le_refl _⟩ (by kernel_rfl) (by kernel_rfl) (by kernel_rfl) (by kernel_rfl) (A := ?A2) ?hA2 ?howe2 ?hfin2
  case hA2 =>
    intro vs
    simp only [putAll, Act.put, List.setIfInBounds_toArray, List.set_cons_zero, List.set_cons_succ, Nat.zero_add, Nat.reduceAdd]
    exact rfl
  case howe2 =>
    clear E0 h1 h2 p2 p3 fp4
    intro hf
    refine ⟨owesE 0 [] hf rfl (by kernel_rfl) ?_, owesW 1 [0] hf rfl (by kernel_rfl) (by kernel_rfl) ?_, owesE 2 [] hf rfl (by kernel_rfl) ?_, trivial⟩
    all_goals intro vs W hS hp hx KO hKO
    all_goals simp only [Act.put, List.setIfInBounds_toArray, List.set_cons_zero, List.set_cons_succ] at hKO
    · go_simp
      exact hKO _ W (Ext.refl W) rfl
    · have e0 := isOf hp.1
      simp only [e0] at hKO
      have hf := hS.2.2.2.2.2.1
      obtain ⟨x0, y0, z0, hx, hno⟩ := hf.bx3
      have r0 := hx.froz0
      have t0 := hx.cell0
      have r1 := hx.froz1
      have t1 := hx.cell1
      have r2 := hx.froz2
      have t2 := hx.cell2
      have hw := Wr.set3 hx hno false none 0 0 none 0 0
      have hq := hx.set (.bool false) (.slice none 0 0) (.slice none 0 0)
      have hg : (w.heap.size + 1 + 1) ≤ (w.heap.size + 1 + 1) := Nat.le_refl _
      go_simp
      exact hKO _ _ hw ⟨(Ext.wr hS.1 hw (by omega)), (hS.2.1.wr hw), (hS.2.2.1.wr hw), (hS.2.2.2.1.wr hw (by omega)), (hS.2.2.2.2.1.wr hw (by omega)), (hS.2.2.2.2.2.1.wr hw), (Nat.le_trans hS.2.2.2.2.2.2 hw.apart.size)⟩ hq
    · go_simp
      exact hKO _ W (Ext.refl W) rfl
  intro vs W2 hS hp
  clear szw2 E0 h1 h2 p2 p3 fp4
  obtain ⟨E0, h1, h2, p2, p3, fp4, sz2⟩ := hS
  obtain ⟨h2_0, h2_1, h2_2, -⟩ := hp
  have p2_1 : Bx3 W2 (w.heap.size + 1 + 1) 35 (.bool false) (.slice none 0 0) (.slice none 0 0) := h2_1
  replace h2_0 : vs 0 = .agg #[.bool false, .slice none 0 0, .slice none 0 0] := h2_0
  replace h2_2 : vs 2 = .int .i64 4 := h2_2
  simp only [h2_0, h2_2]
  clear h2_0 h2_2
  have kp2_0 := p2.cell0
  have kp2_1 := p2.cell1
  have kp2_2 := p2.cell2
  have kp3_0 := p3.cell0
  have kp3_1 := p3.cell1
  have kp3_2 := p3.cell2
  have kp2_1_0 := p2_1.cell0
  have kp2_1_1 := p2_1.cell1
  have kp2_1_2 := p2_1.cell2
  go_wp2
  exact bodyPost_ret (v := .tuple #[.agg #[.bool false, .slice none 0 0, .slice none 0 0], .int .i64 4]) (by simp [results, Try.results32, go_sem, kp2_1_0, kp2_1_1, kp2_1_2]) rfl ⟨rfl, E0⟩

set_option maxRecDepth 100000 in
set_option maxHeartbeats 400000 in
theorem Try.ratDiv0 {v1 v2 : Value} {x : Rat} {L : Nat} {w : World} (h1 : Rw w v1 x) (h2 : Rw w v2 0) (s1 : SmR L x) (hL : L ≤ 100000) :
    Calls Try.prog 65 #[v1, v2] w fun e w' => e = .returned (.tuple #[.agg #[.bool false, .slice none 0 0, .slice none 0 0], .int .i64 4]) ∧ Ext w w' := by
  obtain ⟨b1, a1, n1, c1, d1, m1, o1, rfl, q1⟩ : ∃ b a n c d m o, v1 = .agg #[.bool b, .slice a n c, .slice d m o] ∧ True := let ⟨b, a, n, c, d, m, o, e, _⟩ := h1; ⟨b, a, n, c, d, m, o, e, trivial⟩
  clear q1
  obtain ⟨b2, a2, n2, c2, d2, m2, o2, rfl, q2⟩ : ∃ b a n c d m o, v2 = .agg #[.bool b, .slice a n c, .slice d m o] ∧ True := let ⟨b, a, n, c, d, m, o, e, _⟩ := h2; ⟨b, a, n, c, d, m, o, e, trivial⟩
  clear q2
  have hz : Zw w (.agg #[.bool b2, .slice d2 m2 o2]) (if (0 : Rat).num < 0 then -((0 : Rat).den : Int) else ((0 : Rat).den : Int)) := zw_side h2.top.neg h2.den
  have S0 : Sm 1 (if (0 : Rat).num < 0 then -((0 : Rat).den : Int) else ((0 : Rat).den : Int)).natAbs := by show Sm 1 1; exact Sm.small (by omega)
  have S1 : Sm 1 ((0 : Rat).num.natAbs) := by show Sm 1 0; exact Sm.small (by omega)
  have HZ : Hid (x.den * (0 : Rat).num.natAbs = 0) := Lib.hid (by rw [show (0 : Rat).num.natAbs = 0 from rfl, Nat.mul_zero])
  generalize (if (0 : Rat).num < 0 then -((0 : Rat).den : Int) else ((0 : Rat).den : Int)) = z0 at hz S0
  obtain ⟨W0, hW0⟩ : ∃ W0, W0 = (((w.alloc (.cells #[.bool b1, .slice a1 n1 c1, .slice d1 m1 o1] 35)).alloc (.cells #[.bool b2, .slice a2 n2 c2, .slice d2 m2 o2] 35)).alloc (.cells #[.bool false, .slice none 0 0, .slice none 0 0] 35)) := ⟨_, rfl⟩
  have E0 : Ext w W0 := by rw [hW0]; exact (((Ext.alloc1 w (.cells #[.bool b1, .slice a1 n1 c1, .slice d1 m1 o1] 35)).alloc (.cells #[.bool b2, .slice a2 n2 c2, .slice d2 m2 o2] 35)).alloc (.cells #[.bool false, .slice none 0 0, .slice none 0 0] 35))
  replace h1 : Rw W0 (.agg #[.bool b1, .slice a1 n1 c1, .slice d1 m1 o1]) x := h1.ext E0
  replace h2 : Rw W0 (.agg #[.bool b2, .slice a2 n2 c2, .slice d2 m2 o2]) 0 := h2.ext E0
  replace hz : Zw W0 (.agg #[.bool b2, .slice d2 m2 o2]) z0 := hz.ext E0
  have p2 : Bx3 W0 w.heap.size 35 (.bool b1) (.slice a1 n1 c1) (.slice d1 m1 o1) := by rw [hW0]; exact (Bx3.new w 35 (.bool b1) (.slice a1 n1 c1) (.slice d1 m1 o1)).ext ((Ext.alloc1 (w.alloc (.cells #[.bool b1, .slice a1 n1 c1, .slice d1 m1 o1] 35)) (.cells #[.bool b2, .slice a2 n2 c2, .slice d2 m2 o2] 35)).alloc (.cells #[.bool false, .slice none 0 0, .slice none 0 0] 35))
  have p3 : Bx3 W0 (w.heap.size + 1) 35 (.bool b2) (.slice a2 n2 c2) (.slice d2 m2 o2) := by rw [hW0]; simpa using (Bx3.new (w.alloc (.cells #[.bool b1, .slice a1 n1 c1, .slice d1 m1 o1] 35)) 35 (.bool b2) (.slice a2 n2 c2) (.slice d2 m2 o2)).ext (Ext.alloc1 ((w.alloc (.cells #[.bool b1, .slice a1 n1 c1, .slice d1 m1 o1] 35)).alloc (.cells #[.bool b2, .slice a2 n2 c2, .slice d2 m2 o2] 35)) (.cells #[.bool false, .slice none 0 0, .slice none 0 0] 35))
  have p4 : Bx3 W0 (w.heap.size + 1 + 1) 35 (.bool false) (.slice none 0 0) (.slice none 0 0) := by rw [hW0]; simpa using (Bx3.new ((w.alloc (.cells #[.bool b1, .slice a1 n1 c1, .slice d1 m1 o1] 35)).alloc (.cells #[.bool b2, .slice a2 n2 c2, .slice d2 m2 o2] 35)) 35 (.bool false) (.slice none 0 0) (.slice none 0 0))
  go_enter Try.func65, Try.ntmps65
  have kp2_0 := p2.cell0
  have kp2_1 := p2.cell1
  have kp2_2 := p2.cell2
  have kp3_0 := p3.cell0
  have kp3_1 := p3.cell1
  have kp3_2 := p3.cell2
  have kp4_0 := p4.cell0
  have kp4_1 := p4.cell1
  have kp4_2 := p4.cell2
  go_upto_region 1 with (fail)
  rw [← hW0]
  clear hW0
  clear kp2_0 kp2_1 kp2_2 kp3_0 kp3_1 kp3_2 kp4_0 kp4_1 kp4_2
  have fp4 := p4.form
  have ltp2 := p2.lt
  have ltp3 := p3.lt
  have ltfp4 := fp4.lt
  have szw3 := Ext.size E0
  refine region_go [.one fun v _ => v = .pointer (some ⟨w.heap.size, 0, none⟩),
      .one fun v _ => v = .agg #[.bool b1, .slice a1 n1 c1],
      .one fun v _ => v = .pointer (some ⟨w.heap.size + 1, 0, none⟩),
      .one fun v _ => v = .pointer (some ⟨w.heap.size + 1, 0, none⟩),
      .one fun v _ => v = .bool b2,
      .one fun v _ => v = .pointer (some ⟨w.heap.size + 1, 2, none⟩),
      .one fun v _ => v = .slice d2 m2 o2,
      .one fun v _ => v = .agg #[.bool b2, .slice d2 m2 o2],
      .one fun v W => Zw W v (x.num * z0),
      .one fun v _ => v = .pointer (some ⟨w.heap.size, 2, none⟩),
      .one fun v _ => v = .slice d1 m1 o1,
      .one fun v _ => v = .pointer (some ⟨w.heap.size + 1, 0, none⟩),
      .one fun v _ => v = .pointer (some ⟨w.heap.size + 1, 1, none⟩),
      .one fun v _ => v = .slice a2 n2 c2,
      .one fun v W => Nw W v 0,
      .one fun v _ => v = .tuple #[.agg #[.bool false, .slice none 0 0, .slice none 0 0], .int .i64 4],
      .one fun v _ => v = .agg #[.bool false, .slice none 0 0, .slice none 0 0],
      .one fun v _ => v = .int .i64 4,
      .own fun W => Bx3 W (w.heap.size + 1 + 1) 35 (.bool false) (.slice none 0 0) (.slice none 0 0),
      .one fun v _ => v = .int .i64 4]
    (fun W => Ext w W ∧ Rw W (.agg #[.bool b1, .slice a1 n1 c1, .slice d1 m1 o1]) x ∧ Rw W (.agg #[.bool b2, .slice a2 n2 c2, .slice d2 m2 o2]) 0 ∧ Zw W (.agg #[.bool b2, .slice d2 m2 o2]) z0 ∧ Bx3 W w.heap.size 35 (.bool b1) (.slice a1 n1 c1) (.slice d1 m1 o1) ∧ Bx3 W (w.heap.size + 1) 35 (.bool b2) (.slice a2 n2 c2) (.slice d2 m2 o2) ∧ Form W (w.heap.size + 1 + 1) 35 3 ∧ W0.heap.size ≤ W.heap.size) ⟨Good.is _, Good.is _, Good.is _, Good.is _, Good.is _, Good.is _, Good.is _, Good.is _, Good.zed _, Good.is _, Good.is _, Good.is _, Good.is _, Good.is _, Good.num _, Good.is _, Good.is _, Good.is _, cert_bx3, Good.is _, trivial⟩
    (fun W W1 hS hE => ⟨(Ext.trans hS.1 hE), (hS.2.1.ext hE), (hS.2.2.1.ext hE), (hS.2.2.2.1.ext hE), (hS.2.2.2.2.1.ext hE), (hS.2.2.2.2.2.1.ext hE), (hS.2.2.2.2.2.2.1.ext hE), (Nat.le_trans hS.2.2.2.2.2.2.2 (Ext.size hE))⟩) ⟨E0, h1, h2, hz, p2, p3, fp4, Nat.le_refl _⟩ (by kernel_rfl) (by kernel_rfl) (by kernel_rfl) (by kernel_rfl) (A := ?A3) ?hA3 ?howe3 ?hfin3
  case hA3 =>
    intro vs
    simp only [putAll, Act.put, List.setIfInBounds_toArray, List.set_cons_zero, List.set_cons_succ, Nat.zero_add, Nat.reduceAdd]
    exact rfl
  case howe3 =>
    clear E0 h1 h2 hz p2 p3 fp4
    intro hf
    refine ⟨owesE 0 [] hf rfl (by kernel_rfl) ?_, owesE 1 [0] hf rfl (by kernel_rfl) ?_, owesE 2 [] hf rfl (by kernel_rfl) ?_, owesE 3 [2] hf rfl (by kernel_rfl) ?_, owesE 4 [3] hf rfl (by kernel_rfl) ?_, owesE 5 [] hf rfl (by kernel_rfl) ?_, owesE 6 [5] hf rfl (by kernel_rfl) ?_, owesE 7 [4, 6] hf rfl (by kernel_rfl) ?_, owesE 8 [1, 7] hf rfl (by kernel_rfl) ?_, owesE 9 [] hf rfl (by kernel_rfl) ?_, owesE 10 [9] hf rfl (by kernel_rfl) ?_, owesE 11 [] hf rfl (by kernel_rfl) ?_, owesE 12 [11] hf rfl (by kernel_rfl) ?_, owesE 13 [12] hf rfl (by kernel_rfl) ?_, owesE 14 [10, 13] hf rfl (by kernel_rfl) ?_, owesE 15 [8, 14] hf rfl (by kernel_rfl) ?_, owesE 16 [15] hf rfl (by kernel_rfl) ?_, owesE 17 [15] hf rfl (by kernel_rfl) ?_, owesW 18 [16] hf rfl (by kernel_rfl) (by kernel_rfl) ?_, owesE 19 [17] hf rfl (by kernel_rfl) ?_, trivial⟩
    all_goals intro vs W hS hp hx KO hKO
    all_goals simp only [Act.put, List.setIfInBounds_toArray, List.set_cons_zero, List.set_cons_succ] at hKO
    · go_simp
      exact hKO _ W (Ext.refl W) rfl
    · have e0 := isOf hp.1
      simp only [e0] at hKO
      have fc0 := hS.2.2.2.2.1.cell0
      have fc1 := hS.2.2.2.2.1.cell1
      go_simp
      exact hKO _ W (Ext.refl W) rfl
    · go_simp
      exact hKO _ W (Ext.refl W) rfl
    · have e2 := isOf hp.1
      simp only [e2] at hKO
      go_simp
      exact hKO _ W (Ext.refl W) rfl
    · have e3 := isOf hp.1
      simp only [e3] at hKO
      have fc0 := hS.2.2.2.2.2.1.cell0
      go_simp
      exact hKO _ W (Ext.refl W) rfl
    · go_simp
      exact hKO _ W (Ext.refl W) rfl
    · have e5 := isOf hp.1
      simp only [e5] at hKO
      have fc2 := hS.2.2.2.2.2.1.cell2
      go_simp
      exact hKO _ W (Ext.refl W) rfl
    · have e4 := isOf hp.1
      have e6 := isOf hp.2.1
      simp only [e4, e6] at hKO
      go_simp
      exact hKO _ W (Ext.refl W) rfl
    · have e1 := isOf hp.1
      have e7 := isOf hp.2.1
      simp only [e1, e7] at hKO
      go_simp
      refine (Try.zedMul (hS.2.1.top) (hS.2.2.2.1) s1.1 S0 (by omega)).mono ?_
      rintro e W1 ⟨v, rfl, hv, hE⟩
      exact hKO _ W1 hE hv
    · go_simp
      exact hKO _ W (Ext.refl W) rfl
    · have e9 := isOf hp.1
      simp only [e9] at hKO
      have fc2 := hS.2.2.2.2.1.cell2
      go_simp
      exact hKO _ W (Ext.refl W) rfl
    · go_simp
      exact hKO _ W (Ext.refl W) rfl
    · have e11 := isOf hp.1
      simp only [e11] at hKO
      go_simp
      exact hKO _ W (Ext.refl W) rfl
    · have e12 := isOf hp.1
      simp only [e12] at hKO
      have fc1 := hS.2.2.2.2.2.1.cell1
      go_simp
      exact hKO _ W (Ext.refl W) rfl
    · have e10 := isOf hp.1
      have e13 := isOf hp.2.1
      simp only [e10, e13] at hKO
      go_simp
      refine (Try.natMul (hS.2.1.den) (hS.2.2.1.top.num) s1.2 S1 (by omega)).mono ?_
      rintro e W1 ⟨v, rfl, hv, hE, -⟩
      rw [HZ.out] at hv
      exact hKO _ W1 hE hv
    · have q8 := hp.1
      have q14 := hp.2.1
      go_simp
      refine (Try.ratMake0 q8 q14).mono ?_
      rintro e W1 ⟨rfl, hE⟩
      exact hKO _ W1 hE rfl
    · have e15 := isOf hp.1
      simp only [e15] at hKO
      go_simp
      exact hKO _ W (Ext.refl W) rfl
    · have e15 := isOf hp.1
      simp only [e15] at hKO
      go_simp
      exact hKO _ W (Ext.refl W) rfl
    · have e16 := isOf hp.1
      simp only [e16] at hKO
      have hf := hS.2.2.2.2.2.2.1
      obtain ⟨x0, y0, z0, hx, hno⟩ := hf.bx3
      have r0 := hx.froz0
      have t0 := hx.cell0
      have r1 := hx.froz1
      have t1 := hx.cell1
      have r2 := hx.froz2
      have t2 := hx.cell2
      have hw := Wr.set3 hx hno false none 0 0 none 0 0
      have hq := hx.set (.bool false) (.slice none 0 0) (.slice none 0 0)
      have hg : (w.heap.size + 1 + 1) ≤ (w.heap.size + 1 + 1) := Nat.le_refl _
      go_simp
      exact hKO _ _ hw ⟨(Ext.wr hS.1 hw (by omega)), (hS.2.1.wr hw), (hS.2.2.1.wr hw), (hS.2.2.2.1.wr hw), (hS.2.2.2.2.1.wr hw (by omega)), (hS.2.2.2.2.2.1.wr hw (by omega)), (hS.2.2.2.2.2.2.1.wr hw), (Nat.le_trans hS.2.2.2.2.2.2.2 hw.apart.size)⟩ hq
    · have e17 := isOf hp.1
      simp only [e17] at hKO
      go_simp
      exact hKO _ W (Ext.refl W) rfl
  intro vs W3 hS hp
  clear szw3 E0 h1 h2 hz p2 p3 fp4
  obtain ⟨E0, h1, h2, hz, p2, p3, fp4, sz3⟩ := hS
  obtain ⟨h3_0, h3_1, h3_2, h3_3, h3_4, h3_5, h3_6, h3_7, h3_8, h3_9, h3_10, h3_11, h3_12, h3_13, h3_14, h3_15, h3_16, h3_17, h3_18, h3_19, -⟩ := hp
  have p3_18 : Bx3 W3 (w.heap.size + 1 + 1) 35 (.bool false) (.slice none 0 0) (.slice none 0 0) := h3_18
  replace h3_0 : vs 0 = .pointer (some ⟨w.heap.size, 0, none⟩) := h3_0
  replace h3_1 : vs 1 = .agg #[.bool b1, .slice a1 n1 c1] := h3_1
  replace h3_2 : vs 2 = .pointer (some ⟨w.heap.size + 1, 0, none⟩) := h3_2
  replace h3_3 : vs 3 = .pointer (some ⟨w.heap.size + 1, 0, none⟩) := h3_3
  replace h3_4 : vs 4 = .bool b2 := h3_4
  replace h3_5 : vs 5 = .pointer (some ⟨w.heap.size + 1, 2, none⟩) := h3_5
  replace h3_6 : vs 6 = .slice d2 m2 o2 := h3_6
  replace h3_7 : vs 7 = .agg #[.bool b2, .slice d2 m2 o2] := h3_7
  replace h3_9 : vs 9 = .pointer (some ⟨w.heap.size, 2, none⟩) := h3_9
  replace h3_10 : vs 10 = .slice d1 m1 o1 := h3_10
  replace h3_11 : vs 11 = .pointer (some ⟨w.heap.size + 1, 0, none⟩) := h3_11
  replace h3_12 : vs 12 = .pointer (some ⟨w.heap.size + 1, 1, none⟩) := h3_12
  replace h3_13 : vs 13 = .slice a2 n2 c2 := h3_13
  replace h3_15 : vs 15 = .tuple #[.agg #[.bool false, .slice none 0 0, .slice none 0 0], .int .i64 4] := h3_15
  replace h3_16 : vs 16 = .agg #[.bool false, .slice none 0 0, .slice none 0 0] := h3_16
  replace h3_17 : vs 17 = .int .i64 4 := h3_17
  replace h3_19 : vs 19 = .int .i64 4 := h3_19
  simp only [h3_0, h3_1, h3_2, h3_3, h3_4, h3_5, h3_6, h3_7, h3_9, h3_10, h3_11, h3_12, h3_13, h3_15, h3_16, h3_17, h3_19]
  replace h3_8 : Zw W3 (vs 8) (x.num * z0) := h3_8
  generalize vs 8 = u3_8 at h3_8 ⊢
  replace h3_14 : Nw W3 (vs 14) 0 := h3_14
  generalize vs 14 = u3_14 at h3_14 ⊢
  clear h3_0 h3_1 h3_2 h3_3 h3_4 h3_5 h3_6 h3_7 h3_9 h3_10 h3_11 h3_12 h3_13 h3_15 h3_16 h3_17 h3_19
  have kp2_0 := p2.cell0
  have kp2_1 := p2.cell1
  have kp2_2 := p2.cell2
  have kp3_0 := p3.cell0
  have kp3_1 := p3.cell1
  have kp3_2 := p3.cell2
  have kp3_18_0 := p3_18.cell0
  have kp3_18_1 := p3_18.cell1
  have kp3_18_2 := p3_18.cell2
  go_wp2
  exact bodyPost_ret (v := .tuple #[.agg #[.bool false, .slice none 0 0, .slice none 0 0], .int .i64 4]) (by simp [results, Try.results65, go_sem, kp3_18_0, kp3_18_1, kp3_18_2]) rfl ⟨rfl, E0⟩

end Go.Rt
