/-
  The reference's fractions: over, Neg, Cmp, Abs.
  The reference's fractions: Abs, Same, Of, Frac.
  The reference's fractions: Frac, Add, Sub.
  The reference's integers: Right, Few.
-/
import Derived.Test.YthmncdhibcoiaaaGreatGI
namespace Go.Rt

open Go.RowKit Go.Proofs

theorem Bx3.off3 {w : World} {b b' : Nat} {t : TypeId} {x0 y0 z0 : Value} (h : Bx3 w b t x0 y0 z0) (hne : b ≠ b') (x y z : Value) : Bx3 (((w.setCell ⟨b', 0, none⟩ x).setCell ⟨b', 1, none⟩ y).setCell ⟨b', 2, none⟩ z) b t x0 y0 z0 := (off_set3 w b' x y z b hne).trans h

theorem Bx2.off3 {w : World} {b b' : Nat} {t : TypeId} {x0 y0 : Value} (h : Bx2 w b t x0 y0) (hne : b ≠ b') (x y z : Value) : Bx2 (((w.setCell ⟨b', 0, none⟩ x).setCell ⟨b', 1, none⟩ y).setCell ⟨b', 2, none⟩ z) b t x0 y0 := (off_set3 w b' x y z b hne).trans h

theorem Zw.nat {w : World} {a : Option Addr} {n c N : Nat} (h : Nw w (.slice a n c) N) : Zw w (.agg #[.bool false, .slice a n c]) (N : Int) := ⟨false, a, n, c, rfl, Lib.hid (by simp), by simpa using h⟩

theorem Rw.zed {w : World} {b : Bool} {a : Option Addr} {n c : Nat} {z : Int} (hb : Hid (b = decide (z < 0))) (h : Nw w (.slice a n c) z.natAbs) : Zw w (.agg #[.bool b, .slice a n c]) z := ⟨b, a, n, c, rfl, hb, h⟩

set_option maxHeartbeats 1000000 in
theorem Tryz.refROver {v v2 : Value} {z : Int} {N L1 L2 : Nat} {w : World} (h : Zw w v z) (h2 : Nw w v2 N) (s1 : Sm L1 z.natAbs) (s2 : Sm L2 N) (hL : L1 + L2 ≤ 10000000) :
    Calls Tryz.prog 57 #[v, v2] w fun e w' => ∃ v', e = .returned v' ∧ Zw w' v' (z * (N : Int)) ∧ Ext w w' := by
  obtain ⟨b1, a1, n1, c1, rfl, hb1, g1⟩ := h
  obtain ⟨a, n, c, rfl⟩ := h2.slice
  obtain ⟨W0, hW0⟩ : ∃ W0, W0 = ((w.alloc (.cells #[.bool b1, .slice a1 n1 c1] 25)).alloc (.cells #[.bool false, .slice none 0 0] 25)) := ⟨_, rfl⟩
  have E0 : Ext w W0 := by rw [hW0]; exact ((Ext.alloc1 w (.cells #[.bool b1, .slice a1 n1 c1] 25)).alloc (.cells #[.bool false, .slice none 0 0] 25))
  have p1 : Bx2 W0 (w.heap.size) 25 (.bool b1) (.slice a1 n1 c1) := by rw [hW0]; exact (Bx2.new w 25 (.bool b1) (.slice a1 n1 c1)).ext (Ext.alloc1 (w.alloc (.cells #[.bool b1, .slice a1 n1 c1] 25)) (.cells #[.bool false, .slice none 0 0] 25))
  have p2 : Bx2 W0 (w.heap.size + 1) 25 (.bool false) (.slice none 0 0) := by rw [hW0]; simpa using (Bx2.new (w.alloc (.cells #[.bool b1, .slice a1 n1 c1] 25)) 25 (.bool false) (.slice none 0 0))
  have kp1_0 := p1.cell0
  have kp1_1 := p1.cell1
  have kp2_0 := p2.cell0
  have kp2_1 := p2.cell1
  go_enter Tryz.func57, Tryz.ntmps57
  go_wp2_with fail
  rw [← hW0]
  refine (Tryz.refZMul (Rw.zed hb1 (g1.ext E0)) (Zw.nat (h2.ext E0)) s1 (by simpa using s2) hL).mono ?_
  rintro e w1 ⟨v', rfl, hz, hE⟩
  clear hW0 hb1 kp1_0 kp1_1 kp2_0 kp2_1
  replace p2 := p2.ext hE
  replace E0 := E0.trans hE
  have hz' := hz
  obtain ⟨b3, a3, n3, c3, rfl, -, hn3⟩ := hz
  have kp2_0 := p2.cell0
  have kp2_1 := p2.cell1
  have fp2_0 := p2.froz0
  have fp2_1 := p2.froz1
  go_wp2
  have q := p2.set (.bool b3) (.slice a3 n3 c3)
  have e0 := q.cell0
  have e1 := q.cell1
  exact bodyPost_ret (v := .agg #[.bool b3, .slice a3 n3 c3]) (by simp [results, Tryz.results57, go_sem, e0, e1]) rfl ⟨_, rfl, hz'.off p2 (noU2 _ _ _ _) (off_set2 _ _ _ _), E0.set2 (by omega) _ _⟩

set_option maxRecDepth 100000 in
set_option maxHeartbeats 1000000 in
theorem Tryz.refRNeg {v : Value} {x : Rat} {w : World} (h : Rw w v x) :
    Calls Tryz.prog 59 #[v] w fun e w' => ∃ v', e = .returned v' ∧ Rw w' v' (-x) ∧ Ext w w' := by
  obtain ⟨b1, a1, n1, c1, d1, m1, o1, rfl, hb1, g1, h1⟩ := h
  obtain ⟨W0, hW0⟩ : ∃ W0, W0 = ((w.alloc (.cells #[.bool b1, .slice a1 n1 c1, .slice d1 m1 o1] 27)).alloc (.cells #[.bool false, .slice none 0 0, .slice none 0 0] 27)) := ⟨_, rfl⟩
  have E0 : Ext w W0 := by rw [hW0]; exact ((Ext.alloc1 w (.cells #[.bool b1, .slice a1 n1 c1, .slice d1 m1 o1] 27)).alloc (.cells #[.bool false, .slice none 0 0, .slice none 0 0] 27))
  have p1 : Bx3 W0 (w.heap.size) 27 (.bool b1) (.slice a1 n1 c1) (.slice d1 m1 o1) := by rw [hW0]; exact (Bx3.new w 27 (.bool b1) (.slice a1 n1 c1) (.slice d1 m1 o1)).ext (Ext.alloc1 (w.alloc (.cells #[.bool b1, .slice a1 n1 c1, .slice d1 m1 o1] 27)) (.cells #[.bool false, .slice none 0 0, .slice none 0 0] 27))
  have p2 : Bx3 W0 (w.heap.size + 1) 27 (.bool false) (.slice none 0 0) (.slice none 0 0) := by rw [hW0]; simpa using (Bx3.new (w.alloc (.cells #[.bool b1, .slice a1 n1 c1, .slice d1 m1 o1] 27)) 27 (.bool false) (.slice none 0 0) (.slice none 0 0))
  have kp1_0 := p1.cell0
  have kp1_1 := p1.cell1
  have kp1_2 := p1.cell2
  have kp2_0 := p2.froz0
  have kp2_1 := p2.froz1
  have kp2_2 := p2.froz2
  have hT := Ext.drew1 W0
  go_enter Tryz.func59, Tryz.ntmps59
  go_wp2_with fail
  rw [← hW0]
  clear hW0
  go_region_held3 (fun W => W.cell? ⟨w.heap.size, 0, none⟩ = some (.bool b1) ∧ W.cell? ⟨w.heap.size, 1, none⟩ = some (.slice a1 n1 c1) ∧ W.cell? ⟨w.heap.size, 2, none⟩ = some (.slice d1 m1 o1) ∧ W.frozen? ⟨w.heap.size + 1, 0, none⟩ = false ∧ W.frozen? ⟨w.heap.size + 1, 1, none⟩ = false ∧ W.frozen? ⟨w.heap.size + 1, 2, none⟩ = false)
    (first | exact ⟨kp1_0, kp1_1, kp1_2, kp2_0, kp2_1, kp2_2⟩ | exact ⟨(q1.off3 (by omega) _ _ _).cell0, (q1.off3 (by omega) _ _ _).cell1, (q1.off3 (by omega) _ _ _).cell2, (q2.set _ _ _).froz0, (q2.set _ _ _).froz1, (q2.set _ _ _).froz2⟩ | exact ⟨q1.cell0, q1.cell1, q1.cell2, q2.froz0, q2.froz1, q2.froz2⟩)
    (first
      | (go_at_call 113; refine (Tryz.refNeg ((Rw.zed hb1 (g1.ext E0)).ext hT)).mono ?_; rintro e w1 ⟨vm, rfl, hz, hE⟩; have hz' := hz; obtain ⟨b3, a3, n3, c3, rfl, hb3, hn3⟩ := hz; have hT2 := hT.trans hE; have q1 := p1.ext hT2; have q2 := p2.ext hT2; have r0 := q2.cell0; have r1 := q2.cell1; have r2 := q2.cell2))
  have hT9 := E0.trans hT2
  clear kp1_0 kp1_1 kp1_2 kp2_0 kp2_1 kp2_2 hE hT hT2 r0 r1 r2 q1
  go_wp2
  have q := q2.set (.bool b3) (.slice a3 n3 c3) (.slice d1 m1 o1)
  have e0 := q.cell0
  have e1 := q.cell1
  have e2 := q.cell2
  exact bodyPost_ret (v := .agg #[.bool b3, .slice a3 n3 c3, .slice d1 m1 o1]) (by simp [results, Tryz.results59, go_sem, e0, e1, e2]) rfl ⟨_, rfl, Rw.off (w := w1) ⟨b3, a3, n3, c3, d1, m1, o1, rfl, hb3, hn3, h1.ext hT9⟩ q2 (noU3 _ _ _ _ _ _ _) (off_set3 _ _ _ _ _), hT9.set3 (by omega) _ _ _⟩

theorem cmpI_mul {x y : Rat} : cmpI (x.num * (y.den : Int)) (y.num * (x.den : Int)) = if x < y then -1 else if y < x then 1 else 0 := by
  unfold cmpI
  simp only [Rat.lt_iff]

set_option maxRecDepth 100000 in
set_option maxHeartbeats 1000000 in
theorem Tryz.refRCmp {v1 v2 : Value} {x y : Rat} {L : Nat} {w : World} (h1 : Rw w v1 x) (h2 : Rw w v2 y) (s1 : Sm L x.num.natAbs) (s2 : Sm L x.den) (s3 : Sm L y.num.natAbs) (s4 : Sm L y.den) (hL : L + L ≤ 10000000) :
    Calls Tryz.prog 26 #[v1, v2] w fun e w' => e = .returned (.int .i64 (if x < y then -1 else if y < x then 1 else 0)) ∧ Ext w w' := by
  rw [← cmpI_mul]
  obtain ⟨b1, a1, n1, c1, d1, m1, o1, rfl, hb1, g1, h1⟩ := h1
  obtain ⟨b2, a2, n2, c2, d2, m2, o2, rfl, hb2, g2, h2⟩ := h2
  obtain ⟨X, hX⟩ : ∃ X, X = x.num * (y.den : Int) := ⟨_, rfl⟩
  obtain ⟨Y, hY⟩ : ∃ Y, Y = y.num * (x.den : Int) := ⟨_, rfl⟩
  have HX := Lib.hid hX
  have HY := Lib.hid hY
  rw [← hX, ← hY]
  clear hX hY
  obtain ⟨W0, hW0⟩ : ∃ W0, W0 = ((w.alloc (.cells #[.bool b1, .slice a1 n1 c1, .slice d1 m1 o1] 27)).alloc (.cells #[.bool b2, .slice a2 n2 c2, .slice d2 m2 o2] 27)) := ⟨_, rfl⟩
  have E0 : Ext w W0 := by rw [hW0]; exact ((Ext.alloc1 w (.cells #[.bool b1, .slice a1 n1 c1, .slice d1 m1 o1] 27)).alloc (.cells #[.bool b2, .slice a2 n2 c2, .slice d2 m2 o2] 27))
  have p1 : Bx3 W0 (w.heap.size) 27 (.bool b1) (.slice a1 n1 c1) (.slice d1 m1 o1) := by rw [hW0]; exact (Bx3.new w 27 (.bool b1) (.slice a1 n1 c1) (.slice d1 m1 o1)).ext (Ext.alloc1 (w.alloc (.cells #[.bool b1, .slice a1 n1 c1, .slice d1 m1 o1] 27)) (.cells #[.bool b2, .slice a2 n2 c2, .slice d2 m2 o2] 27))
  have p2 : Bx3 W0 (w.heap.size + 1) 27 (.bool b2) (.slice a2 n2 c2) (.slice d2 m2 o2) := by rw [hW0]; simpa using (Bx3.new (w.alloc (.cells #[.bool b1, .slice a1 n1 c1, .slice d1 m1 o1] 27)) 27 (.bool b2) (.slice a2 n2 c2) (.slice d2 m2 o2))
  have kp1_0 := p1.cell0
  have kp1_1 := p1.cell1
  have kp1_2 := p1.cell2
  have kp2_0 := p2.cell0
  have kp2_1 := p2.cell1
  have kp2_2 := p2.cell2
  have hT := Ext.drew1 W0
  have z1 := Rw.zed hb1 (g1.ext (E0.trans hT))
  have z2 := Rw.zed hb2 (g2.ext (E0.trans hT))
  replace h1 := h1.ext (E0.trans hT)
  replace h2 := h2.ext (E0.trans hT)
  replace p1 := p1.ext hT
  replace p2 := p2.ext hT
  clear hb1 hb2 g1 g2
  go_enter Tryz.func26, Tryz.ntmps26
  go_wp2_with fail
  rw [← hW0]
  clear hW0
  go_region_held3 (fun W => W.cell? ⟨w.heap.size, 0, none⟩ = some (.bool b1) ∧ W.cell? ⟨w.heap.size, 1, none⟩ = some (.slice a1 n1 c1) ∧ W.cell? ⟨w.heap.size, 2, none⟩ = some (.slice d1 m1 o1) ∧ W.cell? ⟨w.heap.size + 1, 0, none⟩ = some (.bool b2) ∧ W.cell? ⟨w.heap.size + 1, 1, none⟩ = some (.slice a2 n2 c2) ∧ W.cell? ⟨w.heap.size + 1, 2, none⟩ = some (.slice d2 m2 o2))
    (first | exact ⟨kp1_0, kp1_1, kp1_2, kp2_0, kp2_1, kp2_2⟩ | exact ⟨p1.cell0, p1.cell1, p1.cell2, p2.cell0, p2.cell1, p2.cell2⟩)
    (first
      | (go_at_call 57; refine (Tryz.refROver z1 h2 s1 s4 hL).mono ?_; rintro e wA ⟨vA, rfl, hA, hE⟩; rw [← HX.out] at hA; replace hT := hT.trans hE; replace p1 := p1.ext hE; replace p2 := p2.ext hE; (try replace z2 := z2.ext hE); (try replace h1 := h1.ext hE); (try replace hB := hB.ext hE))
      | (go_at_call 57; refine (Tryz.refROver z2 h1 s3 s2 hL).mono ?_; rintro e wB ⟨vB, rfl, hB, hE⟩; rw [← HY.out] at hB; replace hT := hT.trans hE; replace p1 := p1.ext hE; replace p2 := p2.ext hE; (try replace z1 := z1.ext hE); (try replace h2 := h2.ext hE); (try replace hA := hA.ext hE))
      | (go_at_call 60; refine (Tryz.refZCmp hA hB).mono ?_; rintro e wC ⟨rfl, hE⟩; replace hT := hT.trans hE; replace p1 := p1.ext hE; replace p2 := p2.ext hE))
  all_goals clear kp1_0 kp1_1 kp1_2 kp2_0 kp2_1 kp2_2
  all_goals go_wp2
  all_goals go_ret
  all_goals exact ⟨ret_i rfl, E0.trans hT⟩

end Go.Rt

namespace Go.Rt
open Go.RowKit Go.Proofs

set_option maxHeartbeats 1000000 in
theorem Tryz.refZOf (n : Int) (w : World) (h1 : -9223372036854775808 ≤ n) (h2 : n < 9223372036854775808) :
    Calls Tryz.prog 74 #[.int .i64 n] w fun e w' => ∃ v', e = .returned v' ∧ Zw w' v' n ∧ Ext w w' := by
  by_cases hn : n < 0
  · have h3 : (n.natAbs : Int) = -(n + 1) + 1 := by omega
    have h4 : n.natAbs < B64 := by unfold B64; omega
    have HB : Hid (sgn true n.natAbs = n) := Lib.hid (by unfold sgn; simp; omega)
    obtain ⟨W0, hW0⟩ : ∃ W0, W0 = (w.alloc (.cells #[.bool false, .slice none 0 0] 25)) := ⟨_, rfl⟩
    have E0 : Ext w W0 := by rw [hW0]; exact (Ext.alloc1 w (.cells #[.bool false, .slice none 0 0] 25))
    have p1 : Bx2 W0 (w.heap.size) 25 (.bool false) (.slice none 0 0) := by rw [hW0]; exact (Bx2.new w 25 (.bool false) (.slice none 0 0))
    have kp1_0 := p1.froz0
    have kp1_1 := p1.froz1
    go_enter Tryz.func74, Tryz.ntmps74
    go_wp2_with fail
    rw [← hW0]
    rw [← h3]
    refine (Tryz.refOf n.natAbs _ h4).mono ?_
    rintro e w1 ⟨v, rfl, hv, hE, -⟩
    replace p1 := p1.ext hE
    replace E0 := E0.trans hE
    go_wp2_with fail
    refine (Tryz.refMade hv true).mono ?_
    rintro e w2 ⟨v', rfl, hz, hE⟩
    rw [HB.out] at hz
    replace p1 := p1.ext hE
    replace E0 := E0.trans hE
    have hz' := hz
    obtain ⟨b3, a3, n3, c3, rfl, hb3, hn3⟩ := hz
    clear kp1_0 kp1_1
    have kp1_0 := p1.cell0
    have kp1_1 := p1.cell1
    have fp1_0 := p1.froz0
    have fp1_1 := p1.froz1
    go_wp2
    have q := p1.set (.bool b3) (.slice a3 n3 c3)
    have e0 := q.cell0
    have e1 := q.cell1
    exact bodyPost_ret (v := .agg #[.bool b3, .slice a3 n3 c3]) (by simp [results, Tryz.results74, go_sem, e0, e1]) rfl ⟨_, rfl, hz'.off p1 (noU2 _ _ _ _) (off_set2 _ _ _ _), E0.set2 (by omega) _ _⟩
  · have h3 : (n.natAbs : Int) = n := by omega
    have h4 : n.natAbs < B64 := by unfold B64; omega
    have HB : Hid (sgn false n.natAbs = n) := Lib.hid (by unfold sgn; simp; omega)
    obtain ⟨W0, hW0⟩ : ∃ W0, W0 = (w.alloc (.cells #[.bool false, .slice none 0 0] 25)) := ⟨_, rfl⟩
    have E0 : Ext w W0 := by rw [hW0]; exact (Ext.alloc1 w (.cells #[.bool false, .slice none 0 0] 25))
    have p1 : Bx2 W0 (w.heap.size) 25 (.bool false) (.slice none 0 0) := by rw [hW0]; exact (Bx2.new w 25 (.bool false) (.slice none 0 0))
    have kp1_0 := p1.froz0
    have kp1_1 := p1.froz1
    go_enter Tryz.func74, Tryz.ntmps74
    go_wp2_with fail
    rw [← hW0]
    rw [← h3]
    refine (Tryz.refOf n.natAbs _ h4).mono ?_
    rintro e w1 ⟨v, rfl, hv, hE, -⟩
    replace p1 := p1.ext hE
    replace E0 := E0.trans hE
    go_wp2_with fail
    refine (Tryz.refMade hv false).mono ?_
    rintro e w2 ⟨v', rfl, hz, hE⟩
    rw [HB.out] at hz
    replace p1 := p1.ext hE
    replace E0 := E0.trans hE
    have hz' := hz
    obtain ⟨b3, a3, n3, c3, rfl, hb3, hn3⟩ := hz
    clear kp1_0 kp1_1
    have kp1_0 := p1.cell0
    have kp1_1 := p1.cell1
    have fp1_0 := p1.froz0
    have fp1_1 := p1.froz1
    go_wp2
    have q := p1.set (.bool b3) (.slice a3 n3 c3)
    have e0 := q.cell0
    have e1 := q.cell1
    exact bodyPost_ret (v := .agg #[.bool b3, .slice a3 n3 c3]) (by simp [results, Tryz.results74, go_sem, e0, e1]) rfl ⟨_, rfl, hz'.off p1 (noU2 _ _ _ _) (off_set2 _ _ _ _), E0.set2 (by omega) _ _⟩

set_option maxHeartbeats 1000000 in
theorem Tryz.refRSame {v1 v2 : Value} {x y : Rat} {w : World} (h1 : Rw w v1 x) (h2 : Rw w v2 y) :
    Calls Tryz.prog 44 #[v1, v2] w fun e w' => e = .returned (.bool (decide (x = y))) ∧ Ext w w' := by
  obtain ⟨b1, a1, n1, c1, d1, m1, o1, rfl, hb1, g1, h1⟩ := h1
  obtain ⟨b2, a2, n2, c2, d2, m2, o2, rfl, hb2, g2, h2⟩ := h2
  obtain ⟨W0, hW0⟩ : ∃ W0, W0 = ((w.alloc (.cells #[.bool b1, .slice a1 n1 c1, .slice d1 m1 o1] 27)).alloc (.cells #[.bool b2, .slice a2 n2 c2, .slice d2 m2 o2] 27)) := ⟨_, rfl⟩
  have E0 : Ext w W0 := by rw [hW0]; exact ((Ext.alloc1 w (.cells #[.bool b1, .slice a1 n1 c1, .slice d1 m1 o1] 27)).alloc (.cells #[.bool b2, .slice a2 n2 c2, .slice d2 m2 o2] 27))
  have p1 : Bx3 W0 (w.heap.size) 27 (.bool b1) (.slice a1 n1 c1) (.slice d1 m1 o1) := by rw [hW0]; exact (Bx3.new w 27 (.bool b1) (.slice a1 n1 c1) (.slice d1 m1 o1)).ext (Ext.alloc1 (w.alloc (.cells #[.bool b1, .slice a1 n1 c1, .slice d1 m1 o1] 27)) (.cells #[.bool b2, .slice a2 n2 c2, .slice d2 m2 o2] 27))
  have p2 : Bx3 W0 (w.heap.size + 1) 27 (.bool b2) (.slice a2 n2 c2) (.slice d2 m2 o2) := by rw [hW0]; simpa using (Bx3.new (w.alloc (.cells #[.bool b1, .slice a1 n1 c1, .slice d1 m1 o1] 27)) 27 (.bool b2) (.slice a2 n2 c2) (.slice d2 m2 o2))
  have kp1_0 := p1.cell0
  have kp1_1 := p1.cell1
  have kp1_2 := p1.cell2
  have kp2_0 := p2.cell0
  have kp2_1 := p2.cell1
  have kp2_2 := p2.cell2
  replace g1 := g1.ext E0
  replace g2 := g2.ext E0
  replace h1 := h1.ext E0
  replace h2 := h2.ext E0
  by_cases hxy : x.num = y.num
  · have HR : Hid (decide (x.den = y.den) = decide (x = y)) := Lib.hid (decide_eq_decide.2 ⟨fun h => Rat.ext hxy h, fun h => by rw [h]⟩)
    have HN : Hid (decide (x.num = y.num) = true) := Lib.hid (decide_eq_true hxy)
    clear hxy
    go_enter Tryz.func44, Tryz.ntmps44
    go_wp2_with fail
    rw [← hW0]
    refine (Tryz.refZSame (Rw.zed hb1 g1) (Rw.zed hb2 g2)).mono ?_
    rintro e w1 ⟨rfl, hE⟩
    rw [HN.out]
    replace p1 := p1.ext hE
    replace p2 := p2.ext hE
    replace h1 := h1.ext hE
    replace h2 := h2.ext hE
    replace E0 := E0.trans hE
    clear hW0 kp1_0 kp1_1 kp1_2 kp2_0 kp2_1 kp2_2
    have kp1_0 := p1.cell0
    have kp1_1 := p1.cell1
    have kp1_2 := p1.cell2
    have kp2_0 := p2.cell0
    have kp2_1 := p2.cell1
    have kp2_2 := p2.cell2
    go_wp2_with fail
    refine (Tryz.refSame h1 h2).mono ?_
    rintro e w2 ⟨rfl, hE⟩
    rw [HR.out]
    replace E0 := E0.trans hE
    go_wp2
    all_goals go_ret
    all_goals exact ⟨ret_b (by first | rfl | simp [*]), E0⟩
  · have HR : Hid (decide (x = y) = false) := Lib.hid (decide_eq_false (fun h => hxy (by rw [h])))
    have HN : Hid (decide (x.num = y.num) = false) := Lib.hid (decide_eq_false hxy)
    clear hxy
    go_enter Tryz.func44, Tryz.ntmps44
    go_wp2_with fail
    rw [← hW0]
    refine (Tryz.refZSame (Rw.zed hb1 g1) (Rw.zed hb2 g2)).mono ?_
    rintro e w1 ⟨rfl, hE⟩
    rw [HN.out]
    replace E0 := E0.trans hE
    clear hW0 kp1_0 kp1_1 kp1_2 kp2_0 kp2_1 kp2_2
    go_wp2
    all_goals go_ret
    all_goals exact ⟨ret_b HR.out.symm, E0⟩

end Go.Rt

namespace Go.Rt
open Go.RowKit Go.Proofs

theorem Tryz.fieldZ (b : Bool) (a : Option Addr) (n c : Nat) (W : World) : (Instr.field 25 (.agg #[.bool b, .slice a n c]) 1).run Tryz.prog W = .ok (.slice a n c) W := by kernel_rfl

set_option maxRecDepth 100000 in
set_option maxHeartbeats 1000000 in
theorem Tryz.refRFrac (p q : Int) (w : World) (h1 : -9223372036854775808 ≤ p) (h2 : p < 9223372036854775808) (h3 : 0 < q) (h4 : q < 9223372036854775808) :
    Calls Tryz.prog 41 #[.int .i64 p, .int .i64 q] w fun e w' => ∃ v', e = .returned v' ∧ Rw w' v' (mkRat p q.natAbs) ∧ Ext w w' := by
  have sp : Sm 1 p.natAbs := Sm.one (by unfold B64; omega)
  have sq : Sm 1 q.natAbs := Sm.one (by unfold B64; omega)
  have hq0 : Hid (q.natAbs ≠ 0) := Lib.hid (by omega)
  have H1 := Lib.hid h1
  have H2 := Lib.hid h2
  have H3 : Hid (-9223372036854775808 ≤ q) := Lib.hid (by omega)
  have H4 := Lib.hid h4
  have SP := Lib.hid sp
  have SQ := Lib.hid sq
  clear h1 h2 h3 h4 sp sq
  obtain ⟨W0, hW0⟩ : ∃ W0, W0 = (w.alloc (.cells #[.bool false, .slice none 0 0, .slice none 0 0] 27)) := ⟨_, rfl⟩
  have E0 : Ext w W0 := by rw [hW0]; exact (Ext.alloc1 w (.cells #[.bool false, .slice none 0 0, .slice none 0 0] 27))
  have p1 : Bx3 W0 (w.heap.size) 27 (.bool false) (.slice none 0 0) (.slice none 0 0) := by rw [hW0]; exact (Bx3.new w 27 (.bool false) (.slice none 0 0) (.slice none 0 0))
  have kp1_0 := p1.froz0
  have kp1_1 := p1.froz1
  have kp1_2 := p1.froz2
  go_enter Tryz.func41, Tryz.ntmps41
  go_wp2_with fail
  rw [← hW0]
  refine (Tryz.refZOf p _ H1.out H2.out).mono ?_
  rintro e w1 ⟨v1, rfl, hz1, hE⟩
  replace p1 := p1.ext hE
  replace E0 := E0.trans hE
  clear hW0
  go_wp2_with fail
  refine (Tryz.refZOf q _ H3.out H4.out).mono ?_
  rintro e w2 ⟨v2, rfl, hz2, hE⟩
  replace p1 := p1.ext hE
  replace hz1 := hz1.ext hE
  replace E0 := E0.trans hE
  obtain ⟨b2, a2, n2, c2, rfl, hb2, g2⟩ := hz2
  have hfd := Tryz.fieldZ b2 a2 n2 c2
  go_wp2_with fail
  refine (Tryz.refRMake hz1 g2 SP.out SQ.out (by omega) hq0.out).mono ?_
  rintro e w3 ⟨v3, rfl, hr, hE⟩
  replace p1 := p1.ext hE
  replace E0 := E0.trans hE
  have hr' := hr
  obtain ⟨b3, a3, n3, c3, d3, m3, o3, rfl, hb3, g3, k3⟩ := hr
  clear kp1_0 kp1_1 kp1_2
  have kp1_0 := p1.cell0
  have kp1_1 := p1.cell1
  have kp1_2 := p1.cell2
  have fp1_0 := p1.froz0
  have fp1_1 := p1.froz1
  have fp1_2 := p1.froz2
  have hlt := p1.lt
  have hne : ¬ (w.heap.size = w3.heap.size) := by omega
  go_wp2
  have q0 := p1.set (.bool b3) (.slice a3 n3 c3) (.slice d3 m3 o3)
  have hX := Ext.alloc1 (((w3.setCell ⟨w.heap.size, 0, none⟩ (.bool b3)).setCell ⟨w.heap.size, 1, none⟩ (.slice a3 n3 c3)).setCell ⟨w.heap.size, 2, none⟩ (.slice d3 m3 o3)) (.cells #[.bool b3, .slice a3 n3 c3, .slice d3 m3 o3] 27)
  have q := q0.ext hX
  have e0 := q.cell0
  have e1 := q.cell1
  have e2 := q.cell2
  exact bodyPost_ret (v := .agg #[.bool b3, .slice a3 n3 c3, .slice d3 m3 o3]) (by simp [results, Tryz.results41, go_sem, e0, e1, e2]) rfl ⟨_, rfl, (hr'.off p1 (noU3 _ _ _ _ _ _ _) (off_set3 _ _ _ _ _)).ext hX, (E0.set3 (by omega) _ _ _).trans hX⟩

end Go.Rt

namespace Go.Rt
open Go.RowKit Go.Proofs

set_option maxHeartbeats 400000 in
theorem Tryz.refZRight {b : Bool} {a : Option Addr} {n c : Nat} {xs : List Nat} {w : World} (h : Nt w (.slice a n c) xs) :
    Calls Tryz.prog 75 #[.agg #[.bool b, .slice a n c]] w fun e w' => e = .returned (.bool (normB xs && (decide (0 < n) || !b))) ∧ Ext w w' := by
  have E0 := Ext.alloc1 w (.cells #[.bool b, .slice a n c] 25)
  rcases hq : normB xs with _ | _
  · have HQ := Lib.hid hq
    clear hq
    go_enter Tryz.func75, Tryz.ntmps75
    go_wp2_with fail
    refine (Tryz.refRight (h.ext E0)).mono ?_
    rintro e w1 ⟨rfl, rfl⟩
    rw [HQ.out]
    go_wp2
    all_goals go_ret
    all_goals exact ⟨ret_b (by simp), E0⟩
  · have HQ := Lib.hid hq
    clear hq
    by_cases h0 : 0 < n
    · have h0I : (0 : Int) < (n : Int) := by omega
      have HD : Hid (decide (0 < n) = true) := Lib.hid (decide_eq_true h0)
      clear h0
      go_enter Tryz.func75, Tryz.ntmps75
      go_wp2_with fail
      refine (Tryz.refRight (h.ext E0)).mono ?_
      rintro e w1 ⟨rfl, rfl⟩
      rw [HQ.out]
      go_wp2
      all_goals go_ret
      all_goals exact ⟨ret_b (by rw [HD.out]; simp), E0⟩
    · have h0I : ¬ (0 : Int) < (n : Int) := by omega
      have HD : Hid (decide (0 < n) = false) := Lib.hid (decide_eq_false h0)
      clear h0
      go_enter Tryz.func75, Tryz.ntmps75
      go_wp2_with fail
      refine (Tryz.refRight (h.ext E0)).mono ?_
      rintro e w1 ⟨rfl, rfl⟩
      rw [HQ.out]
      go_wp2
      all_goals go_ret
      all_goals exact ⟨ret_b (by rw [HD.out]; simp), Ext.alloc1 _ _⟩
end Go.Rt
