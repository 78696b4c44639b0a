/-
  The laws of chapter 08 (numbers of a fixed point): Agree, Sides, Order: their walks.
  Numbers of a fixed point by definition (chapter 08's answer).
  Numbers of a fixed point by definition: products, quotients, scaled, roots.
-/
import Derived.Test.YtkbalokicnogbaaGreatGX
import Derived.Test.YtkbalokicnogbaaGreatGY
import Derived.Test.YtkbalokicnogbaaGreatDyadB
import Derived.Test.YtkbalokicnogbaaGreatZCmp
import Derived.Test.YtkbalokicnogbaaGreatGG
namespace Go.Rt

open Go.RowKit Go.Proofs

theorem nearR_int (z : Int) : nearR (z : Rat) = z := by
 have := near_sgn_ratio (decide (z < 0)) z.natAbs 1 (by decide)
 rw [sgn_of] at this
 rw [show (z : Rat) = (z : Rat) / ((1 : Nat) : Rat) by rw [show ((1 : Nat) : Rat) = 1 from rfl]; grind, this]
 unfold nearN
 rw [Nat.div_one, Nat.mod_one, if_neg (by omega), sgn_of]

end Go.Rt

namespace Go.Rt

open Go.RowKit Go.Proofs

set_option maxHeartbeats 400000 in
theorem Tryz.refFrac08 (f : Int) (w : World) : Calls Tryz.prog 147 #[.int .i64 f] w fun e w' => e = .returned (.bool (fracB f)) ∧ w = w' := by
 by_cases h1 : 0 ≤ f
 ·by_cases h2 : f ≤ 40
  ·have HR : Hid (true = fracB f) := Lib.hid (decide_eq_true (p := 0 ≤ f ∧ f ≤ 40) ⟨h1, h2⟩).symm
   go_enter Tryz.func147, Tryz.ntmps147
   go_wp2
   all_goals go_ret
   all_goals exact ⟨ret_b HR.out, rfl⟩
  ·have HR : Hid (false = fracB f) := Lib.hid (decide_eq_false (p := 0 ≤ f ∧ f ≤ 40) (fun h => h2 h.2)).symm
   have h2' : decide (f ≤ 40) = false := decide_eq_false h2
   go_enter Tryz.func147, Tryz.ntmps147
   go_wp2
   all_goals go_ret
   all_goals exact ⟨ret_b HR.out, rfl⟩
 ·have HR : Hid (false = fracB f) := Lib.hid (decide_eq_false (p := 0 ≤ f ∧ f ≤ 40) (fun h => h1 h.1)).symm
  have h1' : decide (0 ≤ f) = false := decide_eq_false h1
  go_enter Tryz.func147, Tryz.ntmps147
  go_wp2
  all_goals go_ret
  all_goals exact ⟨ret_b HR.out, rfl⟩

set_option maxRecDepth 100000 in
set_option maxHeartbeats 4000000 in
theorem Tryz.near08 {v1 : Value} {x : Rat} {L : Nat} {w : World} (h1 : Rw w v1 x) (s1 : SmR L x) (hL : L ≤ 60) (K : Nat) (hK : K ≤ 2000) :
  Calls Tryz.prog 131 #[v1, .int .i64 (K : Int)] w fun e w' => e = .returned (.tuple #[.int .i64 (fitV (nearR (x * P2 K))), .int .i64 (fitE (nearR (x * P2 K)))]) ∧ Ext w w' := by
 obtain ⟨Z, hZ⟩ : ∃ Z, Z = nearR (x * P2 K) := ⟨_, rfl⟩
 rw [← hZ]
 have HZ := Lib.hid hZ
 clear hZ
 have HL := Lib.hid hL
 have HKb := Lib.hid hK
 clear hL hK
 obtain ⟨b1, a1, n1, c1, d1, m1, o1, rfl, q1⟩ : ∃ b a n c d m o, v1 = .agg #[.bool b, .slice a n c, .slice d m o] ∧ True := let ⟨b, a, n, c, d, m, o, e, _⟩ := h1; ⟨b, a, n, c, d, m, o, e, trivial⟩
 clear q1
 cases hft : fits Z
 ·have HV : Hid (fitV Z = 0) := Lib.hid (fitV_out hft)
  have HE : Hid (fitE Z = 2) := Lib.hid (fitE_out hft)
  have HF := Lib.hid hft
  rw [HV.out, HE.out]
  clear hft
  obtain ⟨W0, hW0, E0, p2⟩ := boxed1 w 61 #[.bool b1, .slice a1 n1 c1, .slice d1 m1 o1]
  replace p2 := p2.b3
  replace h1 : Rw W0 (.agg #[.bool b1, .slice a1 n1 c1, .slice d1 m1 o1]) x := h1.ext E0
  go_enter Tryz.func131, Tryz.ntmps131
  obtain ⟨k2a, k2b, k2c⟩ := p2.c3
  go_upto_region 1 with (fail)
  rw [← hW0]
  clear hW0; clear k2a k2b k2c; have ltp2 := p2.lt; have szw1 := Ext.size E0
  refine region_gs [isV (.agg #[.bool b1, .slice a1 n1 c1, .slice d1 m1 o1]), isV (.int .i64 (K : Int)),
    .one fun v W => ∃ v', v = .tuple #[v', .int .i64 0] ∧ (fun v W => Zw W v Z) v' W,
    .one fun v W => ∃ v', v = .tuple #[v', .int .i64 0] ∧ (fun v W => Zw W v Z) v' W,
    .one fun v W => Zw W v Z,
    isV (.int .i64 0),
    .one fun v W => ∃ g, v = .pointer (some ⟨g, 0, none⟩) ∧ W0.heap.size ≤ g ∧ Form W g 59 2,
    .three 6 4 (fun p r _ W => Put2 W0.heap.size 59 p r W),
    isV (.int .i64 0)]
   (fun W => Ext w W ∧ Rw W (.agg #[.bool b1, .slice a1 n1 c1, .slice d1 m1 o1]) x ∧ Bx3 W w.heap.size 61 (.bool b1) (.slice a1 n1 c1) (.slice d1 m1 o1) ∧ W0.heap.size ≤ W.heap.size) ⟨Good.is _, Good.is _, (Good.zed _).tup _, (Good.zed _).tup _, Good.zed _, Good.is _, Good.box _ _ _, cert_put2, Good.is _, trivial⟩
   ⟨E0, h1, p2, Nat.le_refl _⟩ (A := ?A1) ?hA1 ?howe1 ?hfin1
  case hA1 =>
   intro vs
   simp only [putAll, Act.put, sA, sZ, sS, Nat.zero_add, Nat.reduceAdd]
   exact rfl
  case howe1 =>
   clear E0 h1 p2
   intro hf
   refine ⟨oE 0 [] hf rfl ?_, oP0 1 [] hf rfl, oE 2 [0, 1] hf rfl ?_, oE 3 [2] hf rfl ?_, oE 4 [3] hf rfl ?_, oE 5 [3] hf rfl ?_, oE 6 [] hf rfl ?_, oW 7 [6, 4] hf rfl ?_, oP1 8 [5] hf rfl, trivial⟩
   all_goals intro vs W hS hp hx KO hKO
   all_goals simp only [Act.put, sA, sZ, sS] at hKO
   ·have fc0 := hS.2.2.1.cell0; have fc1 := hS.2.2.1.cell1; have fc2 := hS.2.2.1.cell2; go_simp; exact hKO _ W (.refl W) rfl
   ·have e0 := isOf hp.1; have e1 := isOf hp.2.1; simp only [e0, e1] at hKO; go_simp
    refine (Tryz.refNear (hS.2.1) s1 HL.out K HKb.out).mono ?_
    rintro e W1 ⟨v, rfl, hv, hE⟩
    rw [← HZ.out] at hv
    exact hKO _ W1 hE ⟨_, rfl, hv⟩
   ·have q2 := hp.1
    obtain ⟨u, ev, hu⟩ := q2
    replace ev : vs 2 = _ := ev; simp only [ev] at hKO; go_simp; exact hKO _ W (Ext.refl W) ⟨u, rfl, hu⟩
   ·have q3 := hp.1
    obtain ⟨u, ev, hu⟩ := q3
    replace ev : vs 3 = _ := ev; simp only [ev] at hKO; go_simp; exact hKO _ W (Ext.refl W) hu
   ·have q3 := hp.1
    obtain ⟨u, ev, hu⟩ := q3
    replace ev : vs 3 = _ := ev; simp only [ev] at hKO; go_simp; exact hKO _ W (.refl W) rfl
   ·have hn := Bx2.new W 59 (.bool false) (.slice none 0 0)
    have hE := Ext.alloc1 W (.cells #[.bool false, .slice none 0 0] 59)
    have hsz := hS.2.2.2
    go_simp
    exact hKO _ _ hE ⟨_, rfl, hsz, hn.form⟩
   ·have q6 := hp.1; have q4 := hp.2.1
    obtain ⟨g, ev, hg, hf⟩ := q6
    replace ev : vs 6 = _ := ev
    obtain ⟨x0, y0, hx, hno⟩ := hf.bx2
    have qr := q4
    obtain ⟨b3, a3, n3, c3, er, -, -⟩ := qr
    replace er : vs 4 = _ := er
    have r0 := hx.froz0
    have t0 := hx.cell0
    have r1 := hx.froz1
    have t1 := hx.cell1
    have hw := Wr.set2 hx hno b3 a3 n3 c3
    have hq := hx.set (.bool b3) (.slice a3 n3 c3)
    simp only [ev, er] at hKO; go_simp
    exact hKO _ _ hw ⟨(Ext.wr hS.1 hw (by omega)), (hS.2.1.wr hw), (hS.2.2.1.wr hw (by omega)), (Nat.le_trans hS.2.2.2 hw.apart.size)⟩ ⟨g, b3, a3, n3, c3, ev, er, hg, hq⟩
  intro vs W1 hS hp
  clear szw1 E0 h1 p2
  obtain ⟨E0, h1, p2, sz1⟩ := hS
  obtain ⟨h1_0, h1_1, h1_2, h1_3, h1_4, h1_5, h1_6, h1_7, h1_8, -⟩ := hp
  obtain ⟨g1_7, b1_7, a1_7, n1_7, c1_7, ev1_7, er1_7, hg1_7, p1_7⟩ := h1_7
  replace ev1_7 : vs 6 = _ := ev1_7; replace er1_7 : vs 4 = _ := er1_7; replace h1_4 := (show Zw W1 (vs 4) Z from h1_4)
  rw [er1_7] at h1_4
  simp only [ev1_7, er1_7, isOf h1_0, isOf h1_1, isOf h1_5, isOf h1_8]
  clear ev1_7 er1_7 h1_0 h1_1 h1_5 h1_8 h1_2 h1_3 h1_6
  obtain ⟨k2a, k2b, k2c⟩ := p2.c3
  obtain ⟨k1_7a, k1_7b⟩ := p1_7.c2
  go_upto_region 2 with (fail)
  clear k2a k2b k2c k1_7a k1_7b; have ltp1_7 := p1_7.lt; have szw2 := Ext.size E0
  refine region_gk [isV (.agg #[.bool b1_7, .slice a1_7 n1_7 c1_7]), isV (.tuple #[.int .i64 0, .bool false]), isV (.tuple #[.int .i64 0, .bool false]), isV (.int .i64 0), isV (.bool false), isV (.int .i64 0),
    .one fun v _ => v = .bool false] ⟨Good.is _, Good.is _, Good.is _, Good.is _, Good.is _, Good.is _, Good.is _, trivial⟩ (E0.s.k (h1.s.k (p2.s.k (h1_4.s.k (p1_7.s))))) (A := ?A2) ?hA2 ?howe2 ?hfin2
  case hA2 =>
   intro vs
   simp only [putAll, Act.put, sA, sZ, sS, Nat.zero_add, Nat.reduceAdd]
   exact rfl
  case howe2 =>
   clear E0 h1 p2 h1_4 p1_7
   intro hf
   refine ⟨oE 0 [] hf rfl ?_, oE 1 [0] hf rfl ?_, oP1 2 [1] hf rfl, oP1 3 [2] hf rfl, oP1 4 [2] hf rfl, oP1 5 [3] hf rfl, oP1 6 [4] hf rfl, trivial⟩
   all_goals intro vs W hS hp hx KO hKO
   all_goals simp only [Act.put, sA, sZ, sS] at hKO
   ·have fc0 := hS.1.2.2.2.2.cell0; have fc1 := hS.1.2.2.2.2.cell1; go_simp; exact hKO _ W (.refl W) rfl
   ·have e0 := isOf hp.1; simp only [e0] at hKO; go_simp
    refine (Tryz.refZInt (hS.1.2.2.2.1)).mono ?_
    rintro e W1 ⟨rfl, hE⟩
    rw [HV.out, HF.out]
    exact hKO _ W1 hE rfl
  intro vs W2 hS hp
  clear szw2 E0 h1 p2 h1_4 p1_7
  obtain ⟨⟨E0, h1, p2, h1_4, p1_7⟩, sz2⟩ := hS
  obtain ⟨h2_0, h2_1, h2_2, h2_3, h2_4, h2_5, h2_6, -⟩ := hp
  simp only [isOf h2_0, isOf h2_1, isOf h2_2, isOf h2_3, isOf h2_4, isOf h2_5, isOf h2_6]
  clear h2_0 h2_1 h2_2 h2_3 h2_4 h2_5 h2_6
  obtain ⟨k2a, k2b, k2c⟩ := p2.c3
  obtain ⟨k1_7a, k1_7b⟩ := p1_7.c2
  go_wp2; go_ret2
  exact ⟨rfl, E0⟩
 ·have HV : Hid (fitV Z = Z) := Lib.hid (fitV_in hft)
  have HE : Hid (fitE Z = 0) := Lib.hid (fitE_in hft)
  have HF := Lib.hid hft
  rw [HV.out, HE.out]
  clear hft
  obtain ⟨W0, hW0, E0, p2⟩ := boxed1 w 61 #[.bool b1, .slice a1 n1 c1, .slice d1 m1 o1]
  replace p2 := p2.b3
  replace h1 : Rw W0 (.agg #[.bool b1, .slice a1 n1 c1, .slice d1 m1 o1]) x := h1.ext E0
  go_enter Tryz.func131, Tryz.ntmps131
  obtain ⟨k2a, k2b, k2c⟩ := p2.c3
  go_upto_region 1 with (fail)
  rw [← hW0]
  clear hW0; clear k2a k2b k2c; have ltp2 := p2.lt; have szw3 := Ext.size E0
  refine region_gs [isV (.agg #[.bool b1, .slice a1 n1 c1, .slice d1 m1 o1]), isV (.int .i64 (K : Int)),
    .one fun v W => ∃ v', v = .tuple #[v', .int .i64 0] ∧ (fun v W => Zw W v Z) v' W,
    .one fun v W => ∃ v', v = .tuple #[v', .int .i64 0] ∧ (fun v W => Zw W v Z) v' W,
    .one fun v W => Zw W v Z,
    isV (.int .i64 0),
    .one fun v W => ∃ g, v = .pointer (some ⟨g, 0, none⟩) ∧ W0.heap.size ≤ g ∧ Form W g 59 2,
    .three 6 4 (fun p r _ W => Put2 W0.heap.size 59 p r W),
    isV (.int .i64 0)]
   (fun W => Ext w W ∧ Rw W (.agg #[.bool b1, .slice a1 n1 c1, .slice d1 m1 o1]) x ∧ Bx3 W w.heap.size 61 (.bool b1) (.slice a1 n1 c1) (.slice d1 m1 o1) ∧ W0.heap.size ≤ W.heap.size) ⟨Good.is _, Good.is _, (Good.zed _).tup _, (Good.zed _).tup _, Good.zed _, Good.is _, Good.box _ _ _, cert_put2, Good.is _, trivial⟩
   ⟨E0, h1, p2, Nat.le_refl _⟩ (A := ?A3) ?hA3 ?howe3 ?hfin3
  case hA3 =>
   intro vs
   simp only [putAll, Act.put, sA, sZ, sS, Nat.zero_add, Nat.reduceAdd]
   exact rfl
  case howe3 =>
   clear E0 h1 p2
   intro hf
   refine ⟨oE 0 [] hf rfl ?_, oP0 1 [] hf rfl, oE 2 [0, 1] hf rfl ?_, oE 3 [2] hf rfl ?_, oE 4 [3] hf rfl ?_, oE 5 [3] hf rfl ?_, oE 6 [] hf rfl ?_, oW 7 [6, 4] hf rfl ?_, oP1 8 [5] hf rfl, trivial⟩
   all_goals intro vs W hS hp hx KO hKO
   all_goals simp only [Act.put, sA, sZ, sS] at hKO
   ·have fc0 := hS.2.2.1.cell0; have fc1 := hS.2.2.1.cell1; have fc2 := hS.2.2.1.cell2; go_simp; exact hKO _ W (.refl W) rfl
   ·have e0 := isOf hp.1; have e1 := isOf hp.2.1; simp only [e0, e1] at hKO; go_simp
    refine (Tryz.refNear (hS.2.1) s1 HL.out K HKb.out).mono ?_
    rintro e W1 ⟨v, rfl, hv, hE⟩
    rw [← HZ.out] at hv
    exact hKO _ W1 hE ⟨_, rfl, hv⟩
   ·have q2 := hp.1
    obtain ⟨u, ev, hu⟩ := q2
    replace ev : vs 2 = _ := ev; simp only [ev] at hKO; go_simp; exact hKO _ W (Ext.refl W) ⟨u, rfl, hu⟩
   ·have q3 := hp.1
    obtain ⟨u, ev, hu⟩ := q3
    replace ev : vs 3 = _ := ev; simp only [ev] at hKO; go_simp; exact hKO _ W (Ext.refl W) hu
   ·have q3 := hp.1
    obtain ⟨u, ev, hu⟩ := q3
    replace ev : vs 3 = _ := ev; simp only [ev] at hKO; go_simp; exact hKO _ W (.refl W) rfl
   ·have hn := Bx2.new W 59 (.bool false) (.slice none 0 0)
    have hE := Ext.alloc1 W (.cells #[.bool false, .slice none 0 0] 59)
    have hsz := hS.2.2.2
    go_simp
    exact hKO _ _ hE ⟨_, rfl, hsz, hn.form⟩
   ·have q6 := hp.1; have q4 := hp.2.1
    obtain ⟨g, ev, hg, hf⟩ := q6
    replace ev : vs 6 = _ := ev
    obtain ⟨x0, y0, hx, hno⟩ := hf.bx2
    have qr := q4
    obtain ⟨b3, a3, n3, c3, er, -, -⟩ := qr
    replace er : vs 4 = _ := er
    have r0 := hx.froz0
    have t0 := hx.cell0
    have r1 := hx.froz1
    have t1 := hx.cell1
    have hw := Wr.set2 hx hno b3 a3 n3 c3
    have hq := hx.set (.bool b3) (.slice a3 n3 c3)
    simp only [ev, er] at hKO; go_simp
    exact hKO _ _ hw ⟨(Ext.wr hS.1 hw (by omega)), (hS.2.1.wr hw), (hS.2.2.1.wr hw (by omega)), (Nat.le_trans hS.2.2.2 hw.apart.size)⟩ ⟨g, b3, a3, n3, c3, ev, er, hg, hq⟩
  intro vs W3 hS hp
  clear szw3 E0 h1 p2
  obtain ⟨E0, h1, p2, sz3⟩ := hS
  obtain ⟨h3_0, h3_1, h3_2, h3_3, h3_4, h3_5, h3_6, h3_7, h3_8, -⟩ := hp
  obtain ⟨g3_7, b3_7, a3_7, n3_7, c3_7, ev3_7, er3_7, hg3_7, p3_7⟩ := h3_7
  replace ev3_7 : vs 6 = _ := ev3_7; replace er3_7 : vs 4 = _ := er3_7; replace h3_4 := (show Zw W3 (vs 4) Z from h3_4)
  rw [er3_7] at h3_4
  simp only [ev3_7, er3_7, isOf h3_0, isOf h3_1, isOf h3_5, isOf h3_8]
  clear ev3_7 er3_7 h3_0 h3_1 h3_5 h3_8 h3_2 h3_3 h3_6
  obtain ⟨k2a, k2b, k2c⟩ := p2.c3
  obtain ⟨k3_7a, k3_7b⟩ := p3_7.c2
  go_upto_region 2 with (fail)
  clear k2a k2b k2c k3_7a k3_7b; have ltp3_7 := p3_7.lt; have szw4 := Ext.size E0
  refine region_gk [isV (.agg #[.bool b3_7, .slice a3_7 n3_7 c3_7]), isV (.tuple #[.int .i64 Z, .bool true]), isV (.tuple #[.int .i64 Z, .bool true]), isV (.int .i64 Z), isV (.bool true), isV (.int .i64 Z),
    .one fun v _ => v = .bool true] ⟨Good.is _, Good.is _, Good.is _, Good.is _, Good.is _, Good.is _, Good.is _, trivial⟩ (E0.s.k (h1.s.k (p2.s.k (h3_4.s.k (p3_7.s))))) (A := ?A4) ?hA4 ?howe4 ?hfin4
  case hA4 =>
   intro vs
   simp only [putAll, Act.put, sA, sZ, sS, Nat.zero_add, Nat.reduceAdd]
   exact rfl
  case howe4 =>
   clear E0 h1 p2 h3_4 p3_7
   intro hf
   refine ⟨oE 0 [] hf rfl ?_, oE 1 [0] hf rfl ?_, oP1 2 [1] hf rfl, oP1 3 [2] hf rfl, oP1 4 [2] hf rfl, oP1 5 [3] hf rfl, oP1 6 [4] hf rfl, trivial⟩
   all_goals intro vs W hS hp hx KO hKO
   all_goals simp only [Act.put, sA, sZ, sS] at hKO
   ·have fc0 := hS.1.2.2.2.2.cell0; have fc1 := hS.1.2.2.2.2.cell1; go_simp; exact hKO _ W (.refl W) rfl
   ·have e0 := isOf hp.1; simp only [e0] at hKO; go_simp
    refine (Tryz.refZInt (hS.1.2.2.2.1)).mono ?_
    rintro e W1 ⟨rfl, hE⟩
    rw [HV.out, HF.out]
    exact hKO _ W1 hE rfl
  intro vs W4 hS hp
  clear szw4 E0 h1 p2 h3_4 p3_7
  obtain ⟨⟨E0, h1, p2, h3_4, p3_7⟩, sz4⟩ := hS
  obtain ⟨h4_0, h4_1, h4_2, h4_3, h4_4, h4_5, h4_6, -⟩ := hp
  simp only [isOf h4_0, isOf h4_1, isOf h4_2, isOf h4_3, isOf h4_4, isOf h4_5, isOf h4_6]
  clear h4_0 h4_1 h4_2 h4_3 h4_4 h4_5 h4_6
  obtain ⟨k2a, k2b, k2c⟩ := p2.c3
  obtain ⟨k3_7a, k3_7b⟩ := p3_7.c2
  go_wp2; go_ret2
  exact ⟨rfl, E0⟩

set_option maxRecDepth 100000 in
set_option maxHeartbeats 4000000 in
theorem Tryz.ref08Add (a b : Int) (w : World) (ha1 : -9223372036854775808 ≤ a) (ha2 : a < 9223372036854775808) (hb1 : -9223372036854775808 ≤ b) (hb2 : b < 9223372036854775808) :
  Calls Tryz.prog 124 #[.int .i64 a, .int .i64 b] w fun e w' => e = .returned (.tuple #[.int .i64 (fitV (a + b)), .int .i64 (fitE (a + b))]) ∧ Ext w w' := by
 obtain ⟨V, hV⟩ : ∃ V, fitV (a + b) = V := ⟨_, rfl⟩
 obtain ⟨E, hE0⟩ : ∃ V, fitE (a + b) = V := ⟨_, rfl⟩
 rw [hV, hE0]
 have HV := Lib.hid hV
 have HE := Lib.hid hE0
 clear hV hE0
 have SA : Hid (SmR 1 (a : Rat)) := Lib.hid (SmR.int (by omega))
 have SB : Hid (SmR 1 (b : Rat)) := Lib.hid (SmR.int (by omega))
 have SC : Hid (SmR 3 ((a : Rat) + (b : Rat))) := Lib.hid (SA.out.add SB.out)
 have HX : Hid (nearR (((a : Rat) + (b : Rat)) * P2 0) = a + b) := Lib.hid (by rw [P2_zero, Rat.mul_one, ← Rat.intCast_add, nearR_int])
 have HB := Lib.hid (show (-9223372036854775808 ≤ a ∧ a < 9223372036854775808) ∧ (-9223372036854775808 ≤ b ∧ b < 9223372036854775808) from ⟨⟨ha1, ha2⟩, ⟨hb1, hb2⟩⟩)
 clear ha1 ha2 hb1 hb2
 obtain ⟨W0, hW0⟩ : ∃ W0, W0 = w := ⟨_, rfl⟩
 have E0 : Ext w W0 := by rw [hW0]; exact Ext.refl w
 go_enter Tryz.func124, Tryz.ntmps124
 go_upto_region 1 with (fail)
 rw [← hW0]
 clear hW0; have szw5 := Ext.size E0
 refine region_gk [isV (.int .i64 a),
   .one fun v W => Rw W v ((a : Rat)),
   isV (.int .i64 b),
   .one fun v W => Rw W v ((b : Rat)),
   .one fun v W => Rw W v ((a : Rat) + (b : Rat)),
   isV (.tuple #[.int .i64 V, .int .i64 E]), isV (.int .i64 V), isV (.int .i64 E), isV (.int .i64 V),
   .one fun v _ => v = .int .i64 E] ⟨Good.is _, Good.rat _, Good.is _, Good.rat _, Good.rat _, Good.is _, Good.is _, Good.is _, Good.is _, Good.is _, trivial⟩ (E0.s) (A := ?A5) ?hA5 ?howe5 ?hfin5
 case hA5 =>
  intro vs
  simp only [putAll, Act.put, sA, sZ, sS, Nat.zero_add, Nat.reduceAdd]
  exact rfl
 case howe5 =>
  clear E0
  intro hf
  refine ⟨oP0 0 [] hf rfl, oE 1 [0] hf rfl ?_, oP0 2 [] hf rfl, oE 3 [2] hf rfl ?_, oE 4 [1, 3] hf rfl ?_, oE 5 [4] hf rfl ?_, oP1 6 [5] hf rfl, oP1 7 [5] hf rfl, oP1 8 [6] hf rfl, oP1 9 [7] hf rfl, trivial⟩
  all_goals intro vs W hS hp hx KO hKO
  all_goals simp only [Act.put, sA, sZ, sS] at hKO
  ·have e0 := isOf hp.1; simp only [e0] at hKO; go_simp
   refine (Tryz.refROf a _ HB.out.1.1 HB.out.1.2).mono ?_
   rintro e W1 ⟨v, rfl, hv, hE⟩
   exact hKO _ W1 hE hv
  ·have e2 := isOf hp.1; simp only [e2] at hKO; go_simp
   refine (Tryz.refROf b _ HB.out.2.1 HB.out.2.2).mono ?_
   rintro e W1 ⟨v, rfl, hv, hE⟩
   exact hKO _ W1 hE hv
  ·have q1 := hp.1; have q3 := hp.2.1; go_simp
   refine (Tryz.refRAdd q1 q3 SA.out SB.out (by omega)).mono ?_
   rintro e W1 ⟨v, rfl, hv, hE⟩
   exact hKO _ W1 hE hv
  ·have q4 := hp.1; go_simp
   refine (Tryz.near08 q4 SC.out (by omega) 0 (by omega)).mono ?_
   rintro e W1 ⟨rfl, hE⟩
   rw [HX.out, HV.out, HE.out]
   exact hKO _ W1 hE rfl
 intro vs W5 hS hp
 clear szw5 E0
 obtain ⟨E0, sz5⟩ := hS
 obtain ⟨h5_0, h5_1, h5_2, h5_3, h5_4, h5_5, h5_6, h5_7, h5_8, h5_9, -⟩ := hp
 simp only [isOf h5_0, isOf h5_2, isOf h5_5, isOf h5_6, isOf h5_7, isOf h5_8, isOf h5_9]
 replace h5_1 : Rw W5 (vs 1) ((a : Rat)) := h5_1
 generalize vs 1 = u5_1 at h5_1 ⊢
 replace h5_3 : Rw W5 (vs 3) ((b : Rat)) := h5_3
 generalize vs 3 = u5_3 at h5_3 ⊢
 replace h5_4 : Rw W5 (vs 4) ((a : Rat) + (b : Rat)) := h5_4
 generalize vs 4 = u5_4 at h5_4 ⊢
 clear h5_0 h5_2 h5_5 h5_6 h5_7 h5_8 h5_9; go_wp2; go_ret2
 exact ⟨rfl, E0⟩

set_option maxRecDepth 100000 in
set_option maxHeartbeats 4000000 in
theorem Tryz.ref08Sub (a b : Int) (w : World) (ha1 : -9223372036854775808 ≤ a) (ha2 : a < 9223372036854775808) (hb1 : -9223372036854775808 ≤ b) (hb2 : b < 9223372036854775808) :
  Calls Tryz.prog 127 #[.int .i64 a, .int .i64 b] w fun e w' => e = .returned (.tuple #[.int .i64 (fitV (a - b)), .int .i64 (fitE (a - b))]) ∧ Ext w w' := by
 obtain ⟨V, hV⟩ : ∃ V, fitV (a - b) = V := ⟨_, rfl⟩
 obtain ⟨E, hE0⟩ : ∃ V, fitE (a - b) = V := ⟨_, rfl⟩
 rw [hV, hE0]
 have HV := Lib.hid hV
 have HE := Lib.hid hE0
 clear hV hE0
 have SA : Hid (SmR 1 (a : Rat)) := Lib.hid (SmR.int (by omega))
 have SB : Hid (SmR 1 (b : Rat)) := Lib.hid (SmR.int (by omega))
 have SC : Hid (SmR 3 ((a : Rat) - (b : Rat))) := Lib.hid (SA.out.sub SB.out)
 have HX : Hid (nearR (((a : Rat) - (b : Rat)) * P2 0) = a - b) := Lib.hid (by rw [P2_zero, Rat.mul_one, ← Rat.intCast_sub, nearR_int])
 have HB := Lib.hid (show (-9223372036854775808 ≤ a ∧ a < 9223372036854775808) ∧ (-9223372036854775808 ≤ b ∧ b < 9223372036854775808) from ⟨⟨ha1, ha2⟩, ⟨hb1, hb2⟩⟩)
 clear ha1 ha2 hb1 hb2
 obtain ⟨W0, hW0⟩ : ∃ W0, W0 = w := ⟨_, rfl⟩
 have E0 : Ext w W0 := by rw [hW0]; exact Ext.refl w
 go_enter Tryz.func127, Tryz.ntmps127
 go_upto_region 1 with (fail)
 rw [← hW0]
 clear hW0; have szw6 := Ext.size E0
 refine region_gk [isV (.int .i64 a),
   .one fun v W => Rw W v ((a : Rat)),
   isV (.int .i64 b),
   .one fun v W => Rw W v ((b : Rat)),
   .one fun v W => Rw W v ((a : Rat) - (b : Rat)),
   isV (.tuple #[.int .i64 V, .int .i64 E]), isV (.int .i64 V), isV (.int .i64 E), isV (.int .i64 V),
   .one fun v _ => v = .int .i64 E] ⟨Good.is _, Good.rat _, Good.is _, Good.rat _, Good.rat _, Good.is _, Good.is _, Good.is _, Good.is _, Good.is _, trivial⟩ (E0.s) (A := ?A6) ?hA6 ?howe6 ?hfin6
 case hA6 =>
  intro vs
  simp only [putAll, Act.put, sA, sZ, sS, Nat.zero_add, Nat.reduceAdd]
  exact rfl
 case howe6 =>
  clear E0
  intro hf
  refine ⟨oP0 0 [] hf rfl, oE 1 [0] hf rfl ?_, oP0 2 [] hf rfl, oE 3 [2] hf rfl ?_, oE 4 [1, 3] hf rfl ?_, oE 5 [4] hf rfl ?_, oP1 6 [5] hf rfl, oP1 7 [5] hf rfl, oP1 8 [6] hf rfl, oP1 9 [7] hf rfl, trivial⟩
  all_goals intro vs W hS hp hx KO hKO
  all_goals simp only [Act.put, sA, sZ, sS] at hKO
  ·have e0 := isOf hp.1; simp only [e0] at hKO; go_simp
   refine (Tryz.refROf a _ HB.out.1.1 HB.out.1.2).mono ?_
   rintro e W1 ⟨v, rfl, hv, hE⟩
   exact hKO _ W1 hE hv
  ·have e2 := isOf hp.1; simp only [e2] at hKO; go_simp
   refine (Tryz.refROf b _ HB.out.2.1 HB.out.2.2).mono ?_
   rintro e W1 ⟨v, rfl, hv, hE⟩
   exact hKO _ W1 hE hv
  ·have q1 := hp.1; have q3 := hp.2.1; go_simp
   refine (Tryz.refRSub q1 q3 SA.out SB.out (by omega)).mono ?_
   rintro e W1 ⟨v, rfl, hv, hE⟩
   exact hKO _ W1 hE hv
  ·have q4 := hp.1; go_simp
   refine (Tryz.near08 q4 SC.out (by omega) 0 (by omega)).mono ?_
   rintro e W1 ⟨rfl, hE⟩
   rw [HX.out, HV.out, HE.out]
   exact hKO _ W1 hE rfl
 intro vs W6 hS hp
 clear szw6 E0
 obtain ⟨E0, sz6⟩ := hS
 obtain ⟨h6_0, h6_1, h6_2, h6_3, h6_4, h6_5, h6_6, h6_7, h6_8, h6_9, -⟩ := hp
 simp only [isOf h6_0, isOf h6_2, isOf h6_5, isOf h6_6, isOf h6_7, isOf h6_8, isOf h6_9]
 replace h6_1 : Rw W6 (vs 1) ((a : Rat)) := h6_1
 generalize vs 1 = u6_1 at h6_1 ⊢
 replace h6_3 : Rw W6 (vs 3) ((b : Rat)) := h6_3
 generalize vs 3 = u6_3 at h6_3 ⊢
 replace h6_4 : Rw W6 (vs 4) ((a : Rat) - (b : Rat)) := h6_4
 generalize vs 4 = u6_4 at h6_4 ⊢
 clear h6_0 h6_2 h6_5 h6_6 h6_7 h6_8 h6_9; go_wp2; go_ret2
 exact ⟨rfl, E0⟩

set_option maxRecDepth 100000 in
set_option maxHeartbeats 4000000 in
theorem Tryz.ref08Rat (a : Int) (K : Nat) (hK : K ≤ 40) (w : World) (ha1 : -9223372036854775808 ≤ a) (ha2 : a < 9223372036854775808) :
  Calls Tryz.prog 111 #[.int .i64 a, .int .i64 (K : Int)] w fun e w' => ∃ v', e = .returned (.tuple #[v', .int .i64 0]) ∧ Rw w' v' ((a : Rat) / P2 K) ∧ Ext w w' := by
 have hKF : fracB (K : Int) = true := decide_eq_true (by omega)
 have S1 : Hid (Sm 1 a.natAbs) := Lib.hid (Sm.small (by omega))
 have HK := Lib.hid (show K ≤ 2000 by omega)
 have HB := Lib.hid (And.intro ha1 ha2)
 clear ha1 ha2 hK
 obtain ⟨W0, hW0, E0, p4⟩ := boxed1 w 61 #[.bool false, .slice none 0 0, .slice none 0 0]
 replace p4 := p4.b3
 go_enter Tryz.func111, Tryz.ntmps111
 obtain ⟨k4a, k4b, k4c⟩ := p4.c3
 go_wp2_with fail
 rw [← hW0]
 clear hW0; clear k4a k4b k4c
 refine (Tryz.refFrac08 (K : Int) _).mono ?_
 rintro e Wc ⟨rfl, rfl⟩
 rw [hKF]
 obtain ⟨k4a, k4b, k4c⟩ := p4.c3
 go_upto_region 3 with (fail)
 clear k4a k4b k4c; have fp4 := p4.form; have ltfp4 := fp4.lt; have szw7 := Ext.size E0
 refine region_gs [isV (.int .i64 a),
   .one fun v W => Zw W v a,
   isV (.int .i64 (K : Int)),
   .one fun v W => ∃ v', v = .tuple #[v', .int .i64 0] ∧ (fun v W => Rw W v ((a : Rat) / P2 K)) v' W,
   .one fun v W => Rw W v ((a : Rat) / P2 K),
   isV (.int .i64 0),
   .two 4 (fun r _ W => At3 w.heap.size 61 r W),
   isV (.int .i64 0)]
  (fun W => Ext w W ∧ Form W w.heap.size 61 3 ∧ W0.heap.size ≤ W.heap.size) ⟨Good.is _, Good.zed _, Good.is _, (Good.rat _).tup _, Good.rat _, Good.is _, cert_at3, Good.is _, trivial⟩
  ⟨E0, fp4, Nat.le_refl _⟩ (A := ?A7) ?hA7 ?howe7 ?hfin7
 case hA7 =>
  intro vs
  simp only [putAll, Act.put, sA, sZ, sS, Nat.zero_add, Nat.reduceAdd]
  exact rfl
 case howe7 =>
  clear E0 fp4
  intro hf
  refine ⟨oP0 0 [] hf rfl, oE 1 [0] hf rfl ?_, oP0 2 [] hf rfl, oE 3 [1, 2] hf rfl ?_, oE 4 [3] hf rfl ?_, oE 5 [3] hf rfl ?_, oW 6 [4] hf rfl ?_, oP1 7 [5] hf rfl, trivial⟩
  all_goals intro vs W hS hp hx KO hKO
  all_goals simp only [Act.put, sA, sZ, sS] at hKO
  ·have e0 := isOf hp.1; simp only [e0] at hKO; go_simp
   refine (Tryz.refZOf a _ HB.out.1 HB.out.2).mono ?_
   rintro e W1 ⟨v, rfl, hv, hE⟩
   exact hKO _ W1 hE hv
  ·have q1 := hp.1; have e2 := isOf hp.2.1; simp only [e2] at hKO; go_simp
   refine (Tryz.refBack q1 S1.out (by omega) K HK.out).mono ?_
   rintro e W1 ⟨v, rfl, hv, hE⟩
   exact hKO _ W1 hE ⟨_, rfl, hv⟩
  ·have q3 := hp.1
   obtain ⟨u, ev, hu⟩ := q3
   replace ev : vs 3 = _ := ev; simp only [ev] at hKO; go_simp; exact hKO _ W (Ext.refl W) hu
  ·have q3 := hp.1
   obtain ⟨u, ev, hu⟩ := q3
   replace ev : vs 3 = _ := ev; simp only [ev] at hKO; go_simp; exact hKO _ W (.refl W) rfl
  ·have q4 := hp.1
   have hf := hS.2.1
   obtain ⟨x0, y0, z0, hx, hno⟩ := hf.bx3
   have qr := q4
   obtain ⟨b3, a3, n3, c3, d3, m3, o3, er, -, -, -⟩ := qr
   replace er : vs 4 = _ := er
   have r0 := hx.froz0
   have t0 := hx.cell0
   have r1 := hx.froz1
   have t1 := hx.cell1
   have r2 := hx.froz2
   have t2 := hx.cell2
   have hw := Wr.set3 hx hno b3 a3 n3 c3 d3 m3 o3
   have hq := hx.set (.bool b3) (.slice a3 n3 c3) (.slice d3 m3 o3)
   have hg : w.heap.size ≤ w.heap.size := Nat.le_refl _
   simp only [er] at hKO; go_simp
   exact hKO _ _ hw ⟨(Ext.wr hS.1 hw (by omega)), (hS.2.1.wr hw), (Nat.le_trans hS.2.2 hw.apart.size)⟩ ⟨b3, a3, n3, c3, d3, m3, o3, er, hq⟩
 intro vs W7 hS hp
 clear szw7 E0 fp4
 obtain ⟨E0, fp4, sz7⟩ := hS
 obtain ⟨h7_0, h7_1, h7_2, h7_3, h7_4, h7_5, h7_6, h7_7, -⟩ := hp
 obtain ⟨b7_6, a7_6, n7_6, c7_6, d7_6, m7_6, o7_6, er7_6, p7_6⟩ := h7_6
 replace er7_6 : vs 4 = _ := er7_6; replace h7_4 := (show Rw W7 (vs 4) ((a : Rat) / P2 K) from h7_4)
 rw [er7_6] at h7_4
 simp only [er7_6, isOf h7_0, isOf h7_2, isOf h7_5, isOf h7_7]
 replace h7_1 : Zw W7 (vs 1) a := h7_1
 generalize vs 1 = u7_1 at h7_1 ⊢
 clear er7_6 h7_0 h7_2 h7_5 h7_7 h7_3
 obtain ⟨k7_6a, k7_6b, k7_6c⟩ := p7_6.c3
 go_wp2
 exact bodyPost_ret (v := .tuple #[.agg #[.bool b7_6, .slice a7_6 n7_6 c7_6, .slice d7_6 m7_6 o7_6], .int .i64 0]) (by simp [results, Tryz.results111, go_sem, k7_6a, k7_6b, k7_6c]) rfl ⟨_, rfl, h7_4, E0⟩

end Go.Rt

namespace Go.Rt

open Go.RowKit Go.Proofs

theorem SmR.backP {a : Int} (h : Sm 1 a.natAbs) {K : Nat} (hK : K ≤ 41) : SmR 2 ((a : Rat) / P2 K) := by
 rw [← back_eq]
 exact (SmR.back h K).mono (by omega)

theorem mul_back (a b : Int) (K : Nat) : (a : Rat) / P2 K * ((b : Rat) / P2 K) * P2 K = ((a * b : Int) : Rat) / ((2 ^ K : Nat) : Rat) := by
 have h := P2_pos K
 rw [show (((2 ^ K : Nat)) : Rat) = P2 K from rfl, Rat.intCast_mul]
 have h0 : P2 K ≠ 0 := by intro e; rw [e] at h; exact absurd h (by decide)
 generalize P2 K = p at *
 rw [Rat.div_def, Rat.div_def, Rat.div_def]
 have e : p⁻¹ * p = 1 := Rat.inv_mul_cancel _ h0
 grind

theorem div_scaled (a b : Int) (K : Nat) : (a : Rat) / (b : Rat) * P2 K = ((a * ((2 ^ K : Nat) : Int) : Int) : Rat) / (b : Rat) := by
 rw [Rat.intCast_mul, Rat.intCast_natCast, show (((2 ^ K : Nat)) : Rat) = P2 K from rfl, Rat.div_def, Rat.div_def]
 grind

set_option maxRecDepth 100000 in
set_option maxHeartbeats 4000000 in
theorem Tryz.ref08Mul (a b : Int) (K : Nat) (hK : K ≤ 40) (w : World) (ha1 : -9223372036854775808 ≤ a) (ha2 : a < 9223372036854775808) (hb1 : -9223372036854775808 ≤ b) (hb2 : b < 9223372036854775808) :
  Calls Tryz.prog 80 #[.int .i64 a, .int .i64 b, .int .i64 (K : Int)] w fun e w' => e = .returned (.tuple #[.int .i64 (fitV (nearR (((a * b : Int) : Rat) / ((2 ^ K : Nat) : Rat)))), .int .i64 (fitE (nearR (((a * b : Int) : Rat) / ((2 ^ K : Nat) : Rat))))]) ∧ Ext w w' := by
 obtain ⟨V, hV⟩ : ∃ V, fitV (nearR (((a * b : Int) : Rat) / ((2 ^ K : Nat) : Rat))) = V := ⟨_, rfl⟩
 obtain ⟨E, hE0⟩ : ∃ V, fitE (nearR (((a * b : Int) : Rat) / ((2 ^ K : Nat) : Rat))) = V := ⟨_, rfl⟩
 rw [hV, hE0]
 have HV := Lib.hid hV
 have HE := Lib.hid hE0
 clear hV hE0
 have SX : Hid (SmR 2 ((a : Rat) / P2 K)) := Lib.hid (SmR.backP (Sm.small (by omega)) (by omega))
 have SY : Hid (SmR 2 ((b : Rat) / P2 K)) := Lib.hid (SmR.backP (Sm.small (by omega)) (by omega))
 have SP : Hid (SmR 4 ((a : Rat) / P2 K * ((b : Rat) / P2 K))) := Lib.hid (SX.out.mul SY.out)
 have HX := Lib.hid (mul_back a b K)
 have HB := Lib.hid (show (-9223372036854775808 ≤ a ∧ a < 9223372036854775808) ∧ (-9223372036854775808 ≤ b ∧ b < 9223372036854775808) from ⟨⟨ha1, ha2⟩, ⟨hb1, hb2⟩⟩)
 have HK := Lib.hid (And.intro hK (show K ≤ 2000 by omega))
 clear ha1 ha2 hb1 hb2 hK
 obtain ⟨W0, hW0⟩ : ∃ W0, W0 = w := ⟨_, rfl⟩
 have E0 : Ext w W0 := by rw [hW0]; exact Ext.refl w
 go_enter Tryz.func80, Tryz.ntmps80
 go_upto_region 1 with (fail)
 rw [← hW0]
 clear hW0; have szw9 := Ext.size E0
 refine region_gs [isV (.int .i64 a), isV (.int .i64 (K : Int)),
   .one fun v W => ∃ v', v = .tuple #[v', .int .i64 0] ∧ (fun v W => Rw W v ((a : Rat) / P2 K)) v' W,
   .one fun v W => ∃ v', v = .tuple #[v', .int .i64 0] ∧ (fun v W => Rw W v ((a : Rat) / P2 K)) v' W,
   .one fun v W => Rw W v ((a : Rat) / P2 K),
   isV (.int .i64 0),
   .one fun v W => ∃ g, v = .pointer (some ⟨g, 0, none⟩) ∧ W0.heap.size ≤ g ∧ Form W g 61 3,
   .three 6 4 (fun p r _ W => Put3 W0.heap.size 61 p r W),
   isV (.int .i64 0)]
  (fun W => Ext w W ∧ W0.heap.size ≤ W.heap.size) ⟨Good.is _, Good.is _, (Good.rat _).tup _, (Good.rat _).tup _, Good.rat _, Good.is _, Good.box _ _ _, cert_put3, Good.is _, trivial⟩
  ⟨E0, Nat.le_refl _⟩ (A := ?A9) ?hA9 ?howe9 ?hfin9
 case hA9 =>
  intro vs
  simp only [putAll, Act.put, sA, sZ, sS, Nat.zero_add, Nat.reduceAdd]
  exact rfl
 case howe9 =>
  clear E0
  intro hf
  refine ⟨oP0 0 [] hf rfl, oP0 1 [] hf rfl, oE 2 [0, 1] hf rfl ?_, oE 3 [2] hf rfl ?_, oE 4 [3] hf rfl ?_, oE 5 [3] hf rfl ?_, oE 6 [] hf rfl ?_, oW 7 [6, 4] hf rfl ?_, oP1 8 [5] hf rfl, trivial⟩
  all_goals intro vs W hS hp hx KO hKO
  all_goals simp only [Act.put, sA, sZ, sS] at hKO
  ·have e0 := isOf hp.1; have e1 := isOf hp.2.1; simp only [e0, e1] at hKO; go_simp
   refine (Tryz.ref08Rat a K HK.out.1 _ HB.out.1.1 HB.out.1.2).mono ?_
   rintro e W1 ⟨v, rfl, hv, hE⟩
   exact hKO _ W1 hE ⟨_, rfl, hv⟩
  ·have q2 := hp.1
   obtain ⟨u, ev, hu⟩ := q2
   replace ev : vs 2 = _ := ev; simp only [ev] at hKO; go_simp; exact hKO _ W (Ext.refl W) ⟨u, rfl, hu⟩
  ·have q3 := hp.1
   obtain ⟨u, ev, hu⟩ := q3
   replace ev : vs 3 = _ := ev; simp only [ev] at hKO; go_simp; exact hKO _ W (Ext.refl W) hu
  ·have q3 := hp.1
   obtain ⟨u, ev, hu⟩ := q3
   replace ev : vs 3 = _ := ev; simp only [ev] at hKO; go_simp; exact hKO _ W (.refl W) rfl
  ·have hn := Bx3.new W 61 (.bool false) (.slice none 0 0) (.slice none 0 0)
   have hE := Ext.alloc1 W (.cells #[.bool false, .slice none 0 0, .slice none 0 0] 61)
   have hsz := hS.2
   go_simp
   exact hKO _ _ hE ⟨_, rfl, hsz, hn.form⟩
  ·have q6 := hp.1; have q4 := hp.2.1
   obtain ⟨g, ev, hg, hf⟩ := q6
   replace ev : vs 6 = _ := ev
   obtain ⟨x0, y0, z0, hx, hno⟩ := hf.bx3
   have qr := q4
   obtain ⟨b3, a3, n3, c3, d3, m3, o3, er, -, -, -⟩ := qr
   replace er : vs 4 = _ := er
   have r0 := hx.froz0
   have t0 := hx.cell0
   have r1 := hx.froz1
   have t1 := hx.cell1
   have r2 := hx.froz2
   have t2 := hx.cell2
   have hw := Wr.set3 hx hno b3 a3 n3 c3 d3 m3 o3
   have hq := hx.set (.bool b3) (.slice a3 n3 c3) (.slice d3 m3 o3)
   simp only [ev, er] at hKO; go_simp
   exact hKO _ _ hw ⟨(Ext.wr hS.1 hw (by omega)), (Nat.le_trans hS.2 hw.apart.size)⟩ ⟨g, b3, a3, n3, c3, d3, m3, o3, ev, er, hg, hq⟩
 intro vs W9 hS hp
 clear szw9 E0
 obtain ⟨E0, sz9⟩ := hS
 obtain ⟨h9_0, h9_1, h9_2, h9_3, h9_4, h9_5, h9_6, h9_7, h9_8, -⟩ := hp
 obtain ⟨g9_7, b9_7, a9_7, n9_7, c9_7, d9_7, m9_7, o9_7, ev9_7, er9_7, hg9_7, p9_7⟩ := h9_7
 replace ev9_7 : vs 6 = _ := ev9_7; replace er9_7 : vs 4 = _ := er9_7; replace h9_4 := (show Rw W9 (vs 4) ((a : Rat) / P2 K) from h9_4)
 rw [er9_7] at h9_4
 simp only [ev9_7, er9_7, isOf h9_0, isOf h9_1, isOf h9_5, isOf h9_8]
 clear ev9_7 er9_7 h9_0 h9_1 h9_5 h9_8 h9_2 h9_3 h9_6
 obtain ⟨k9_7a, k9_7b, k9_7c⟩ := p9_7.c3
 go_upto_region 2 with (fail)
 clear k9_7a k9_7b k9_7c; have ltp9_7 := p9_7.lt; have szw10 := Ext.size E0
 refine region_gs [isV (.int .i64 b), isV (.int .i64 (K : Int)),
   .one fun v W => ∃ v', v = .tuple #[v', .int .i64 0] ∧ (fun v W => Rw W v ((b : Rat) / P2 K)) v' W,
   .one fun v W => ∃ v', v = .tuple #[v', .int .i64 0] ∧ (fun v W => Rw W v ((b : Rat) / P2 K)) v' W,
   .one fun v W => Rw W v ((b : Rat) / P2 K),
   isV (.int .i64 0),
   .one fun v W => ∃ g, v = .pointer (some ⟨g, 0, none⟩) ∧ W9.heap.size ≤ g ∧ Form W g 61 3,
   .three 6 4 (fun p r _ W => Put3 W9.heap.size 61 p r W),
   isV (.int .i64 0)]
  (fun W => Ext w W ∧ Rw W (.agg #[.bool b9_7, .slice a9_7 n9_7 c9_7, .slice d9_7 m9_7 o9_7]) ((a : Rat) / P2 K) ∧ Bx3 W g9_7 61 (.bool b9_7) (.slice a9_7 n9_7 c9_7) (.slice d9_7 m9_7 o9_7) ∧ W9.heap.size ≤ W.heap.size) ⟨Good.is _, Good.is _, (Good.rat _).tup _, (Good.rat _).tup _, Good.rat _, Good.is _, Good.box _ _ _, cert_put3, Good.is _, trivial⟩
  ⟨E0, h9_4, p9_7, Nat.le_refl _⟩ (A := ?A10) ?hA10 ?howe10 ?hfin10
 case hA10 =>
  intro vs
  simp only [putAll, Act.put, sA, sZ, sS, Nat.zero_add, Nat.reduceAdd]
  exact rfl
 case howe10 =>
  clear E0 h9_4 p9_7
  intro hf
  refine ⟨oP0 0 [] hf rfl, oP0 1 [] hf rfl, oE 2 [0, 1] hf rfl ?_, oE 3 [2] hf rfl ?_, oE 4 [3] hf rfl ?_, oE 5 [3] hf rfl ?_, oE 6 [] hf rfl ?_, oW 7 [6, 4] hf rfl ?_, oP1 8 [5] hf rfl, trivial⟩
  all_goals intro vs W hS hp hx KO hKO
  all_goals simp only [Act.put, sA, sZ, sS] at hKO
  ·have e0 := isOf hp.1; have e1 := isOf hp.2.1; simp only [e0, e1] at hKO; go_simp
   refine (Tryz.ref08Rat b K HK.out.1 _ HB.out.2.1 HB.out.2.2).mono ?_
   rintro e W1 ⟨v, rfl, hv, hE⟩
   exact hKO _ W1 hE ⟨_, rfl, hv⟩
  ·have q2 := hp.1
   obtain ⟨u, ev, hu⟩ := q2
   replace ev : vs 2 = _ := ev; simp only [ev] at hKO; go_simp; exact hKO _ W (Ext.refl W) ⟨u, rfl, hu⟩
  ·have q3 := hp.1
   obtain ⟨u, ev, hu⟩ := q3
   replace ev : vs 3 = _ := ev; simp only [ev] at hKO; go_simp; exact hKO _ W (Ext.refl W) hu
  ·have q3 := hp.1
   obtain ⟨u, ev, hu⟩ := q3
   replace ev : vs 3 = _ := ev; simp only [ev] at hKO; go_simp; exact hKO _ W (.refl W) rfl
  ·have hn := Bx3.new W 61 (.bool false) (.slice none 0 0) (.slice none 0 0)
   have hE := Ext.alloc1 W (.cells #[.bool false, .slice none 0 0, .slice none 0 0] 61)
   have hsz := hS.2.2.2
   go_simp
   exact hKO _ _ hE ⟨_, rfl, hsz, hn.form⟩
  ·have q6 := hp.1; have q4 := hp.2.1
   obtain ⟨g, ev, hg, hf⟩ := q6
   replace ev : vs 6 = _ := ev
   obtain ⟨x0, y0, z0, hx, hno⟩ := hf.bx3
   have qr := q4
   obtain ⟨b3, a3, n3, c3, d3, m3, o3, er, -, -, -⟩ := qr
   replace er : vs 4 = _ := er
   have r0 := hx.froz0
   have t0 := hx.cell0
   have r1 := hx.froz1
   have t1 := hx.cell1
   have r2 := hx.froz2
   have t2 := hx.cell2
   have hw := Wr.set3 hx hno b3 a3 n3 c3 d3 m3 o3
   have hq := hx.set (.bool b3) (.slice a3 n3 c3) (.slice d3 m3 o3)
   simp only [ev, er] at hKO; go_simp
   exact hKO _ _ hw ⟨(Ext.wr hS.1 hw (by omega)), (hS.2.1.wr hw), (hS.2.2.1.wr hw (by omega)), (Nat.le_trans hS.2.2.2 hw.apart.size)⟩ ⟨g, b3, a3, n3, c3, d3, m3, o3, ev, er, hg, hq⟩
 intro vs W10 hS hp
 clear szw10 E0 h9_4 p9_7
 obtain ⟨E0, h9_4, p9_7, sz10⟩ := hS
 obtain ⟨h10_0, h10_1, h10_2, h10_3, h10_4, h10_5, h10_6, h10_7, h10_8, -⟩ := hp
 obtain ⟨g10_7, b10_7, a10_7, n10_7, c10_7, d10_7, m10_7, o10_7, ev10_7, er10_7, hg10_7, p10_7⟩ := h10_7
 replace ev10_7 : vs 6 = _ := ev10_7; replace er10_7 : vs 4 = _ := er10_7; replace h10_4 := (show Rw W10 (vs 4) ((b : Rat) / P2 K) from h10_4)
 rw [er10_7] at h10_4
 simp only [ev10_7, er10_7, isOf h10_0, isOf h10_1, isOf h10_5, isOf h10_8]
 clear ev10_7 er10_7 h10_0 h10_1 h10_5 h10_8 h10_2 h10_3 h10_6
 obtain ⟨k9_7a, k9_7b, k9_7c⟩ := p9_7.c3
 obtain ⟨k10_7a, k10_7b, k10_7c⟩ := p10_7.c3
 go_upto_region 5 with (fail)
 clear k9_7a k9_7b k9_7c k10_7a k10_7b k10_7c; have ltp10_7 := p10_7.lt; have szw11 := Ext.size E0
 refine region_gk [isV (.agg #[.bool b9_7, .slice a9_7 n9_7 c9_7, .slice d9_7 m9_7 o9_7]), isV (.agg #[.bool b10_7, .slice a10_7 n10_7 c10_7, .slice d10_7 m10_7 o10_7]),
   .one fun v W => Rw W v ((a : Rat) / P2 K * ((b : Rat) / P2 K)),
   isV (.int .i64 (K : Int)), isV (.tuple #[.int .i64 V, .int .i64 E]), isV (.int .i64 V), isV (.int .i64 E), isV (.int .i64 V),
   .one fun v _ => v = .int .i64 E] ⟨Good.is _, Good.is _, Good.rat _, Good.is _, Good.is _, Good.is _, Good.is _, Good.is _, Good.is _, trivial⟩ (E0.s.k (h9_4.s.k (p9_7.s.k (h10_4.s.k (p10_7.s))))) (A := ?A11) ?hA11 ?howe11 ?hfin11
 case hA11 =>
  intro vs
  simp only [putAll, Act.put, sA, sZ, sS, Nat.zero_add, Nat.reduceAdd]
  exact rfl
 case howe11 =>
  clear E0 h9_4 p9_7 h10_4 p10_7
  intro hf
  refine ⟨oE 0 [] hf rfl ?_, oE 1 [] hf rfl ?_, oE 2 [0, 1] hf rfl ?_, oP0 3 [] hf rfl, oE 4 [2, 3] hf rfl ?_, oP1 5 [4] hf rfl, oP1 6 [4] hf rfl, oP1 7 [5] hf rfl, oP1 8 [6] hf rfl, trivial⟩
  all_goals intro vs W hS hp hx KO hKO
  all_goals simp only [Act.put, sA, sZ, sS] at hKO
  ·have fc0 := hS.1.2.2.1.cell0; have fc1 := hS.1.2.2.1.cell1; have fc2 := hS.1.2.2.1.cell2; go_simp; exact hKO _ W (.refl W) rfl
  ·have fc0 := hS.1.2.2.2.2.cell0; have fc1 := hS.1.2.2.2.2.cell1; have fc2 := hS.1.2.2.2.2.cell2; go_simp; exact hKO _ W (.refl W) rfl
  ·have e0 := isOf hp.1; have e1 := isOf hp.2.1; simp only [e0, e1] at hKO; go_simp
   refine (Tryz.refRMul (hS.1.2.1) (hS.1.2.2.2.1) SX.out SY.out (by omega)).mono ?_
   rintro e W1 ⟨v, rfl, hv, hE⟩
   exact hKO _ W1 hE hv
  ·have q2 := hp.1; have e3 := isOf hp.2.1; simp only [e3] at hKO; go_simp
   refine (Tryz.near08 q2 SP.out (by omega) K HK.out.2).mono ?_
   rintro e W1 ⟨rfl, hE⟩
   rw [HX.out, HV.out, HE.out]
   exact hKO _ W1 hE rfl
 intro vs W11 hS hp
 clear szw11 E0 h9_4 p9_7 h10_4 p10_7
 obtain ⟨⟨E0, h9_4, p9_7, h10_4, p10_7⟩, sz11⟩ := hS
 obtain ⟨h11_0, h11_1, h11_2, h11_3, h11_4, h11_5, h11_6, h11_7, h11_8, -⟩ := hp
 simp only [isOf h11_0, isOf h11_1, isOf h11_3, isOf h11_4, isOf h11_5, isOf h11_6, isOf h11_7, isOf h11_8]
 replace h11_2 : Rw W11 (vs 2) ((a : Rat) / P2 K * ((b : Rat) / P2 K)) := h11_2
 generalize vs 2 = u11_2 at h11_2 ⊢
 clear h11_0 h11_1 h11_3 h11_4 h11_5 h11_6 h11_7 h11_8
 obtain ⟨k9_7a, k9_7b, k9_7c⟩ := p9_7.c3
 obtain ⟨k10_7a, k10_7b, k10_7c⟩ := p10_7.c3
 go_wp2; go_ret2
 exact ⟨rfl, E0⟩

set_option maxRecDepth 100000 in
set_option maxHeartbeats 4000000 in
theorem Tryz.ref08Div (a b : Int) (K : Nat) (hK : K ≤ 40) (w : World) (ha1 : -9223372036854775808 ≤ a) (ha2 : a < 9223372036854775808) (hb1 : -9223372036854775808 ≤ b) (hb2 : b < 9223372036854775808) (hb0 : b ≠ 0) :
  Calls Tryz.prog 125 #[.int .i64 a, .int .i64 b, .int .i64 (K : Int)] w fun e w' => e = .returned (.tuple #[.int .i64 (fitV (nearR (((a * ((2 ^ K : Nat) : Int) : Int) : Rat) / (b : Rat)))), .int .i64 (fitE (nearR (((a * ((2 ^ K : Nat) : Int) : Int) : Rat) / (b : Rat))))]) ∧ Ext w w' := by
 obtain ⟨V, hV⟩ : ∃ V, fitV (nearR (((a * ((2 ^ K : Nat) : Int) : Int) : Rat) / (b : Rat))) = V := ⟨_, rfl⟩
 obtain ⟨E, hE0⟩ : ∃ V, fitE (nearR (((a * ((2 ^ K : Nat) : Int) : Int) : Rat) / (b : Rat))) = V := ⟨_, rfl⟩
 rw [hV, hE0]
 have HV := Lib.hid hV
 have HE := Lib.hid hE0
 clear hV hE0
 have hf : fracB (K : Int) = true := decide_eq_true (by omega)
 have SA : Hid (SmR 1 (a : Rat)) := Lib.hid (SmR.int (by omega))
 have SB : Hid (SmR 1 (b : Rat)) := Lib.hid (SmR.int (by omega))
 have HB0 : Hid ((b : Rat) ≠ 0) := Lib.hid (by exact_mod_cast hb0)
 have SP : Hid (SmR 2 ((a : Rat) / (b : Rat))) := Lib.hid (SA.out.div SB.out HB0.out)
 have HX := Lib.hid (div_scaled a b K)
 have HB := Lib.hid (show (-9223372036854775808 ≤ a ∧ a < 9223372036854775808) ∧ (-9223372036854775808 ≤ b ∧ b < 9223372036854775808) from ⟨⟨ha1, ha2⟩, ⟨hb1, hb2⟩⟩)
 have HK := Lib.hid (show K ≤ 2000 by omega)
 clear ha1 ha2 hb1 hb2 hK hb0
 obtain ⟨W0, hW0⟩ : ∃ W0, W0 = w := ⟨_, rfl⟩
 have E0 : Ext w W0 := by rw [hW0]; exact Ext.refl w
 go_enter Tryz.func125, Tryz.ntmps125
 go_wp2_with fail
 rw [← hW0]
 clear hW0
 refine (Tryz.refFrac08 (K : Int) _).mono ?_
 rintro e Wc ⟨rfl, rfl⟩
 rw [hf]
 go_upto_region 3 with (fail)
 have szw14 := Ext.size E0
 refine region_gs [isV (.int .i64 a),
   .one fun v W => Rw W v ((a : Rat)),
   isV (.int .i64 b),
   .one fun v W => Rw W v ((b : Rat)),
   .one fun v W => ∃ v', v = .tuple #[v', .int .i64 0] ∧ (fun v W => Rw W v ((a : Rat) / (b : Rat))) v' W,
   .one fun v W => ∃ v', v = .tuple #[v', .int .i64 0] ∧ (fun v W => Rw W v ((a : Rat) / (b : Rat))) v' W,
   .one fun v W => Rw W v ((a : Rat) / (b : Rat)),
   isV (.int .i64 0),
   .one fun v W => ∃ g, v = .pointer (some ⟨g, 0, none⟩) ∧ W0.heap.size ≤ g ∧ Form W g 61 3,
   .three 8 6 (fun p r _ W => Put3 W0.heap.size 61 p r W),
   isV (.int .i64 0)]
  (fun W => Ext w W ∧ W0.heap.size ≤ W.heap.size) ⟨Good.is _, Good.rat _, Good.is _, Good.rat _, (Good.rat _).tup _, (Good.rat _).tup _, Good.rat _, Good.is _, Good.box _ _ _, cert_put3, Good.is _, trivial⟩
  ⟨E0, Nat.le_refl _⟩ (A := ?A14) ?hA14 ?howe14 ?hfin14
 case hA14 =>
  intro vs
  simp only [putAll, Act.put, sA, sZ, sS, Nat.zero_add, Nat.reduceAdd]
  exact rfl
 case howe14 =>
  clear E0
  intro hf
  refine ⟨oP0 0 [] hf rfl, oE 1 [0] hf rfl ?_, oP0 2 [] hf rfl, oE 3 [2] hf rfl ?_, oE 4 [1, 3] hf rfl ?_, oE 5 [4] hf rfl ?_, oE 6 [5] hf rfl ?_, oE 7 [5] hf rfl ?_, oE 8 [] hf rfl ?_, oW 9 [8, 6] hf rfl ?_, oP1 10 [7] hf rfl, trivial⟩
  all_goals intro vs W hS hp hx KO hKO
  all_goals simp only [Act.put, sA, sZ, sS] at hKO
  ·have e0 := isOf hp.1; simp only [e0] at hKO; go_simp
   refine (Tryz.refROf a _ HB.out.1.1 HB.out.1.2).mono ?_
   rintro e W1 ⟨v, rfl, hv, hE⟩
   exact hKO _ W1 hE hv
  ·have e2 := isOf hp.1; simp only [e2] at hKO; go_simp
   refine (Tryz.refROf b _ HB.out.2.1 HB.out.2.2).mono ?_
   rintro e W1 ⟨v, rfl, hv, hE⟩
   exact hKO _ W1 hE hv
  ·have q1 := hp.1; have q3 := hp.2.1; go_simp
   refine (Tryz.refRDiv q1 q3 SA.out SB.out (by omega) HB0.out).mono ?_
   rintro e W1 ⟨v, rfl, hv, hE⟩
   exact hKO _ W1 hE ⟨_, rfl, hv⟩
  ·have q4 := hp.1
   obtain ⟨u, ev, hu⟩ := q4
   replace ev : vs 4 = _ := ev; simp only [ev] at hKO; go_simp; exact hKO _ W (Ext.refl W) ⟨u, rfl, hu⟩
  ·have q5 := hp.1
   obtain ⟨u, ev, hu⟩ := q5
   replace ev : vs 5 = _ := ev; simp only [ev] at hKO; go_simp; exact hKO _ W (Ext.refl W) hu
  ·have q5 := hp.1
   obtain ⟨u, ev, hu⟩ := q5
   replace ev : vs 5 = _ := ev; simp only [ev] at hKO; go_simp; exact hKO _ W (.refl W) rfl
  ·have hn := Bx3.new W 61 (.bool false) (.slice none 0 0) (.slice none 0 0)
   have hE := Ext.alloc1 W (.cells #[.bool false, .slice none 0 0, .slice none 0 0] 61)
   have hsz := hS.2
   go_simp
   exact hKO _ _ hE ⟨_, rfl, hsz, hn.form⟩
  ·have q8 := hp.1; have q6 := hp.2.1
   obtain ⟨g, ev, hg, hf⟩ := q8
   replace ev : vs 8 = _ := ev
   obtain ⟨x0, y0, z0, hx, hno⟩ := hf.bx3
   have qr := q6
   obtain ⟨b3, a3, n3, c3, d3, m3, o3, er, -, -, -⟩ := qr
   replace er : vs 6 = _ := er
   have r0 := hx.froz0
   have t0 := hx.cell0
   have r1 := hx.froz1
   have t1 := hx.cell1
   have r2 := hx.froz2
   have t2 := hx.cell2
   have hw := Wr.set3 hx hno b3 a3 n3 c3 d3 m3 o3
   have hq := hx.set (.bool b3) (.slice a3 n3 c3) (.slice d3 m3 o3)
   simp only [ev, er] at hKO; go_simp
   exact hKO _ _ hw ⟨(Ext.wr hS.1 hw (by omega)), (Nat.le_trans hS.2 hw.apart.size)⟩ ⟨g, b3, a3, n3, c3, d3, m3, o3, ev, er, hg, hq⟩
 intro vs W14 hS hp
 clear szw14 E0
 obtain ⟨E0, sz14⟩ := hS
 obtain ⟨h14_0, h14_1, h14_2, h14_3, h14_4, h14_5, h14_6, h14_7, h14_8, h14_9, h14_10, -⟩ := hp
 obtain ⟨g14_9, b14_9, a14_9, n14_9, c14_9, d14_9, m14_9, o14_9, ev14_9, er14_9, hg14_9, p14_9⟩ := h14_9
 replace ev14_9 : vs 8 = _ := ev14_9; replace er14_9 : vs 6 = _ := er14_9; replace h14_6 := (show Rw W14 (vs 6) ((a : Rat) / (b : Rat)) from h14_6)
 rw [er14_9] at h14_6
 simp only [ev14_9, er14_9, isOf h14_0, isOf h14_2, isOf h14_7, isOf h14_10]
 replace h14_1 : Rw W14 (vs 1) ((a : Rat)) := h14_1
 generalize vs 1 = u14_1 at h14_1 ⊢
 replace h14_3 : Rw W14 (vs 3) ((b : Rat)) := h14_3
 generalize vs 3 = u14_3 at h14_3 ⊢
 clear ev14_9 er14_9 h14_0 h14_2 h14_7 h14_10 h14_4 h14_5 h14_8
 obtain ⟨k14_9a, k14_9b, k14_9c⟩ := p14_9.c3
 go_upto_region 6 with (fail)
 clear k14_9a k14_9b k14_9c; have ltp14_9 := p14_9.lt; have szw15 := Ext.size E0
 refine region_gk [isV (.agg #[.bool b14_9, .slice a14_9 n14_9 c14_9, .slice d14_9 m14_9 o14_9]), isV (.int .i64 (K : Int)), isV (.tuple #[.int .i64 V, .int .i64 E]), isV (.int .i64 V), isV (.int .i64 E), isV (.int .i64 V),
   .one fun v _ => v = .int .i64 E] ⟨Good.is _, Good.is _, Good.is _, Good.is _, Good.is _, Good.is _, Good.is _, trivial⟩ (E0.s.k (h14_6.s.k (p14_9.s.k (h14_1.s.k (h14_3.s))))) (A := ?A15) ?hA15 ?howe15 ?hfin15
 case hA15 =>
  intro vs
  simp only [putAll, Act.put, sA, sZ, sS, Nat.zero_add, Nat.reduceAdd]
  exact rfl
 case howe15 =>
  clear E0 h14_6 p14_9 h14_1 h14_3
  intro hf
  refine ⟨oE 0 [] hf rfl ?_, oP0 1 [] hf rfl, oE 2 [0, 1] hf rfl ?_, oP1 3 [2] hf rfl, oP1 4 [2] hf rfl, oP1 5 [3] hf rfl, oP1 6 [4] hf rfl, trivial⟩
  all_goals intro vs W hS hp hx KO hKO
  all_goals simp only [Act.put, sA, sZ, sS] at hKO
  ·have fc0 := hS.1.2.2.1.cell0; have fc1 := hS.1.2.2.1.cell1; have fc2 := hS.1.2.2.1.cell2; go_simp; exact hKO _ W (.refl W) rfl
  ·have e0 := isOf hp.1; have e1 := isOf hp.2.1; simp only [e0, e1] at hKO; go_simp
   refine (Tryz.near08 (hS.1.2.1) SP.out (by omega) K HK.out).mono ?_
   rintro e W1 ⟨rfl, hE⟩
   rw [HX.out, HV.out, HE.out]
   exact hKO _ W1 hE rfl
 intro vs W15 hS hp
 clear szw15 E0 h14_6 p14_9 h14_1 h14_3
 obtain ⟨⟨E0, h14_6, p14_9, h14_1, h14_3⟩, sz15⟩ := hS
 obtain ⟨h15_0, h15_1, h15_2, h15_3, h15_4, h15_5, h15_6, -⟩ := hp
 simp only [isOf h15_0, isOf h15_1, isOf h15_2, isOf h15_3, isOf h15_4, isOf h15_5, isOf h15_6]
 clear h15_0 h15_1 h15_2 h15_3 h15_4 h15_5 h15_6
 obtain ⟨k14_9a, k14_9b, k14_9c⟩ := p14_9.c3
 go_wp2; go_ret2
 exact ⟨rfl, E0⟩

set_option maxRecDepth 100000 in
set_option maxHeartbeats 4000000 in
theorem Tryz.ref08Div0 (a f : Int) (hf : fracB f = true) (w : World) (ha1 : -9223372036854775808 ≤ a) (ha2 : a < 9223372036854775808) :
  Calls Tryz.prog 125 #[.int .i64 a, .int .i64 0, .int .i64 f] w fun e w' => e = .returned (.tuple #[.int .i64 0, .int .i64 4]) ∧ Ext w w' := by
 have SA : Hid (SmR 1 (a : Rat)) := Lib.hid (SmR.int (by omega))
 have HB := Lib.hid (And.intro ha1 ha2)
 clear ha1 ha2
 obtain ⟨W0, hW0⟩ : ∃ W0, W0 = w := ⟨_, rfl⟩
 have E0 : Ext w W0 := by rw [hW0]; exact Ext.refl w
 go_enter Tryz.func125, Tryz.ntmps125
 go_wp2_with fail
 rw [← hW0]
 clear hW0
 refine (Tryz.refFrac08 f _).mono ?_
 rintro e Wc ⟨rfl, rfl⟩
 rw [hf]
 go_upto_region 3 with (fail)
 have szw16 := Ext.size E0
 refine region_gs [isV (.int .i64 a),
   .one fun v W => Rw W v ((a : Rat)),
   isV (.int .i64 0),
   .one fun v W => Rw W v ((0 : Rat)),
   isV (.tuple #[.agg #[.bool false, .slice none 0 0, .slice none 0 0], .int .i64 4]), isV (.tuple #[.agg #[.bool false, .slice none 0 0, .slice none 0 0], .int .i64 4]), isV (.agg #[.bool false, .slice none 0 0, .slice none 0 0]), isV (.int .i64 4),
   .one fun v W => ∃ g, v = .pointer (some ⟨g, 0, none⟩) ∧ W0.heap.size ≤ g ∧ Form W g 61 3,
   .two 8 (fun p _ W => New3 W0.heap.size 61 (.bool false) (.slice none 0 0) (.slice none 0 0) p W),
   isV (.int .i64 4)]
  (fun W => Ext w W ∧ W0.heap.size ≤ W.heap.size) ⟨Good.is _, Good.rat _, Good.is _, Good.rat _, Good.is _, Good.is _, Good.is _, Good.is _, Good.box _ _ _, cert_new3, Good.is _, trivial⟩
  ⟨E0, Nat.le_refl _⟩ (A := ?A16) ?hA16 ?howe16 ?hfin16
 case hA16 =>
  intro vs
  simp only [putAll, Act.put, sA, sZ, sS, Nat.zero_add, Nat.reduceAdd]
  exact rfl
 case howe16 =>
  clear E0
  intro hf
  refine ⟨oP0 0 [] hf rfl, oE 1 [0] hf rfl ?_, oP0 2 [] hf rfl, oE 3 [2] hf rfl ?_, oE 4 [1, 3] hf rfl ?_, oP1 5 [4] hf rfl, oP1 6 [5] hf rfl, oP1 7 [5] hf rfl, oE 8 [] hf rfl ?_, oW 9 [8, 6] hf rfl ?_, oP1 10 [7] hf rfl, trivial⟩
  all_goals intro vs W hS hp hx KO hKO
  all_goals simp only [Act.put, sA, sZ, sS] at hKO
  ·have e0 := isOf hp.1; simp only [e0] at hKO; go_simp
   refine (Tryz.refROf a _ HB.out.1 HB.out.2).mono ?_
   rintro e W1 ⟨v, rfl, hv, hE⟩
   exact hKO _ W1 hE hv
  ·have e2 := isOf hp.1; simp only [e2] at hKO; go_simp
   refine (Tryz.refROf 0 _ (by omega) (by omega)).mono ?_
   rintro e W1 ⟨v, rfl, hv, hE⟩
   rw [show ((0 : Int) : Rat) = 0 from rfl] at hv
   exact hKO _ W1 hE hv
  ·have q1 := hp.1; have q3 := hp.2.1; go_simp
   refine (Tryz.refRDiv0 q1 q3 SA.out (by omega)).mono ?_
   rintro e W1 ⟨rfl, hE⟩
   exact hKO _ W1 hE rfl
  ·have hn := Bx3.new W 61 (.bool false) (.slice none 0 0) (.slice none 0 0)
   have hE := Ext.alloc1 W (.cells #[.bool false, .slice none 0 0, .slice none 0 0] 61)
   have hsz := hS.2
   go_simp
   exact hKO _ _ hE ⟨_, rfl, hsz, hn.form⟩
  ·have q8 := hp.1; have e6 := isOf hp.2.1; simp only [e6] at hKO
   obtain ⟨g, ev, hg, hf⟩ := q8
   replace ev : vs 8 = _ := ev
   obtain ⟨x0, y0, z0, hx, hno⟩ := hf.bx3
   have r0 := hx.froz0
   have t0 := hx.cell0
   have r1 := hx.froz1
   have t1 := hx.cell1
   have r2 := hx.froz2
   have t2 := hx.cell2
   have hw := Wr.set3 hx hno false none 0 0 none 0 0
   have hq := hx.set (.bool false) (.slice none 0 0) (.slice none 0 0)
   simp only [ev] at hKO; go_simp
   exact hKO _ _ hw ⟨(Ext.wr hS.1 hw (by omega)), (Nat.le_trans hS.2 hw.apart.size)⟩ ⟨g, ev, hg, hq⟩
 intro vs W16 hS hp
 clear szw16 E0
 obtain ⟨E0, sz16⟩ := hS
 obtain ⟨h16_0, h16_1, h16_2, h16_3, h16_4, h16_5, h16_6, h16_7, h16_8, h16_9, h16_10, -⟩ := hp
 obtain ⟨g16_9, ev16_9, hg16_9, p16_9⟩ := h16_9
 replace ev16_9 : vs 8 = _ := ev16_9
 simp only [ev16_9, isOf h16_0, isOf h16_2, isOf h16_4, isOf h16_5, isOf h16_6, isOf h16_7, isOf h16_10]
 replace h16_1 : Rw W16 (vs 1) ((a : Rat)) := h16_1
 generalize vs 1 = u16_1 at h16_1 ⊢
 replace h16_3 : Rw W16 (vs 3) ((0 : Rat)) := h16_3
 generalize vs 3 = u16_3 at h16_3 ⊢
 clear ev16_9 h16_0 h16_2 h16_4 h16_5 h16_6 h16_7 h16_10 h16_8
 obtain ⟨k16_9a, k16_9b, k16_9c⟩ := p16_9.c3
 go_wp2; go_ret2
 exact ⟨rfl, E0⟩

set_option maxRecDepth 100000 in
set_option maxHeartbeats 4000000 in
theorem Tryz.ref08Sqrt (A K : Nat) (w : World) (hA : A < 9223372036854775808) (hK : K ≤ 40) :
  Calls Tryz.prog 126 #[.int .i64 (A : Int), .int .i64 (K : Int)] w fun e w' => e = .returned (.tuple #[.int .i64 ((rt (A * 2 ^ K) 2 : Nat) : Int), .int .i64 0]) ∧ Ext w w' := by
 have hKF : fracB (K : Int) = true := decide_eq_true (by omega)
 have ha0 : ¬ (A : Int) < 0 := by omega
 have had : decide ((A : Int) < 0) = false := decide_eq_false ha0
 obtain ⟨N, hN⟩ : ∃ N, N = A * 2 ^ K := ⟨_, rfl⟩
 have hNb : N < 9223372036854775808 * 1099511627776 := by
  rw [hN]
  have h1 : 2 ^ K ≤ 1099511627776 := Nat.le_trans (Nat.pow_le_pow_right (by omega) hK) (by decide)
  exact Nat.lt_of_le_of_lt (Nat.mul_le_mul_left _ h1) (Nat.mul_lt_mul_of_pos_right hA (by decide))
 have S1 : Hid (Sm 1 A) := Lib.hid (Sm.small (by omega))
 have S2 : Hid (Sm 2 N) := Lib.hid (Nat.lt_trans hNb (by rw [B64_eq]; decide))
 have HRE : Hid (rootE 2 = 0) := Lib.hid rfl
 have HRT : Hid (rootV N 2 = rt N 2) := Lib.hid (if_pos (by omega))
 have hr : rt N 2 < 9223372036854775808 := by
  have := (rt_le_iff (a := N) (s := 9223372036854775807) (k := 2) (by omega)).2 (Nat.lt_trans hNb (by decide))
  omega
 have hfit : fits ((rt N 2 : Nat) : Int) = true := fits_iff.2 (by omega)
 have HV : Hid (fitV ((rt N 2 : Nat) : Int) = ((rt N 2 : Nat) : Int)) := Lib.hid (fitV_in hfit)
 have HF := Lib.hid hfit
 have HN := Lib.hid hN
 have HB := Lib.hid (show -9223372036854775808 ≤ (A : Int) ∧ (A : Int) < 9223372036854775808 by omega)
 rw [← hN]
 clear hfit hr hNb hN
 obtain ⟨R, hR⟩ : ∃ R, R = rt N 2 := ⟨_, rfl⟩
 rw [← hR] at HRT HV HF ⊢
 clear hR
 obtain ⟨W0, hW0⟩ : ∃ W0, W0 = w := ⟨_, rfl⟩
 have E0 : Ext w W0 := by rw [hW0]; exact Ext.refl w
 go_enter Tryz.func126, Tryz.ntmps126
 go_wp2_with fail
 rw [← hW0]
 clear hW0
 refine (Tryz.refFrac08 (K : Int) _).mono ?_
 rintro e Wc ⟨rfl, rfl⟩
 rw [hKF]
 go_wp2_with fail
 refine (Tryz.refZOf (A : Int) _ HB.out.1 HB.out.2).mono ?_
 rintro e Wa ⟨v1, rfl, g1, hE⟩
 replace E0 : Ext w Wa := (Ext.trans E0 hE)
 clear hE
 obtain ⟨b1, a1, n1, c1, rfl, q1⟩ : ∃ b a n c, v1 = .agg #[.bool b, .slice a n c] ∧ True := let ⟨b, a, n, c, e, _⟩ := g1; ⟨b, a, n, c, e, trivial⟩
 clear q1
 have hfz := Tryz.fieldZ b1 a1 n1 c1
 have g2 : Nw Wa (.slice a1 n1 c1) A := by have := g1.num; rwa [Int.natAbs_natCast] at this
 go_wp2_with fail
 refine (Tryz.refShlK g2 S1.out (by omega) K (by omega)).mono ?_
 rintro e Wb ⟨v2, rfl, g3, hE⟩
 rw [← HN.out] at g3
 replace E0 : Ext w Wb := (Ext.trans E0 hE)
 replace g1 : Zw Wb (.agg #[.bool b1, .slice a1 n1 c1]) ((A : Int)) := (g1.ext hE)
 replace g2 : Nw Wb (.slice a1 n1 c1) A := (g2.ext hE)
 clear hE
 go_wp2_with fail
 refine (Tryz.refRoot g3 S2.out (by omega) 2).mono ?_
 rintro e Wc2 ⟨v3, rfl, g4, hE⟩
 rw [HRE.out]
 rw [HRT.out] at g4
 replace E0 : Ext w Wc2 := (Ext.trans E0 hE)
 replace g1 : Zw Wc2 (.agg #[.bool b1, .slice a1 n1 c1]) ((A : Int)) := (g1.ext hE)
 replace g2 : Nw Wc2 (.slice a1 n1 c1) A := (g2.ext hE)
 replace g3 : Nw Wc2 v2 N := (g3.ext hE)
 clear hE
 obtain ⟨a3, n3, c3, rfl⟩ := Nw.slice g4
 go_wp2_with fail
 refine (Tryz.refZInt (Zw.ofN g4)).mono ?_
 rintro e Wd ⟨rfl, hQ⟩
 rw [HV.out, HF.out]
 replace E0 := Ext.trans E0 hQ; go_wp2; go_ret2
 exact ⟨rfl, E0⟩

set_option maxRecDepth 100000 in
set_option maxHeartbeats 4000000 in
theorem Tryz.ref08SqrtNeg (a f : Int) (w : World) (hf : fracB f = true) (ha : a < 0) :
  Calls Tryz.prog 126 #[.int .i64 a, .int .i64 f] w fun e w' => e = .returned (.tuple #[.int .i64 0, .int .i64 1]) ∧ w = w' := by
 have had : decide (a < 0) = true := decide_eq_true ha
 go_enter Tryz.func126, Tryz.ntmps126
 go_wp2_with fail
 refine (Tryz.refFrac08 f _).mono ?_
 rintro e w1 ⟨rfl, rfl⟩
 rw [hf]; go_wp2; go_ret2
 exact ⟨rfl, rfl⟩

end Go.Rt
