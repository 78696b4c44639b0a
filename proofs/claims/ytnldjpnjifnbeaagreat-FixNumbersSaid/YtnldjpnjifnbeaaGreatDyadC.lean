/-
 The program's dyads: down, up, a multiple's number; what a grid too fine answers; the reference's likewise.
-/
import Derived.Test.YtnldjpnjifnbeaaGreatDyadP
import Derived.Test.YtnldjpnjifnbeaaGreatDyadB
import Derived.Test.YtnldjpnjifnbeaaGreatDyadM

namespace Go.Rt

open Go Go.RowKit Go.Proofs

theorem Zw.nought (W : World) : Zw W (.agg #[.bool false, .slice none 0 0]) 0 := ⟨false, none, 0, 0, rfl, Lib.hid rfl, Nw.nil W⟩

set_option maxRecDepth 100000 in
set_option maxHeartbeats 400000 in
theorem Tryz.dyadBack {v1 : Value} {z : Int} {L : Nat} {w : World} (h1 : Zw w v1 z) (s1 : Sm L z.natAbs) (hL : L ≤ 200) (K : Nat) (hK : K ≤ 2000) :
  Calls Tryz.prog 28 #[v1, .int .i64 (K : Int)] w fun e w' => ∃ v', e = .returned (.tuple #[v', .int .i64 0]) ∧ Rw w' v' ((z : Rat) / P2 K) ∧ Ext w w' := by
 obtain ⟨b1, a1, n1, c1, rfl, q1⟩ : ∃ b a n c, v1 = .agg #[.bool b, .slice a n c] ∧ True := let ⟨b, a, n, c, e, _⟩ := h1; ⟨b, a, n, c, e, trivial⟩
 clear q1
 have B1 : Hid (1 < B64) := Lib.hid (by rw [B64_eq]; omega)
 have hk0 : ¬ ((K : Int) < 0) := by omega
 have hk1 : ¬ ((2000 : Int) < (K : Int)) := by omega
 obtain ⟨D, hD⟩ : ∃ D, D = 2 ^ K := ⟨_, rfl⟩
 have SX : Hid (Sm (L + 32) z.natAbs) := Lib.hid (s1.mono (by omega))
 have SD : Hid (Sm (L + 32) D) := Lib.hid (by rw [hD]; exact (Sm.pow2 K).mono (by omega))
 have HD0 : Hid (D ≠ 0) := Lib.hid (by rw [hD]; exact Nat.pos_iff_ne_zero.1 (Nat.pow_pos (by omega)))
 have HR : Hid (mkRat z D = (z : Rat) / P2 K) := Lib.hid (by rw [hD]; exact back_eq z K)
 have HD : Hid (1 * 2 ^ K = D) := Lib.hid (by rw [hD, Nat.one_mul])
 have S1 : Hid (Sm 1 1) := Lib.hid (Sm.one B1.out)
 rw [← HR.out]
 clear hD
 obtain ⟨W0, hW0⟩ : ∃ W0, W0 = ((w.alloc (.cells #[.bool b1, .slice a1 n1 c1] 25)).alloc (.cells #[.bool false, .slice none 0 0, .slice none 0 0] 27)) := ⟨_, rfl⟩
 have E0 : Ext w W0 := by rw [hW0]; exact ((Ext.alloc1 w (.cells #[.bool b1, .slice a1 n1 c1] 25)).alloc (.cells #[.bool false, .slice none 0 0, .slice none 0 0] 27))
 replace h1 : Zw W0 (.agg #[.bool b1, .slice a1 n1 c1]) z := h1.ext E0
 have p2 : Bx2 W0 w.heap.size 25 (.bool b1) (.slice a1 n1 c1) := by rw [hW0]; exact (Bx2.new w 25 (.bool b1) (.slice a1 n1 c1)).ext (Ext.alloc1 (w.alloc (.cells #[.bool b1, .slice a1 n1 c1] 25)) (.cells #[.bool false, .slice none 0 0, .slice none 0 0] 27))
 have p4 : Bx3 W0 (w.heap.size + 1) 27 (.bool false) (.slice none 0 0) (.slice none 0 0) := by rw [hW0]; simpa using (Bx3.new (w.alloc (.cells #[.bool b1, .slice a1 n1 c1] 25)) 27 (.bool false) (.slice none 0 0) (.slice none 0 0))
 go_enter Tryz.func28, Tryz.ntmps28
 have kp2_0 := p2.cell0
 have kp2_1 := p2.cell1
 have kp4_0 := p4.cell0
 have kp4_1 := p4.cell1
 have kp4_2 := p4.cell2
 go_upto_region 3 with (fail)
 rw [← hW0]
 clear hW0
 clear kp2_0 kp2_1 kp4_0 kp4_1 kp4_2
 have ltp2 := p2.lt
 have ltp4 := p4.lt
 have szw42 := Ext.size E0
 refine region_go [.one fun v W => Nw W v 1,
   .one fun v _ => v = .int .i64 (K : Int),
   .one fun v W => ∃ v', v = .tuple #[v', .int .i64 0] ∧ (fun v W => Nw W v D) v' W,
   .one fun v W => ∃ v', v = .tuple #[v', .int .i64 0] ∧ (fun v W => Nw W v D) v' W,
   .one fun v W => Nw W v D,
   .one fun v _ => v = .int .i64 0,
   .one fun v W => Nw W v D,
   .one fun v _ => v = .int .i64 0]
  (fun W => Ext w W ∧ Zw W (.agg #[.bool b1, .slice a1 n1 c1]) z ∧ Bx2 W w.heap.size 25 (.bool b1) (.slice a1 n1 c1) ∧ Bx3 W (w.heap.size + 1) 27 (.bool false) (.slice none 0 0) (.slice none 0 0) ∧ W0.heap.size ≤ W.heap.size) ⟨Good.num _, Good.is _, (Good.num _).tup _, (Good.num _).tup _, Good.num _, Good.is _, Good.num _, Good.is _, trivial⟩
  (fun W W1 hS hE => ⟨(Ext.trans hS.1 hE), (hS.2.1.ext hE), (hS.2.2.1.ext hE), (hS.2.2.2.1.ext hE), (Nat.le_trans hS.2.2.2.2 (Ext.size hE))⟩) ⟨E0, h1, p2, p4, Nat.le_refl _⟩ (by kernel_rfl) (by kernel_rfl) (by kernel_rfl) (by kernel_rfl) (A := ?A42) ?hA42 ?howe42 ?hfin42
 case hA42 =>
  intro vs
  simp only [putAll, Act.put, List.setIfInBounds_toArray, List.set_cons_zero, List.set_cons_succ, Nat.zero_add, Nat.reduceAdd]
  exact rfl
 case howe42 =>
  clear E0 h1 p2 p4
  intro hf
  refine ⟨owesE 0 [] hf rfl (by kernel_rfl) ?_, owesE 1 [] hf rfl (by kernel_rfl) ?_, owesE 2 [0, 1] hf rfl (by kernel_rfl) ?_, owesE 3 [2] hf rfl (by kernel_rfl) ?_, owesE 4 [3] hf rfl (by kernel_rfl) ?_, owesE 5 [3] hf rfl (by kernel_rfl) ?_, owesE 6 [4] hf rfl (by kernel_rfl) ?_, owesE 7 [5] hf rfl (by kernel_rfl) ?_, trivial⟩
  all_goals intro vs W hS hp hx KO hKO
  all_goals simp only [Act.put, List.setIfInBounds_toArray, List.set_cons_zero, List.set_cons_succ] at hKO
  ·go_simp
   refine (Tryz.natOf 1 _ B1.out).mono ?_
   rintro e W1 ⟨v, rfl, hv, hE, -⟩
   exact hKO _ W1 hE hv
  ·go_simp
   exact hKO _ W (Ext.refl W) rfl
  ·have q0 := hp.1
   have e1 := isOf hp.2.1
   simp only [e1] at hKO
   go_simp
   refine (Tryz.divShlK q0 S1.out (by omega) K (by omega)).mono ?_
   rintro e W1 ⟨v, rfl, hv, hE⟩
   rw [HD.out] at hv
   exact hKO _ W1 hE ⟨_, rfl, hv⟩
  ·have q2 := hp.1
   obtain ⟨u, ev, hu⟩ := q2
   replace ev : vs 2 = _ := ev
   simp only [ev] at hKO
   go_simp
   exact hKO _ W (Ext.refl W) ⟨u, rfl, hu⟩
  ·have q3 := hp.1
   obtain ⟨u, ev, hu⟩ := q3
   replace ev : vs 3 = _ := ev
   simp only [ev] at hKO
   go_simp
   exact hKO _ W (Ext.refl W) hu
  ·have q3 := hp.1
   obtain ⟨u, ev, hu⟩ := q3
   replace ev : vs 3 = _ := ev
   simp only [ev] at hKO
   go_simp
   exact hKO _ W (Ext.refl W) rfl
  ·have q4 := hp.1
   go_simp
   exact hKO _ W (Ext.refl W) q4
  ·have e5 := isOf hp.1
   simp only [e5] at hKO
   go_simp
   exact hKO _ W (Ext.refl W) rfl
 intro vs W42 hS hp
 clear szw42 E0 h1 p2 p4
 obtain ⟨E0, h1, p2, p4, sz42⟩ := hS
 obtain ⟨h42_0, h42_1, h42_2, h42_3, h42_4, h42_5, h42_6, h42_7, -⟩ := hp
 replace h42_1 : vs 1 = .int .i64 (K : Int) := h42_1
 replace h42_5 : vs 5 = .int .i64 0 := h42_5
 replace h42_7 : vs 7 = .int .i64 0 := h42_7
 simp only [h42_1, h42_5, h42_7]
 replace h42_0 : Nw W42 (vs 0) 1 := h42_0
 generalize vs 0 = u42_0 at h42_0 ⊢
 replace h42_4 : Nw W42 (vs 4) D := h42_4
 generalize vs 4 = u42_4 at h42_4 ⊢
 replace h42_6 : Nw W42 (vs 6) D := h42_6
 generalize vs 6 = u42_6 at h42_6 ⊢
 clear h42_1 h42_5 h42_7 h42_2 h42_3
 have kp2_0 := p2.cell0
 have kp2_1 := p2.cell1
 have kp4_0 := p4.cell0
 have kp4_1 := p4.cell1
 have kp4_2 := p4.cell2
 go_upto_region 4 with (fail)
 clear kp2_0 kp2_1 kp4_0 kp4_1 kp4_2
 have fp4 := p4.form
 have szw43 := Ext.size E0
 refine region_go [.one fun v _ => v = .agg #[.bool b1, .slice a1 n1 c1],
   .one fun v _ => v = u42_6,
   .one fun v W => ∃ v', v = .tuple #[v', .int .i64 0] ∧ (fun v W => Rw W v (mkRat z D)) v' W,
   .one fun v W => Rw W v (mkRat z D),
   .one fun v _ => v = .int .i64 0,
   .two 3 (fun r _ W => At3 (w.heap.size + 1) 27 r W),
   .one fun v _ => v = .int .i64 0]
  (fun W => Ext w W ∧ Zw W (.agg #[.bool b1, .slice a1 n1 c1]) z ∧ Bx2 W w.heap.size 25 (.bool b1) (.slice a1 n1 c1) ∧ Form W (w.heap.size + 1) 27 3 ∧ Nw W u42_0 1 ∧ Nw W u42_4 D ∧ Nw W u42_6 D ∧ W42.heap.size ≤ W.heap.size) ⟨Good.is _, Good.is _, (Good.rat _).tup _, Good.rat _, Good.is _, cert_at3, Good.is _, trivial⟩
  (fun W W1 hS hE => ⟨(Ext.trans hS.1 hE), (hS.2.1.ext hE), (hS.2.2.1.ext hE), (hS.2.2.2.1.ext hE), (hS.2.2.2.2.1.ext hE), (hS.2.2.2.2.2.1.ext hE), (hS.2.2.2.2.2.2.1.ext hE), (Nat.le_trans hS.2.2.2.2.2.2.2 (Ext.size hE))⟩) ⟨E0, h1, p2, fp4, h42_0, h42_4, h42_6, Nat.le_refl _⟩ (by kernel_rfl) (by kernel_rfl) (by kernel_rfl) (by kernel_rfl) (A := ?A43) ?hA43 ?howe43 ?hfin43
 case hA43 =>
  intro vs
  simp only [putAll, Act.put, List.setIfInBounds_toArray, List.set_cons_zero, List.set_cons_succ, Nat.zero_add, Nat.reduceAdd]
  exact rfl
 case howe43 =>
  clear E0 h1 p2 fp4 h42_0 h42_4 h42_6
  intro hf
  refine ⟨owesE 0 [] hf rfl (by kernel_rfl) ?_, owesE 1 [] hf rfl (by kernel_rfl) ?_, owesE 2 [0, 1] hf rfl (by kernel_rfl) ?_, owesE 3 [2] hf rfl (by kernel_rfl) ?_, owesE 4 [2] hf rfl (by kernel_rfl) ?_, owesW 5 [3] hf rfl (by kernel_rfl) (by kernel_rfl) ?_, owesE 6 [4] hf rfl (by kernel_rfl) ?_, trivial⟩
  all_goals intro vs W hS hp hx KO hKO
  all_goals simp only [Act.put, List.setIfInBounds_toArray, List.set_cons_zero, List.set_cons_succ] at hKO
  ·have fc0 := hS.2.2.1.cell0
   have fc1 := hS.2.2.1.cell1
   go_simp
   exact hKO _ W (Ext.refl W) rfl
  ·go_simp
   exact hKO _ W (Ext.refl W) rfl
  ·have e0 := isOf hp.1
   have e1 := isOf hp.2.1
   simp only [e0, e1] at hKO
   go_simp
   refine (Tryz.ratMake (hS.2.1) (hS.2.2.2.2.2.2.1) SX.out SD.out (by omega) HD0.out).mono ?_
   rintro e W1 ⟨v, rfl, hv, hE⟩
   exact hKO _ W1 hE ⟨_, rfl, hv⟩
  ·have q2 := hp.1
   obtain ⟨u, ev, hu⟩ := q2
   replace ev : vs 2 = _ := ev
   simp only [ev] at hKO
   go_simp
   exact hKO _ W (Ext.refl W) hu
  ·have q2 := hp.1
   obtain ⟨u, ev, hu⟩ := q2
   replace ev : vs 2 = _ := ev
   simp only [ev] at hKO
   go_simp
   exact hKO _ W (Ext.refl W) rfl
  ·have q3 := hp.1
   have hf := hS.2.2.2.1
   obtain ⟨x0, y0, z0, hx, hno⟩ := hf.bx3
   have qr := q3
   obtain ⟨b3, a3, n3, c3, d3, m3, o3, er, -, -, -⟩ := qr
   replace er : vs 3 = _ := er
   have r0 := hx.froz0
   have t0 := hx.cell0
   have r1 := hx.froz1
   have t1 := hx.cell1
   have r2 := hx.froz2
   have t2 := hx.cell2
   have hw := Wr.set3 hx hno b3 a3 n3 c3 d3 m3 o3
   have hq := hx.set (.bool b3) (.slice a3 n3 c3) (.slice d3 m3 o3)
   have hg : (w.heap.size + 1) ≤ (w.heap.size + 1) := Nat.le_refl _
   simp only [er] at hKO
   go_simp
   exact hKO _ _ hw ⟨(Ext.wr hS.1 hw (by omega)), (hS.2.1.wr hw), (hS.2.2.1.wr hw (by omega)), (hS.2.2.2.1.wr hw), (hS.2.2.2.2.1.wr hw), (hS.2.2.2.2.2.1.wr hw), (hS.2.2.2.2.2.2.1.wr hw), (Nat.le_trans hS.2.2.2.2.2.2.2 hw.apart.size)⟩ ⟨b3, a3, n3, c3, d3, m3, o3, er, hq⟩
  ·have e4 := isOf hp.1
   simp only [e4] at hKO
   go_simp
   exact hKO _ W (Ext.refl W) rfl
 intro vs W43 hS hp
 clear szw43 E0 h1 p2 fp4 h42_0 h42_4 h42_6
 obtain ⟨E0, h1, p2, fp4, h42_0, h42_4, h42_6, sz43⟩ := hS
 obtain ⟨h43_0, h43_1, h43_2, h43_3, h43_4, h43_5, h43_6, -⟩ := hp
 obtain ⟨b43_5, a43_5, n43_5, c43_5, d43_5, m43_5, o43_5, er43_5, p43_5⟩ := h43_5
 replace er43_5 : vs 3 = _ := er43_5
 replace h43_3 := (show Rw W43 (vs 3) (mkRat z D) from h43_3)
 rw [er43_5] at h43_3
 replace h43_0 : vs 0 = .agg #[.bool b1, .slice a1 n1 c1] := h43_0
 replace h43_1 : vs 1 = u42_6 := h43_1
 replace h43_4 : vs 4 = .int .i64 0 := h43_4
 replace h43_6 : vs 6 = .int .i64 0 := h43_6
 simp only [er43_5, h43_0, h43_1, h43_4, h43_6]
 clear er43_5 h43_0 h43_1 h43_4 h43_6 h43_2
 have kp2_0 := p2.cell0
 have kp2_1 := p2.cell1
 have kp43_5_0 := p43_5.cell0
 have kp43_5_1 := p43_5.cell1
 have kp43_5_2 := p43_5.cell2
 go_wp2
 exact bodyPost_ret (v := .tuple #[.agg #[.bool b43_5, .slice a43_5 n43_5 c43_5, .slice d43_5 m43_5 o43_5], .int .i64 0]) (by simp [results, Tryz.results28, go_sem, kp43_5_0, kp43_5_1, kp43_5_2]) rfl ⟨_, rfl, h43_3, E0⟩

end Go.Rt
