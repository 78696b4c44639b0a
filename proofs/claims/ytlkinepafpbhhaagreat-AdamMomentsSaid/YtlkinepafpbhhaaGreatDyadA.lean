/-
 The reference's dyads: Back, Floor, Ceil.
-/
import Derived.Test.YtlkinepafpbhhaaGreatSqz
import Derived.Test.YtlkinepafpbhhaaGreatGL

namespace Go.Rt

open Go.RowKit Go.Proofs

set_option maxRecDepth 100000 in
set_option maxHeartbeats 400000 in
theorem Tryz.refBack {v1 : Value} {z : Int} {L : Nat} {w : World} (h1 : Zw w v1 z) (s1 : Sm L z.natAbs) (hL : L ≤ 200) (K : Nat) (hK : K ≤ 2000) :
  Calls Tryz.prog 55 #[v1, .int .i64 (K : Int)] w fun e w' => ∃ v', e = .returned (.tuple #[v', .int .i64 0]) ∧ Rw w' v' ((z : Rat) / P2 K) ∧ Ext w w' := by
 obtain ⟨b1, a1, n1, c1, rfl, q1⟩ : ∃ b a n c, v1 = .agg #[.bool b, .slice a n c] ∧ True := let ⟨b, a, n, c, e, _⟩ := h1; ⟨b, a, n, c, e, trivial⟩
 clear q1
 have B1 : Hid (1 < B64) := Lib.hid (by rw [B64_eq]; omega)
 have hk0 : ¬ ((K : Int) < 0) := by omega
 have hk1 : ¬ ((2000 : Int) < (K : Int)) := by omega
 obtain ⟨D, hD⟩ : ∃ D, D = 2 ^ K := ⟨_, rfl⟩
 have SX : Hid (Sm (L + 32) z.natAbs) := Lib.hid (s1.mono (by omega))
 have SD : Hid (Sm (L + 32) D) := Lib.hid (by rw [hD]; exact (Sm.pow2 K).mono (by omega))
 have HD0 : Hid (D ≠ 0) := Lib.hid (by rw [hD]; exact Nat.pos_iff_ne_zero.1 (Nat.pow_pos (by omega)))
 have HR : Hid (mkRat z D = (z : Rat) / P2 K) := Lib.hid (by rw [hD]; exact back_eq z K)
 have HD : Hid (1 * 2 ^ K = D) := Lib.hid (by rw [hD, Nat.one_mul])
 have S1 : Hid (Sm 1 1) := Lib.hid (Sm.one B1.out)
 rw [← HR.out]
 clear hD
 obtain ⟨W0, hW0⟩ : ∃ W0, W0 = ((w.alloc (.cells #[.bool b1, .slice a1 n1 c1] 43)).alloc (.cells #[.bool false, .slice none 0 0, .slice none 0 0] 45)) := ⟨_, rfl⟩
 have E0 : Ext w W0 := by rw [hW0]; exact ((Ext.alloc1 w (.cells #[.bool b1, .slice a1 n1 c1] 43)).alloc (.cells #[.bool false, .slice none 0 0, .slice none 0 0] 45))
 replace h1 : Zw W0 (.agg #[.bool b1, .slice a1 n1 c1]) z := h1.ext E0
 have p2 : Bx2 W0 w.heap.size 43 (.bool b1) (.slice a1 n1 c1) := by rw [hW0]; exact (Bx2.new w 43 (.bool b1) (.slice a1 n1 c1)).ext (Ext.alloc1 (w.alloc (.cells #[.bool b1, .slice a1 n1 c1] 43)) (.cells #[.bool false, .slice none 0 0, .slice none 0 0] 45))
 have p4 : Bx3 W0 (w.heap.size + 1) 45 (.bool false) (.slice none 0 0) (.slice none 0 0) := by rw [hW0]; simpa using (Bx3.new (w.alloc (.cells #[.bool b1, .slice a1 n1 c1] 43)) 45 (.bool false) (.slice none 0 0) (.slice none 0 0))
 go_enter Tryz.func55, Tryz.ntmps55
 obtain ⟨kp2_0, kp2_1⟩ := p2.c2
 obtain ⟨kp4_0, kp4_1, kp4_2⟩ := p4.c3
 go_upto_region 3 with (fail)
 rw [← hW0]
 clear hW0; clear kp2_0 kp2_1 kp4_0 kp4_1 kp4_2; have ltp2 := p2.lt; have ltp4 := p4.lt; have szw1 := Ext.size E0
 refine region_gs [.one fun v W => Nw W v 1,
   .one fun v _ => v = .int .i64 (K : Int),
   .one fun v W => ∃ v', v = .tuple #[v', .int .i64 0] ∧ (fun v W => Nw W v D) v' W,
   .one fun v W => ∃ v', v = .tuple #[v', .int .i64 0] ∧ (fun v W => Nw W v D) v' W,
   .one fun v W => Nw W v D,
   .one fun v _ => v = .int .i64 0,
   .one fun v W => Nw W v D,
   .one fun v _ => v = .int .i64 0]
  (fun W => Ext w W ∧ Zw W (.agg #[.bool b1, .slice a1 n1 c1]) z ∧ Bx2 W w.heap.size 43 (.bool b1) (.slice a1 n1 c1) ∧ Bx3 W (w.heap.size + 1) 45 (.bool false) (.slice none 0 0) (.slice none 0 0) ∧ W0.heap.size ≤ W.heap.size) ⟨Good.num _, Good.is _, (Good.num _).tup _, (Good.num _).tup _, Good.num _, Good.is _, Good.num _, Good.is _, trivial⟩
  ⟨E0, h1, p2, p4, Nat.le_refl _⟩ (A := ?A1) ?hA1 ?howe1 ?hfin1
 case hA1 =>
  intro vs
  simp only [putAll, Act.put, sA, sZ, sS, Nat.zero_add, Nat.reduceAdd]
  exact rfl
 case howe1 =>
  clear E0 h1 p2 p4
  intro hf
  refine ⟨oE 0 [] hf rfl ?_, oE 1 [] hf rfl ?_, oE 2 [0, 1] hf rfl ?_, oE 3 [2] hf rfl ?_, oE 4 [3] hf rfl ?_, oE 5 [3] hf rfl ?_, oE 6 [4] hf rfl ?_, oE 7 [5] hf rfl ?_, trivial⟩
  all_goals intro vs W hS hp hx KO hKO
  all_goals simp only [Act.put, sA, sZ, sS] at hKO
  ·go_simp
   refine (Tryz.refOf 1 _ B1.out).mono ?_
   rintro e W1 ⟨v, rfl, hv, hE, -⟩
   exact hKO _ W1 hE hv
  ·go_simp; exact hKO _ W (.refl W) rfl
  ·have q0 := hp.1; have e1 := isOf hp.2.1; simp only [e1] at hKO; go_simp
   refine (Tryz.refShlK q0 S1.out (by omega) K (by omega)).mono ?_
   rintro e W1 ⟨v, rfl, hv, hE⟩
   rw [HD.out] at hv
   exact hKO _ W1 hE ⟨_, rfl, hv⟩
  ·have q2 := hp.1
   obtain ⟨u, ev, hu⟩ := q2
   replace ev : vs 2 = _ := ev; simp only [ev] at hKO; go_simp; exact hKO _ W (Ext.refl W) ⟨u, rfl, hu⟩
  ·have q3 := hp.1
   obtain ⟨u, ev, hu⟩ := q3
   replace ev : vs 3 = _ := ev; simp only [ev] at hKO; go_simp; exact hKO _ W (Ext.refl W) hu
  ·have q3 := hp.1
   obtain ⟨u, ev, hu⟩ := q3
   replace ev : vs 3 = _ := ev; simp only [ev] at hKO; go_simp; exact hKO _ W (.refl W) rfl
  ·have q4 := hp.1; go_simp; exact hKO _ W (Ext.refl W) q4
  ·have e5 := isOf hp.1; simp only [e5] at hKO; go_simp; exact hKO _ W (.refl W) rfl
 intro vs W1 hS hp
 clear szw1 E0 h1 p2 p4
 obtain ⟨E0, h1, p2, p4, sz1⟩ := hS
 obtain ⟨h1_0, h1_1, h1_2, h1_3, h1_4, h1_5, h1_6, h1_7, -⟩ := hp
 replace h1_1 : vs 1 = .int .i64 (K : Int) := h1_1
 replace h1_5 : vs 5 = .int .i64 0 := h1_5
 replace h1_7 : vs 7 = .int .i64 0 := h1_7
 simp only [h1_1, h1_5, h1_7]
 replace h1_0 : Nw W1 (vs 0) 1 := h1_0
 generalize vs 0 = u1_0 at h1_0 ⊢
 replace h1_4 : Nw W1 (vs 4) D := h1_4
 generalize vs 4 = u1_4 at h1_4 ⊢
 replace h1_6 : Nw W1 (vs 6) D := h1_6
 generalize vs 6 = u1_6 at h1_6 ⊢
 obtain ⟨kp2_0, kp2_1⟩ := p2.c2
 obtain ⟨kp4_0, kp4_1, kp4_2⟩ := p4.c3
 go_upto_region 4 with (fail)
 clear kp2_0 kp2_1 kp4_0 kp4_1 kp4_2; have fp4 := p4.form; have szw2 := Ext.size E0
 refine region_gs [.one fun v _ => v = .agg #[.bool b1, .slice a1 n1 c1],
   .one fun v _ => v = u1_6,
   .one fun v W => ∃ v', v = .tuple #[v', .int .i64 0] ∧ (fun v W => Rw W v (mkRat z D)) v' W,
   .one fun v W => Rw W v (mkRat z D),
   .one fun v _ => v = .int .i64 0,
   .two 3 (fun r _ W => At3 (w.heap.size + 1) 45 r W),
   .one fun v _ => v = .int .i64 0]
  (fun W => Ext w W ∧ Zw W (.agg #[.bool b1, .slice a1 n1 c1]) z ∧ Bx2 W w.heap.size 43 (.bool b1) (.slice a1 n1 c1) ∧ Form W (w.heap.size + 1) 45 3 ∧ Nw W u1_0 1 ∧ Nw W u1_4 D ∧ Nw W u1_6 D ∧ W1.heap.size ≤ W.heap.size) ⟨Good.is _, Good.is _, (Good.rat _).tup _, Good.rat _, Good.is _, cert_at3, Good.is _, trivial⟩
  ⟨E0, h1, p2, fp4, h1_0, h1_4, h1_6, Nat.le_refl _⟩ (A := ?A2) ?hA2 ?howe2 ?hfin2
 case hA2 =>
  intro vs
  simp only [putAll, Act.put, sA, sZ, sS, Nat.zero_add, Nat.reduceAdd]
  exact rfl
 case howe2 =>
  clear E0 h1 p2 fp4 h1_0 h1_4 h1_6
  intro hf
  refine ⟨oE 0 [] hf rfl ?_, oE 1 [] hf rfl ?_, oE 2 [0, 1] hf rfl ?_, oE 3 [2] hf rfl ?_, oE 4 [2] hf rfl ?_, oW 5 [3] hf rfl ?_, oE 6 [4] hf rfl ?_, trivial⟩
  all_goals intro vs W hS hp hx KO hKO
  all_goals simp only [Act.put, sA, sZ, sS] at hKO
  ·have fc0 := hS.2.2.1.cell0; have fc1 := hS.2.2.1.cell1; go_simp; exact hKO _ W (.refl W) rfl
  ·go_simp; exact hKO _ W (.refl W) rfl
  ·have e0 := isOf hp.1; have e1 := isOf hp.2.1; simp only [e0, e1] at hKO; go_simp
   refine (Tryz.refRMake (hS.2.1) (hS.2.2.2.2.2.2.1) SX.out SD.out (by omega) HD0.out).mono ?_
   rintro e W1 ⟨v, rfl, hv, hE⟩
   exact hKO _ W1 hE ⟨_, rfl, hv⟩
  ·have q2 := hp.1
   obtain ⟨u, ev, hu⟩ := q2
   replace ev : vs 2 = _ := ev; simp only [ev] at hKO; go_simp; exact hKO _ W (Ext.refl W) hu
  ·have q2 := hp.1
   obtain ⟨u, ev, hu⟩ := q2
   replace ev : vs 2 = _ := ev; simp only [ev] at hKO; go_simp; exact hKO _ W (.refl W) rfl
  ·have q3 := hp.1
   have hf := hS.2.2.2.1
   obtain ⟨x0, y0, z0, hx, hno⟩ := hf.bx3
   have qr := q3
   obtain ⟨b3, a3, n3, c3, d3, m3, o3, er, -, -, -⟩ := qr
   replace er : vs 3 = _ := er
   have r0 := hx.froz0
   have t0 := hx.cell0
   have r1 := hx.froz1
   have t1 := hx.cell1
   have r2 := hx.froz2
   have t2 := hx.cell2
   have hw := Wr.set3 hx hno b3 a3 n3 c3 d3 m3 o3
   have hq := hx.set (.bool b3) (.slice a3 n3 c3) (.slice d3 m3 o3)
   have hg : (w.heap.size + 1) ≤ (w.heap.size + 1) := Nat.le_refl _
   simp only [er] at hKO; go_simp
   exact hKO _ _ hw ⟨(Ext.wr hS.1 hw (by omega)), (hS.2.1.wr hw), (hS.2.2.1.wr hw (by omega)), (hS.2.2.2.1.wr hw), (hS.2.2.2.2.1.wr hw), (hS.2.2.2.2.2.1.wr hw), (hS.2.2.2.2.2.2.1.wr hw), (Nat.le_trans hS.2.2.2.2.2.2.2 hw.apart.size)⟩ ⟨b3, a3, n3, c3, d3, m3, o3, er, hq⟩
  ·have e4 := isOf hp.1; simp only [e4] at hKO; go_simp; exact hKO _ W (.refl W) rfl
 intro vs W2 hS hp
 clear szw2 E0 h1 p2 fp4 h1_0 h1_4 h1_6
 obtain ⟨E0, h1, p2, fp4, h1_0, h1_4, h1_6, sz2⟩ := hS
 obtain ⟨h2_0, h2_1, h2_2, h2_3, h2_4, h2_5, h2_6, -⟩ := hp
 obtain ⟨b2_5, a2_5, n2_5, c2_5, d2_5, m2_5, o2_5, er2_5, p2_5⟩ := h2_5
 replace er2_5 : vs 3 = _ := er2_5; replace h2_3 := (show Rw W2 (vs 3) (mkRat z D) from h2_3)
 rw [er2_5] at h2_3
 replace h2_0 : vs 0 = .agg #[.bool b1, .slice a1 n1 c1] := h2_0
 replace h2_1 : vs 1 = u1_6 := h2_1
 replace h2_4 : vs 4 = .int .i64 0 := h2_4
 replace h2_6 : vs 6 = .int .i64 0 := h2_6
 simp only [er2_5, h2_0, h2_1, h2_4, h2_6]
 obtain ⟨kp2_0, kp2_1⟩ := p2.c2
 obtain ⟨kp2_5_0, kp2_5_1, kp2_5_2⟩ := p2_5.c3
 go_wp2
 exact bodyPost_ret (v := .tuple #[.agg #[.bool b2_5, .slice a2_5 n2_5 c2_5, .slice d2_5 m2_5 o2_5], .int .i64 0]) (by simp [results, Tryz.results55, go_sem, kp2_5_0, kp2_5_1, kp2_5_2]) rfl ⟨_, rfl, h2_3, E0⟩

end Go.Rt
