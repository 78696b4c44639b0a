/-
 The program's dyads: down, up, a multiple's number; what a grid too fine answers; the reference's likewise.
-/
import Derived.Test.YthmncdhibcoiaaaGreatSqz
import Derived.Test.YthmncdhibcoiaaaGreatDyadP
import Derived.Test.YthmncdhibcoiaaaGreatGL
import Derived.Test.YthmncdhibcoiaaaGreatGI

namespace Go.Rt

open Go Go.RowKit Go.Proofs

theorem Zw.nought (W : World) : Zw W (.agg #[.bool false, .slice none 0 0]) 0 := ⟨false, none, 0, 0, rfl, Lib.hid rfl, Nw.nil W⟩

set_option maxRecDepth 100000 in
set_option maxHeartbeats 400000 in
theorem Tryz.dyadBack {v1 : Value} {z : Int} {L : Nat} {w : World} (h1 : Zw w v1 z) (s1 : Sm L z.natAbs) (hL : L ≤ 200) (K : Nat) (hK : K ≤ 2000) :
  Calls Tryz.prog 104 #[v1, .int .i64 (K : Int)] w fun e w' => ∃ v', e = .returned (.tuple #[v', .int .i64 0]) ∧ Rw w' v' ((z : Rat) / P2 K) ∧ Ext w w' := by
 obtain ⟨b1, a1, n1, c1, rfl, q1⟩ : ∃ b a n c, v1 = .agg #[.bool b, .slice a n c] ∧ True := let ⟨b, a, n, c, e, _⟩ := h1; ⟨b, a, n, c, e, trivial⟩
 clear q1
 have B1 : Hid (1 < B64) := Lib.hid (by rw [B64_eq]; omega)
 have hk0 : ¬ ((K : Int) < 0) := by omega
 have hk1 : ¬ ((2000 : Int) < (K : Int)) := by omega
 obtain ⟨D, hD⟩ : ∃ D, D = 2 ^ K := ⟨_, rfl⟩
 have SX : Hid (Sm (L + 32) z.natAbs) := Lib.hid (s1.mono (by omega))
 have SD : Hid (Sm (L + 32) D) := Lib.hid (by rw [hD]; exact (Sm.pow2 K).mono (by omega))
 have HD0 : Hid (D ≠ 0) := Lib.hid (by rw [hD]; exact Nat.pos_iff_ne_zero.1 (Nat.pow_pos (by omega)))
 have HR : Hid (mkRat z D = (z : Rat) / P2 K) := Lib.hid (by rw [hD]; exact back_eq z K)
 have HD : Hid (1 * 2 ^ K = D) := Lib.hid (by rw [hD, Nat.one_mul])
 have S1 : Hid (Sm 1 1) := Lib.hid (Sm.one B1.out)
 rw [← HR.out]
 clear hD
 obtain ⟨W0, hW0⟩ : ∃ W0, W0 = ((w.alloc (.cells #[.bool b1, .slice a1 n1 c1] 25)).alloc (.cells #[.bool false, .slice none 0 0, .slice none 0 0] 27)) := ⟨_, rfl⟩
 have E0 : Ext w W0 := by rw [hW0]; exact ((Ext.alloc1 w (.cells #[.bool b1, .slice a1 n1 c1] 25)).alloc (.cells #[.bool false, .slice none 0 0, .slice none 0 0] 27))
 replace h1 : Zw W0 (.agg #[.bool b1, .slice a1 n1 c1]) z := h1.ext E0
 have p2 : Bx2 W0 w.heap.size 25 (.bool b1) (.slice a1 n1 c1) := by rw [hW0]; exact (Bx2.new w 25 (.bool b1) (.slice a1 n1 c1)).ext (Ext.alloc1 (w.alloc (.cells #[.bool b1, .slice a1 n1 c1] 25)) (.cells #[.bool false, .slice none 0 0, .slice none 0 0] 27))
 have p4 : Bx3 W0 (w.heap.size + 1) 27 (.bool false) (.slice none 0 0) (.slice none 0 0) := by rw [hW0]; simpa using (Bx3.new (w.alloc (.cells #[.bool b1, .slice a1 n1 c1] 25)) 27 (.bool false) (.slice none 0 0) (.slice none 0 0))
 go_enter Tryz.func104, Tryz.ntmps104
 obtain ⟨kp2_0, kp2_1⟩ := p2.c2
 obtain ⟨kp4_0, kp4_1, kp4_2⟩ := p4.c3
 go_upto_region 3 with (fail)
 rw [← hW0]
 clear hW0; clear kp2_0 kp2_1 kp4_0 kp4_1 kp4_2; have ltp2 := p2.lt; have ltp4 := p4.lt; have szw33 := Ext.size E0
 refine region_gs [.one fun v W => Nw W v 1,
   .one fun v _ => v = .int .i64 (K : Int),
   .one fun v W => ∃ v', v = .tuple #[v', .int .i64 0] ∧ (fun v W => Nw W v D) v' W,
   .one fun v W => ∃ v', v = .tuple #[v', .int .i64 0] ∧ (fun v W => Nw W v D) v' W,
   .one fun v W => Nw W v D,
   .one fun v _ => v = .int .i64 0,
   .one fun v W => Nw W v D,
   .one fun v _ => v = .int .i64 0]
  (fun W => Ext w W ∧ Zw W (.agg #[.bool b1, .slice a1 n1 c1]) z ∧ Bx2 W w.heap.size 25 (.bool b1) (.slice a1 n1 c1) ∧ Bx3 W (w.heap.size + 1) 27 (.bool false) (.slice none 0 0) (.slice none 0 0) ∧ W0.heap.size ≤ W.heap.size) ⟨Good.num _, Good.is _, (Good.num _).tup _, (Good.num _).tup _, Good.num _, Good.is _, Good.num _, Good.is _, trivial⟩
  ⟨E0, h1, p2, p4, Nat.le_refl _⟩ (A := ?A33) ?hA33 ?howe33 ?hfin33
 case hA33 =>
  intro vs
  simp only [putAll, Act.put, sA, sZ, sS, Nat.zero_add, Nat.reduceAdd]
  exact rfl
 case howe33 =>
  clear E0 h1 p2 p4
  intro hf
  refine ⟨oE 0 [] hf rfl ?_, oE 1 [] hf rfl ?_, oE 2 [0, 1] hf rfl ?_, oE 3 [2] hf rfl ?_, oE 4 [3] hf rfl ?_, oE 5 [3] hf rfl ?_, oE 6 [4] hf rfl ?_, oE 7 [5] hf rfl ?_, trivial⟩
  all_goals intro vs W hS hp hx KO hKO
  all_goals simp only [Act.put, sA, sZ, sS] at hKO
  ·go_simp
   refine (Tryz.natOf 1 _ B1.out).mono ?_
   rintro e W1 ⟨v, rfl, hv, hE, -⟩
   exact hKO _ W1 hE hv
  ·go_simp; exact hKO _ W (.refl W) rfl
  ·have q0 := hp.1; have e1 := isOf hp.2.1; simp only [e1] at hKO; go_simp
   refine (Tryz.divShlK q0 S1.out (by omega) K (by omega)).mono ?_
   rintro e W1 ⟨v, rfl, hv, hE⟩
   rw [HD.out] at hv
   exact hKO _ W1 hE ⟨_, rfl, hv⟩
  ·have q2 := hp.1
   obtain ⟨u, ev, hu⟩ := q2
   replace ev : vs 2 = _ := ev; simp only [ev] at hKO; go_simp; exact hKO _ W (Ext.refl W) ⟨u, rfl, hu⟩
  ·have q3 := hp.1
   obtain ⟨u, ev, hu⟩ := q3
   replace ev : vs 3 = _ := ev; simp only [ev] at hKO; go_simp; exact hKO _ W (Ext.refl W) hu
  ·have q3 := hp.1
   obtain ⟨u, ev, hu⟩ := q3
   replace ev : vs 3 = _ := ev; simp only [ev] at hKO; go_simp; exact hKO _ W (.refl W) rfl
  ·have q4 := hp.1; go_simp; exact hKO _ W (Ext.refl W) q4
  ·have e5 := isOf hp.1; simp only [e5] at hKO; go_simp; exact hKO _ W (.refl W) rfl
 intro vs W33 hS hp
 clear szw33 E0 h1 p2 p4
 obtain ⟨E0, h1, p2, p4, sz33⟩ := hS
 obtain ⟨h33_0, h33_1, h33_2, h33_3, h33_4, h33_5, h33_6, h33_7, -⟩ := hp
 replace h33_1 : vs 1 = .int .i64 (K : Int) := h33_1
 replace h33_5 : vs 5 = .int .i64 0 := h33_5
 replace h33_7 : vs 7 = .int .i64 0 := h33_7
 simp only [h33_1, h33_5, h33_7]
 replace h33_0 : Nw W33 (vs 0) 1 := h33_0
 generalize vs 0 = u33_0 at h33_0 ⊢
 replace h33_4 : Nw W33 (vs 4) D := h33_4
 generalize vs 4 = u33_4 at h33_4 ⊢
 replace h33_6 : Nw W33 (vs 6) D := h33_6
 generalize vs 6 = u33_6 at h33_6 ⊢
 clear h33_1 h33_5 h33_7 h33_2 h33_3
 obtain ⟨kp2_0, kp2_1⟩ := p2.c2
 obtain ⟨kp4_0, kp4_1, kp4_2⟩ := p4.c3
 go_upto_region 4 with (fail)
 clear kp2_0 kp2_1 kp4_0 kp4_1 kp4_2; have fp4 := p4.form; have szw34 := Ext.size E0
 refine region_gs [.one fun v _ => v = .agg #[.bool b1, .slice a1 n1 c1],
   .one fun v _ => v = u33_6,
   .one fun v W => ∃ v', v = .tuple #[v', .int .i64 0] ∧ (fun v W => Rw W v (mkRat z D)) v' W,
   .one fun v W => Rw W v (mkRat z D),
   .one fun v _ => v = .int .i64 0,
   .two 3 (fun r _ W => At3 (w.heap.size + 1) 27 r W),
   .one fun v _ => v = .int .i64 0]
  (fun W => Ext w W ∧ Zw W (.agg #[.bool b1, .slice a1 n1 c1]) z ∧ Bx2 W w.heap.size 25 (.bool b1) (.slice a1 n1 c1) ∧ Form W (w.heap.size + 1) 27 3 ∧ Nw W u33_0 1 ∧ Nw W u33_4 D ∧ Nw W u33_6 D ∧ W33.heap.size ≤ W.heap.size) ⟨Good.is _, Good.is _, (Good.rat _).tup _, Good.rat _, Good.is _, cert_at3, Good.is _, trivial⟩
  ⟨E0, h1, p2, fp4, h33_0, h33_4, h33_6, Nat.le_refl _⟩ (A := ?A34) ?hA34 ?howe34 ?hfin34
 case hA34 =>
  intro vs
  simp only [putAll, Act.put, sA, sZ, sS, Nat.zero_add, Nat.reduceAdd]
  exact rfl
 case howe34 =>
  clear E0 h1 p2 fp4 h33_0 h33_4 h33_6
  intro hf
  refine ⟨oE 0 [] hf rfl ?_, oE 1 [] hf rfl ?_, oE 2 [0, 1] hf rfl ?_, oE 3 [2] hf rfl ?_, oE 4 [2] hf rfl ?_, oW 5 [3] hf rfl ?_, oE 6 [4] hf rfl ?_, trivial⟩
  all_goals intro vs W hS hp hx KO hKO
  all_goals simp only [Act.put, sA, sZ, sS] at hKO
  ·have fc0 := hS.2.2.1.cell0; have fc1 := hS.2.2.1.cell1; go_simp; exact hKO _ W (.refl W) rfl
  ·go_simp; exact hKO _ W (.refl W) rfl
  ·have e0 := isOf hp.1; have e1 := isOf hp.2.1; simp only [e0, e1] at hKO; go_simp
   refine (Tryz.ratMake (hS.2.1) (hS.2.2.2.2.2.2.1) SX.out SD.out (by omega) HD0.out).mono ?_
   rintro e W1 ⟨v, rfl, hv, hE⟩
   exact hKO _ W1 hE ⟨_, rfl, hv⟩
  ·have q2 := hp.1
   obtain ⟨u, ev, hu⟩ := q2
   replace ev : vs 2 = _ := ev; simp only [ev] at hKO; go_simp; exact hKO _ W (Ext.refl W) hu
  ·have q2 := hp.1
   obtain ⟨u, ev, hu⟩ := q2
   replace ev : vs 2 = _ := ev; simp only [ev] at hKO; go_simp; exact hKO _ W (.refl W) rfl
  ·have q3 := hp.1
   have hf := hS.2.2.2.1
   obtain ⟨x0_0, x0_1, x0_2, hx, hno⟩ := hf.bx3
   have qr := q3
   obtain ⟨b3, a3, n3, c3, d3, m3, o3, er, -, -, -⟩ := qr
   replace er : vs 3 = _ := er
   have r0 := hx.froz0
   have t0 := hx.cell0
   have r1 := hx.froz1
   have t1 := hx.cell1
   have r2 := hx.froz2
   have t2 := hx.cell2
   have hw := Wr.set3 hx hno b3 a3 n3 c3 d3 m3 o3
   have hq := hx.set (.bool b3) (.slice a3 n3 c3) (.slice d3 m3 o3)
   have hg : (w.heap.size + 1) ≤ (w.heap.size + 1) := Nat.le_refl _
   simp only [er] at hKO; go_simp
   exact hKO _ _ hw ⟨(Ext.wr hS.1 hw (by omega)), (hS.2.1.wr hw), (hS.2.2.1.wr hw (by omega)), (hS.2.2.2.1.wr hw), (hS.2.2.2.2.1.wr hw), (hS.2.2.2.2.2.1.wr hw), (hS.2.2.2.2.2.2.1.wr hw), (Nat.le_trans hS.2.2.2.2.2.2.2 hw.apart.size)⟩ ⟨b3, a3, n3, c3, d3, m3, o3, er, hq⟩
  ·have e4 := isOf hp.1; simp only [e4] at hKO; go_simp; exact hKO _ W (.refl W) rfl
 intro vs W34 hS hp
 clear szw34 E0 h1 p2 fp4 h33_0 h33_4 h33_6
 obtain ⟨E0, h1, p2, fp4, h33_0, h33_4, h33_6, sz34⟩ := hS
 obtain ⟨h34_0, h34_1, h34_2, h34_3, h34_4, h34_5, h34_6, -⟩ := hp
 obtain ⟨b34_5, a34_5, n34_5, c34_5, d34_5, m34_5, o34_5, er34_5, p34_5⟩ := h34_5
 replace er34_5 : vs 3 = _ := er34_5; replace h34_3 := (show Rw W34 (vs 3) (mkRat z D) from h34_3)
 rw [er34_5] at h34_3
 replace h34_0 : vs 0 = .agg #[.bool b1, .slice a1 n1 c1] := h34_0
 replace h34_1 : vs 1 = u33_6 := h34_1
 replace h34_4 : vs 4 = .int .i64 0 := h34_4
 replace h34_6 : vs 6 = .int .i64 0 := h34_6
 simp only [er34_5, h34_0, h34_1, h34_4, h34_6]
 clear er34_5 h34_0 h34_1 h34_4 h34_6 h34_2
 obtain ⟨kp2_0, kp2_1⟩ := p2.c2
 obtain ⟨kp34_5_0, kp34_5_1, kp34_5_2⟩ := p34_5.c3
 go_wp2
 exact bodyPost_ret (v := .tuple #[.agg #[.bool b34_5, .slice a34_5 n34_5 c34_5, .slice d34_5 m34_5 o34_5], .int .i64 0]) (by simp [results, Tryz.results104, go_sem, kp34_5_0, kp34_5_1, kp34_5_2]) rfl ⟨_, rfl, h34_3, E0⟩

end Go.Rt
