/-
 The reference's dyads: Back, Floor, Ceil.
-/
import Derived.Test.YtkbalokicnogbaaGreatGY
import Derived.Test.YtkbalokicnogbaaGreatGL
namespace Go.Rt
open Go.RowKit Go.Proofs

set_option maxRecDepth 100000 in
set_option maxHeartbeats 400000 in
theorem Tryz.refBack {v1 : Value} {z : Int} {L : Nat} {w : World} (h1 : Zw w v1 z) (s1 : Sm L z.natAbs) (hL : L ≤ 200) (K : Nat) (hK : K ≤ 2000) :
  Calls Tryz.prog 148 #[v1, .int .i64 (K : Int)] w fun e w' => ∃ v', e = .returned (.tuple #[v', .int .i64 0]) ∧ Rw w' v' ((z : Rat) / P2 K) ∧ Ext w w' := by
 obtain ⟨b1, a1, n1, c1, rfl, q1⟩ : ∃ b a n c, v1 = .agg #[.bool b, .slice a n c] ∧ True := let ⟨b, a, n, c, e, _⟩ := h1; ⟨b, a, n, c, e, trivial⟩
 clear q1
 have B1 : Hid (1 < B64) := Lib.hid (by rw [B64_eq]; omega)
 have hk0 : ¬ ((K : Int) < 0) := by omega
 have hk1 : ¬ ((2000 : Int) < (K : Int)) := by omega
 obtain ⟨D, hD⟩ : ∃ D, D = 2 ^ K := ⟨_, rfl⟩
 have SX : Hid (Sm (L + 32) z.natAbs) := Lib.hid (s1.mono (by omega))
 have SD : Hid (Sm (L + 32) D) := Lib.hid (by rw [hD]; exact (Sm.pow2 K).mono (by omega))
 have HD0 : Hid (D ≠ 0) := Lib.hid (by rw [hD]; exact Nat.pos_iff_ne_zero.1 (Nat.pow_pos (by omega)))
 have HR : Hid (mkRat z D = (z : Rat) / P2 K) := Lib.hid (by rw [hD]; exact back_eq z K)
 have HD : Hid (1 * 2 ^ K = D) := Lib.hid (by rw [hD, Nat.one_mul])
 have S1 : Hid (Sm 1 1) := Lib.hid (Sm.one B1.out)
 rw [← HR.out]
 clear hD
 obtain ⟨W0, hW0, E0, p2, p4⟩ := boxed2 w 59 #[.bool b1, .slice a1 n1 c1] 61 #[.bool false, .slice none 0 0, .slice none 0 0]
 replace p2 := p2.b2
 replace p4 := p4.b3
 replace h1 : Zw W0 (.agg #[.bool b1, .slice a1 n1 c1]) z := h1.ext E0
 go_enter Tryz.func148, Tryz.ntmps148
 obtain ⟨k2a, k2b⟩ := p2.c2
 obtain ⟨k4a, k4b, k4c⟩ := p4.c3
 go_upto_region 3 with (fail)
 rw [← hW0]
 clear hW0; clear k2a k2b k4a k4b k4c; have ltp2 := p2.lt; have ltp4 := p4.lt; have szw1 := Ext.size E0
 refine region_gk [.one fun v W => Nw W v 1,
   isV (.int .i64 (K : Int)),
   .one fun v W => ∃ v', v = .tuple #[v', .int .i64 0] ∧ (fun v W => Nw W v D) v' W,
   .one fun v W => ∃ v', v = .tuple #[v', .int .i64 0] ∧ (fun v W => Nw W v D) v' W,
   .one fun v W => Nw W v D,
   isV (.int .i64 0),
   .one fun v W => Nw W v D,
   .one fun v _ => v = .int .i64 0] ⟨Good.num _, Good.is _, (Good.num _).tup _, (Good.num _).tup _, Good.num _, Good.is _, Good.num _, Good.is _, trivial⟩ (E0.s.k (h1.s.k (p2.s.k (p4.s)))) (A := ?A1) ?hA1 ?howe1 ?hfin1
 case hA1 =>
  intro vs
  simp only [putAll, Act.put, sA, sZ, sS, Nat.zero_add, Nat.reduceAdd]
  exact rfl
 case howe1 =>
  clear E0 h1 p2 p4
  intro hf
  refine ⟨oE 0 [] hf rfl ?_, oP0 1 [] hf rfl, oE 2 [0, 1] hf rfl ?_, oE 3 [2] hf rfl ?_, oE 4 [3] hf rfl ?_, oE 5 [3] hf rfl ?_, oE 6 [4] hf rfl ?_, oP1 7 [5] hf rfl, trivial⟩
  all_goals intro vs W hS hp hx KO hKO
  all_goals simp only [Act.put, sA, sZ, sS] at hKO
  ·go_simp
   refine (Tryz.refOf 1 _ B1.out).mono ?_
   rintro e W1 ⟨v, rfl, hv, hE, -⟩
   exact hKO _ W1 hE hv
  ·have q0 := hp.1; have e1 := isOf hp.2.1; simp only [e1] at hKO; go_simp
   refine (Tryz.refShlK q0 S1.out (by omega) K (by omega)).mono ?_
   rintro e W1 ⟨v, rfl, hv, hE⟩
   rw [HD.out] at hv
   exact hKO _ W1 hE ⟨_, rfl, hv⟩
  ·have q2 := hp.1
   obtain ⟨u, ev, hu⟩ := q2
   replace ev : vs 2 = _ := ev; simp only [ev] at hKO; go_simp; exact hKO _ W (Ext.refl W) ⟨u, rfl, hu⟩
  ·have q3 := hp.1
   obtain ⟨u, ev, hu⟩ := q3
   replace ev : vs 3 = _ := ev; simp only [ev] at hKO; go_simp; exact hKO _ W (Ext.refl W) hu
  ·have q3 := hp.1
   obtain ⟨u, ev, hu⟩ := q3
   replace ev : vs 3 = _ := ev; simp only [ev] at hKO; go_simp; exact hKO _ W (.refl W) rfl
  ·have q4 := hp.1; go_simp; exact hKO _ W (Ext.refl W) q4
 intro vs W1 hS hp
 clear szw1 E0 h1 p2 p4
 obtain ⟨⟨E0, h1, p2, p4⟩, sz1⟩ := hS
 obtain ⟨h1_0, h1_1, h1_2, h1_3, h1_4, h1_5, h1_6, h1_7, -⟩ := hp
 simp only [isOf h1_1, isOf h1_5, isOf h1_7]
 replace h1_0 : Nw W1 (vs 0) 1 := h1_0
 generalize vs 0 = u1_0 at h1_0 ⊢
 replace h1_4 : Nw W1 (vs 4) D := h1_4
 generalize vs 4 = u1_4 at h1_4 ⊢
 replace h1_6 : Nw W1 (vs 6) D := h1_6
 generalize vs 6 = u1_6 at h1_6 ⊢
 obtain ⟨k2a, k2b⟩ := p2.c2
 obtain ⟨k4a, k4b, k4c⟩ := p4.c3
 go_upto_region 4 with (fail)
 clear k2a k2b k4a k4b k4c; have fp4 := p4.form; have szw2 := Ext.size E0
 refine region_gs [isV (.agg #[.bool b1, .slice a1 n1 c1]), isV (u1_6),
   .one fun v W => ∃ v', v = .tuple #[v', .int .i64 0] ∧ (fun v W => Rw W v (mkRat z D)) v' W,
   .one fun v W => Rw W v (mkRat z D),
   isV (.int .i64 0),
   .two 3 (fun r _ W => At3 (w.heap.size + 1) 61 r W),
   isV (.int .i64 0)]
  (fun W => Ext w W ∧ Zw W (.agg #[.bool b1, .slice a1 n1 c1]) z ∧ Bx2 W w.heap.size 59 (.bool b1) (.slice a1 n1 c1) ∧ Form W (w.heap.size + 1) 61 3 ∧ Nw W u1_0 1 ∧ Nw W u1_4 D ∧ Nw W u1_6 D ∧ W1.heap.size ≤ W.heap.size) ⟨Good.is _, Good.is _, (Good.rat _).tup _, Good.rat _, Good.is _, cert_at3, Good.is _, trivial⟩
  ⟨E0, h1, p2, fp4, h1_0, h1_4, h1_6, Nat.le_refl _⟩ (A := ?A2) ?hA2 ?howe2 ?hfin2
 case hA2 =>
  intro vs
  simp only [putAll, Act.put, sA, sZ, sS, Nat.zero_add, Nat.reduceAdd]
  exact rfl
 case howe2 =>
  clear E0 h1 p2 fp4 h1_0 h1_4 h1_6
  intro hf
  refine ⟨oE 0 [] hf rfl ?_, oP0 1 [] hf rfl, oE 2 [0, 1] hf rfl ?_, oE 3 [2] hf rfl ?_, oE 4 [2] hf rfl ?_, oW 5 [3] hf rfl ?_, oP1 6 [4] hf rfl, trivial⟩
  all_goals intro vs W hS hp hx KO hKO
  all_goals simp only [Act.put, sA, sZ, sS] at hKO
  ·have fc0 := hS.2.2.1.cell0; have fc1 := hS.2.2.1.cell1; go_simp; exact hKO _ W (.refl W) rfl
  ·have e0 := isOf hp.1; have e1 := isOf hp.2.1; simp only [e0, e1] at hKO; go_simp
   refine (Tryz.refRMake (hS.2.1) (hS.2.2.2.2.2.2.1) SX.out SD.out (by omega) HD0.out).mono ?_
   rintro e W1 ⟨v, rfl, hv, hE⟩
   exact hKO _ W1 hE ⟨_, rfl, hv⟩
  ·have q2 := hp.1
   obtain ⟨u, ev, hu⟩ := q2
   replace ev : vs 2 = _ := ev; simp only [ev] at hKO; go_simp; exact hKO _ W (Ext.refl W) hu
  ·have q2 := hp.1
   obtain ⟨u, ev, hu⟩ := q2
   replace ev : vs 2 = _ := ev; simp only [ev] at hKO; go_simp; exact hKO _ W (.refl W) rfl
  ·have q3 := hp.1
   have hf := hS.2.2.2.1
   obtain ⟨x0, y0, z0, hx, hno⟩ := hf.bx3
   have qr := q3
   obtain ⟨b3, a3, n3, c3, d3, m3, o3, er, -, -, -⟩ := qr
   replace er : vs 3 = _ := er
   have r0 := hx.froz0
   have t0 := hx.cell0
   have r1 := hx.froz1
   have t1 := hx.cell1
   have r2 := hx.froz2
   have t2 := hx.cell2
   have hw := Wr.set3 hx hno b3 a3 n3 c3 d3 m3 o3
   have hq := hx.set (.bool b3) (.slice a3 n3 c3) (.slice d3 m3 o3)
   have hg : (w.heap.size + 1) ≤ (w.heap.size + 1) := Nat.le_refl _
   simp only [er] at hKO; go_simp
   exact hKO _ _ hw ⟨(Ext.wr hS.1 hw (by omega)), (hS.2.1.wr hw), (hS.2.2.1.wr hw (by omega)), (hS.2.2.2.1.wr hw), (hS.2.2.2.2.1.wr hw), (hS.2.2.2.2.2.1.wr hw), (hS.2.2.2.2.2.2.1.wr hw), (Nat.le_trans hS.2.2.2.2.2.2.2 hw.apart.size)⟩ ⟨b3, a3, n3, c3, d3, m3, o3, er, hq⟩
 intro vs W2 hS hp
 clear szw2 E0 h1 p2 fp4 h1_0 h1_4 h1_6
 obtain ⟨E0, h1, p2, fp4, h1_0, h1_4, h1_6, sz2⟩ := hS
 obtain ⟨h2_0, h2_1, h2_2, h2_3, h2_4, h2_5, h2_6, -⟩ := hp
 obtain ⟨b2_5, a2_5, n2_5, c2_5, d2_5, m2_5, o2_5, er2_5, p2_5⟩ := h2_5
 replace er2_5 : vs 3 = _ := er2_5; replace h2_3 := (show Rw W2 (vs 3) (mkRat z D) from h2_3)
 rw [er2_5] at h2_3
 simp only [er2_5, isOf h2_0, isOf h2_1, isOf h2_4, isOf h2_6]
 obtain ⟨k2a, k2b⟩ := p2.c2
 obtain ⟨k2_5a, k2_5b, k2_5c⟩ := p2_5.c3
 go_wp2
 exact bodyPost_ret (v := .tuple #[.agg #[.bool b2_5, .slice a2_5 n2_5 c2_5, .slice d2_5 m2_5 o2_5], .int .i64 0]) (by simp [results, Tryz.results148, go_sem, k2_5a, k2_5b, k2_5c]) rfl ⟨_, rfl, h2_3, E0⟩

set_option maxRecDepth 100000 in
set_option maxHeartbeats 400000 in
theorem Tryz.refFloor {v1 : Value} {x : Rat} {L : Nat} {w : World} (h1 : Rw w v1 x) (s1 : SmR L x) (hL : L ≤ 200) (K : Nat) (hK : K ≤ 2000) :
  Calls Tryz.prog 161 #[v1, .int .i64 (K : Int)] w fun e w' => ∃ v', e = .returned (.tuple #[v', .int .i64 0]) ∧ Zw w' v' (x * P2 K).floor ∧ Ext w w' := by
 obtain ⟨b1, a1, n1, c1, d1, m1, o1, rfl, q1⟩ : ∃ b a n c d m o, v1 = .agg #[.bool b, .slice a n c, .slice d m o] ∧ True := let ⟨b, a, n, c, d, m, o, e, _⟩ := h1; ⟨b, a, n, c, d, m, o, e, trivial⟩
 clear q1
 have B1 : Hid (1 < B64) := Lib.hid (by rw [B64_eq]; omega)
 have hk0 : ¬ ((K : Int) < 0) := by omega
 have hk1 : ¬ ((2000 : Int) < (K : Int)) := by omega
 obtain ⟨N, hN⟩ : ∃ N, N = x.num.natAbs * 2 ^ K := ⟨_, rfl⟩
 obtain ⟨Q, hQ⟩ : ∃ Q, Q = x.den := ⟨_, rfl⟩
 have HN := Lib.hid hN
 have HQ := Lib.hid hQ
 have SP : Hid (Sm L x.num.natAbs) := Lib.hid s1.1
 have SN : Hid (Sm (L + 33) N) := Lib.hid (by rw [hN]; exact (Sm.scale s1 K).mono (by omega))
 have SQ : Hid (Sm (L + 33) Q) := Lib.hid (by rw [hQ]; exact s1.2.mono (by omega))
 have HQ0 : Hid (Q ≠ 0) := Lib.hid (by rw [hQ]; exact x.den_nz)
 have S1 : Hid (Sm (L + 33) 1) := Lib.hid ((Sm.one B1.out).mono (by omega))
 have HB := h1.top.neg
 clear hN hQ
 obtain ⟨W0, hW0, E0, p2, p4⟩ := boxed2 w 61 #[.bool b1, .slice a1 n1 c1, .slice d1 m1 o1] 59 #[.bool false, .slice none 0 0]
 replace p2 := p2.b3
 replace p4 := p4.b2
 replace h1 : Rw W0 (.agg #[.bool b1, .slice a1 n1 c1, .slice d1 m1 o1]) x := h1.ext E0
 go_enter Tryz.func161, Tryz.ntmps161
 obtain ⟨k2a, k2b, k2c⟩ := p2.c3
 obtain ⟨k4a, k4b⟩ := p4.c2
 go_upto_region 3 with (fail)
 rw [← hW0]
 clear hW0; clear k2a k2b k2c k4a k4b; have ltp2 := p2.lt; have ltp4 := p4.lt; have szw3 := Ext.size E0
 refine region_gk [isV (.pointer (some ⟨w.heap.size, 0, none⟩)), isV (.pointer (some ⟨w.heap.size, 1, none⟩)), isV (.slice a1 n1 c1), isV (.int .i64 (K : Int)),
   .one fun v W => ∃ v', v = .tuple #[v', .int .i64 0] ∧ (fun v W => Nw W v N) v' W,
   .one fun v W => ∃ v', v = .tuple #[v', .int .i64 0] ∧ (fun v W => Nw W v N) v' W,
   .one fun v W => Nw W v N,
   isV (.int .i64 0),
   .one fun v W => Nw W v N,
   .one fun v _ => v = .int .i64 0] ⟨Good.is _, Good.is _, Good.is _, Good.is _, (Good.num _).tup _, (Good.num _).tup _, Good.num _, Good.is _, Good.num _, Good.is _, trivial⟩ (E0.s.k (h1.s.k (p2.s.k (p4.s)))) (A := ?A3) ?hA3 ?howe3 ?hfin3
 case hA3 =>
  intro vs
  simp only [putAll, Act.put, sA, sZ, sS, Nat.zero_add, Nat.reduceAdd]
  exact rfl
 case howe3 =>
  clear E0 h1 p2 p4
  intro hf
  refine ⟨oP0 0 [] hf rfl, oP1 1 [0] hf rfl, oE 2 [1] hf rfl ?_, oP0 3 [] hf rfl, oE 4 [2, 3] hf rfl ?_, oE 5 [4] hf rfl ?_, oE 6 [5] hf rfl ?_, oE 7 [5] hf rfl ?_, oE 8 [6] hf rfl ?_, oP1 9 [7] hf rfl, trivial⟩
  all_goals intro vs W hS hp hx KO hKO
  all_goals simp only [Act.put, sA, sZ, sS] at hKO
  ·have e1 := isOf hp.1; simp only [e1] at hKO; have fc1 := hS.1.2.2.1.cell1; go_simp; exact hKO _ W (.refl W) rfl
  ·have e2 := isOf hp.1; have e3 := isOf hp.2.1; simp only [e2, e3] at hKO; go_simp
   refine (Tryz.refShlK (hS.1.2.1.top.num) SP.out (by omega) K (by omega)).mono ?_
   rintro e W1 ⟨v, rfl, hv, hE⟩
   rw [← HN.out] at hv
   exact hKO _ W1 hE ⟨_, rfl, hv⟩
  ·have q4 := hp.1
   obtain ⟨u, ev, hu⟩ := q4
   replace ev : vs 4 = _ := ev; simp only [ev] at hKO; go_simp; exact hKO _ W (Ext.refl W) ⟨u, rfl, hu⟩
  ·have q5 := hp.1
   obtain ⟨u, ev, hu⟩ := q5
   replace ev : vs 5 = _ := ev; simp only [ev] at hKO; go_simp; exact hKO _ W (Ext.refl W) hu
  ·have q5 := hp.1
   obtain ⟨u, ev, hu⟩ := q5
   replace ev : vs 5 = _ := ev; simp only [ev] at hKO; go_simp; exact hKO _ W (.refl W) rfl
  ·have q6 := hp.1; go_simp; exact hKO _ W (Ext.refl W) q6
 intro vs W3 hS hp
 clear szw3 E0 h1 p2 p4
 obtain ⟨⟨E0, h1, p2, p4⟩, sz3⟩ := hS
 obtain ⟨h3_0, h3_1, h3_2, h3_3, h3_4, h3_5, h3_6, h3_7, h3_8, h3_9, -⟩ := hp
 simp only [isOf h3_0, isOf h3_1, isOf h3_2, isOf h3_3, isOf h3_7, isOf h3_9]
 replace h3_6 : Nw W3 (vs 6) N := h3_6
 generalize vs 6 = u3_6 at h3_6 ⊢
 replace h3_8 : Nw W3 (vs 8) N := h3_8
 generalize vs 8 = u3_8 at h3_8 ⊢
 obtain ⟨k2a, k2b, k2c⟩ := p2.c3
 obtain ⟨k4a, k4b⟩ := p4.c2
 go_upto_region 4 with (fail)
 clear k2a k2b k2c k4a k4b; have szw4 := Ext.size E0
 refine region_gk [isV (u3_8), isV (.pointer (some ⟨w.heap.size, 2, none⟩)), isV (.slice d1 m1 o1),
   .one fun v W => ∃ v' v'', v = .tuple #[v', v'', .int .i64 0] ∧ (fun v W => Nw W v (N / Q)) v' W ∧ (fun v W => Nw W v (N % Q)) v'' W,
   .one fun v W => ∃ v' v'', v = .tuple #[v', v'', .int .i64 0] ∧ (fun v W => Nw W v (N / Q)) v' W ∧ (fun v W => Nw W v (N % Q)) v'' W,
   .one fun v W => Nw W v (N / Q),
   .one fun v W => Nw W v (N % Q),
   isV (.int .i64 0),
   .one fun v W => Nw W v (N / Q),
   .one fun v W => Nw W v (N % Q),
   .one fun v _ => v = .int .i64 0] ⟨Good.is _, Good.is _, Good.is _, (Good.num _).tup3 (Good.num _) _, (Good.num _).tup3 (Good.num _) _, Good.num _, Good.num _, Good.is _, Good.num _, Good.num _, Good.is _, trivial⟩ (E0.s.k (h1.s.k (p2.s.k (p4.s.k (h3_6.s.k (h3_8.s)))))) (A := ?A4) ?hA4 ?howe4 ?hfin4
 case hA4 =>
  intro vs
  simp only [putAll, Act.put, sA, sZ, sS, Nat.zero_add, Nat.reduceAdd]
  exact rfl
 case howe4 =>
  clear E0 h1 p2 p4 h3_6 h3_8
  intro hf
  refine ⟨oP0 0 [] hf rfl, oP0 1 [] hf rfl, oE 2 [1] hf rfl ?_, oE 3 [0, 2] hf rfl ?_, oE 4 [3] hf rfl ?_, oE 5 [4] hf rfl ?_, oE 6 [4] hf rfl ?_, oE 7 [4] hf rfl ?_, oE 8 [5] hf rfl ?_, oE 9 [6] hf rfl ?_, oP1 10 [7] hf rfl, trivial⟩
  all_goals intro vs W hS hp hx KO hKO
  all_goals simp only [Act.put, sA, sZ, sS] at hKO
  ·have e1 := isOf hp.1; simp only [e1] at hKO; have fc2 := hS.1.2.2.1.cell2; go_simp; exact hKO _ W (.refl W) rfl
  ·have e0 := isOf hp.1; have e2 := isOf hp.2.1; simp only [e0, e2] at hKO; go_simp
   refine (Tryz.refDivModK (hS.1.2.2.2.2.2) (HQ.out ▸ (hS.1.2.1.den)) SN.out SQ.out (by omega) HQ0.out).mono ?_
   rintro e W1 ⟨v, v2, rfl, hv, hv2, hE⟩
   exact hKO _ W1 hE ⟨_, _, rfl, hv, hv2⟩
  ·have q3 := hp.1
   obtain ⟨u, u2, ev, hu, hu2⟩ := q3
   replace ev : vs 3 = _ := ev; simp only [ev] at hKO; go_simp; exact hKO _ W (Ext.refl W) ⟨u, u2, rfl, hu, hu2⟩
  ·have q4 := hp.1
   obtain ⟨u, u2, ev, hu, hu2⟩ := q4
   replace ev : vs 4 = _ := ev; simp only [ev] at hKO; go_simp; exact hKO _ W (Ext.refl W) hu
  ·have q4 := hp.1
   obtain ⟨u, u2, ev, hu, hu2⟩ := q4
   replace ev : vs 4 = _ := ev; simp only [ev] at hKO; go_simp; exact hKO _ W (Ext.refl W) hu2
  ·have q4 := hp.1
   obtain ⟨u, u2, ev, hu, hu2⟩ := q4
   replace ev : vs 4 = _ := ev; simp only [ev] at hKO; go_simp; exact hKO _ W (.refl W) rfl
  ·have q5 := hp.1; go_simp; exact hKO _ W (Ext.refl W) q5
  ·have q6 := hp.1; go_simp; exact hKO _ W (Ext.refl W) q6
 intro vs W4 hS hp
 clear szw4 E0 h1 p2 p4 h3_6 h3_8
 obtain ⟨⟨E0, h1, p2, p4, h3_6, h3_8⟩, sz4⟩ := hS
 obtain ⟨h4_0, h4_1, h4_2, h4_3, h4_4, h4_5, h4_6, h4_7, h4_8, h4_9, h4_10, -⟩ := hp
 simp only [isOf h4_0, isOf h4_1, isOf h4_2, isOf h4_7, isOf h4_10]
 replace h4_5 : Nw W4 (vs 5) (N / Q) := h4_5
 generalize vs 5 = u4_5 at h4_5 ⊢
 replace h4_6 : Nw W4 (vs 6) (N % Q) := h4_6
 generalize vs 6 = u4_6 at h4_6 ⊢
 replace h4_8 : Nw W4 (vs 8) (N / Q) := h4_8
 generalize vs 8 = u4_8 at h4_8 ⊢
 replace h4_9 : Nw W4 (vs 9) (N % Q) := h4_9
 generalize vs 9 = u4_9 at h4_9 ⊢
 obtain ⟨aq, nq, cq, ezq, zq, -⟩ := h4_8.len
 rw [ezq] at h4_8 ⊢
 clear ezq
 obtain ⟨ar, nr, cr, ezr, zr, -⟩ := h4_9.len
 rw [ezr] at h4_9 ⊢
 clear ezr
 by_cases hx : x.num < 0
 ·obtain rfl : b1 = true := by rw [HB.out]; exact decide_eq_true hx
  by_cases hr : 0 < nr
  ·have hrI : (0 : Int) < (nr : Int) := by omega
   have HF : Hid (-((N / Q + 1 : Nat) : Int) = (x * P2 K).floor) := Lib.hid (by rw [floor_neg hx, ← HN.out, ← HQ.out, if_neg (by have := mt zr.2 (by omega); exact this)])
   have SQ1 : Hid (Sm (L + 33) (N / Q)) := Lib.hid (SN.out.le (Nat.div_le_self _ _))
   clear zr zq hx
   obtain ⟨k2a, k2b, k2c⟩ := p2.c3
   obtain ⟨k4a, k4b⟩ := p4.c2
   go_upto_region 8 with (fail)
   clear k2a k2b k2c k4a k4b; have szw5 := Ext.size E0
   refine region_gk [isV (.slice aq nq cq),
     .one fun v W => Nw W v 1,
     .one fun v W => Nw W v (N / Q + 1),
     .one fun v W => Nw W v (N / Q + 1)] ⟨Good.is _, Good.num _, Good.num _, Good.num _, trivial⟩ (E0.s.k (h1.s.k (p2.s.k (p4.s.k (h3_6.s.k (h3_8.s.k (h4_5.s.k (h4_6.s.k (h4_8.s.k (h4_9.s)))))))))) (A := ?A5) ?hA5 ?howe5 ?hfin5
   case hA5 =>
    intro vs
    simp only [putAll, Act.put, sA, sZ, sS, Nat.zero_add, Nat.reduceAdd]
    exact rfl
   case howe5 =>
    clear E0 h1 p2 p4 h3_6 h3_8 h4_5 h4_6 h4_8 h4_9
    intro hf
    refine ⟨oE 0 [] hf rfl ?_, oE 1 [] hf rfl ?_, oE 2 [0, 1] hf rfl ?_, oE 3 [2] hf rfl ?_, trivial⟩
    all_goals intro vs W hS hp hx KO hKO
    all_goals simp only [Act.put, sA, sZ, sS] at hKO
    ·have eo3 : vs 3 = .slice aq nq cq := hx.at 3 rfl (by kernel_rfl) rfl
     simp only [eo3] at hKO; go_simp; exact hKO _ W (.refl W) rfl
    ·go_simp
     refine (Tryz.refOf 1 _ B1.out).mono ?_
     rintro e W1 ⟨v, rfl, hv, hE, -⟩
     exact hKO _ W1 hE hv
    ·have e0 := isOf hp.1; have q1 := hp.2.1; simp only [e0] at hKO; go_simp
     refine (Tryz.refAdd (hS.1.2.2.2.2.2.2.2.2.1) q1 SQ1.out S1.out (by omega)).mono ?_
     rintro e W1 ⟨v, rfl, hv, hE, -⟩
     exact hKO _ W1 hE hv
    ·have q2 := hp.1; go_simp; exact hKO _ W (Ext.refl W) q2
   intro vs W5 hS hp
   clear szw5 E0 h1 p2 p4 h3_6 h3_8 h4_5 h4_6 h4_8 h4_9
   obtain ⟨⟨E0, h1, p2, p4, h3_6, h3_8, h4_5, h4_6, h4_8, h4_9⟩, sz5⟩ := hS
   obtain ⟨h5_0, h5_1, h5_2, h5_3, -⟩ := hp
   simp only [isOf h5_0]
   replace h5_1 : Nw W5 (vs 1) 1 := h5_1
   generalize vs 1 = u5_1 at h5_1 ⊢
   replace h5_2 : Nw W5 (vs 2) (N / Q + 1) := h5_2
   generalize vs 2 = u5_2 at h5_2 ⊢
   replace h5_3 : Nw W5 (vs 3) (N / Q + 1) := h5_3
   generalize vs 3 = u5_3 at h5_3 ⊢
   obtain ⟨ay, ny, cy, ezy, zy, -⟩ := h5_3.len
   rw [ezy] at h5_3 ⊢
   clear ezy
   have hz := Zw.ofN h5_3
   clear zy
   obtain ⟨k2a, k2b, k2c⟩ := p2.c3
   obtain ⟨k4a, k4b⟩ := p4.c2
   go_upto_region 9 with (fail)
   clear k2a k2b k2c k4a k4b; have fp4 := p4.form; have szw6 := Ext.size E0
   refine region_gs [isV (.slice ay ny cy), isV (.agg #[.bool false, .slice ay ny cy]),
     .one fun v W => Zw W v (-((N / Q + 1 : Nat) : Int)),
     .two 2 (fun r _ W => At2 (w.heap.size + 1) 59 r W),
     isV (.int .i64 0)]
    (fun W => Ext w W ∧ Rw W (.agg #[.bool true, .slice a1 n1 c1, .slice d1 m1 o1]) x ∧ Bx3 W w.heap.size 61 (.bool true) (.slice a1 n1 c1) (.slice d1 m1 o1) ∧ Form W (w.heap.size + 1) 59 2 ∧ Nw W u3_6 N ∧ Nw W u3_8 N ∧ Nw W u4_5 (N / Q) ∧ Nw W u4_6 (N % Q) ∧ Nw W (.slice aq nq cq) (N / Q) ∧ Nw W (.slice ar nr cr) (N % Q) ∧ Nw W u5_1 1 ∧ Nw W u5_2 (N / Q + 1) ∧ Nw W (.slice ay ny cy) (N / Q + 1) ∧ Zw W (.agg #[.bool false, .slice ay ny cy]) (((N / Q + 1 : Nat) : Int)) ∧ W5.heap.size ≤ W.heap.size) ⟨Good.is _, Good.is _, Good.zed _, cert_at2, Good.is _, trivial⟩
    ⟨E0, h1, p2, fp4, h3_6, h3_8, h4_5, h4_6, h4_8, h4_9, h5_1, h5_2, h5_3, hz, Nat.le_refl _⟩ (A := ?A6) ?hA6 ?howe6 ?hfin6
   case hA6 =>
    intro vs
    simp only [putAll, Act.put, sA, sZ, sS, Nat.zero_add, Nat.reduceAdd]
    exact rfl
   case howe6 =>
    clear E0 h1 p2 fp4 h3_6 h3_8 h4_5 h4_6 h4_8 h4_9 h5_1 h5_2 h5_3 hz
    intro hf
    refine ⟨oP0 0 [] hf rfl, oP1 1 [0] hf rfl, oE 2 [1] hf rfl ?_, oW 3 [2] hf rfl ?_, oP0 4 [] hf rfl, trivial⟩
    all_goals intro vs W hS hp hx KO hKO
    all_goals simp only [Act.put, sA, sZ, sS] at hKO
    ·have e1 := isOf hp.1; simp only [e1] at hKO; go_simp
     refine (Tryz.refNeg (hS.2.2.2.2.2.2.2.2.2.2.2.2.2.1)).mono ?_
     rintro e W1 ⟨v, rfl, hv, hE⟩
     exact hKO _ W1 hE hv
    ·have q2 := hp.1
     have hf := hS.2.2.2.1
     obtain ⟨x0, y0, hx, hno⟩ := hf.bx2
     have qr := q2
     obtain ⟨b3, a3, n3, c3, er, -, -⟩ := qr
     replace er : vs 2 = _ := er
     have r0 := hx.froz0
     have t0 := hx.cell0
     have r1 := hx.froz1
     have t1 := hx.cell1
     have hw := Wr.set2 hx hno b3 a3 n3 c3
     have hq := hx.set (.bool b3) (.slice a3 n3 c3)
     have hg : (w.heap.size + 1) ≤ (w.heap.size + 1) := Nat.le_refl _
     simp only [er] at hKO; go_simp
     exact hKO _ _ hw ⟨(Ext.wr hS.1 hw (by omega)), (hS.2.1.wr hw), (hS.2.2.1.wr hw (by omega)), (hS.2.2.2.1.wr hw), (hS.2.2.2.2.1.wr hw), (hS.2.2.2.2.2.1.wr hw), (hS.2.2.2.2.2.2.1.wr hw), (hS.2.2.2.2.2.2.2.1.wr hw), (hS.2.2.2.2.2.2.2.2.1.wr hw), (hS.2.2.2.2.2.2.2.2.2.1.wr hw), (hS.2.2.2.2.2.2.2.2.2.2.1.wr hw), (hS.2.2.2.2.2.2.2.2.2.2.2.1.wr hw), (hS.2.2.2.2.2.2.2.2.2.2.2.2.1.wr hw), (hS.2.2.2.2.2.2.2.2.2.2.2.2.2.1.wr hw), (Nat.le_trans hS.2.2.2.2.2.2.2.2.2.2.2.2.2.2 hw.apart.size)⟩ ⟨b3, a3, n3, c3, er, hq⟩
   intro vs W6 hS hp
   clear szw6 E0 h1 p2 fp4 h3_6 h3_8 h4_5 h4_6 h4_8 h4_9 h5_1 h5_2 h5_3 hz
   obtain ⟨E0, h1, p2, fp4, h3_6, h3_8, h4_5, h4_6, h4_8, h4_9, h5_1, h5_2, h5_3, hz, sz6⟩ := hS
   obtain ⟨h6_0, h6_1, h6_2, h6_3, h6_4, -⟩ := hp
   obtain ⟨b6_3, a6_3, n6_3, c6_3, er6_3, p6_3⟩ := h6_3
   replace er6_3 : vs 2 = _ := er6_3; replace h6_2 := (show Zw W6 (vs 2) (-((N / Q + 1 : Nat) : Int)) from h6_2)
   rw [er6_3] at h6_2
   simp only [er6_3, isOf h6_0, isOf h6_1, isOf h6_4]
   obtain ⟨k2a, k2b, k2c⟩ := p2.c3
   obtain ⟨k6_3a, k6_3b⟩ := p6_3.c2
   go_wp2
   exact bodyPost_ret (v := .tuple #[.agg #[.bool b6_3, .slice a6_3 n6_3 c6_3], .int .i64 0]) (by simp [results, Tryz.results161, go_sem, k6_3a, k6_3b]) rfl ⟨_, rfl, (h6_2.eq HF.out), E0⟩
  ·have hrI : ¬ (0 : Int) < (nr : Int) := by omega
   have HF : Hid (-((N / Q : Nat) : Int) = (x * P2 K).floor) := Lib.hid (by rw [floor_neg hx, ← HN.out, ← HQ.out, if_pos (zr.1 (by omega)), Nat.add_zero])
   have hz := Zw.ofN h4_8
   clear zr zq hx
   obtain ⟨k2a, k2b, k2c⟩ := p2.c3
   obtain ⟨k4a, k4b⟩ := p4.c2
   go_upto_region 9 with (fail)
   clear k2a k2b k2c k4a k4b; have fp4 := p4.form; have szw7 := Ext.size E0
   refine region_gs [isV (.slice aq nq cq), isV (.agg #[.bool false, .slice aq nq cq]),
     .one fun v W => Zw W v (-((N / Q : Nat) : Int)),
     .two 2 (fun r _ W => At2 (w.heap.size + 1) 59 r W),
     isV (.int .i64 0)]
    (fun W => Ext w W ∧ Rw W (.agg #[.bool true, .slice a1 n1 c1, .slice d1 m1 o1]) x ∧ Bx3 W w.heap.size 61 (.bool true) (.slice a1 n1 c1) (.slice d1 m1 o1) ∧ Form W (w.heap.size + 1) 59 2 ∧ Nw W u3_6 N ∧ Nw W u3_8 N ∧ Nw W u4_5 (N / Q) ∧ Nw W u4_6 (N % Q) ∧ Nw W (.slice aq nq cq) (N / Q) ∧ Nw W (.slice ar nr cr) (N % Q) ∧ Zw W (.agg #[.bool false, .slice aq nq cq]) (((N / Q : Nat) : Int)) ∧ W4.heap.size ≤ W.heap.size) ⟨Good.is _, Good.is _, Good.zed _, cert_at2, Good.is _, trivial⟩
    ⟨E0, h1, p2, fp4, h3_6, h3_8, h4_5, h4_6, h4_8, h4_9, hz, Nat.le_refl _⟩ (A := ?A7) ?hA7 ?howe7 ?hfin7
   case hA7 =>
    intro vs
    simp only [putAll, Act.put, sA, sZ, sS, Nat.zero_add, Nat.reduceAdd]
    exact rfl
   case howe7 =>
    clear E0 h1 p2 fp4 h3_6 h3_8 h4_5 h4_6 h4_8 h4_9 hz
    intro hf
    refine ⟨oP0 0 [] hf rfl, oP1 1 [0] hf rfl, oE 2 [1] hf rfl ?_, oW 3 [2] hf rfl ?_, oP0 4 [] hf rfl, trivial⟩
    all_goals intro vs W hS hp hx KO hKO
    all_goals simp only [Act.put, sA, sZ, sS] at hKO
    ·have e1 := isOf hp.1; simp only [e1] at hKO; go_simp
     refine (Tryz.refNeg (hS.2.2.2.2.2.2.2.2.2.2.1)).mono ?_
     rintro e W1 ⟨v, rfl, hv, hE⟩
     exact hKO _ W1 hE hv
    ·have q2 := hp.1
     have hf := hS.2.2.2.1
     obtain ⟨x0, y0, hx, hno⟩ := hf.bx2
     have qr := q2
     obtain ⟨b3, a3, n3, c3, er, -, -⟩ := qr
     replace er : vs 2 = _ := er
     have r0 := hx.froz0
     have t0 := hx.cell0
     have r1 := hx.froz1
     have t1 := hx.cell1
     have hw := Wr.set2 hx hno b3 a3 n3 c3
     have hq := hx.set (.bool b3) (.slice a3 n3 c3)
     have hg : (w.heap.size + 1) ≤ (w.heap.size + 1) := Nat.le_refl _
     simp only [er] at hKO; go_simp
     exact hKO _ _ hw ⟨(Ext.wr hS.1 hw (by omega)), (hS.2.1.wr hw), (hS.2.2.1.wr hw (by omega)), (hS.2.2.2.1.wr hw), (hS.2.2.2.2.1.wr hw), (hS.2.2.2.2.2.1.wr hw), (hS.2.2.2.2.2.2.1.wr hw), (hS.2.2.2.2.2.2.2.1.wr hw), (hS.2.2.2.2.2.2.2.2.1.wr hw), (hS.2.2.2.2.2.2.2.2.2.1.wr hw), (hS.2.2.2.2.2.2.2.2.2.2.1.wr hw), (Nat.le_trans hS.2.2.2.2.2.2.2.2.2.2.2 hw.apart.size)⟩ ⟨b3, a3, n3, c3, er, hq⟩
   intro vs W7 hS hp
   clear szw7 E0 h1 p2 fp4 h3_6 h3_8 h4_5 h4_6 h4_8 h4_9 hz
   obtain ⟨E0, h1, p2, fp4, h3_6, h3_8, h4_5, h4_6, h4_8, h4_9, hz, sz7⟩ := hS
   obtain ⟨h7_0, h7_1, h7_2, h7_3, h7_4, -⟩ := hp
   obtain ⟨b7_3, a7_3, n7_3, c7_3, er7_3, p7_3⟩ := h7_3
   replace er7_3 : vs 2 = _ := er7_3; replace h7_2 := (show Zw W7 (vs 2) (-((N / Q : Nat) : Int)) from h7_2)
   rw [er7_3] at h7_2
   simp only [er7_3, isOf h7_0, isOf h7_1, isOf h7_4]
   obtain ⟨k2a, k2b, k2c⟩ := p2.c3
   obtain ⟨k7_3a, k7_3b⟩ := p7_3.c2
   go_wp2
   exact bodyPost_ret (v := .tuple #[.agg #[.bool b7_3, .slice a7_3 n7_3 c7_3], .int .i64 0]) (by simp [results, Tryz.results161, go_sem, k7_3a, k7_3b]) rfl ⟨_, rfl, (h7_2.eq HF.out), E0⟩
 ·obtain rfl : b1 = false := by rw [HB.out]; exact decide_eq_false hx
  have HF : Hid (((N / Q : Nat) : Int) = (x * P2 K).floor) := Lib.hid (by rw [floor_pos hx, ← HN.out, ← HQ.out])
  have hz := Zw.ofN h4_8
  clear zr zq hx
  obtain ⟨k2a, k2b, k2c⟩ := p2.c3
  obtain ⟨k4a, k4b⟩ := p4.c2
  go_upto_region 6 with (fail)
  clear k2a k2b k2c k4a k4b; have fp4 := p4.form; have szw8 := Ext.size E0
  refine region_gs [isV (.slice aq nq cq), isV (.agg #[.bool false, .slice aq nq cq]),
    .own fun W => Bx2 W (w.heap.size + 1) 59 (.bool false) (.slice aq nq cq),
    isV (.int .i64 0)]
   (fun W => Ext w W ∧ Rw W (.agg #[.bool false, .slice a1 n1 c1, .slice d1 m1 o1]) x ∧ Bx3 W w.heap.size 61 (.bool false) (.slice a1 n1 c1) (.slice d1 m1 o1) ∧ Form W (w.heap.size + 1) 59 2 ∧ Nw W u3_6 N ∧ Nw W u3_8 N ∧ Nw W u4_5 (N / Q) ∧ Nw W u4_6 (N % Q) ∧ Nw W (.slice aq nq cq) (N / Q) ∧ Nw W (.slice ar nr cr) (N % Q) ∧ Zw W (.agg #[.bool false, .slice aq nq cq]) (((N / Q : Nat) : Int)) ∧ W4.heap.size ≤ W.heap.size) ⟨Good.is _, Good.is _, cert_bx2, Good.is _, trivial⟩
   ⟨E0, h1, p2, fp4, h3_6, h3_8, h4_5, h4_6, h4_8, h4_9, hz, Nat.le_refl _⟩ (A := ?A8) ?hA8 ?howe8 ?hfin8
  case hA8 =>
   intro vs
   simp only [putAll, Act.put, sA, sZ, sS, Nat.zero_add, Nat.reduceAdd]
   exact rfl
  case howe8 =>
   clear E0 h1 p2 fp4 h3_6 h3_8 h4_5 h4_6 h4_8 h4_9 hz
   intro hf
   refine ⟨oP0 0 [] hf rfl, oP1 1 [0] hf rfl, oW 2 [1] hf rfl ?_, oP0 3 [] hf rfl, trivial⟩
   all_goals intro vs W hS hp hx KO hKO
   all_goals simp only [Act.put] at hKO
   ·have e1 := isOf hp.1; simp only [e1] at hKO
    have hf := hS.2.2.2.1
    obtain ⟨x0, y0, hx, hno⟩ := hf.bx2
    have r0 := hx.froz0
    have t0 := hx.cell0
    have r1 := hx.froz1
    have t1 := hx.cell1
    have hw := Wr.set2 hx hno false aq nq cq
    have hq := hx.set (.bool false) (.slice aq nq cq)
    have hg : (w.heap.size + 1) ≤ (w.heap.size + 1) := Nat.le_refl _
    go_simp
    exact hKO _ _ hw ⟨(Ext.wr hS.1 hw (by omega)), (hS.2.1.wr hw), (hS.2.2.1.wr hw (by omega)), (hS.2.2.2.1.wr hw), (hS.2.2.2.2.1.wr hw), (hS.2.2.2.2.2.1.wr hw), (hS.2.2.2.2.2.2.1.wr hw), (hS.2.2.2.2.2.2.2.1.wr hw), (hS.2.2.2.2.2.2.2.2.1.wr hw), (hS.2.2.2.2.2.2.2.2.2.1.wr hw), (hS.2.2.2.2.2.2.2.2.2.2.1.wr hw), (Nat.le_trans hS.2.2.2.2.2.2.2.2.2.2.2 hw.apart.size)⟩ hq
  intro vs W8 hS hp
  clear szw8 E0 h1 p2 fp4 h3_6 h3_8 h4_5 h4_6 h4_8 h4_9 hz
  obtain ⟨E0, h1, p2, fp4, h3_6, h3_8, h4_5, h4_6, h4_8, h4_9, hz, sz8⟩ := hS
  obtain ⟨h8_0, h8_1, h8_2, h8_3, -⟩ := hp
  have p8_2 : Bx2 W8 (w.heap.size + 1) 59 (.bool false) (.slice aq nq cq) := h8_2
  simp only [isOf h8_0, isOf h8_1, isOf h8_3]
  obtain ⟨k2a, k2b, k2c⟩ := p2.c3
  obtain ⟨k8_2a, k8_2b⟩ := p8_2.c2
  go_wp2
  exact bodyPost_ret (v := .tuple #[.agg #[.bool false, .slice aq nq cq], .int .i64 0]) (by simp [results, Tryz.results161, go_sem, k8_2a, k8_2b]) rfl ⟨_, rfl, (hz.eq HF.out), E0⟩

set_option maxRecDepth 100000 in
set_option maxHeartbeats 400000 in
theorem Tryz.refCeil {v1 : Value} {x : Rat} {L : Nat} {w : World} (h1 : Rw w v1 x) (s1 : SmR L x) (hL : L ≤ 200) (K : Nat) (hK : K ≤ 2000) :
  Calls Tryz.prog 162 #[v1, .int .i64 (K : Int)] w fun e w' => ∃ v', e = .returned (.tuple #[v', .int .i64 0]) ∧ Zw w' v' (x * P2 K).ceil ∧ Ext w w' := by
 obtain ⟨b1, a1, n1, c1, d1, m1, o1, rfl, q1⟩ : ∃ b a n c d m o, v1 = .agg #[.bool b, .slice a n c, .slice d m o] ∧ True := let ⟨b, a, n, c, d, m, o, e, _⟩ := h1; ⟨b, a, n, c, d, m, o, e, trivial⟩
 clear q1; rw [ceil_eq]
 obtain ⟨W0, hW0, E0, p2, p4⟩ := boxed2 w 61 #[.bool b1, .slice a1 n1 c1, .slice d1 m1 o1] 59 #[.bool false, .slice none 0 0]
 replace p2 := p2.b3
 replace p4 := p4.b2
 replace h1 : Rw W0 (.agg #[.bool b1, .slice a1 n1 c1, .slice d1 m1 o1]) x := h1.ext E0
 go_enter Tryz.func162, Tryz.ntmps162
 obtain ⟨k2a, k2b, k2c⟩ := p2.c3
 obtain ⟨k4a, k4b⟩ := p4.c2
 go_upto_region 1 with (fail)
 rw [← hW0]
 clear hW0; clear k2a k2b k2c k4a k4b; have ltp2 := p2.lt; have ltp4 := p4.lt; have szw9 := Ext.size E0
 refine region_gs [isV (.agg #[.bool b1, .slice a1 n1 c1, .slice d1 m1 o1]),
   .one fun v W => Rw W v (-x),
   isV (.int .i64 (K : Int)),
   .one fun v W => ∃ v', v = .tuple #[v', .int .i64 0] ∧ (fun v W => Zw W v ((-x * P2 K).floor)) v' W,
   .one fun v W => ∃ v', v = .tuple #[v', .int .i64 0] ∧ (fun v W => Zw W v ((-x * P2 K).floor)) v' W,
   .one fun v W => Zw W v ((-x * P2 K).floor),
   isV (.int .i64 0),
   .one fun v W => ∃ g, v = .pointer (some ⟨g, 0, none⟩) ∧ W0.heap.size ≤ g ∧ Form W g 59 2,
   .three 7 5 (fun p r _ W => Put2 W0.heap.size 59 p r W),
   isV (.int .i64 0)]
  (fun W => Ext w W ∧ Rw W (.agg #[.bool b1, .slice a1 n1 c1, .slice d1 m1 o1]) x ∧ Bx3 W w.heap.size 61 (.bool b1) (.slice a1 n1 c1) (.slice d1 m1 o1) ∧ Bx2 W (w.heap.size + 1) 59 (.bool false) (.slice none 0 0) ∧ W0.heap.size ≤ W.heap.size) ⟨Good.is _, Good.rat _, Good.is _, (Good.zed _).tup _, (Good.zed _).tup _, Good.zed _, Good.is _, Good.box _ _ _, cert_put2, Good.is _, trivial⟩
  ⟨E0, h1, p2, p4, Nat.le_refl _⟩ (A := ?A9) ?hA9 ?howe9 ?hfin9
 case hA9 =>
  intro vs
  simp only [putAll, Act.put, sA, sZ, sS, Nat.zero_add, Nat.reduceAdd]
  exact rfl
 case howe9 =>
  clear E0 h1 p2 p4
  intro hf
  refine ⟨oE 0 [] hf rfl ?_, oE 1 [0] hf rfl ?_, oP0 2 [] hf rfl, oE 3 [1, 2] hf rfl ?_, oE 4 [3] hf rfl ?_, oE 5 [4] hf rfl ?_, oE 6 [4] hf rfl ?_, oE 7 [] hf rfl ?_, oW 8 [7, 5] hf rfl ?_, oP1 9 [6] hf rfl, trivial⟩
  all_goals intro vs W hS hp hx KO hKO
  all_goals simp only [Act.put, sA, sZ, sS] at hKO
  ·have fc0 := hS.2.2.1.cell0; have fc1 := hS.2.2.1.cell1; have fc2 := hS.2.2.1.cell2; go_simp; exact hKO _ W (.refl W) rfl
  ·have e0 := isOf hp.1; simp only [e0] at hKO; go_simp
   refine (Tryz.refRNeg (hS.2.1)).mono ?_
   rintro e W1 ⟨v, rfl, hv, hE⟩
   exact hKO _ W1 hE hv
  ·have q1 := hp.1; have e2 := isOf hp.2.1; simp only [e2] at hKO; go_simp
   refine (Tryz.refFloor q1 s1.neg hL K hK).mono ?_
   rintro e W1 ⟨v, rfl, hv, hE⟩
   exact hKO _ W1 hE ⟨_, rfl, hv⟩
  ·have q3 := hp.1
   obtain ⟨u, ev, hu⟩ := q3
   replace ev : vs 3 = _ := ev; simp only [ev] at hKO; go_simp; exact hKO _ W (Ext.refl W) ⟨u, rfl, hu⟩
  ·have q4 := hp.1
   obtain ⟨u, ev, hu⟩ := q4
   replace ev : vs 4 = _ := ev; simp only [ev] at hKO; go_simp; exact hKO _ W (Ext.refl W) hu
  ·have q4 := hp.1
   obtain ⟨u, ev, hu⟩ := q4
   replace ev : vs 4 = _ := ev; simp only [ev] at hKO; go_simp; exact hKO _ W (.refl W) rfl
  ·have hn := Bx2.new W 59 (.bool false) (.slice none 0 0)
   have hE := Ext.alloc1 W (.cells #[.bool false, .slice none 0 0] 59)
   have hsz := hS.2.2.2.2
   go_simp
   exact hKO _ _ hE ⟨_, rfl, hsz, hn.form⟩
  ·have q7 := hp.1; have q5 := hp.2.1
   obtain ⟨g, ev, hg, hf⟩ := q7
   replace ev : vs 7 = _ := ev
   obtain ⟨x0, y0, hx, hno⟩ := hf.bx2
   have qr := q5
   obtain ⟨b3, a3, n3, c3, er, -, -⟩ := qr
   replace er : vs 5 = _ := er
   have r0 := hx.froz0
   have t0 := hx.cell0
   have r1 := hx.froz1
   have t1 := hx.cell1
   have hw := Wr.set2 hx hno b3 a3 n3 c3
   have hq := hx.set (.bool b3) (.slice a3 n3 c3)
   simp only [ev, er] at hKO; go_simp
   exact hKO _ _ hw ⟨(Ext.wr hS.1 hw (by omega)), (hS.2.1.wr hw), (hS.2.2.1.wr hw (by omega)), (hS.2.2.2.1.wr hw (by omega)), (Nat.le_trans hS.2.2.2.2 hw.apart.size)⟩ ⟨g, b3, a3, n3, c3, ev, er, hg, hq⟩
 intro vs W9 hS hp
 clear szw9 E0 h1 p2 p4
 obtain ⟨E0, h1, p2, p4, sz9⟩ := hS
 obtain ⟨h9_0, h9_1, h9_2, h9_3, h9_4, h9_5, h9_6, h9_7, h9_8, h9_9, -⟩ := hp
 obtain ⟨g9_8, b9_8, a9_8, n9_8, c9_8, ev9_8, er9_8, hg9_8, p9_8⟩ := h9_8
 replace ev9_8 : vs 7 = _ := ev9_8; replace er9_8 : vs 5 = _ := er9_8; replace h9_5 := (show Zw W9 (vs 5) ((-x * P2 K).floor) from h9_5)
 rw [er9_8] at h9_5
 simp only [ev9_8, er9_8, isOf h9_0, isOf h9_2, isOf h9_6, isOf h9_9]
 replace h9_1 : Rw W9 (vs 1) (-x) := h9_1
 generalize vs 1 = u9_1 at h9_1 ⊢
 obtain ⟨k2a, k2b, k2c⟩ := p2.c3
 obtain ⟨k4a, k4b⟩ := p4.c2
 obtain ⟨k9_8a, k9_8b⟩ := p9_8.c2
 go_upto_region 2 with (fail)
 clear k2a k2b k2c k4a k4b k9_8a k9_8b; have fp4 := p4.form; have ltp9_8 := p9_8.lt; have szw10 := Ext.size E0
 refine region_gs [isV (.agg #[.bool b9_8, .slice a9_8 n9_8 c9_8]),
   .one fun v W => Zw W v (-(-x * P2 K).floor),
   isV (.int .i64 0),
   .two 1 (fun r _ W => At2 (w.heap.size + 1) 59 r W),
   isV (.int .i64 0)]
  (fun W => Ext w W ∧ Rw W (.agg #[.bool b1, .slice a1 n1 c1, .slice d1 m1 o1]) x ∧ Bx3 W w.heap.size 61 (.bool b1) (.slice a1 n1 c1) (.slice d1 m1 o1) ∧ Form W (w.heap.size + 1) 59 2 ∧ Zw W (.agg #[.bool b9_8, .slice a9_8 n9_8 c9_8]) ((-x * P2 K).floor) ∧ Bx2 W g9_8 59 (.bool b9_8) (.slice a9_8 n9_8 c9_8) ∧ Rw W u9_1 (-x) ∧ W9.heap.size ≤ W.heap.size) ⟨Good.is _, Good.zed _, Good.is _, cert_at2, Good.is _, trivial⟩
  ⟨E0, h1, p2, fp4, h9_5, p9_8, h9_1, Nat.le_refl _⟩ (A := ?A10) ?hA10 ?howe10 ?hfin10
 case hA10 =>
  intro vs
  simp only [putAll, Act.put, sA, sZ, sS, Nat.zero_add, Nat.reduceAdd]
  exact rfl
 case howe10 =>
  clear E0 h1 p2 fp4 h9_5 p9_8 h9_1
  intro hf
  refine ⟨oE 0 [] hf rfl ?_, oE 1 [0] hf rfl ?_, oP0 2 [] hf rfl, oW 3 [1] hf rfl ?_, oP1 4 [2] hf rfl, trivial⟩
  all_goals intro vs W hS hp hx KO hKO
  all_goals simp only [Act.put, sA, sZ, sS] at hKO
  ·have fc0 := hS.2.2.2.2.2.1.cell0; have fc1 := hS.2.2.2.2.2.1.cell1; go_simp; exact hKO _ W (.refl W) rfl
  ·have e0 := isOf hp.1; simp only [e0] at hKO; go_simp
   refine (Tryz.refNeg (hS.2.2.2.2.1)).mono ?_
   rintro e W1 ⟨v, rfl, hv, hE⟩
   exact hKO _ W1 hE hv
  ·have q1 := hp.1
   have hf := hS.2.2.2.1
   obtain ⟨x0, y0, hx, hno⟩ := hf.bx2
   have qr := q1
   obtain ⟨b3, a3, n3, c3, er, -, -⟩ := qr
   replace er : vs 1 = _ := er
   have r0 := hx.froz0
   have t0 := hx.cell0
   have r1 := hx.froz1
   have t1 := hx.cell1
   have hw := Wr.set2 hx hno b3 a3 n3 c3
   have hq := hx.set (.bool b3) (.slice a3 n3 c3)
   have hg : (w.heap.size + 1) ≤ (w.heap.size + 1) := Nat.le_refl _
   simp only [er] at hKO; go_simp
   exact hKO _ _ hw ⟨(Ext.wr hS.1 hw (by omega)), (hS.2.1.wr hw), (hS.2.2.1.wr hw (by omega)), (hS.2.2.2.1.wr hw), (hS.2.2.2.2.1.wr hw), (hS.2.2.2.2.2.1.wr hw (by omega)), (hS.2.2.2.2.2.2.1.wr hw), (Nat.le_trans hS.2.2.2.2.2.2.2 hw.apart.size)⟩ ⟨b3, a3, n3, c3, er, hq⟩
 intro vs W10 hS hp
 clear szw10 E0 h1 p2 fp4 h9_5 p9_8 h9_1
 obtain ⟨E0, h1, p2, fp4, h9_5, p9_8, h9_1, sz10⟩ := hS
 obtain ⟨h10_0, h10_1, h10_2, h10_3, h10_4, -⟩ := hp
 obtain ⟨b10_3, a10_3, n10_3, c10_3, er10_3, p10_3⟩ := h10_3
 replace er10_3 : vs 1 = _ := er10_3; replace h10_1 := (show Zw W10 (vs 1) (-(-x * P2 K).floor) from h10_1)
 rw [er10_3] at h10_1
 simp only [er10_3, isOf h10_0, isOf h10_2, isOf h10_4]
 obtain ⟨k2a, k2b, k2c⟩ := p2.c3
 obtain ⟨k9_8a, k9_8b⟩ := p9_8.c2
 obtain ⟨k10_3a, k10_3b⟩ := p10_3.c2
 go_wp2
 exact bodyPost_ret (v := .tuple #[.agg #[.bool b10_3, .slice a10_3 n10_3 c10_3], .int .i64 0]) (by simp [results, Tryz.results162, go_sem, k10_3a, k10_3b]) rfl ⟨_, rfl, h10_1, E0⟩

end Go.Rt
