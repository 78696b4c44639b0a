/-
 Intervals: between two multiples of a grid; roots, outward; a quotient by nought; the live question.
-/
import Derived.Test.YthmncdhibcoiaaaGreatSqz
import Derived.Test.YthmncdhibcoiaaaGreatIvA
import Derived.Test.YthmncdhibcoiaaaGreatDyadC
import Derived.Test.YthmncdhibcoiaaaGreatGG
import Derived.Test.YthmncdhibcoiaaaGreatGT
import Derived.Test.YthmncdhibcoiaaaGreatGQ
namespace Go.Rt
open Go Go.RowKit Go.Proofs

/-- a root's lower end, and its upper one, in steps of a grid -/
noncomputable def sqLo (x : Rat) (K : Nat) : Nat := rootV (x.num.natAbs * 2 ^ (2 * K) / x.den) 2

noncomputable def sqHi (x : Rat) (K : Nat) : Nat := rootU (x.num.natAbs * 2 ^ (2 * K) / x.den + (if x.num.natAbs * 2 ^ (2 * K) % x.den = 0 then 0 else 1)) 2

noncomputable def sqS (p : Rat × Rat) (K : Nat) : Rat × Rat := (((sqLo p.1 K : Int) : Rat) / P2 K, ((sqHi p.2 K : Int) : Rat) / P2 K)

theorem rootV_sm {L A : Nat} (s : Sm L A) : Sm L (rootV A 2) := by
 unfold rootV
 rw [if_pos (by omega)]
 exact s.le (rt_le (by decide))

theorem rootU_sm {L A : Nat} (s : Sm L A) : Sm (L + 1) (rootU A 2) := by
 rw [rootU_in (by omega)]
 exact rtUp_sm (by decide) s

/-- is there such a grid? -/
def gridB (k : Int) : Bool := decide (0 ≤ k ∧ k ≤ 1000)

theorem Tryz.ivGrid (k : Int) (w : World) : Calls Tryz.prog 45 #[.int .i64 k] w fun e w' => e = .returned (.bool (gridB k)) ∧ w = w' := by
 by_cases h1 : 0 ≤ k
 ·by_cases h2 : k ≤ 1000
  ·have HR : Hid (true = gridB k) := Lib.hid (decide_eq_true (p := 0 ≤ k ∧ k ≤ 1000) ⟨h1, h2⟩).symm
   go_enter Tryz.func45, Tryz.ntmps45
   go_wp2; go_ret
   exact ⟨ret_b HR.out, rfl⟩
  ·have HR : Hid (false = gridB k) := Lib.hid (decide_eq_false (p := 0 ≤ k ∧ k ≤ 1000) (by omega)).symm
   go_enter Tryz.func45, Tryz.ntmps45
   go_wp2; go_ret
   exact ⟨ret_b HR.out, rfl⟩
 ·have HR : Hid (false = gridB k) := Lib.hid (decide_eq_false (p := 0 ≤ k ∧ k ≤ 1000) (by omega)).symm
  go_enter Tryz.func45, Tryz.ntmps45
  go_wp2; go_ret
  exact ⟨ret_b HR.out, rfl⟩

theorem sm_succ {L M N : Nat} (h : Sm L N) (hL : L < M) : Sm M (N + 1) := by
 unfold Sm at *
 have h1 : B64 ^ L < B64 ^ M := Nat.pow_lt_pow_right (by rw [B64_eq]; omega) hL
 omega

theorem num_lt0 {x : Rat} : x.num < 0 ↔ x < 0 := by rw [← Int.not_le, ← Rat.not_le, Rat.num_nonneg]

theorem Rw.sign {w : World} {b : Bool} {a : Option Addr} {n c : Nat} {d : Option Addr} {m o : Nat} {x : Rat} (h : Rw w (.agg #[.bool b, .slice a n c, .slice d m o]) x) : b = decide (x < 0) := by
 have h1 := h.top
 obtain ⟨_, _, _, _, e, hb, -⟩ := h1
 cases e
 rw [hb.out, Bool.eq_iff_iff, decide_eq_true_iff, decide_eq_true_iff]
 exact num_lt0

theorem Sw.sign {w : World} {v : Value} {p : Rat × Rat} (h : Sw w v p) : (∀ {b a n c d m o b2 a2 n2 c2 d2 m2 o2} (_ : v = .agg #[.bool b, .slice a n c, .slice d m o, .bool b2, .slice a2 n2 c2, .slice d2 m2 o2]), 0 ≤ p.1 → b = false) ∧ True := by
 refine ⟨fun e hp => ?_, trivial⟩
 subst e
 rw [h.lo.sign]
 exact decide_eq_false (Rat.not_lt.2 hp)

set_option maxRecDepth 100000 in
set_option maxHeartbeats 8000000 in
theorem Tryz.ivBetween {v1 v2 : Value} {x y : Int} {L : Nat} {w : World} (h1 : Zw w v1 x) (h2 : Zw w v2 y) (s1 : Sm L x.natAbs) (s2 : Sm L y.natAbs) (hL : L ≤ 200) (K : Nat) (hK : K ≤ 2000) :
  Calls Tryz.prog 52 #[v1, v2, .int .i64 (K : Int)] w fun e w' => ∃ v', e = .returned v' ∧ Sw w' v' ((x : Rat) / P2 K, (y : Rat) / P2 K) ∧ Ext w w' := by
 obtain ⟨b1, a1, n1, c1, rfl, q1⟩ : ∃ b a n c, v1 = .agg #[.bool b, .slice a n c] ∧ True := let ⟨b, a, n, c, e, _⟩ := h1; ⟨b, a, n, c, e, trivial⟩
 clear q1
 obtain ⟨b2, a2, n2, c2, rfl, q2⟩ : ∃ b a n c, v2 = .agg #[.bool b, .slice a n c] ∧ True := let ⟨b, a, n, c, e, _⟩ := h2; ⟨b, a, n, c, e, trivial⟩
 clear q2
 have HK := Lib.hid hK
 clear hK
 obtain ⟨W0, hW0⟩ : ∃ W0, W0 = (((w.alloc (.cells #[.bool b1, .slice a1 n1 c1] 25)).alloc (.cells #[.bool b2, .slice a2 n2 c2] 25)).alloc (.cells #[.bool false, .slice none 0 0, .slice none 0 0, .bool false, .slice none 0 0, .slice none 0 0] 29)) := ⟨_, rfl⟩
 have E0 : Ext w W0 := by rw [hW0]; exact (((Ext.alloc1 w (.cells #[.bool b1, .slice a1 n1 c1] 25)).alloc (.cells #[.bool b2, .slice a2 n2 c2] 25)).alloc (.cells #[.bool false, .slice none 0 0, .slice none 0 0, .bool false, .slice none 0 0, .slice none 0 0] 29))
 replace h1 : Zw W0 (.agg #[.bool b1, .slice a1 n1 c1]) x := h1.ext E0
 replace h2 : Zw W0 (.agg #[.bool b2, .slice a2 n2 c2]) y := h2.ext E0
 have p3 : Bx2 W0 w.heap.size 25 (.bool b1) (.slice a1 n1 c1) := by rw [hW0]; exact (Bx2.new w 25 (.bool b1) (.slice a1 n1 c1)).ext ((Ext.alloc1 (w.alloc (.cells #[.bool b1, .slice a1 n1 c1] 25)) (.cells #[.bool b2, .slice a2 n2 c2] 25)).alloc (.cells #[.bool false, .slice none 0 0, .slice none 0 0, .bool false, .slice none 0 0, .slice none 0 0] 29))
 have p4 : Bx2 W0 (w.heap.size + 1) 25 (.bool b2) (.slice a2 n2 c2) := by rw [hW0]; simpa using (Bx2.new (w.alloc (.cells #[.bool b1, .slice a1 n1 c1] 25)) 25 (.bool b2) (.slice a2 n2 c2)).ext (Ext.alloc1 ((w.alloc (.cells #[.bool b1, .slice a1 n1 c1] 25)).alloc (.cells #[.bool b2, .slice a2 n2 c2] 25)) (.cells #[.bool false, .slice none 0 0, .slice none 0 0, .bool false, .slice none 0 0, .slice none 0 0] 29))
 have p6 : Bx6 W0 (w.heap.size + 1 + 1) 29 (.bool false) (.slice none 0 0) (.slice none 0 0) (.bool false) (.slice none 0 0) (.slice none 0 0) := by rw [hW0]; simpa using (Bx6.new ((w.alloc (.cells #[.bool b1, .slice a1 n1 c1] 25)).alloc (.cells #[.bool b2, .slice a2 n2 c2] 25)) 29 (.bool false) (.slice none 0 0) (.slice none 0 0) (.bool false) (.slice none 0 0) (.slice none 0 0))
 go_enter Tryz.func52, Tryz.ntmps52
 obtain ⟨kp3_0, kp3_1⟩ := p3.c2
 obtain ⟨kp4_0, kp4_1⟩ := p4.c2
 obtain ⟨kp6_0, kp6_1, kp6_2, kp6_3, kp6_4, kp6_5⟩ := p6.c6
 go_upto_region 1 with (fail)
 rw [← hW0]
 clear hW0; clear kp3_0 kp3_1 kp4_0 kp4_1 kp6_0 kp6_1 kp6_2 kp6_3 kp6_4 kp6_5; have ltp3 := p3.lt; have ltp4 := p4.lt; have ltp6 := p6.lt; have szw1 := Ext.size E0
 refine region_gs [.one fun v _ => v = .agg #[.bool b1, .slice a1 n1 c1],
   .one fun v _ => v = .int .i64 (K : Int),
   .one fun v W => ∃ v', v = .tuple #[v', .int .i64 0] ∧ (fun v W => Rw W v ((x : Rat) / P2 K)) v' W,
   .one fun v W => ∃ v', v = .tuple #[v', .int .i64 0] ∧ (fun v W => Rw W v ((x : Rat) / P2 K)) v' W,
   .one fun v W => Rw W v ((x : Rat) / P2 K),
   .one fun v _ => v = .int .i64 0,
   .one fun v W => ∃ g, v = .pointer (some ⟨g, 0, none⟩) ∧ W0.heap.size ≤ g ∧ Form W g 27 3,
   .three 6 4 (fun p r _ W => Put3 W0.heap.size 27 p r W),
   .one fun v _ => v = .int .i64 0]
  (fun W => Ext w W ∧ Zw W (.agg #[.bool b1, .slice a1 n1 c1]) x ∧ Zw W (.agg #[.bool b2, .slice a2 n2 c2]) y ∧ Bx2 W w.heap.size 25 (.bool b1) (.slice a1 n1 c1) ∧ Bx2 W (w.heap.size + 1) 25 (.bool b2) (.slice a2 n2 c2) ∧ Bx6 W (w.heap.size + 1 + 1) 29 (.bool false) (.slice none 0 0) (.slice none 0 0) (.bool false) (.slice none 0 0) (.slice none 0 0) ∧ W0.heap.size ≤ W.heap.size) ⟨Good.is _, Good.is _, (Good.rat _).tup _, (Good.rat _).tup _, Good.rat _, Good.is _, Good.box _ _ _, cert_put3, Good.is _, trivial⟩
  ⟨E0, h1, h2, p3, p4, p6, Nat.le_refl _⟩ (A := ?A1) ?hA1 ?howe1 ?hfin1
 case hA1 =>
  intro vs
  simp only [putAll, Act.put, sA, sZ, sS, Nat.zero_add, Nat.reduceAdd]
  exact rfl
 case howe1 =>
  clear E0 h1 h2 p3 p4 p6
  intro hf
  refine ⟨oE 0 [] hf rfl ?_, oE 1 [] hf rfl ?_, oE 2 [0, 1] hf rfl ?_, oE 3 [2] hf rfl ?_, oE 4 [3] hf rfl ?_, oE 5 [3] hf rfl ?_, oE 6 [] hf rfl ?_, oW 7 [6, 4] hf rfl ?_, oE 8 [5] hf rfl ?_, trivial⟩
  all_goals intro vs W hS hp hx KO hKO
  all_goals simp only [Act.put, sA, sZ, sS] at hKO
  ·have fc0 := hS.2.2.2.1.cell0; have fc1 := hS.2.2.2.1.cell1; go_simp; exact hKO _ W (.refl W) rfl
  ·go_simp; exact hKO _ W (.refl W) rfl
  ·have e0 := isOf hp.1; have e1 := isOf hp.2.1; simp only [e0, e1] at hKO; go_simp
   refine (Tryz.dyadBack (hS.2.1) s1 hL K HK.out).mono ?_
   rintro e W1 ⟨v, rfl, hv, hE⟩
   exact hKO _ W1 hE ⟨_, rfl, hv⟩
  ·have q2 := hp.1
   obtain ⟨u, ev, hu⟩ := q2
   replace ev : vs 2 = _ := ev; simp only [ev] at hKO; go_simp; exact hKO _ W (Ext.refl W) ⟨u, rfl, hu⟩
  ·have q3 := hp.1
   obtain ⟨u, ev, hu⟩ := q3
   replace ev : vs 3 = _ := ev; simp only [ev] at hKO; go_simp; exact hKO _ W (Ext.refl W) hu
  ·have q3 := hp.1
   obtain ⟨u, ev, hu⟩ := q3
   replace ev : vs 3 = _ := ev; simp only [ev] at hKO; go_simp; exact hKO _ W (.refl W) rfl
  ·have hn := Bx3.new W 27 (.bool false) (.slice none 0 0) (.slice none 0 0)
   have hE := Ext.alloc1 W (.cells #[.bool false, .slice none 0 0, .slice none 0 0] 27)
   have hsz := hS.2.2.2.2.2.2
   go_simp
   exact hKO _ _ hE ⟨_, rfl, hsz, hn.form⟩
  ·have q6 := hp.1; have q4 := hp.2.1
   obtain ⟨g, ev, hg, hf⟩ := q6
   replace ev : vs 6 = _ := ev
   obtain ⟨x0_0, x0_1, x0_2, hx, hno⟩ := hf.bx3
   have qr := q4
   obtain ⟨b3, a3, n3, c3, d3, m3, o3, er, -, -, -⟩ := qr
   replace er : vs 4 = _ := er
   have r0 := hx.froz0
   have t0 := hx.cell0
   have r1 := hx.froz1
   have t1 := hx.cell1
   have r2 := hx.froz2
   have t2 := hx.cell2
   have hw := Wr.set3 hx hno b3 a3 n3 c3 d3 m3 o3
   have hq := hx.set (.bool b3) (.slice a3 n3 c3) (.slice d3 m3 o3)
   simp only [ev, er] at hKO; go_simp
   exact hKO _ _ hw ⟨(Ext.wr hS.1 hw (by omega)), (hS.2.1.wr hw), (hS.2.2.1.wr hw), (hS.2.2.2.1.wr hw (by omega)), (hS.2.2.2.2.1.wr hw (by omega)), (hS.2.2.2.2.2.1.wr hw (by omega)), (Nat.le_trans hS.2.2.2.2.2.2 hw.apart.size)⟩ ⟨g, b3, a3, n3, c3, d3, m3, o3, ev, er, hg, hq⟩
  ·have e5 := isOf hp.1; simp only [e5] at hKO; go_simp; exact hKO _ W (.refl W) rfl
 intro vs W1 hS hp
 clear szw1 E0 h1 h2 p3 p4 p6
 obtain ⟨E0, h1, h2, p3, p4, p6, sz1⟩ := hS
 obtain ⟨h1_0, h1_1, h1_2, h1_3, h1_4, h1_5, h1_6, h1_7, h1_8, -⟩ := hp
 obtain ⟨g1_7, b1_7, a1_7, n1_7, c1_7, d1_7, m1_7, o1_7, ev1_7, er1_7, hg1_7, p1_7⟩ := h1_7
 replace ev1_7 : vs 6 = _ := ev1_7; replace er1_7 : vs 4 = _ := er1_7; replace h1_4 := (show Rw W1 (vs 4) ((x : Rat) / P2 K) from h1_4)
 rw [er1_7] at h1_4
 replace h1_0 : vs 0 = .agg #[.bool b1, .slice a1 n1 c1] := h1_0
 replace h1_1 : vs 1 = .int .i64 (K : Int) := h1_1
 replace h1_5 : vs 5 = .int .i64 0 := h1_5
 replace h1_8 : vs 8 = .int .i64 0 := h1_8
 simp only [ev1_7, er1_7, h1_0, h1_1, h1_5, h1_8]
 clear ev1_7 er1_7 h1_0 h1_1 h1_5 h1_8 h1_2 h1_3 h1_6
 obtain ⟨kp3_0, kp3_1⟩ := p3.c2
 obtain ⟨kp4_0, kp4_1⟩ := p4.c2
 obtain ⟨kp6_0, kp6_1, kp6_2, kp6_3, kp6_4, kp6_5⟩ := p6.c6
 obtain ⟨kp1_7_0, kp1_7_1, kp1_7_2⟩ := p1_7.c3
 go_upto_region 2 with (fail)
 clear kp3_0 kp3_1 kp4_0 kp4_1 kp6_0 kp6_1 kp6_2 kp6_3 kp6_4 kp6_5 kp1_7_0 kp1_7_1 kp1_7_2; have ltp1_7 := p1_7.lt; have szw2 := Ext.size E0
 refine region_gs [.one fun v _ => v = .agg #[.bool b2, .slice a2 n2 c2],
   .one fun v _ => v = .int .i64 (K : Int),
   .one fun v W => ∃ v', v = .tuple #[v', .int .i64 0] ∧ (fun v W => Rw W v ((y : Rat) / P2 K)) v' W,
   .one fun v W => ∃ v', v = .tuple #[v', .int .i64 0] ∧ (fun v W => Rw W v ((y : Rat) / P2 K)) v' W,
   .one fun v W => Rw W v ((y : Rat) / P2 K),
   .one fun v _ => v = .int .i64 0,
   .one fun v W => ∃ g, v = .pointer (some ⟨g, 0, none⟩) ∧ W1.heap.size ≤ g ∧ Form W g 27 3,
   .three 6 4 (fun p r _ W => Put3 W1.heap.size 27 p r W),
   .one fun v _ => v = .int .i64 0]
  (fun W => Ext w W ∧ Zw W (.agg #[.bool b1, .slice a1 n1 c1]) x ∧ Zw W (.agg #[.bool b2, .slice a2 n2 c2]) y ∧ Bx2 W w.heap.size 25 (.bool b1) (.slice a1 n1 c1) ∧ Bx2 W (w.heap.size + 1) 25 (.bool b2) (.slice a2 n2 c2) ∧ Bx6 W (w.heap.size + 1 + 1) 29 (.bool false) (.slice none 0 0) (.slice none 0 0) (.bool false) (.slice none 0 0) (.slice none 0 0) ∧ Rw W (.agg #[.bool b1_7, .slice a1_7 n1_7 c1_7, .slice d1_7 m1_7 o1_7]) ((x : Rat) / P2 K) ∧ Bx3 W g1_7 27 (.bool b1_7) (.slice a1_7 n1_7 c1_7) (.slice d1_7 m1_7 o1_7) ∧ W1.heap.size ≤ W.heap.size) ⟨Good.is _, Good.is _, (Good.rat _).tup _, (Good.rat _).tup _, Good.rat _, Good.is _, Good.box _ _ _, cert_put3, Good.is _, trivial⟩
  ⟨E0, h1, h2, p3, p4, p6, h1_4, p1_7, Nat.le_refl _⟩ (A := ?A2) ?hA2 ?howe2 ?hfin2
 case hA2 =>
  intro vs
  simp only [putAll, Act.put, sA, sZ, sS, Nat.zero_add, Nat.reduceAdd]
  exact rfl
 case howe2 =>
  clear E0 h1 h2 p3 p4 p6 h1_4 p1_7
  intro hf
  refine ⟨oE 0 [] hf rfl ?_, oE 1 [] hf rfl ?_, oE 2 [0, 1] hf rfl ?_, oE 3 [2] hf rfl ?_, oE 4 [3] hf rfl ?_, oE 5 [3] hf rfl ?_, oE 6 [] hf rfl ?_, oW 7 [6, 4] hf rfl ?_, oE 8 [5] hf rfl ?_, trivial⟩
  all_goals intro vs W hS hp hx KO hKO
  all_goals simp only [Act.put, sA, sZ, sS] at hKO
  ·have fc0 := hS.2.2.2.2.1.cell0; have fc1 := hS.2.2.2.2.1.cell1; go_simp; exact hKO _ W (.refl W) rfl
  ·go_simp; exact hKO _ W (.refl W) rfl
  ·have e0 := isOf hp.1; have e1 := isOf hp.2.1; simp only [e0, e1] at hKO; go_simp
   refine (Tryz.dyadBack (hS.2.2.1) s2 hL K HK.out).mono ?_
   rintro e W1 ⟨v, rfl, hv, hE⟩
   exact hKO _ W1 hE ⟨_, rfl, hv⟩
  ·have q2 := hp.1
   obtain ⟨u, ev, hu⟩ := q2
   replace ev : vs 2 = _ := ev; simp only [ev] at hKO; go_simp; exact hKO _ W (Ext.refl W) ⟨u, rfl, hu⟩
  ·have q3 := hp.1
   obtain ⟨u, ev, hu⟩ := q3
   replace ev : vs 3 = _ := ev; simp only [ev] at hKO; go_simp; exact hKO _ W (Ext.refl W) hu
  ·have q3 := hp.1
   obtain ⟨u, ev, hu⟩ := q3
   replace ev : vs 3 = _ := ev; simp only [ev] at hKO; go_simp; exact hKO _ W (.refl W) rfl
  ·have hn := Bx3.new W 27 (.bool false) (.slice none 0 0) (.slice none 0 0)
   have hE := Ext.alloc1 W (.cells #[.bool false, .slice none 0 0, .slice none 0 0] 27)
   have hsz := hS.2.2.2.2.2.2.2.2
   go_simp
   exact hKO _ _ hE ⟨_, rfl, hsz, hn.form⟩
  ·have q6 := hp.1; have q4 := hp.2.1
   obtain ⟨g, ev, hg, hf⟩ := q6
   replace ev : vs 6 = _ := ev
   obtain ⟨x0_0, x0_1, x0_2, hx, hno⟩ := hf.bx3
   have qr := q4
   obtain ⟨b3, a3, n3, c3, d3, m3, o3, er, -, -, -⟩ := qr
   replace er : vs 4 = _ := er
   have r0 := hx.froz0
   have t0 := hx.cell0
   have r1 := hx.froz1
   have t1 := hx.cell1
   have r2 := hx.froz2
   have t2 := hx.cell2
   have hw := Wr.set3 hx hno b3 a3 n3 c3 d3 m3 o3
   have hq := hx.set (.bool b3) (.slice a3 n3 c3) (.slice d3 m3 o3)
   simp only [ev, er] at hKO; go_simp
   exact hKO _ _ hw ⟨(Ext.wr hS.1 hw (by omega)), (hS.2.1.wr hw), (hS.2.2.1.wr hw), (hS.2.2.2.1.wr hw (by omega)), (hS.2.2.2.2.1.wr hw (by omega)), (hS.2.2.2.2.2.1.wr hw (by omega)), (hS.2.2.2.2.2.2.1.wr hw), (hS.2.2.2.2.2.2.2.1.wr hw (by omega)), (Nat.le_trans hS.2.2.2.2.2.2.2.2 hw.apart.size)⟩ ⟨g, b3, a3, n3, c3, d3, m3, o3, ev, er, hg, hq⟩
  ·have e5 := isOf hp.1; simp only [e5] at hKO; go_simp; exact hKO _ W (.refl W) rfl
 intro vs W2 hS hp
 clear szw2 E0 h1 h2 p3 p4 p6 h1_4 p1_7
 obtain ⟨E0, h1, h2, p3, p4, p6, h1_4, p1_7, sz2⟩ := hS
 obtain ⟨h2_0, h2_1, h2_2, h2_3, h2_4, h2_5, h2_6, h2_7, h2_8, -⟩ := hp
 obtain ⟨g2_7, b2_7, a2_7, n2_7, c2_7, d2_7, m2_7, o2_7, ev2_7, er2_7, hg2_7, p2_7⟩ := h2_7
 replace ev2_7 : vs 6 = _ := ev2_7; replace er2_7 : vs 4 = _ := er2_7; replace h2_4 := (show Rw W2 (vs 4) ((y : Rat) / P2 K) from h2_4)
 rw [er2_7] at h2_4
 replace h2_0 : vs 0 = .agg #[.bool b2, .slice a2 n2 c2] := h2_0
 replace h2_1 : vs 1 = .int .i64 (K : Int) := h2_1
 replace h2_5 : vs 5 = .int .i64 0 := h2_5
 replace h2_8 : vs 8 = .int .i64 0 := h2_8
 simp only [ev2_7, er2_7, h2_0, h2_1, h2_5, h2_8]
 clear ev2_7 er2_7 h2_0 h2_1 h2_5 h2_8 h2_2 h2_3 h2_6
 obtain ⟨kp3_0, kp3_1⟩ := p3.c2
 obtain ⟨kp4_0, kp4_1⟩ := p4.c2
 obtain ⟨kp6_0, kp6_1, kp6_2, kp6_3, kp6_4, kp6_5⟩ := p6.c6
 obtain ⟨kp1_7_0, kp1_7_1, kp1_7_2⟩ := p1_7.c3
 obtain ⟨kp2_7_0, kp2_7_1, kp2_7_2⟩ := p2_7.c3
 go_upto_region 3 with (fail)
 clear kp3_0 kp3_1 kp4_0 kp4_1 kp6_0 kp6_1 kp6_2 kp6_3 kp6_4 kp6_5 kp1_7_0 kp1_7_1 kp1_7_2 kp2_7_0 kp2_7_1 kp2_7_2; have fp6 := p6.form; have ltp2_7 := p2_7.lt; have szw3 := Ext.size E0
 refine region_gs [.one fun v _ => v = .agg #[.bool b1_7, .slice a1_7 n1_7 c1_7, .slice d1_7 m1_7 o1_7],
   .one fun v _ => v = .agg #[.bool b2_7, .slice a2_7 n2_7 c2_7, .slice d2_7 m2_7 o2_7],
   .one fun v _ => v = .agg #[.bool b1_7, .slice a1_7 n1_7 c1_7, .slice d1_7 m1_7 o1_7, .bool b2_7, .slice a2_7 n2_7 c2_7, .slice d2_7 m2_7 o2_7],
   .own fun W => Bx6 W (w.heap.size + 1 + 1) 29 (.bool b1_7) (.slice a1_7 n1_7 c1_7) (.slice d1_7 m1_7 o1_7) (.bool b2_7) (.slice a2_7 n2_7 c2_7) (.slice d2_7 m2_7 o2_7)]
  (fun W => Ext w W ∧ Zw W (.agg #[.bool b1, .slice a1 n1 c1]) x ∧ Zw W (.agg #[.bool b2, .slice a2 n2 c2]) y ∧ Bx2 W w.heap.size 25 (.bool b1) (.slice a1 n1 c1) ∧ Bx2 W (w.heap.size + 1) 25 (.bool b2) (.slice a2 n2 c2) ∧ Form W (w.heap.size + 1 + 1) 29 6 ∧ Rw W (.agg #[.bool b1_7, .slice a1_7 n1_7 c1_7, .slice d1_7 m1_7 o1_7]) ((x : Rat) / P2 K) ∧ Bx3 W g1_7 27 (.bool b1_7) (.slice a1_7 n1_7 c1_7) (.slice d1_7 m1_7 o1_7) ∧ Rw W (.agg #[.bool b2_7, .slice a2_7 n2_7 c2_7, .slice d2_7 m2_7 o2_7]) ((y : Rat) / P2 K) ∧ Bx3 W g2_7 27 (.bool b2_7) (.slice a2_7 n2_7 c2_7) (.slice d2_7 m2_7 o2_7) ∧ W2.heap.size ≤ W.heap.size) ⟨Good.is _, Good.is _, Good.is _, cert_bx6, trivial⟩
  ⟨E0, h1, h2, p3, p4, fp6, h1_4, p1_7, h2_4, p2_7, Nat.le_refl _⟩ (A := ?A3) ?hA3 ?howe3 ?hfin3
 case hA3 =>
  intro vs
  simp only [putAll, Act.put, sA, sZ, sS, Nat.zero_add, Nat.reduceAdd]
  exact rfl
 case howe3 =>
  clear E0 h1 h2 p3 p4 fp6 h1_4 p1_7 h2_4 p2_7
  intro hf
  refine ⟨oE 0 [] hf rfl ?_, oE 1 [] hf rfl ?_, oE 2 [0, 1] hf rfl ?_, oW 3 [2] hf rfl ?_, trivial⟩
  all_goals intro vs W hS hp hx KO hKO
  all_goals simp only [Act.put, sA, sZ, sS] at hKO
  ·have fc0 := hS.2.2.2.2.2.2.2.1.cell0; have fc1 := hS.2.2.2.2.2.2.2.1.cell1; have fc2 := hS.2.2.2.2.2.2.2.1.cell2; go_simp; exact hKO _ W (.refl W) rfl
  ·have fc0 := hS.2.2.2.2.2.2.2.2.2.1.cell0; have fc1 := hS.2.2.2.2.2.2.2.2.2.1.cell1; have fc2 := hS.2.2.2.2.2.2.2.2.2.1.cell2; go_simp; exact hKO _ W (.refl W) rfl
  ·have e0 := isOf hp.1; have e1 := isOf hp.2.1; simp only [e0, e1] at hKO; go_simp; exact hKO _ W (.refl W) rfl
  ·have e2 := isOf hp.1; simp only [e2] at hKO
   have hf := hS.2.2.2.2.2.1
   obtain ⟨x0_0, x0_1, x0_2, x0_3, x0_4, x0_5, hx, hno⟩ := hf.bx6
   have r0 := hx.froz0
   have t0 := hx.cell0
   have r1 := hx.froz1
   have t1 := hx.cell1
   have r2 := hx.froz2
   have t2 := hx.cell2
   have r3 := hx.froz3
   have t3 := hx.cell3
   have r4 := hx.froz4
   have t4 := hx.cell4
   have r5 := hx.froz5
   have t5 := hx.cell5
   have hw := Wr.set6 hx hno b1_7 a1_7 n1_7 c1_7 d1_7 m1_7 o1_7 b2_7 a2_7 n2_7 c2_7 d2_7 m2_7 o2_7
   have hq := hx.set (.bool b1_7) (.slice a1_7 n1_7 c1_7) (.slice d1_7 m1_7 o1_7) (.bool b2_7) (.slice a2_7 n2_7 c2_7) (.slice d2_7 m2_7 o2_7)
   have hg : (w.heap.size + 1 + 1) ≤ (w.heap.size + 1 + 1) := Nat.le_refl _
   go_simp
   exact hKO _ _ hw ⟨(Ext.wr hS.1 hw (by omega)), (hS.2.1.wr hw), (hS.2.2.1.wr hw), (hS.2.2.2.1.wr hw (by omega)), (hS.2.2.2.2.1.wr hw (by omega)), (hS.2.2.2.2.2.1.wr hw), (hS.2.2.2.2.2.2.1.wr hw), (hS.2.2.2.2.2.2.2.1.wr hw (by omega)), (hS.2.2.2.2.2.2.2.2.1.wr hw), (hS.2.2.2.2.2.2.2.2.2.1.wr hw (by omega)), (Nat.le_trans hS.2.2.2.2.2.2.2.2.2.2 hw.apart.size)⟩ hq
 intro vs W3 hS hp
 clear szw3 E0 h1 h2 p3 p4 fp6 h1_4 p1_7 h2_4 p2_7
 obtain ⟨E0, h1, h2, p3, p4, fp6, h1_4, p1_7, h2_4, p2_7, sz3⟩ := hS
 obtain ⟨h3_0, h3_1, h3_2, h3_3, -⟩ := hp
 have p3_3 : Bx6 W3 (w.heap.size + 1 + 1) 29 (.bool b1_7) (.slice a1_7 n1_7 c1_7) (.slice d1_7 m1_7 o1_7) (.bool b2_7) (.slice a2_7 n2_7 c2_7) (.slice d2_7 m2_7 o2_7) := h3_3
 replace h3_0 : vs 0 = .agg #[.bool b1_7, .slice a1_7 n1_7 c1_7, .slice d1_7 m1_7 o1_7] := h3_0
 replace h3_1 : vs 1 = .agg #[.bool b2_7, .slice a2_7 n2_7 c2_7, .slice d2_7 m2_7 o2_7] := h3_1
 replace h3_2 : vs 2 = .agg #[.bool b1_7, .slice a1_7 n1_7 c1_7, .slice d1_7 m1_7 o1_7, .bool b2_7, .slice a2_7 n2_7 c2_7, .slice d2_7 m2_7 o2_7] := h3_2
 simp only [h3_0, h3_1, h3_2]
 clear h3_0 h3_1 h3_2
 obtain ⟨kp3_0, kp3_1⟩ := p3.c2
 obtain ⟨kp4_0, kp4_1⟩ := p4.c2
 obtain ⟨kp1_7_0, kp1_7_1, kp1_7_2⟩ := p1_7.c3
 obtain ⟨kp2_7_0, kp2_7_1, kp2_7_2⟩ := p2_7.c3
 obtain ⟨kp3_3_0, kp3_3_1, kp3_3_2, kp3_3_3, kp3_3_4, kp3_3_5⟩ := p3_3.c6
 go_wp2
 exact bodyPost_ret (v := .agg #[.bool b1_7, .slice a1_7 n1_7 c1_7, .slice d1_7 m1_7 o1_7, .bool b2_7, .slice a2_7 n2_7 c2_7, .slice d2_7 m2_7 o2_7]) (by simp [results, Tryz.results52, go_sem, kp3_3_0, kp3_3_1, kp3_3_2, kp3_3_3, kp3_3_4, kp3_3_5]) rfl ⟨_, rfl, Sw.mk h1_4 h2_4, E0⟩

set_option maxRecDepth 100000 in
set_option maxHeartbeats 8000000 in
theorem Tryz.ivUp {v1 : Value} {x : Rat} {L : Nat} {w : World} (h1 : Rw w v1 x) (s1 : SmR L x) (hL : L ≤ 1000) (K : Nat) (hK : K ≤ 1000) :
  Calls Tryz.prog 47 #[v1, .int .i64 (K : Int)] w fun e w' => ∃ v', e = .returned v' ∧ Nw w' v' (x.num.natAbs * 2 ^ (2 * K)) ∧ Ext w w' := by
 obtain ⟨b1, a1, n1, c1, d1, m1, o1, rfl, q1⟩ : ∃ b a n c d m o, v1 = .agg #[.bool b, .slice a n c, .slice d m o] ∧ True := let ⟨b, a, n, c, d, m, o, e, _⟩ := h1; ⟨b, a, n, c, d, m, o, e, trivial⟩
 clear q1
 obtain ⟨M, hM⟩ : ∃ M, M = 2 * K := ⟨_, rfl⟩
 have hw : IntKind.i64.wrap (2 * (K : Int)) = (M : Int) := by rw [IntKind.wrap_i64]; omega
 have HM : Hid (M ≤ 20000) := Lib.hid (by omega)
 rw [← hM]
 clear hM hK
 obtain ⟨W0, hW0⟩ : ∃ W0, W0 = (w.alloc (.cells #[.bool b1, .slice a1 n1 c1, .slice d1 m1 o1] 27)) := ⟨_, rfl⟩
 have E0 : Ext w W0 := by rw [hW0]; exact (Ext.alloc1 w (.cells #[.bool b1, .slice a1 n1 c1, .slice d1 m1 o1] 27))
 replace h1 : Rw W0 (.agg #[.bool b1, .slice a1 n1 c1, .slice d1 m1 o1]) x := h1.ext E0
 have p2 : Bx3 W0 w.heap.size 27 (.bool b1) (.slice a1 n1 c1) (.slice d1 m1 o1) := by rw [hW0]; exact (Bx3.new w 27 (.bool b1) (.slice a1 n1 c1) (.slice d1 m1 o1))
 go_enter Tryz.func47, Tryz.ntmps47
 obtain ⟨kp2_0, kp2_1, kp2_2⟩ := p2.c3
 go_wp2_with fail
 rw [← hW0]
 clear hW0; clear kp2_0 kp2_1 kp2_2
 refine (Tryz.divShlK h1.top.num s1.1 (by omega) M HM.out).mono ?_
 rintro e W1 ⟨v3, rfl, h3, hE⟩
 replace E0 := (Ext.trans E0 hE); replace h1 := (h1.ext hE); replace p2 := (p2.ext hE); clear hE
 obtain ⟨kp2_0, kp2_1, kp2_2⟩ := p2.c3
 clear h1; go_wp2; go_ret
 exact ⟨_, rfl, h3, E0⟩

set_option maxRecDepth 100000 in
set_option maxHeartbeats 8000000 in
theorem Tryz.ivSqrt {v1 : Value} {p : Rat × Rat} {L : Nat} {w : World} (h1 : Sw w v1 p) (s1 : SmS L p) (hL : L ≤ 10) (hp : 0 ≤ p.1) (K : Nat) (hK : K ≤ 1000) :
  Calls Tryz.prog 22 #[v1, .int .i64 (K : Int)] w fun e w' => ∃ v', e = .returned (.tuple #[v', .int .i64 0]) ∧ Sw w' v' (sqS p K) ∧ Ext w w' := by
 have HNB := h1.sign
 obtain ⟨b1, a1, n1, c1, d1, m1, o1, bb1, aa1, nn1, cc1, dd1, mm1, oo1, rfl, q1⟩ : ∃ b1 a1 n1 c1 d1 m1 o1 bb1 aa1 nn1 cc1 dd1 mm1 oo1, v1 = .agg #[.bool b1, .slice a1 n1 c1, .slice d1 m1 o1, .bool bb1, .slice aa1 nn1 cc1, .slice dd1 mm1 oo1] ∧ True := let ⟨b1, a1, n1, c1, d1, m1, o1, bb1, aa1, nn1, cc1, dd1, mm1, oo1, e, _⟩ := h1; ⟨b1, a1, n1, c1, d1, m1, o1, bb1, aa1, nn1, cc1, dd1, mm1, oo1, e, trivial⟩
 clear q1
 have hb := HNB.1 rfl hp
 subst hb
 clear HNB
 have HK := Lib.hid hK
 have HG : Hid (gridB (K : Int) = true) := Lib.hid (decide_eq_true ⟨by omega, by omega⟩)
 have SU : Hid (Sm 45 (p.1.num.natAbs * 2 ^ (2 * K)) ∧ Sm 45 (p.2.num.natAbs * 2 ^ (2 * K))) := Lib.hid ⟨((s1.lo.1.mul (Sm.pow2 (2 * K))).mono (by omega)), ((s1.hi.1.mul (Sm.pow2 (2 * K))).mono (by omega))⟩
 have HD : Hid (p.1.den ≠ 0 ∧ p.2.den ≠ 0) := Lib.hid ⟨p.1.den_nz, p.2.den_nz⟩
 have SBB : Hid (Sm 45 (p.2.num.natAbs * 2 ^ (2 * K) / p.2.den + 1) ∧ Sm 45 1) := Lib.hid ⟨sm_succ ((s1.hi.1.mul (Sm.pow2 (2 * K))).le (Nat.div_le_self _ _)) (by omega), Sm.one (by rw [B64_eq]; omega) |>.mono (by omega)⟩
 have SQ : Hid (Sm 45 (p.1.num.natAbs * 2 ^ (2 * K) / p.1.den) ∧ Sm 45 (p.2.num.natAbs * 2 ^ (2 * K) / p.2.den)) := Lib.hid ⟨SU.out.1.le (Nat.div_le_self _ _), SU.out.2.le (Nat.div_le_self _ _)⟩
 clear hK hp
 obtain ⟨W0, hW0⟩ : ∃ W0, W0 = ((w.alloc (.cells #[.bool false, .slice a1 n1 c1, .slice d1 m1 o1, .bool bb1, .slice aa1 nn1 cc1, .slice dd1 mm1 oo1] 29)).alloc (.cells #[.bool false, .slice none 0 0, .slice none 0 0, .bool false, .slice none 0 0, .slice none 0 0] 29)) := ⟨_, rfl⟩
 have E0 : Ext w W0 := by rw [hW0]; exact ((Ext.alloc1 w (.cells #[.bool false, .slice a1 n1 c1, .slice d1 m1 o1, .bool bb1, .slice aa1 nn1 cc1, .slice dd1 mm1 oo1] 29)).alloc (.cells #[.bool false, .slice none 0 0, .slice none 0 0, .bool false, .slice none 0 0, .slice none 0 0] 29))
 replace h1 : Sw W0 (.agg #[.bool false, .slice a1 n1 c1, .slice d1 m1 o1, .bool bb1, .slice aa1 nn1 cc1, .slice dd1 mm1 oo1]) p := h1.ext E0
 have p2 : Bx6 W0 w.heap.size 29 (.bool false) (.slice a1 n1 c1) (.slice d1 m1 o1) (.bool bb1) (.slice aa1 nn1 cc1) (.slice dd1 mm1 oo1) := by rw [hW0]; exact (Bx6.new w 29 (.bool false) (.slice a1 n1 c1) (.slice d1 m1 o1) (.bool bb1) (.slice aa1 nn1 cc1) (.slice dd1 mm1 oo1)).ext (Ext.alloc1 (w.alloc (.cells #[.bool false, .slice a1 n1 c1, .slice d1 m1 o1, .bool bb1, .slice aa1 nn1 cc1, .slice dd1 mm1 oo1] 29)) (.cells #[.bool false, .slice none 0 0, .slice none 0 0, .bool false, .slice none 0 0, .slice none 0 0] 29))
 have p4 : Bx6 W0 (w.heap.size + 1) 29 (.bool false) (.slice none 0 0) (.slice none 0 0) (.bool false) (.slice none 0 0) (.slice none 0 0) := by rw [hW0]; simpa using (Bx6.new (w.alloc (.cells #[.bool false, .slice a1 n1 c1, .slice d1 m1 o1, .bool bb1, .slice aa1 nn1 cc1, .slice dd1 mm1 oo1] 29)) 29 (.bool false) (.slice none 0 0) (.slice none 0 0) (.bool false) (.slice none 0 0) (.slice none 0 0))
 go_enter Tryz.func22, Tryz.ntmps22
 obtain ⟨kp2_0, kp2_1, kp2_2, kp2_3, kp2_4, kp2_5⟩ := p2.c6
 obtain ⟨kp4_0, kp4_1, kp4_2, kp4_3, kp4_4, kp4_5⟩ := p4.c6
 go_wp2_with fail
 rw [← hW0]
 clear hW0; clear kp2_0 kp2_1 kp2_2 kp2_3 kp2_4 kp2_5 kp4_0 kp4_1 kp4_2 kp4_3 kp4_4 kp4_5
 refine (Tryz.ivGrid (K : Int) _).mono ?_
 rintro e W ⟨rfl, rfl⟩
 rw [HG.out]
 obtain ⟨kp2_0, kp2_1, kp2_2, kp2_3, kp2_4, kp2_5⟩ := p2.c6
 obtain ⟨kp4_0, kp4_1, kp4_2, kp4_3, kp4_4, kp4_5⟩ := p4.c6
 go_upto_region 3 with (fail)
 clear kp2_0 kp2_1 kp2_2 kp2_3 kp2_4 kp2_5 kp4_0 kp4_1 kp4_2 kp4_3 kp4_4 kp4_5; have ltp2 := p2.lt; have ltp4 := p4.lt; have szw4 := Ext.size E0
 refine region_gs [.one fun v _ => v = .pointer (some ⟨w.heap.size, 0, none⟩),
   .one fun v _ => v = .agg #[.bool false, .slice a1 n1 c1, .slice d1 m1 o1],
   .one fun v _ => v = .int .i64 (K : Int),
   .one fun v W => Nw W v (p.1.num.natAbs * 2 ^ (2 * K)),
   .one fun v _ => v = .pointer (some ⟨w.heap.size, 0, none⟩),
   .one fun v _ => v = .pointer (some ⟨w.heap.size, 2, none⟩),
   .one fun v _ => v = .slice d1 m1 o1,
   .one fun v W => ∃ v' v'', v = .tuple #[v', v'', .int .i64 0] ∧ (fun v W => Nw W v (p.1.num.natAbs * 2 ^ (2 * K) / p.1.den)) v' W ∧ (fun v W => Nw W v (p.1.num.natAbs * 2 ^ (2 * K) % p.1.den)) v'' W,
   .one fun v W => ∃ v' v'', v = .tuple #[v', v'', .int .i64 0] ∧ (fun v W => Nw W v (p.1.num.natAbs * 2 ^ (2 * K) / p.1.den)) v' W ∧ (fun v W => Nw W v (p.1.num.natAbs * 2 ^ (2 * K) % p.1.den)) v'' W,
   .one fun v W => Nw W v (p.1.num.natAbs * 2 ^ (2 * K) / p.1.den),
   .one fun v W => Nw W v (p.1.num.natAbs * 2 ^ (2 * K) % p.1.den),
   .one fun v _ => v = .int .i64 0,
   .one fun v W => Nw W v (p.1.num.natAbs * 2 ^ (2 * K) / p.1.den),
   .one fun v W => Nw W v (p.1.num.natAbs * 2 ^ (2 * K) % p.1.den),
   .one fun v _ => v = .int .i64 0]
  (fun W => Ext w W ∧ Sw W (.agg #[.bool false, .slice a1 n1 c1, .slice d1 m1 o1, .bool bb1, .slice aa1 nn1 cc1, .slice dd1 mm1 oo1]) p ∧ Bx6 W w.heap.size 29 (.bool false) (.slice a1 n1 c1) (.slice d1 m1 o1) (.bool bb1) (.slice aa1 nn1 cc1) (.slice dd1 mm1 oo1) ∧ Bx6 W (w.heap.size + 1) 29 (.bool false) (.slice none 0 0) (.slice none 0 0) (.bool false) (.slice none 0 0) (.slice none 0 0) ∧ W0.heap.size ≤ W.heap.size) ⟨Good.is _, Good.is _, Good.is _, Good.num _, Good.is _, Good.is _, Good.is _, (Good.num _).tup3 (Good.num _) _, (Good.num _).tup3 (Good.num _) _, Good.num _, Good.num _, Good.is _, Good.num _, Good.num _, Good.is _, trivial⟩
  ⟨E0, h1, p2, p4, Nat.le_refl _⟩ (A := ?A4) ?hA4 ?howe4 ?hfin4
 case hA4 =>
  intro vs
  simp only [putAll, Act.put, sA, sZ, sS, Nat.zero_add, Nat.reduceAdd]
  exact rfl
 case howe4 =>
  clear E0 h1 p2 p4
  intro hf
  refine ⟨oE 0 [] hf rfl ?_, oE 1 [0] hf rfl ?_, oE 2 [] hf rfl ?_, oE 3 [1, 2] hf rfl ?_, oE 4 [] hf rfl ?_, oE 5 [4] hf rfl ?_, oE 6 [5] hf rfl ?_, oE 7 [3, 6] hf rfl ?_, oE 8 [7] hf rfl ?_, oE 9 [8] hf rfl ?_, oE 10 [8] hf rfl ?_, oE 11 [8] hf rfl ?_, oE 12 [9] hf rfl ?_, oE 13 [10] hf rfl ?_, oE 14 [11] hf rfl ?_, trivial⟩
  all_goals intro vs W hS hp hx KO hKO
  all_goals simp only [Act.put, sA, sZ, sS] at hKO
  ·go_simp; exact hKO _ W (.refl W) rfl
  ·have e0 := isOf hp.1; simp only [e0] at hKO; have fc0 := hS.2.2.1.cell0; have fc1 := hS.2.2.1.cell1; have fc2 := hS.2.2.1.cell2; go_simp; exact hKO _ W (.refl W) rfl
  ·go_simp; exact hKO _ W (.refl W) rfl
  ·have e1 := isOf hp.1; have e2 := isOf hp.2.1; simp only [e1, e2] at hKO; go_simp
   refine (Tryz.ivUp (hS.2.1.lo) s1.lo (by omega) K HK.out).mono ?_
   rintro e W1 ⟨v, rfl, hv, hE⟩
   exact hKO _ W1 hE hv
  ·go_simp; exact hKO _ W (.refl W) rfl
  ·have e4 := isOf hp.1; simp only [e4] at hKO; go_simp; exact hKO _ W (.refl W) rfl
  ·have e5 := isOf hp.1; simp only [e5] at hKO; have fc2 := hS.2.2.1.cell2; go_simp; exact hKO _ W (.refl W) rfl
  ·have q3 := hp.1; have e6 := isOf hp.2.1; simp only [e6] at hKO; go_simp
   refine (Tryz.divDivModK q3 (hS.2.1.lo.den) SU.out.1 (by omega) HD.out.1).mono ?_
   rintro e W1 ⟨v, v2, rfl, hv, hv2, hE⟩
   exact hKO _ W1 hE ⟨_, _, rfl, hv, hv2⟩
  ·have q7 := hp.1
   obtain ⟨u, u2, ev, hu, hu2⟩ := q7
   replace ev : vs 7 = _ := ev; simp only [ev] at hKO; go_simp; exact hKO _ W (Ext.refl W) ⟨u, u2, rfl, hu, hu2⟩
  ·have q8 := hp.1
   obtain ⟨u, u2, ev, hu, hu2⟩ := q8
   replace ev : vs 8 = _ := ev; simp only [ev] at hKO; go_simp; exact hKO _ W (Ext.refl W) hu
  ·have q8 := hp.1
   obtain ⟨u, u2, ev, hu, hu2⟩ := q8
   replace ev : vs 8 = _ := ev; simp only [ev] at hKO; go_simp; exact hKO _ W (Ext.refl W) hu2
  ·have q8 := hp.1
   obtain ⟨u, u2, ev, hu, hu2⟩ := q8
   replace ev : vs 8 = _ := ev; simp only [ev] at hKO; go_simp; exact hKO _ W (.refl W) rfl
  ·have q9 := hp.1; go_simp; exact hKO _ W (Ext.refl W) q9
  ·have q10 := hp.1; go_simp; exact hKO _ W (Ext.refl W) q10
  ·have e11 := isOf hp.1; simp only [e11] at hKO; go_simp; exact hKO _ W (.refl W) rfl
 intro vs W4 hS hp
 clear szw4 E0 h1 p2 p4
 obtain ⟨E0, h1, p2, p4, sz4⟩ := hS
 obtain ⟨h4_0, h4_1, h4_2, h4_3, h4_4, h4_5, h4_6, h4_7, h4_8, h4_9, h4_10, h4_11, h4_12, h4_13, h4_14, -⟩ := hp
 replace h4_0 : vs 0 = .pointer (some ⟨w.heap.size, 0, none⟩) := h4_0
 replace h4_1 : vs 1 = .agg #[.bool false, .slice a1 n1 c1, .slice d1 m1 o1] := h4_1
 replace h4_2 : vs 2 = .int .i64 (K : Int) := h4_2
 replace h4_4 : vs 4 = .pointer (some ⟨w.heap.size, 0, none⟩) := h4_4
 replace h4_5 : vs 5 = .pointer (some ⟨w.heap.size, 2, none⟩) := h4_5
 replace h4_6 : vs 6 = .slice d1 m1 o1 := h4_6
 replace h4_11 : vs 11 = .int .i64 0 := h4_11
 replace h4_14 : vs 14 = .int .i64 0 := h4_14
 simp only [h4_0, h4_1, h4_2, h4_4, h4_5, h4_6, h4_11, h4_14]
 replace h4_3 : Nw W4 (vs 3) (p.1.num.natAbs * 2 ^ (2 * K)) := h4_3
 generalize vs 3 = u4_3 at h4_3 ⊢
 replace h4_9 : Nw W4 (vs 9) (p.1.num.natAbs * 2 ^ (2 * K) / p.1.den) := h4_9
 generalize vs 9 = u4_9 at h4_9 ⊢
 replace h4_10 : Nw W4 (vs 10) (p.1.num.natAbs * 2 ^ (2 * K) % p.1.den) := h4_10
 generalize vs 10 = u4_10 at h4_10 ⊢
 replace h4_12 : Nw W4 (vs 12) (p.1.num.natAbs * 2 ^ (2 * K) / p.1.den) := h4_12
 generalize vs 12 = u4_12 at h4_12 ⊢
 replace h4_13 : Nw W4 (vs 13) (p.1.num.natAbs * 2 ^ (2 * K) % p.1.den) := h4_13
 generalize vs 13 = u4_13 at h4_13 ⊢
 clear h4_0 h4_1 h4_2 h4_4 h4_5 h4_6 h4_11 h4_14 h4_7 h4_8
 obtain ⟨kp2_0, kp2_1, kp2_2, kp2_3, kp2_4, kp2_5⟩ := p2.c6
 obtain ⟨kp4_0, kp4_1, kp4_2, kp4_3, kp4_4, kp4_5⟩ := p4.c6
 go_upto_region 4 with (fail)
 clear kp2_0 kp2_1 kp2_2 kp2_3 kp2_4 kp2_5 kp4_0 kp4_1 kp4_2 kp4_3 kp4_4 kp4_5; have szw5 := Ext.size E0
 refine region_gs [.one fun v _ => v = .pointer (some ⟨w.heap.size, 3, none⟩),
   .one fun v _ => v = .agg #[.bool bb1, .slice aa1 nn1 cc1, .slice dd1 mm1 oo1],
   .one fun v _ => v = .int .i64 (K : Int),
   .one fun v W => Nw W v (p.2.num.natAbs * 2 ^ (2 * K)),
   .one fun v _ => v = .pointer (some ⟨w.heap.size, 3, none⟩),
   .one fun v _ => v = .pointer (some ⟨w.heap.size, 5, none⟩),
   .one fun v _ => v = .slice dd1 mm1 oo1,
   .one fun v W => ∃ v' v'', v = .tuple #[v', v'', .int .i64 0] ∧ (fun v W => Nw W v (p.2.num.natAbs * 2 ^ (2 * K) / p.2.den)) v' W ∧ (fun v W => Nw W v (p.2.num.natAbs * 2 ^ (2 * K) % p.2.den)) v'' W,
   .one fun v W => ∃ v' v'', v = .tuple #[v', v'', .int .i64 0] ∧ (fun v W => Nw W v (p.2.num.natAbs * 2 ^ (2 * K) / p.2.den)) v' W ∧ (fun v W => Nw W v (p.2.num.natAbs * 2 ^ (2 * K) % p.2.den)) v'' W,
   .one fun v W => Nw W v (p.2.num.natAbs * 2 ^ (2 * K) / p.2.den),
   .one fun v W => Nw W v (p.2.num.natAbs * 2 ^ (2 * K) % p.2.den),
   .one fun v _ => v = .int .i64 0,
   .one fun v W => Nw W v (p.2.num.natAbs * 2 ^ (2 * K) / p.2.den),
   .one fun v W => Nw W v (p.2.num.natAbs * 2 ^ (2 * K) % p.2.den),
   .one fun v _ => v = .int .i64 0]
  (fun W => Ext w W ∧ Sw W (.agg #[.bool false, .slice a1 n1 c1, .slice d1 m1 o1, .bool bb1, .slice aa1 nn1 cc1, .slice dd1 mm1 oo1]) p ∧ Bx6 W w.heap.size 29 (.bool false) (.slice a1 n1 c1) (.slice d1 m1 o1) (.bool bb1) (.slice aa1 nn1 cc1) (.slice dd1 mm1 oo1) ∧ Bx6 W (w.heap.size + 1) 29 (.bool false) (.slice none 0 0) (.slice none 0 0) (.bool false) (.slice none 0 0) (.slice none 0 0) ∧ Nw W u4_3 (p.1.num.natAbs * 2 ^ (2 * K)) ∧ Nw W u4_9 (p.1.num.natAbs * 2 ^ (2 * K) / p.1.den) ∧ Nw W u4_10 (p.1.num.natAbs * 2 ^ (2 * K) % p.1.den) ∧ Nw W u4_12 (p.1.num.natAbs * 2 ^ (2 * K) / p.1.den) ∧ Nw W u4_13 (p.1.num.natAbs * 2 ^ (2 * K) % p.1.den) ∧ W4.heap.size ≤ W.heap.size) ⟨Good.is _, Good.is _, Good.is _, Good.num _, Good.is _, Good.is _, Good.is _, (Good.num _).tup3 (Good.num _) _, (Good.num _).tup3 (Good.num _) _, Good.num _, Good.num _, Good.is _, Good.num _, Good.num _, Good.is _, trivial⟩
  ⟨E0, h1, p2, p4, h4_3, h4_9, h4_10, h4_12, h4_13, Nat.le_refl _⟩ (A := ?A5) ?hA5 ?howe5 ?hfin5
 case hA5 =>
  intro vs
  simp only [putAll, Act.put, sA, sZ, sS, Nat.zero_add, Nat.reduceAdd]
  exact rfl
 case howe5 =>
  clear E0 h1 p2 p4 h4_3 h4_9 h4_10 h4_12 h4_13
  intro hf
  refine ⟨oE 0 [] hf rfl ?_, oE 1 [0] hf rfl ?_, oE 2 [] hf rfl ?_, oE 3 [1, 2] hf rfl ?_, oE 4 [] hf rfl ?_, oE 5 [4] hf rfl ?_, oE 6 [5] hf rfl ?_, oE 7 [3, 6] hf rfl ?_, oE 8 [7] hf rfl ?_, oE 9 [8] hf rfl ?_, oE 10 [8] hf rfl ?_, oE 11 [8] hf rfl ?_, oE 12 [9] hf rfl ?_, oE 13 [10] hf rfl ?_, oE 14 [11] hf rfl ?_, trivial⟩
  all_goals intro vs W hS hp hx KO hKO
  all_goals simp only [Act.put, sA, sZ, sS] at hKO
  ·go_simp; exact hKO _ W (.refl W) rfl
  ·have e0 := isOf hp.1; simp only [e0] at hKO; have fc3 := hS.2.2.1.cell3; have fc4 := hS.2.2.1.cell4; have fc5 := hS.2.2.1.cell5; go_simp; exact hKO _ W (.refl W) rfl
  ·go_simp; exact hKO _ W (.refl W) rfl
  ·have e1 := isOf hp.1; have e2 := isOf hp.2.1; simp only [e1, e2] at hKO; go_simp
   refine (Tryz.ivUp (hS.2.1.hi) s1.hi (by omega) K HK.out).mono ?_
   rintro e W1 ⟨v, rfl, hv, hE⟩
   exact hKO _ W1 hE hv
  ·go_simp; exact hKO _ W (.refl W) rfl
  ·have e4 := isOf hp.1; simp only [e4] at hKO; go_simp; exact hKO _ W (.refl W) rfl
  ·have e5 := isOf hp.1; simp only [e5] at hKO; have fc5 := hS.2.2.1.cell5; go_simp; exact hKO _ W (.refl W) rfl
  ·have q3 := hp.1; have e6 := isOf hp.2.1; simp only [e6] at hKO; go_simp
   refine (Tryz.divDivModK q3 (hS.2.1.hi.den) SU.out.2 (by omega) HD.out.2).mono ?_
   rintro e W1 ⟨v, v2, rfl, hv, hv2, hE⟩
   exact hKO _ W1 hE ⟨_, _, rfl, hv, hv2⟩
  ·have q7 := hp.1
   obtain ⟨u, u2, ev, hu, hu2⟩ := q7
   replace ev : vs 7 = _ := ev; simp only [ev] at hKO; go_simp; exact hKO _ W (Ext.refl W) ⟨u, u2, rfl, hu, hu2⟩
  ·have q8 := hp.1
   obtain ⟨u, u2, ev, hu, hu2⟩ := q8
   replace ev : vs 8 = _ := ev; simp only [ev] at hKO; go_simp; exact hKO _ W (Ext.refl W) hu
  ·have q8 := hp.1
   obtain ⟨u, u2, ev, hu, hu2⟩ := q8
   replace ev : vs 8 = _ := ev; simp only [ev] at hKO; go_simp; exact hKO _ W (Ext.refl W) hu2
  ·have q8 := hp.1
   obtain ⟨u, u2, ev, hu, hu2⟩ := q8
   replace ev : vs 8 = _ := ev; simp only [ev] at hKO; go_simp; exact hKO _ W (.refl W) rfl
  ·have q9 := hp.1; go_simp; exact hKO _ W (Ext.refl W) q9
  ·have q10 := hp.1; go_simp; exact hKO _ W (Ext.refl W) q10
  ·have e11 := isOf hp.1; simp only [e11] at hKO; go_simp; exact hKO _ W (.refl W) rfl
 intro vs W5 hS hp
 clear szw5 E0 h1 p2 p4 h4_3 h4_9 h4_10 h4_12 h4_13
 obtain ⟨E0, h1, p2, p4, h4_3, h4_9, h4_10, h4_12, h4_13, sz5⟩ := hS
 obtain ⟨h5_0, h5_1, h5_2, h5_3, h5_4, h5_5, h5_6, h5_7, h5_8, h5_9, h5_10, h5_11, h5_12, h5_13, h5_14, -⟩ := hp
 replace h5_0 : vs 0 = .pointer (some ⟨w.heap.size, 3, none⟩) := h5_0
 replace h5_1 : vs 1 = .agg #[.bool bb1, .slice aa1 nn1 cc1, .slice dd1 mm1 oo1] := h5_1
 replace h5_2 : vs 2 = .int .i64 (K : Int) := h5_2
 replace h5_4 : vs 4 = .pointer (some ⟨w.heap.size, 3, none⟩) := h5_4
 replace h5_5 : vs 5 = .pointer (some ⟨w.heap.size, 5, none⟩) := h5_5
 replace h5_6 : vs 6 = .slice dd1 mm1 oo1 := h5_6
 replace h5_11 : vs 11 = .int .i64 0 := h5_11
 replace h5_14 : vs 14 = .int .i64 0 := h5_14
 simp only [h5_0, h5_1, h5_2, h5_4, h5_5, h5_6, h5_11, h5_14]
 replace h5_3 : Nw W5 (vs 3) (p.2.num.natAbs * 2 ^ (2 * K)) := h5_3
 generalize vs 3 = u5_3 at h5_3 ⊢
 replace h5_9 : Nw W5 (vs 9) (p.2.num.natAbs * 2 ^ (2 * K) / p.2.den) := h5_9
 generalize vs 9 = u5_9 at h5_9 ⊢
 replace h5_10 : Nw W5 (vs 10) (p.2.num.natAbs * 2 ^ (2 * K) % p.2.den) := h5_10
 generalize vs 10 = u5_10 at h5_10 ⊢
 replace h5_12 : Nw W5 (vs 12) (p.2.num.natAbs * 2 ^ (2 * K) / p.2.den) := h5_12
 generalize vs 12 = u5_12 at h5_12 ⊢
 replace h5_13 : Nw W5 (vs 13) (p.2.num.natAbs * 2 ^ (2 * K) % p.2.den) := h5_13
 generalize vs 13 = u5_13 at h5_13 ⊢
 clear h5_0 h5_1 h5_2 h5_4 h5_5 h5_6 h5_11 h5_14 h5_7 h5_8; clear h1
 obtain ⟨al, nl, cl, ezl, zl, -⟩ := h5_13.len
 rw [ezl] at h5_13 ⊢
 clear ezl
 have HZL := Lib.hid zl
 clear zl
 by_cases hl : 0 < nl
 ·have hlI : (nl : Int) > 0 := by omega
  have HIF : Hid ((if p.2.num.natAbs * 2 ^ (2 * K) % p.2.den = 0 then 0 else 1) = 1) := Lib.hid (if_neg (fun e => by have := HZL.out.2 e; omega))
  have SB : Hid (Sm 45 (p.2.num.natAbs * 2 ^ (2 * K) / p.2.den + 1)) := Lib.hid (SBB.out.1)
  obtain ⟨kp2_0, kp2_1, kp2_2, kp2_3, kp2_4, kp2_5⟩ := p2.c6
  obtain ⟨kp4_0, kp4_1, kp4_2, kp4_3, kp4_4, kp4_5⟩ := p4.c6
  go_wp2_with fail
  clear kp2_0 kp2_1 kp2_2 kp2_3 kp2_4 kp2_5 kp4_0 kp4_1 kp4_2 kp4_3 kp4_4 kp4_5
  refine (Tryz.natOf 1 _ (by rw [B64_eq]; omega)).mono ?_
  rintro e Wo ⟨v1, rfl, hone, hE, -⟩
  replace E0 := (Ext.trans E0 hE); replace p2 := (p2.ext hE); replace p4 := (p4.ext hE); replace h4_3 := (h4_3.ext hE); replace h4_9 := (h4_9.ext hE); replace h4_10 := (h4_10.ext hE); replace h4_12 := (h4_12.ext hE); replace h4_13 := (h4_13.ext hE); replace h5_3 := (h5_3.ext hE); replace h5_9 := (h5_9.ext hE); replace h5_10 := (h5_10.ext hE); replace h5_12 := (h5_12.ext hE); replace h5_13 := (h5_13.ext hE); clear hE
  obtain ⟨kp2_0, kp2_1, kp2_2, kp2_3, kp2_4, kp2_5⟩ := p2.c6
  obtain ⟨kp4_0, kp4_1, kp4_2, kp4_3, kp4_4, kp4_5⟩ := p4.c6
  go_wp2_with fail
  clear kp2_0 kp2_1 kp2_2 kp2_3 kp2_4 kp2_5 kp4_0 kp4_1 kp4_2 kp4_3 kp4_4 kp4_5
  refine (Tryz.natAdd h5_12 hone SQ.out.2 SBB.out.2 (by omega)).mono ?_
  rintro e Wa ⟨va, rfl, ha, hE, -⟩
  replace E0 := (Ext.trans E0 hE); replace p2 := (p2.ext hE); replace p4 := (p4.ext hE); replace h4_3 := (h4_3.ext hE); replace h4_9 := (h4_9.ext hE); replace h4_10 := (h4_10.ext hE); replace h4_12 := (h4_12.ext hE); replace h4_13 := (h4_13.ext hE); replace h5_3 := (h5_3.ext hE); replace h5_9 := (h5_9.ext hE); replace h5_10 := (h5_10.ext hE); replace h5_12 := (h5_12.ext hE); replace h5_13 := (h5_13.ext hE); replace hone := (hone.ext hE); clear hE
  obtain ⟨kp2_0, kp2_1, kp2_2, kp2_3, kp2_4, kp2_5⟩ := p2.c6
  obtain ⟨kp4_0, kp4_1, kp4_2, kp4_3, kp4_4, kp4_5⟩ := p4.c6
  go_wp2_with fail
  clear kp2_0 kp2_1 kp2_2 kp2_3 kp2_4 kp2_5 kp4_0 kp4_1 kp4_2 kp4_3 kp4_4 kp4_5
  refine (Tryz.rootRoot h4_12 SQ.out.1 (by omega) 2).mono ?_
  rintro e Wr1 ⟨vr, rfl, hr, hE⟩
  obtain ⟨ar, nr, cr, rfl⟩ := Nw.slice hr
  replace E0 := (Ext.trans E0 hE); replace p2 := (p2.ext hE); replace p4 := (p4.ext hE); replace h4_3 := (h4_3.ext hE); replace h4_9 := (h4_9.ext hE); replace h4_10 := (h4_10.ext hE); replace h4_12 := (h4_12.ext hE); replace h4_13 := (h4_13.ext hE); replace h5_3 := (h5_3.ext hE); replace h5_9 := (h5_9.ext hE); replace h5_10 := (h5_10.ext hE); replace h5_12 := (h5_12.ext hE); replace h5_13 := (h5_13.ext hE); replace hone := (hone.ext hE); replace ha := (ha.ext hE); clear hE
  obtain ⟨kp2_0, kp2_1, kp2_2, kp2_3, kp2_4, kp2_5⟩ := p2.c6
  obtain ⟨kp4_0, kp4_1, kp4_2, kp4_3, kp4_4, kp4_5⟩ := p4.c6
  go_wp2_with fail
  clear kp2_0 kp2_1 kp2_2 kp2_3 kp2_4 kp2_5 kp4_0 kp4_1 kp4_2 kp4_3 kp4_4 kp4_5
  refine (Tryz.rootUp ha SB.out (by omega) 2).mono ?_
  rintro e Wr2 ⟨vu, rfl, hu, hE⟩
  obtain ⟨au, nu, cu, rfl⟩ := Nw.slice hu
  replace E0 := (Ext.trans E0 hE); replace p2 := (p2.ext hE); replace p4 := (p4.ext hE); replace h4_3 := (h4_3.ext hE); replace h4_9 := (h4_9.ext hE); replace h4_10 := (h4_10.ext hE); replace h4_12 := (h4_12.ext hE); replace h4_13 := (h4_13.ext hE); replace h5_3 := (h5_3.ext hE); replace h5_9 := (h5_9.ext hE); replace h5_10 := (h5_10.ext hE); replace h5_12 := (h5_12.ext hE); replace h5_13 := (h5_13.ext hE); replace hone := (hone.ext hE); replace ha := (ha.ext hE); replace hr := (hr.ext hE); clear hE; clear h4_3 h4_9 h4_10 h4_12 h4_13 h5_3 h5_9 h5_10 h5_12 h5_13 hone ha
  have hz1 := Zw.ofN hr
  have hz2 := Zw.ofN hu
  clear hr hu
  have SR : Hid (Sm 46 ((rootV (p.1.num.natAbs * 2 ^ (2 * K) / p.1.den) 2 : Nat) : Int).natAbs ∧ Sm 46 ((rootU (p.2.num.natAbs * 2 ^ (2 * K) / p.2.den + 1) 2 : Nat) : Int).natAbs) := Lib.hid ⟨by rw [Int.natAbs_natCast]; exact (rootV_sm SQ.out.1).mono (by omega), by rw [Int.natAbs_natCast]; exact rootU_sm SB.out⟩
  obtain ⟨kp2_0, kp2_1, kp2_2, kp2_3, kp2_4, kp2_5⟩ := p2.c6
  obtain ⟨kp4_0, kp4_1, kp4_2, kp4_3, kp4_4, kp4_5⟩ := p4.c6
  go_upto_region 9 with (fail)
  clear kp2_0 kp2_1 kp2_2 kp2_3 kp2_4 kp2_5 kp4_0 kp4_1 kp4_2 kp4_3 kp4_4 kp4_5; have fp4 := p4.form; have szw6 := Ext.size E0
  refine region_gs [.one fun v _ => v = .slice ar nr cr,
    .one fun v _ => v = .agg #[.bool false, .slice ar nr cr],
    .one fun v _ => v = .slice au nu cu,
    .one fun v _ => v = .agg #[.bool false, .slice au nu cu],
    .one fun v _ => v = .int .i64 (K : Int),
    .one fun v W => Sw W v (((((rootV (p.1.num.natAbs * 2 ^ (2 * K) / p.1.den) 2 : Nat) : Int) : Rat) / P2 K, (((rootU (p.2.num.natAbs * 2 ^ (2 * K) / p.2.den + 1) 2 : Nat) : Int) : Rat) / P2 K)),
    .two 5 (fun r _ W => At6 (w.heap.size + 1) 29 r W),
    .one fun v _ => v = .int .i64 0]
   (fun W => Ext w W ∧ Bx6 W w.heap.size 29 (.bool false) (.slice a1 n1 c1) (.slice d1 m1 o1) (.bool bb1) (.slice aa1 nn1 cc1) (.slice dd1 mm1 oo1) ∧ Form W (w.heap.size + 1) 29 6 ∧ Zw W (.agg #[.bool false, .slice ar nr cr]) (((rootV (p.1.num.natAbs * 2 ^ (2 * K) / p.1.den) 2 : Nat) : Int)) ∧ Zw W (.agg #[.bool false, .slice au nu cu]) (((rootU (p.2.num.natAbs * 2 ^ (2 * K) / p.2.den + 1) 2 : Nat) : Int)) ∧ Wr2.heap.size ≤ W.heap.size) ⟨Good.is _, Good.is _, Good.is _, Good.is _, Good.is _, Good.span _, cert_at6, Good.is _, trivial⟩
   ⟨E0, p2, fp4, hz1, hz2, Nat.le_refl _⟩ (A := ?A6) ?hA6 ?howe6 ?hfin6
  case hA6 =>
   intro vs
   simp only [putAll, Act.put, sA, sZ, sS, Nat.zero_add, Nat.reduceAdd]
   exact rfl
  case howe6 =>
   clear E0 p2 fp4 hz1 hz2
   intro hf
   refine ⟨oE 0 [] hf rfl ?_, oE 1 [0] hf rfl ?_, oE 2 [] hf rfl ?_, oE 3 [2] hf rfl ?_, oE 4 [] hf rfl ?_, oE 5 [1, 3, 4] hf rfl ?_, oW 6 [5] hf rfl ?_, oE 7 [] hf rfl ?_, trivial⟩
   all_goals intro vs W hS hp hx KO hKO
   all_goals simp only [Act.put, sA, sZ, sS] at hKO
   ·go_simp; exact hKO _ W (.refl W) rfl
   ·have e0 := isOf hp.1; simp only [e0] at hKO; go_simp; exact hKO _ W (.refl W) rfl
   ·go_simp; exact hKO _ W (.refl W) rfl
   ·have e2 := isOf hp.1; simp only [e2] at hKO; go_simp; exact hKO _ W (.refl W) rfl
   ·go_simp; exact hKO _ W (.refl W) rfl
   ·have e1 := isOf hp.1; have e3 := isOf hp.2.1; have e4 := isOf hp.2.2.1; simp only [e1, e3, e4] at hKO; go_simp
    refine (Tryz.ivBetween (hS.2.2.2.1) (hS.2.2.2.2.1) SR.out.1 SR.out.2 (by omega) K (by have := HK.out; omega)).mono ?_
    rintro e W1 ⟨v, rfl, hv, hE⟩
    exact hKO _ W1 hE hv
   ·have q5 := hp.1
    have hf := hS.2.2.1
    obtain ⟨x0_0, x0_1, x0_2, x0_3, x0_4, x0_5, hx, hno⟩ := hf.bx6
    have qr := q5
    obtain ⟨b3, a3, n3, c3, d3, m3, o3, bb3, aa3, nn3, cc3, dd3, mm3, oo3, er, -, -⟩ := qr
    replace er : vs 5 = _ := er
    have r0 := hx.froz0
    have t0 := hx.cell0
    have r1 := hx.froz1
    have t1 := hx.cell1
    have r2 := hx.froz2
    have t2 := hx.cell2
    have r3 := hx.froz3
    have t3 := hx.cell3
    have r4 := hx.froz4
    have t4 := hx.cell4
    have r5 := hx.froz5
    have t5 := hx.cell5
    have hw := Wr.set6 hx hno b3 a3 n3 c3 d3 m3 o3 bb3 aa3 nn3 cc3 dd3 mm3 oo3
    have hq := hx.set (.bool b3) (.slice a3 n3 c3) (.slice d3 m3 o3) (.bool bb3) (.slice aa3 nn3 cc3) (.slice dd3 mm3 oo3)
    have hg : (w.heap.size + 1) ≤ (w.heap.size + 1) := Nat.le_refl _
    simp only [er] at hKO; go_simp
    exact hKO _ _ hw ⟨(Ext.wr hS.1 hw (by omega)), (hS.2.1.wr hw (by omega)), (hS.2.2.1.wr hw), (hS.2.2.2.1.wr hw), (hS.2.2.2.2.1.wr hw), (Nat.le_trans hS.2.2.2.2.2 hw.apart.size)⟩ ⟨b3, a3, n3, c3, d3, m3, o3, bb3, aa3, nn3, cc3, dd3, mm3, oo3, er, hq⟩
   ·go_simp; exact hKO _ W (.refl W) rfl
  intro vs W6 hS hp
  clear szw6 E0 p2 fp4 hz1 hz2
  obtain ⟨E0, p2, fp4, hz1, hz2, sz6⟩ := hS
  obtain ⟨h6_0, h6_1, h6_2, h6_3, h6_4, h6_5, h6_6, h6_7, -⟩ := hp
  obtain ⟨b6_6, a6_6, n6_6, c6_6, d6_6, m6_6, o6_6, bb6_6, aa6_6, nn6_6, cc6_6, dd6_6, mm6_6, oo6_6, er6_6, p6_6⟩ := h6_6
  replace er6_6 : vs 5 = _ := er6_6; replace h6_5 := (show Sw W6 (vs 5) (((((rootV (p.1.num.natAbs * 2 ^ (2 * K) / p.1.den) 2 : Nat) : Int) : Rat) / P2 K, (((rootU (p.2.num.natAbs * 2 ^ (2 * K) / p.2.den + 1) 2 : Nat) : Int) : Rat) / P2 K)) from h6_5)
  rw [er6_6] at h6_5
  replace h6_0 : vs 0 = .slice ar nr cr := h6_0
  replace h6_1 : vs 1 = .agg #[.bool false, .slice ar nr cr] := h6_1
  replace h6_2 : vs 2 = .slice au nu cu := h6_2
  replace h6_3 : vs 3 = .agg #[.bool false, .slice au nu cu] := h6_3
  replace h6_4 : vs 4 = .int .i64 (K : Int) := h6_4
  replace h6_7 : vs 7 = .int .i64 0 := h6_7
  simp only [er6_6, h6_0, h6_1, h6_2, h6_3, h6_4, h6_7]
  clear er6_6 h6_0 h6_1 h6_2 h6_3 h6_4 h6_7
  have HQ : Hid ((((rootV (p.1.num.natAbs * 2 ^ (2 * K) / p.1.den) 2 : Nat) : Int) : Rat) / P2 K = (sqS p K).1 ∧ (((rootU (p.2.num.natAbs * 2 ^ (2 * K) / p.2.den + 1) 2 : Nat) : Int) : Rat) / P2 K = (sqS p K).2) := Lib.hid ⟨rfl, by unfold sqS sqHi; rw [HIF.out]⟩
  obtain ⟨kp2_0, kp2_1, kp2_2, kp2_3, kp2_4, kp2_5⟩ := p2.c6
  obtain ⟨kp6_6_0, kp6_6_1, kp6_6_2, kp6_6_3, kp6_6_4, kp6_6_5⟩ := p6_6.c6
  go_wp2
  exact bodyPost_ret (v := .tuple #[.agg #[.bool b6_6, .slice a6_6 n6_6 c6_6, .slice d6_6 m6_6 o6_6, .bool bb6_6, .slice aa6_6 nn6_6 cc6_6, .slice dd6_6 mm6_6 oo6_6], .int .i64 0]) (by simp [results, Tryz.results22, go_sem, kp6_6_0, kp6_6_1, kp6_6_2, kp6_6_3, kp6_6_4, kp6_6_5]) rfl ⟨_, rfl, by rw [HQ.out.1, HQ.out.2] at h6_5; exact h6_5, E0⟩
 ·have hlI : ¬ (nl : Int) > 0 := by omega
  have HIF : Hid ((if p.2.num.natAbs * 2 ^ (2 * K) % p.2.den = 0 then 0 else 1) = 0) := Lib.hid (if_pos (HZL.out.1 (by omega)))
  have SB : Hid (Sm 45 (p.2.num.natAbs * 2 ^ (2 * K) / p.2.den)) := Lib.hid SQ.out.2
  obtain ⟨kp2_0, kp2_1, kp2_2, kp2_3, kp2_4, kp2_5⟩ := p2.c6
  obtain ⟨kp4_0, kp4_1, kp4_2, kp4_3, kp4_4, kp4_5⟩ := p4.c6
  go_wp2_with fail
  clear kp2_0 kp2_1 kp2_2 kp2_3 kp2_4 kp2_5 kp4_0 kp4_1 kp4_2 kp4_3 kp4_4 kp4_5
  refine (Tryz.rootRoot h4_12 SQ.out.1 (by omega) 2).mono ?_
  rintro e Wr1 ⟨vr, rfl, hr, hE⟩
  obtain ⟨ar, nr, cr, rfl⟩ := Nw.slice hr
  replace E0 := (Ext.trans E0 hE); replace p2 := (p2.ext hE); replace p4 := (p4.ext hE); replace h4_3 := (h4_3.ext hE); replace h4_9 := (h4_9.ext hE); replace h4_10 := (h4_10.ext hE); replace h4_12 := (h4_12.ext hE); replace h4_13 := (h4_13.ext hE); replace h5_3 := (h5_3.ext hE); replace h5_9 := (h5_9.ext hE); replace h5_10 := (h5_10.ext hE); replace h5_12 := (h5_12.ext hE); replace h5_13 := (h5_13.ext hE); clear hE
  obtain ⟨kp2_0, kp2_1, kp2_2, kp2_3, kp2_4, kp2_5⟩ := p2.c6
  obtain ⟨kp4_0, kp4_1, kp4_2, kp4_3, kp4_4, kp4_5⟩ := p4.c6
  go_wp2_with fail
  clear kp2_0 kp2_1 kp2_2 kp2_3 kp2_4 kp2_5 kp4_0 kp4_1 kp4_2 kp4_3 kp4_4 kp4_5
  refine (Tryz.rootUp h5_12 SB.out (by omega) 2).mono ?_
  rintro e Wr2 ⟨vu, rfl, hu, hE⟩
  obtain ⟨au, nu, cu, rfl⟩ := Nw.slice hu
  replace E0 := (Ext.trans E0 hE); replace p2 := (p2.ext hE); replace p4 := (p4.ext hE); replace h4_3 := (h4_3.ext hE); replace h4_9 := (h4_9.ext hE); replace h4_10 := (h4_10.ext hE); replace h4_12 := (h4_12.ext hE); replace h4_13 := (h4_13.ext hE); replace h5_3 := (h5_3.ext hE); replace h5_9 := (h5_9.ext hE); replace h5_10 := (h5_10.ext hE); replace h5_12 := (h5_12.ext hE); replace h5_13 := (h5_13.ext hE); replace hr := (hr.ext hE); clear hE; clear h4_3 h4_9 h4_10 h4_12 h4_13 h5_3 h5_9 h5_10 h5_12 h5_13
  have hz1 := Zw.ofN hr
  have hz2 := Zw.ofN hu
  clear hr hu
  have SR : Hid (Sm 46 ((rootV (p.1.num.natAbs * 2 ^ (2 * K) / p.1.den) 2 : Nat) : Int).natAbs ∧ Sm 46 ((rootU (p.2.num.natAbs * 2 ^ (2 * K) / p.2.den) 2 : Nat) : Int).natAbs) := Lib.hid ⟨by rw [Int.natAbs_natCast]; exact (rootV_sm SQ.out.1).mono (by omega), by rw [Int.natAbs_natCast]; exact rootU_sm SB.out⟩
  obtain ⟨kp2_0, kp2_1, kp2_2, kp2_3, kp2_4, kp2_5⟩ := p2.c6
  obtain ⟨kp4_0, kp4_1, kp4_2, kp4_3, kp4_4, kp4_5⟩ := p4.c6
  go_upto_region 9 with (fail)
  clear kp2_0 kp2_1 kp2_2 kp2_3 kp2_4 kp2_5 kp4_0 kp4_1 kp4_2 kp4_3 kp4_4 kp4_5; have fp4 := p4.form; have szw7 := Ext.size E0
  refine region_gs [.one fun v _ => v = .slice ar nr cr,
    .one fun v _ => v = .agg #[.bool false, .slice ar nr cr],
    .one fun v _ => v = .slice au nu cu,
    .one fun v _ => v = .agg #[.bool false, .slice au nu cu],
    .one fun v _ => v = .int .i64 (K : Int),
    .one fun v W => Sw W v (((((rootV (p.1.num.natAbs * 2 ^ (2 * K) / p.1.den) 2 : Nat) : Int) : Rat) / P2 K, (((rootU (p.2.num.natAbs * 2 ^ (2 * K) / p.2.den) 2 : Nat) : Int) : Rat) / P2 K)),
    .two 5 (fun r _ W => At6 (w.heap.size + 1) 29 r W),
    .one fun v _ => v = .int .i64 0]
   (fun W => Ext w W ∧ Bx6 W w.heap.size 29 (.bool false) (.slice a1 n1 c1) (.slice d1 m1 o1) (.bool bb1) (.slice aa1 nn1 cc1) (.slice dd1 mm1 oo1) ∧ Form W (w.heap.size + 1) 29 6 ∧ Zw W (.agg #[.bool false, .slice ar nr cr]) (((rootV (p.1.num.natAbs * 2 ^ (2 * K) / p.1.den) 2 : Nat) : Int)) ∧ Zw W (.agg #[.bool false, .slice au nu cu]) (((rootU (p.2.num.natAbs * 2 ^ (2 * K) / p.2.den) 2 : Nat) : Int)) ∧ Wr2.heap.size ≤ W.heap.size) ⟨Good.is _, Good.is _, Good.is _, Good.is _, Good.is _, Good.span _, cert_at6, Good.is _, trivial⟩
   ⟨E0, p2, fp4, hz1, hz2, Nat.le_refl _⟩ (A := ?A7) ?hA7 ?howe7 ?hfin7
  case hA7 =>
   intro vs
   simp only [putAll, Act.put, sA, sZ, sS, Nat.zero_add, Nat.reduceAdd]
   exact rfl
  case howe7 =>
   clear E0 p2 fp4 hz1 hz2
   intro hf
   refine ⟨oE 0 [] hf rfl ?_, oE 1 [0] hf rfl ?_, oE 2 [] hf rfl ?_, oE 3 [2] hf rfl ?_, oE 4 [] hf rfl ?_, oE 5 [1, 3, 4] hf rfl ?_, oW 6 [5] hf rfl ?_, oE 7 [] hf rfl ?_, trivial⟩
   all_goals intro vs W hS hp hx KO hKO
   all_goals simp only [Act.put, sA, sZ, sS] at hKO
   ·go_simp; exact hKO _ W (.refl W) rfl
   ·have e0 := isOf hp.1; simp only [e0] at hKO; go_simp; exact hKO _ W (.refl W) rfl
   ·go_simp; exact hKO _ W (.refl W) rfl
   ·have e2 := isOf hp.1; simp only [e2] at hKO; go_simp; exact hKO _ W (.refl W) rfl
   ·go_simp; exact hKO _ W (.refl W) rfl
   ·have e1 := isOf hp.1; have e3 := isOf hp.2.1; have e4 := isOf hp.2.2.1; simp only [e1, e3, e4] at hKO; go_simp
    refine (Tryz.ivBetween (hS.2.2.2.1) (hS.2.2.2.2.1) SR.out.1 SR.out.2 (by omega) K (by have := HK.out; omega)).mono ?_
    rintro e W1 ⟨v, rfl, hv, hE⟩
    exact hKO _ W1 hE hv
   ·have q5 := hp.1
    have hf := hS.2.2.1
    obtain ⟨x0_0, x0_1, x0_2, x0_3, x0_4, x0_5, hx, hno⟩ := hf.bx6
    have qr := q5
    obtain ⟨b3, a3, n3, c3, d3, m3, o3, bb3, aa3, nn3, cc3, dd3, mm3, oo3, er, -, -⟩ := qr
    replace er : vs 5 = _ := er
    have r0 := hx.froz0
    have t0 := hx.cell0
    have r1 := hx.froz1
    have t1 := hx.cell1
    have r2 := hx.froz2
    have t2 := hx.cell2
    have r3 := hx.froz3
    have t3 := hx.cell3
    have r4 := hx.froz4
    have t4 := hx.cell4
    have r5 := hx.froz5
    have t5 := hx.cell5
    have hw := Wr.set6 hx hno b3 a3 n3 c3 d3 m3 o3 bb3 aa3 nn3 cc3 dd3 mm3 oo3
    have hq := hx.set (.bool b3) (.slice a3 n3 c3) (.slice d3 m3 o3) (.bool bb3) (.slice aa3 nn3 cc3) (.slice dd3 mm3 oo3)
    have hg : (w.heap.size + 1) ≤ (w.heap.size + 1) := Nat.le_refl _
    simp only [er] at hKO; go_simp
    exact hKO _ _ hw ⟨(Ext.wr hS.1 hw (by omega)), (hS.2.1.wr hw (by omega)), (hS.2.2.1.wr hw), (hS.2.2.2.1.wr hw), (hS.2.2.2.2.1.wr hw), (Nat.le_trans hS.2.2.2.2.2 hw.apart.size)⟩ ⟨b3, a3, n3, c3, d3, m3, o3, bb3, aa3, nn3, cc3, dd3, mm3, oo3, er, hq⟩
   ·go_simp; exact hKO _ W (.refl W) rfl
  intro vs W7 hS hp
  clear szw7 E0 p2 fp4 hz1 hz2
  obtain ⟨E0, p2, fp4, hz1, hz2, sz7⟩ := hS
  obtain ⟨h7_0, h7_1, h7_2, h7_3, h7_4, h7_5, h7_6, h7_7, -⟩ := hp
  obtain ⟨b7_6, a7_6, n7_6, c7_6, d7_6, m7_6, o7_6, bb7_6, aa7_6, nn7_6, cc7_6, dd7_6, mm7_6, oo7_6, er7_6, p7_6⟩ := h7_6
  replace er7_6 : vs 5 = _ := er7_6; replace h7_5 := (show Sw W7 (vs 5) (((((rootV (p.1.num.natAbs * 2 ^ (2 * K) / p.1.den) 2 : Nat) : Int) : Rat) / P2 K, (((rootU (p.2.num.natAbs * 2 ^ (2 * K) / p.2.den) 2 : Nat) : Int) : Rat) / P2 K)) from h7_5)
  rw [er7_6] at h7_5
  replace h7_0 : vs 0 = .slice ar nr cr := h7_0
  replace h7_1 : vs 1 = .agg #[.bool false, .slice ar nr cr] := h7_1
  replace h7_2 : vs 2 = .slice au nu cu := h7_2
  replace h7_3 : vs 3 = .agg #[.bool false, .slice au nu cu] := h7_3
  replace h7_4 : vs 4 = .int .i64 (K : Int) := h7_4
  replace h7_7 : vs 7 = .int .i64 0 := h7_7
  simp only [er7_6, h7_0, h7_1, h7_2, h7_3, h7_4, h7_7]
  clear er7_6 h7_0 h7_1 h7_2 h7_3 h7_4 h7_7
  have HQ : Hid ((((rootV (p.1.num.natAbs * 2 ^ (2 * K) / p.1.den) 2 : Nat) : Int) : Rat) / P2 K = (sqS p K).1 ∧ (((rootU (p.2.num.natAbs * 2 ^ (2 * K) / p.2.den) 2 : Nat) : Int) : Rat) / P2 K = (sqS p K).2) := Lib.hid ⟨rfl, by unfold sqS sqHi; rw [HIF.out, Nat.add_zero]⟩
  obtain ⟨kp2_0, kp2_1, kp2_2, kp2_3, kp2_4, kp2_5⟩ := p2.c6
  obtain ⟨kp7_6_0, kp7_6_1, kp7_6_2, kp7_6_3, kp7_6_4, kp7_6_5⟩ := p7_6.c6
  go_wp2
  exact bodyPost_ret (v := .tuple #[.agg #[.bool b7_6, .slice a7_6 n7_6 c7_6, .slice d7_6 m7_6 o7_6, .bool bb7_6, .slice aa7_6 nn7_6 cc7_6, .slice dd7_6 mm7_6 oo7_6], .int .i64 0]) (by simp [results, Tryz.results22, go_sem, kp7_6_0, kp7_6_1, kp7_6_2, kp7_6_3, kp7_6_4, kp7_6_5]) rfl ⟨_, rfl, by rw [HQ.out.1, HQ.out.2] at h7_5; exact h7_5, E0⟩

set_option maxRecDepth 100000 in
set_option maxHeartbeats 8000000 in
theorem Tryz.ivDiv0 {v1 v2 : Value} {p q : Rat × Rat} {L : Nat} {w : World} (h1 : Sw w v1 p) (h2 : Sw w v2 q) (s2 : SmS L q) (hL : L ≤ 1000) (hl : 1 ≤ L) (hh : hasS q 0 = true) :
  Calls Tryz.prog 29 #[v1, v2] w fun e w' => e = .returned (.tuple #[.agg #[.bool false, .slice none 0 0, .slice none 0 0, .bool false, .slice none 0 0, .slice none 0 0], .int .i64 4]) ∧ Ext w w' := by
 obtain ⟨b1, a1, n1, c1, d1, m1, o1, bb1, aa1, nn1, cc1, dd1, mm1, oo1, rfl, q1⟩ : ∃ b1 a1 n1 c1 d1 m1 o1 bb1 aa1 nn1 cc1 dd1 mm1 oo1, v1 = .agg #[.bool b1, .slice a1 n1 c1, .slice d1 m1 o1, .bool bb1, .slice aa1 nn1 cc1, .slice dd1 mm1 oo1] ∧ True := let ⟨b1, a1, n1, c1, d1, m1, o1, bb1, aa1, nn1, cc1, dd1, mm1, oo1, e, _⟩ := h1; ⟨b1, a1, n1, c1, d1, m1, o1, bb1, aa1, nn1, cc1, dd1, mm1, oo1, e, trivial⟩
 clear q1
 obtain ⟨b2, a2, n2, c2, d2, m2, o2, bb2, aa2, nn2, cc2, dd2, mm2, oo2, rfl, q2⟩ : ∃ b2 a2 n2 c2 d2 m2 o2 bb2 aa2 nn2 cc2 dd2 mm2 oo2, v2 = .agg #[.bool b2, .slice a2 n2 c2, .slice d2 m2 o2, .bool bb2, .slice aa2 nn2 cc2, .slice dd2 mm2 oo2] ∧ True := let ⟨b2, a2, n2, c2, d2, m2, o2, bb2, aa2, nn2, cc2, dd2, mm2, oo2, e, _⟩ := h2; ⟨b2, a2, n2, c2, d2, m2, o2, bb2, aa2, nn2, cc2, dd2, mm2, oo2, e, trivial⟩
 clear q2
 have HH := Lib.hid hh
 have S0 : Hid (SmR L ((0 : Int) : Rat)) := Lib.hid ((SmR.int (n := 0) (by decide)).mono hl)
 have HH2 : Hid (hasS q ((0 : Int) : Rat) = true) := Lib.hid hh
 clear hh hl
 obtain ⟨W0, hW0⟩ : ∃ W0, W0 = (((w.alloc (.cells #[.bool b1, .slice a1 n1 c1, .slice d1 m1 o1, .bool bb1, .slice aa1 nn1 cc1, .slice dd1 mm1 oo1] 29)).alloc (.cells #[.bool b2, .slice a2 n2 c2, .slice d2 m2 o2, .bool bb2, .slice aa2 nn2 cc2, .slice dd2 mm2 oo2] 29)).alloc (.cells #[.bool false, .slice none 0 0, .slice none 0 0, .bool false, .slice none 0 0, .slice none 0 0] 29)) := ⟨_, rfl⟩
 have E0 : Ext w W0 := by rw [hW0]; exact (((Ext.alloc1 w (.cells #[.bool b1, .slice a1 n1 c1, .slice d1 m1 o1, .bool bb1, .slice aa1 nn1 cc1, .slice dd1 mm1 oo1] 29)).alloc (.cells #[.bool b2, .slice a2 n2 c2, .slice d2 m2 o2, .bool bb2, .slice aa2 nn2 cc2, .slice dd2 mm2 oo2] 29)).alloc (.cells #[.bool false, .slice none 0 0, .slice none 0 0, .bool false, .slice none 0 0, .slice none 0 0] 29))
 replace h1 : Sw W0 (.agg #[.bool b1, .slice a1 n1 c1, .slice d1 m1 o1, .bool bb1, .slice aa1 nn1 cc1, .slice dd1 mm1 oo1]) p := h1.ext E0
 replace h2 : Sw W0 (.agg #[.bool b2, .slice a2 n2 c2, .slice d2 m2 o2, .bool bb2, .slice aa2 nn2 cc2, .slice dd2 mm2 oo2]) q := h2.ext E0
 have p2 : Bx6 W0 w.heap.size 29 (.bool b1) (.slice a1 n1 c1) (.slice d1 m1 o1) (.bool bb1) (.slice aa1 nn1 cc1) (.slice dd1 mm1 oo1) := by rw [hW0]; exact (Bx6.new w 29 (.bool b1) (.slice a1 n1 c1) (.slice d1 m1 o1) (.bool bb1) (.slice aa1 nn1 cc1) (.slice dd1 mm1 oo1)).ext ((Ext.alloc1 (w.alloc (.cells #[.bool b1, .slice a1 n1 c1, .slice d1 m1 o1, .bool bb1, .slice aa1 nn1 cc1, .slice dd1 mm1 oo1] 29)) (.cells #[.bool b2, .slice a2 n2 c2, .slice d2 m2 o2, .bool bb2, .slice aa2 nn2 cc2, .slice dd2 mm2 oo2] 29)).alloc (.cells #[.bool false, .slice none 0 0, .slice none 0 0, .bool false, .slice none 0 0, .slice none 0 0] 29))
 have p3 : Bx6 W0 (w.heap.size + 1) 29 (.bool b2) (.slice a2 n2 c2) (.slice d2 m2 o2) (.bool bb2) (.slice aa2 nn2 cc2) (.slice dd2 mm2 oo2) := by rw [hW0]; simpa using (Bx6.new (w.alloc (.cells #[.bool b1, .slice a1 n1 c1, .slice d1 m1 o1, .bool bb1, .slice aa1 nn1 cc1, .slice dd1 mm1 oo1] 29)) 29 (.bool b2) (.slice a2 n2 c2) (.slice d2 m2 o2) (.bool bb2) (.slice aa2 nn2 cc2) (.slice dd2 mm2 oo2)).ext (Ext.alloc1 ((w.alloc (.cells #[.bool b1, .slice a1 n1 c1, .slice d1 m1 o1, .bool bb1, .slice aa1 nn1 cc1, .slice dd1 mm1 oo1] 29)).alloc (.cells #[.bool b2, .slice a2 n2 c2, .slice d2 m2 o2, .bool bb2, .slice aa2 nn2 cc2, .slice dd2 mm2 oo2] 29)) (.cells #[.bool false, .slice none 0 0, .slice none 0 0, .bool false, .slice none 0 0, .slice none 0 0] 29))
 have p4 : Bx6 W0 (w.heap.size + 1 + 1) 29 (.bool false) (.slice none 0 0) (.slice none 0 0) (.bool false) (.slice none 0 0) (.slice none 0 0) := by rw [hW0]; simpa using (Bx6.new ((w.alloc (.cells #[.bool b1, .slice a1 n1 c1, .slice d1 m1 o1, .bool bb1, .slice aa1 nn1 cc1, .slice dd1 mm1 oo1] 29)).alloc (.cells #[.bool b2, .slice a2 n2 c2, .slice d2 m2 o2, .bool bb2, .slice aa2 nn2 cc2, .slice dd2 mm2 oo2] 29)) 29 (.bool false) (.slice none 0 0) (.slice none 0 0) (.bool false) (.slice none 0 0) (.slice none 0 0))
 go_enter Tryz.func29, Tryz.ntmps29
 obtain ⟨kp2_0, kp2_1, kp2_2, kp2_3, kp2_4, kp2_5⟩ := p2.c6
 obtain ⟨kp3_0, kp3_1, kp3_2, kp3_3, kp3_4, kp3_5⟩ := p3.c6
 obtain ⟨kp4_0, kp4_1, kp4_2, kp4_3, kp4_4, kp4_5⟩ := p4.c6
 go_upto_region 1 with (fail)
 rw [← hW0]
 clear hW0; clear kp2_0 kp2_1 kp2_2 kp2_3 kp2_4 kp2_5 kp3_0 kp3_1 kp3_2 kp3_3 kp3_4 kp3_5 kp4_0 kp4_1 kp4_2 kp4_3 kp4_4 kp4_5; have ltp2 := p2.lt; have ltp3 := p3.lt; have ltp4 := p4.lt; have szw8 := Ext.size E0
 refine region_gs [.one fun v _ => v = .agg #[.bool b2, .slice a2 n2 c2, .slice d2 m2 o2, .bool bb2, .slice aa2 nn2 cc2, .slice dd2 mm2 oo2],
   .one fun v W => Rw W v (((0 : Int) : Rat)),
   .one fun v _ => v = .bool (hasS q ((0 : Int) : Rat))]
  (fun W => Ext w W ∧ Sw W (.agg #[.bool b1, .slice a1 n1 c1, .slice d1 m1 o1, .bool bb1, .slice aa1 nn1 cc1, .slice dd1 mm1 oo1]) p ∧ Sw W (.agg #[.bool b2, .slice a2 n2 c2, .slice d2 m2 o2, .bool bb2, .slice aa2 nn2 cc2, .slice dd2 mm2 oo2]) q ∧ Bx6 W w.heap.size 29 (.bool b1) (.slice a1 n1 c1) (.slice d1 m1 o1) (.bool bb1) (.slice aa1 nn1 cc1) (.slice dd1 mm1 oo1) ∧ Bx6 W (w.heap.size + 1) 29 (.bool b2) (.slice a2 n2 c2) (.slice d2 m2 o2) (.bool bb2) (.slice aa2 nn2 cc2) (.slice dd2 mm2 oo2) ∧ Bx6 W (w.heap.size + 1 + 1) 29 (.bool false) (.slice none 0 0) (.slice none 0 0) (.bool false) (.slice none 0 0) (.slice none 0 0) ∧ W0.heap.size ≤ W.heap.size) ⟨Good.is _, Good.rat _, Good.is _, trivial⟩
  ⟨E0, h1, h2, p2, p3, p4, Nat.le_refl _⟩ (A := ?A8) ?hA8 ?howe8 ?hfin8
 case hA8 =>
  intro vs
  simp only [putAll, Act.put, sA, sZ, sS, Nat.zero_add, Nat.reduceAdd]
  exact rfl
 case howe8 =>
  clear E0 h1 h2 p2 p3 p4
  intro hf
  refine ⟨oE 0 [] hf rfl ?_, oE 1 [] hf rfl ?_, oE 2 [0, 1] hf rfl ?_, trivial⟩
  all_goals intro vs W hS hp hx KO hKO
  all_goals simp only [Act.put, sA, sZ, sS] at hKO
  ·have fc0 := hS.2.2.2.2.1.cell0; have fc1 := hS.2.2.2.2.1.cell1; have fc2 := hS.2.2.2.2.1.cell2; have fc3 := hS.2.2.2.2.1.cell3; have fc4 := hS.2.2.2.2.1.cell4; have fc5 := hS.2.2.2.2.1.cell5; go_simp; exact hKO _ W (.refl W) rfl
  ·go_simp
   refine (Tryz.ratOf 0 _ (by omega) (by omega)).mono ?_
   rintro e W1 ⟨v, rfl, hv, hE⟩
   exact hKO _ W1 hE hv
  ·have e0 := isOf hp.1; have q1 := hp.2.1; simp only [e0] at hKO; go_simp
   refine (Tryz.ivHas (hS.2.2.1) q1 s2 S0.out hL).mono ?_
   rintro e W1 ⟨rfl, hE⟩
   exact hKO _ W1 hE rfl
 intro vs W8 hS hp
 clear szw8 E0 h1 h2 p2 p3 p4
 obtain ⟨E0, h1, h2, p2, p3, p4, sz8⟩ := hS
 obtain ⟨h8_0, h8_1, h8_2, -⟩ := hp
 replace h8_0 : vs 0 = .agg #[.bool b2, .slice a2 n2 c2, .slice d2 m2 o2, .bool bb2, .slice aa2 nn2 cc2, .slice dd2 mm2 oo2] := h8_0
 replace h8_2 : vs 2 = .bool (hasS q ((0 : Int) : Rat)) := h8_2
 simp only [h8_0, h8_2]
 replace h8_1 : Rw W8 (vs 1) (((0 : Int) : Rat)) := h8_1
 generalize vs 1 = u8_1 at h8_1 ⊢
 clear h8_0 h8_2; rw [HH2.out]
 obtain ⟨kp2_0, kp2_1, kp2_2, kp2_3, kp2_4, kp2_5⟩ := p2.c6
 obtain ⟨kp3_0, kp3_1, kp3_2, kp3_3, kp3_4, kp3_5⟩ := p3.c6
 obtain ⟨kp4_0, kp4_1, kp4_2, kp4_3, kp4_4, kp4_5⟩ := p4.c6
 go_upto_region 2 with (fail)
 clear kp2_0 kp2_1 kp2_2 kp2_3 kp2_4 kp2_5 kp3_0 kp3_1 kp3_2 kp3_3 kp3_4 kp3_5 kp4_0 kp4_1 kp4_2 kp4_3 kp4_4 kp4_5; have fp4 := p4.form; have szw9 := Ext.size E0
 refine region_gs [.one fun v _ => v = .agg #[.bool false, .slice none 0 0, .slice none 0 0, .bool false, .slice none 0 0, .slice none 0 0],
   .own fun W => Bx6 W (w.heap.size + 1 + 1) 29 (.bool false) (.slice none 0 0) (.slice none 0 0) (.bool false) (.slice none 0 0) (.slice none 0 0),
   .one fun v _ => v = .int .i64 4]
  (fun W => Ext w W ∧ Sw W (.agg #[.bool b1, .slice a1 n1 c1, .slice d1 m1 o1, .bool bb1, .slice aa1 nn1 cc1, .slice dd1 mm1 oo1]) p ∧ Sw W (.agg #[.bool b2, .slice a2 n2 c2, .slice d2 m2 o2, .bool bb2, .slice aa2 nn2 cc2, .slice dd2 mm2 oo2]) q ∧ Bx6 W w.heap.size 29 (.bool b1) (.slice a1 n1 c1) (.slice d1 m1 o1) (.bool bb1) (.slice aa1 nn1 cc1) (.slice dd1 mm1 oo1) ∧ Bx6 W (w.heap.size + 1) 29 (.bool b2) (.slice a2 n2 c2) (.slice d2 m2 o2) (.bool bb2) (.slice aa2 nn2 cc2) (.slice dd2 mm2 oo2) ∧ Form W (w.heap.size + 1 + 1) 29 6 ∧ Rw W u8_1 (((0 : Int) : Rat)) ∧ W8.heap.size ≤ W.heap.size) ⟨Good.is _, cert_bx6, Good.is _, trivial⟩
  ⟨E0, h1, h2, p2, p3, fp4, h8_1, Nat.le_refl _⟩ (A := ?A9) ?hA9 ?howe9 ?hfin9
 case hA9 =>
  intro vs
  simp only [putAll, Act.put, sA, sZ, sS, Nat.zero_add, Nat.reduceAdd]
  exact rfl
 case howe9 =>
  clear E0 h1 h2 p2 p3 fp4 h8_1
  intro hf
  refine ⟨oE 0 [] hf rfl ?_, oW 1 [0] hf rfl ?_, oE 2 [] hf rfl ?_, trivial⟩
  all_goals intro vs W hS hp hx KO hKO
  all_goals simp only [Act.put, sA, sZ, sS] at hKO
  ·go_simp; exact hKO _ W (.refl W) rfl
  ·have e0 := isOf hp.1; simp only [e0] at hKO
   have hf := hS.2.2.2.2.2.1
   obtain ⟨x0_0, x0_1, x0_2, x0_3, x0_4, x0_5, hx, hno⟩ := hf.bx6
   have r0 := hx.froz0
   have t0 := hx.cell0
   have r1 := hx.froz1
   have t1 := hx.cell1
   have r2 := hx.froz2
   have t2 := hx.cell2
   have r3 := hx.froz3
   have t3 := hx.cell3
   have r4 := hx.froz4
   have t4 := hx.cell4
   have r5 := hx.froz5
   have t5 := hx.cell5
   have hw := Wr.set6 hx hno false none 0 0 none 0 0 false none 0 0 none 0 0
   have hq := hx.set (.bool false) (.slice none 0 0) (.slice none 0 0) (.bool false) (.slice none 0 0) (.slice none 0 0)
   have hg : (w.heap.size + 1 + 1) ≤ (w.heap.size + 1 + 1) := Nat.le_refl _
   go_simp
   exact hKO _ _ hw ⟨(Ext.wr hS.1 hw (by omega)), (hS.2.1.wr hw), (hS.2.2.1.wr hw), (hS.2.2.2.1.wr hw (by omega)), (hS.2.2.2.2.1.wr hw (by omega)), (hS.2.2.2.2.2.1.wr hw), (hS.2.2.2.2.2.2.1.wr hw), (Nat.le_trans hS.2.2.2.2.2.2.2 hw.apart.size)⟩ hq
  ·go_simp; exact hKO _ W (.refl W) rfl
 intro vs W9 hS hp
 clear szw9 E0 h1 h2 p2 p3 fp4 h8_1
 obtain ⟨E0, h1, h2, p2, p3, fp4, h8_1, sz9⟩ := hS
 obtain ⟨h9_0, h9_1, h9_2, -⟩ := hp
 have p9_1 : Bx6 W9 (w.heap.size + 1 + 1) 29 (.bool false) (.slice none 0 0) (.slice none 0 0) (.bool false) (.slice none 0 0) (.slice none 0 0) := h9_1
 replace h9_0 : vs 0 = .agg #[.bool false, .slice none 0 0, .slice none 0 0, .bool false, .slice none 0 0, .slice none 0 0] := h9_0
 replace h9_2 : vs 2 = .int .i64 4 := h9_2
 simp only [h9_0, h9_2]
 clear h9_0 h9_2
 obtain ⟨kp2_0, kp2_1, kp2_2, kp2_3, kp2_4, kp2_5⟩ := p2.c6
 obtain ⟨kp3_0, kp3_1, kp3_2, kp3_3, kp3_4, kp3_5⟩ := p3.c6
 obtain ⟨kp9_1_0, kp9_1_1, kp9_1_2, kp9_1_3, kp9_1_4, kp9_1_5⟩ := p9_1.c6
 go_wp2
 exact bodyPost_ret (v := .tuple #[.agg #[.bool false, .slice none 0 0, .slice none 0 0, .bool false, .slice none 0 0, .slice none 0 0], .int .i64 4]) (by simp [results, Tryz.results29, go_sem, kp9_1_0, kp9_1_1, kp9_1_2, kp9_1_3, kp9_1_4, kp9_1_5]) rfl ⟨rfl, E0⟩

end Go.Rt
