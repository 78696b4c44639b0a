/-
 The laws of chapter 08 (numbers of a fixed point): Half: its walk.
-/
import Derived.Test.YtpenekgnhnfebaaLaw08c
import Derived.Test.YtpenekgnhnfebaaLaw05b
namespace Go.Rt
open Go.RowKit Go.Proofs

theorem P2_ne (K : Nat) : P2 K ≠ 0 := by
 intro e
 have h := P2_pos K
 rw [e] at h
 exact absurd h (by decide)

theorem abs_le {d h : Rat} (h1 : -h ≤ d) (h2 : d ≤ h) : Rat.abs d ≤ h := by
 unfold Rat.abs
 split <;> grind

theorem half_near (x : Rat) (K : Nat) : Rat.abs ((nearR (x * P2 K) : Rat) / P2 K - x) ≤ ((1 : Int) : Rat) / P2 (K + 1) := by
 obtain ⟨h1, h2, -⟩ := near_is (x * P2 K)
 have hp := P2_pos K
 have hne := P2_ne K
 rw [P2_succ]
 generalize nearR (x * P2 K) = n at *
 generalize P2 K = p at *
 have e1 : (n : Rat) / p * p = n := Rat.div_mul_cancel hne
 have e2 : ((1 : Int) : Rat) / (2 * p) * (2 * p) = 1 := by
  rw [Rat.div_mul_cancel (by grind)]
  rfl
 generalize (n : Rat) / p = u at *
 generalize ((1 : Int) : Rat) / (2 * p) = h at *
 have hp2 : 0 < 2 * p := by grind
 exact abs_le (Rat.le_of_mul_le_mul_right (by grind) hp2) (Rat.le_of_mul_le_mul_right (by grind) hp2)

theorem quot_back (a b : Int) (K : Nat) (hb : (b : Rat) ≠ 0) : (a : Rat) / P2 K / ((b : Rat) / P2 K) = (a : Rat) / (b : Rat) := by
 have hne := P2_ne K
 generalize P2 K = p at *
 have h1 : (b : Rat) / p ≠ 0 := by
  intro e
  have : (b : Rat) / p * p = b := Rat.div_mul_cancel hne
  rw [e, Rat.zero_mul] at this
  exact hb this.symm
 have e1 : (a : Rat) / p * p = a := Rat.div_mul_cancel hne
 have e2 : (b : Rat) / p * p = b := Rat.div_mul_cancel hne
 have e3 : (a : Rat) / (b : Rat) * (b : Rat) = a := Rat.div_mul_cancel hb
 have e4 : (a : Rat) / p / ((b : Rat) / p) * ((b : Rat) / p) = (a : Rat) / p := Rat.div_mul_cancel h1
 generalize (a : Rat) / p / ((b : Rat) / p) = u at *
 generalize (a : Rat) / (b : Rat) = v at *
 generalize (a : Rat) / p = s at *
 generalize (b : Rat) / p = t at *
 have : u * b = v * b := by grind
 have h5 : (u - v) * (b : Rat) = 0 := by grind
 rcases Rat.mul_eq_zero.1 h5 with h | h
 ·grind
 ·exact absurd h hb

theorem far_out (x : Rat) (K : Nat) (h : fitE (nearR (x * P2 K)) = 2) : cmpR (Rat.abs x) (((9223372036854775807 : Int) : Rat) / P2 K) = 1 := by
 obtain ⟨h1, h2, -⟩ := near_is (x * P2 K)
 have hp := P2_pos K
 have hne := P2_ne K
 have hf : fits (nearR (x * P2 K)) = false := by
  cases hq : fits (nearR (x * P2 K))
  ·rfl
  ·rw [fitE_in hq] at h; cases h
 have hn : nearR (x * P2 K) < -9223372036854775808 ∨ 9223372036854775808 ≤ nearR (x * P2 K) := by
  have hnf : ¬ (-9223372036854775808 ≤ nearR (x * P2 K) ∧ nearR (x * P2 K) < 9223372036854775808) := fun hh => by rw [fits_iff.2 hh] at hf; cases hf
  omega
 generalize nearR (x * P2 K) = n at *
 generalize P2 K = p at *
 have e1 : ((9223372036854775807 : Int) : Rat) / p * p = ((9223372036854775807 : Int) : Rat) := Rat.div_mul_cancel hne
 generalize ((9223372036854775807 : Int) : Rat) / p = m at *
 have e2 : ((9223372036854775807 : Int) : Rat) = 9223372036854775807 := rfl
 rw [e2] at e1
 have hlt : m < Rat.abs x := by
  refine Rat.lt_of_mul_lt_mul_right (c := p) ?_ (Rat.le_of_lt hp)
  rw [e1]
  unfold Rat.abs
  rcases hn with hn | hn
  ·have hn' : (n : Rat) ≤ ((-9223372036854775809 : Int) : Rat) := Rat.intCast_le_intCast.2 (by omega)
   rw [show ((-9223372036854775809 : Int) : Rat) = -9223372036854775809 from rfl] at hn'
   have hx : x * p < 0 := by grind
   have hx2 : x < 0 := by
    cases Rat.le_total (a := 0) (b := x) with
    | inl h3 => have := Rat.mul_nonneg h3 (Rat.le_of_lt hp); grind
    | inr h3 =>
     by_cases hx3 : x = 0
     ·rw [hx3, Rat.zero_mul] at hx
      exact absurd hx (by decide)
     ·grind
   split
   ·grind
   ·grind
  ·have hn' : ((9223372036854775808 : Int) : Rat) ≤ (n : Rat) := Rat.intCast_le_intCast.2 hn
   rw [show ((9223372036854775808 : Int) : Rat) = 9223372036854775808 from rfl] at hn'
   have hx2 : 0 ≤ x := by
    cases Rat.le_total (a := 0) (b := x) with
    | inl h3 => exact h3
    | inr h3 =>
     have := Rat.mul_le_mul_of_nonneg_right h3 (Rat.le_of_lt hp)
     grind
   split
   ·grind
   ·grind
 unfold cmpR
 rw [if_neg (by grind), if_pos hlt]

set_option maxRecDepth 100000 in
set_option maxHeartbeats 4000000 in
theorem Try.within08 (n : Int) {v1 : Value} {x : Rat} {w : World} (h1 : Rw w v1 x) (s1 : SmR 10 x) (K : Nat) (hK : K ≤ 40) (hn1 : -9223372036854775808 ≤ n) (hn2 : n < 9223372036854775808) (hd : Rat.abs ((n : Rat) / P2 K - x) ≤ ((1 : Int) : Rat) / P2 (K + 1)) :
  Calls Try.prog 23 #[.int .i64 n, v1, .int .i64 (K : Int)] w fun e w' => e = .returned (.bool true) ∧ Ext w w' := by
 obtain ⟨J, hJ⟩ : ∃ J, J = K + 1 := ⟨_, rfl⟩
 rw [← hJ] at hd
 have hwj : IntKind.i64.wrap ((K : Int) + 1) = (J : Int) := by rw [IntKind.wrap_i64]; omega
 have S1 : Hid (Sm 1 n.natAbs) := Lib.hid (Sm.small (by omega))
 have S2 : Hid (Sm 1 (1 : Int).natAbs) := Lib.hid (Sm.small (by decide))
 have SO : Hid (SmR 10 ((n : Rat) / P2 K)) := Lib.hid ((SmR.backP S1.out (by omega)).mono (by omega))
 have SD : Hid (SmR 21 (Rat.abs ((n : Rat) / P2 K - x))) := Lib.hid (SmR.abs (SO.out.sub s1))
 have SH : Hid (SmR 21 (((1 : Int) : Rat) / P2 J)) := Lib.hid ((SmR.backP S2.out (by omega)).mono (by omega))
 obtain ⟨c, hc⟩ : ∃ c, cmpR (Rat.abs ((n : Rat) / P2 K - x)) (((1 : Int) : Rat) / P2 J) = c := ⟨_, rfl⟩
 have hcl : c ≤ 0 := by rw [← hc]; exact cmpR_le.2 hd
 have HC := Lib.hid hc
 have HB := Lib.hid (And.intro hn1 hn2)
 have HK := Lib.hid (show K ≤ 2000 ∧ J ≤ 2000 by omega)
 clear hc hn1 hn2 hJ hd hK
 obtain ⟨b1, a1, n1, c1, d1, m1, o1, rfl, q1⟩ : ∃ b a n c d m o, v1 = .agg #[.bool b, .slice a n c, .slice d m o] ∧ True := let ⟨b, a, n, c, d, m, o, e, _⟩ := h1; ⟨b, a, n, c, d, m, o, e, trivial⟩
 clear q1
 obtain ⟨W0, hW0⟩ : ∃ W0, W0 = (w.alloc (.cells #[.bool b1, .slice a1 n1 c1, .slice d1 m1 o1] 35)) := ⟨_, rfl⟩
 have E0 : Ext w W0 := by rw [hW0]; exact (Ext.alloc1 w (.cells #[.bool b1, .slice a1 n1 c1, .slice d1 m1 o1] 35))
 replace h1 : Rw W0 (.agg #[.bool b1, .slice a1 n1 c1, .slice d1 m1 o1]) x := h1.ext E0
 have p4 : Bx3 W0 w.heap.size 35 (.bool b1) (.slice a1 n1 c1) (.slice d1 m1 o1) := by rw [hW0]; exact (Bx3.new w 35 (.bool b1) (.slice a1 n1 c1) (.slice d1 m1 o1))
 go_enter Try.func23, Try.ntmps23
 have kp4_0 := p4.cell0
 have kp4_1 := p4.cell1
 have kp4_2 := p4.cell2
 go_upto_region 1 with (fail)
 rw [← hW0]
 clear hW0
 clear kp4_0 kp4_1 kp4_2
 have ltp4 := p4.lt
 have szw1 := Ext.size E0
 refine region_go [.one fun v _ => v = .int .i64 n,
   .one fun v W => Zw W v n,
   .one fun v _ => v = .int .i64 (K : Int),
   .one fun v W => ∃ v', v = .tuple #[v', .int .i64 0] ∧ (fun v W => Rw W v ((n : Rat) / P2 K)) v' W,
   .one fun v W => ∃ v', v = .tuple #[v', .int .i64 0] ∧ (fun v W => Rw W v ((n : Rat) / P2 K)) v' W,
   .one fun v W => Rw W v ((n : Rat) / P2 K),
   .one fun v _ => v = .int .i64 0,
   .one fun v W => ∃ g, v = .pointer (some ⟨g, 0, none⟩) ∧ W0.heap.size ≤ g ∧ Form W g 35 3,
   .three 7 5 (fun p r _ W => Put3 W0.heap.size 35 p r W),
   .one fun v _ => v = .int .i64 0]
  (fun W => Ext w W ∧ Rw W (.agg #[.bool b1, .slice a1 n1 c1, .slice d1 m1 o1]) x ∧ Bx3 W w.heap.size 35 (.bool b1) (.slice a1 n1 c1) (.slice d1 m1 o1) ∧ W0.heap.size ≤ W.heap.size) ⟨Good.is _, Good.zed _, Good.is _, (Good.rat _).tup _, (Good.rat _).tup _, Good.rat _, Good.is _, Good.box _ _ _, cert_put3, Good.is _, trivial⟩
  (fun W W1 hS hE => ⟨(Ext.trans hS.1 hE), (hS.2.1.ext hE), (hS.2.2.1.ext hE), (Nat.le_trans hS.2.2.2 (Ext.size hE))⟩) ⟨E0, h1, p4, Nat.le_refl _⟩ (by kernel_rfl) (by kernel_rfl) (by kernel_rfl) (by kernel_rfl) (A := ?A1) ?hA1 ?howe1 ?hfin1
 case hA1 =>
  intro vs
  simp only [putAll, Act.put, List.setIfInBounds_toArray, List.set_cons_zero, List.set_cons_succ, Nat.zero_add, Nat.reduceAdd]
  exact rfl
 case howe1 =>
  clear E0 h1 p4
  intro hf
  refine ⟨owesE 0 [] hf rfl (by kernel_rfl) ?_, owesE 1 [0] hf rfl (by kernel_rfl) ?_, owesE 2 [] hf rfl (by kernel_rfl) ?_, owesE 3 [1, 2] hf rfl (by kernel_rfl) ?_, owesE 4 [3] hf rfl (by kernel_rfl) ?_, owesE 5 [4] hf rfl (by kernel_rfl) ?_, owesE 6 [4] hf rfl (by kernel_rfl) ?_, owesE 7 [] hf rfl (by kernel_rfl) ?_, owesW 8 [7, 5] hf rfl (by kernel_rfl) (by kernel_rfl) ?_, owesE 9 [6] hf rfl (by kernel_rfl) ?_, trivial⟩
  all_goals intro vs W hS hp hx KO hKO
  all_goals simp only [Act.put, List.setIfInBounds_toArray, List.set_cons_zero, List.set_cons_succ] at hKO
  ·go_simp
   exact hKO _ W (Ext.refl W) rfl
  ·have e0 := isOf hp.1
   simp only [e0] at hKO
   go_simp
   refine (Try.refZOf n _ HB.out.1 HB.out.2).mono ?_
   rintro e W1 ⟨v, rfl, hv, hE⟩
   exact hKO _ W1 hE hv
  ·go_simp
   exact hKO _ W (Ext.refl W) rfl
  ·have q1 := hp.1
   have e2 := isOf hp.2.1
   simp only [e2] at hKO
   go_simp
   refine (Try.refBack q1 S1.out (by omega) K HK.out.1).mono ?_
   rintro e W1 ⟨v, rfl, hv, hE⟩
   exact hKO _ W1 hE ⟨_, rfl, hv⟩
  ·have q3 := hp.1
   obtain ⟨u, ev, hu⟩ := q3
   replace ev : vs 3 = _ := ev
   simp only [ev] at hKO
   go_simp
   exact hKO _ W (Ext.refl W) ⟨u, rfl, hu⟩
  ·have q4 := hp.1
   obtain ⟨u, ev, hu⟩ := q4
   replace ev : vs 4 = _ := ev
   simp only [ev] at hKO
   go_simp
   exact hKO _ W (Ext.refl W) hu
  ·have q4 := hp.1
   obtain ⟨u, ev, hu⟩ := q4
   replace ev : vs 4 = _ := ev
   simp only [ev] at hKO
   go_simp
   exact hKO _ W (Ext.refl W) rfl
  ·have hn := Bx3.new W 35 (.bool false) (.slice none 0 0) (.slice none 0 0)
   have hE := Ext.alloc1 W (.cells #[.bool false, .slice none 0 0, .slice none 0 0] 35)
   have hsz := hS.2.2.2
   go_simp
   exact hKO _ _ hE ⟨_, rfl, hsz, hn.form⟩
  ·have q7 := hp.1
   have q5 := hp.2.1
   obtain ⟨g, ev, hg, hf⟩ := q7
   replace ev : vs 7 = _ := ev
   obtain ⟨x0, y0, z0, hx, hno⟩ := hf.bx3
   have qr := q5
   obtain ⟨b3, a3, n3, c3, d3, m3, o3, er, -, -, -⟩ := qr
   replace er : vs 5 = _ := er
   have r0 := hx.froz0
   have t0 := hx.cell0
   have r1 := hx.froz1
   have t1 := hx.cell1
   have r2 := hx.froz2
   have t2 := hx.cell2
   have hw := Wr.set3 hx hno b3 a3 n3 c3 d3 m3 o3
   have hq := hx.set (.bool b3) (.slice a3 n3 c3) (.slice d3 m3 o3)
   simp only [ev, er] at hKO
   go_simp
   exact hKO _ _ hw ⟨(Ext.wr hS.1 hw (by omega)), (hS.2.1.wr hw), (hS.2.2.1.wr hw (by omega)), (Nat.le_trans hS.2.2.2 hw.apart.size)⟩ ⟨g, b3, a3, n3, c3, d3, m3, o3, ev, er, hg, hq⟩
  ·have e6 := isOf hp.1
   simp only [e6] at hKO
   go_simp
   exact hKO _ W (Ext.refl W) rfl
 intro vs W1 hS hp
 clear szw1 E0 h1 p4
 obtain ⟨E0, h1, p4, sz1⟩ := hS
 obtain ⟨h1_0, h1_1, h1_2, h1_3, h1_4, h1_5, h1_6, h1_7, h1_8, h1_9, -⟩ := hp
 obtain ⟨g1_8, b1_8, a1_8, n1_8, c1_8, d1_8, m1_8, o1_8, ev1_8, er1_8, hg1_8, p1_8⟩ := h1_8
 replace ev1_8 : vs 7 = _ := ev1_8
 replace er1_8 : vs 5 = _ := er1_8
 replace h1_5 := (show Rw W1 (vs 5) ((n : Rat) / P2 K) from h1_5)
 rw [er1_8] at h1_5
 replace h1_0 : vs 0 = .int .i64 n := h1_0
 replace h1_2 : vs 2 = .int .i64 (K : Int) := h1_2
 replace h1_6 : vs 6 = .int .i64 0 := h1_6
 replace h1_9 : vs 9 = .int .i64 0 := h1_9
 simp only [ev1_8, er1_8, h1_0, h1_2, h1_6, h1_9]
 replace h1_1 : Zw W1 (vs 1) n := h1_1
 generalize vs 1 = u1_1 at h1_1 ⊢
 clear ev1_8 er1_8 h1_0 h1_2 h1_6 h1_9 h1_3 h1_4 h1_7
 have kp4_0 := p4.cell0
 have kp4_1 := p4.cell1
 have kp4_2 := p4.cell2
 have kp1_8_0 := p1_8.cell0
 have kp1_8_1 := p1_8.cell1
 have kp1_8_2 := p1_8.cell2
 go_upto_region 2 with (fail)
 clear kp4_0 kp4_1 kp4_2 kp1_8_0 kp1_8_1 kp1_8_2
 have ltp1_8 := p1_8.lt
 have szw2 := Ext.size E0
 refine region_go [.one fun v W => Zw W v ((1 : Int)),
   .one fun v _ => v = .int .i64 (K : Int),
   .one fun v _ => v = .int .i64 (J : Int),
   .one fun v W => ∃ v', v = .tuple #[v', .int .i64 0] ∧ (fun v W => Rw W v (((1 : Int) : Rat) / P2 J)) v' W,
   .one fun v W => ∃ v', v = .tuple #[v', .int .i64 0] ∧ (fun v W => Rw W v (((1 : Int) : Rat) / P2 J)) v' W,
   .one fun v W => Rw W v (((1 : Int) : Rat) / P2 J),
   .one fun v _ => v = .int .i64 0,
   .one fun v W => ∃ g, v = .pointer (some ⟨g, 0, none⟩) ∧ W1.heap.size ≤ g ∧ Form W g 35 3,
   .three 7 5 (fun p r _ W => Put3 W1.heap.size 35 p r W),
   .one fun v _ => v = .int .i64 0]
  (fun W => Ext w W ∧ Rw W (.agg #[.bool b1, .slice a1 n1 c1, .slice d1 m1 o1]) x ∧ Bx3 W w.heap.size 35 (.bool b1) (.slice a1 n1 c1) (.slice d1 m1 o1) ∧ Rw W (.agg #[.bool b1_8, .slice a1_8 n1_8 c1_8, .slice d1_8 m1_8 o1_8]) ((n : Rat) / P2 K) ∧ Bx3 W g1_8 35 (.bool b1_8) (.slice a1_8 n1_8 c1_8) (.slice d1_8 m1_8 o1_8) ∧ Zw W u1_1 n ∧ W1.heap.size ≤ W.heap.size) ⟨Good.zed _, Good.is _, Good.is _, (Good.rat _).tup _, (Good.rat _).tup _, Good.rat _, Good.is _, Good.box _ _ _, cert_put3, Good.is _, trivial⟩
  (fun W W1 hS hE => ⟨(Ext.trans hS.1 hE), (hS.2.1.ext hE), (hS.2.2.1.ext hE), (hS.2.2.2.1.ext hE), (hS.2.2.2.2.1.ext hE), (hS.2.2.2.2.2.1.ext hE), (Nat.le_trans hS.2.2.2.2.2.2 (Ext.size hE))⟩) ⟨E0, h1, p4, h1_5, p1_8, h1_1, Nat.le_refl _⟩ (by kernel_rfl) (by kernel_rfl) (by kernel_rfl) (by kernel_rfl) (A := ?A2) ?hA2 ?howe2 ?hfin2
 case hA2 =>
  intro vs
  simp only [putAll, Act.put, List.setIfInBounds_toArray, List.set_cons_zero, List.set_cons_succ, Nat.zero_add, Nat.reduceAdd]
  exact rfl
 case howe2 =>
  clear E0 h1 p4 h1_5 p1_8 h1_1
  intro hf
  refine ⟨owesE 0 [] hf rfl (by kernel_rfl) ?_, owesE 1 [] hf rfl (by kernel_rfl) ?_, owesE 2 [1] hf rfl (by kernel_rfl) ?_, owesE 3 [0, 2] hf rfl (by kernel_rfl) ?_, owesE 4 [3] hf rfl (by kernel_rfl) ?_, owesE 5 [4] hf rfl (by kernel_rfl) ?_, owesE 6 [4] hf rfl (by kernel_rfl) ?_, owesE 7 [] hf rfl (by kernel_rfl) ?_, owesW 8 [7, 5] hf rfl (by kernel_rfl) (by kernel_rfl) ?_, owesE 9 [6] hf rfl (by kernel_rfl) ?_, trivial⟩
  all_goals intro vs W hS hp hx KO hKO
  all_goals simp only [Act.put, List.setIfInBounds_toArray, List.set_cons_zero, List.set_cons_succ] at hKO
  ·go_simp
   refine (Try.refZOf 1 _ (by omega) (by omega)).mono ?_
   rintro e W1 ⟨v, rfl, hv, hE⟩
   exact hKO _ W1 hE hv
  ·go_simp
   exact hKO _ W (Ext.refl W) rfl
  ·have e1 := isOf hp.1
   simp only [e1] at hKO
   go_simp
   exact hKO _ W (Ext.refl W) rfl
  ·have q0 := hp.1
   have e2 := isOf hp.2.1
   simp only [e2] at hKO
   go_simp
   refine (Try.refBack q0 S2.out (by omega) J HK.out.2).mono ?_
   rintro e W1 ⟨v, rfl, hv, hE⟩
   exact hKO _ W1 hE ⟨_, rfl, hv⟩
  ·have q3 := hp.1
   obtain ⟨u, ev, hu⟩ := q3
   replace ev : vs 3 = _ := ev
   simp only [ev] at hKO
   go_simp
   exact hKO _ W (Ext.refl W) ⟨u, rfl, hu⟩
  ·have q4 := hp.1
   obtain ⟨u, ev, hu⟩ := q4
   replace ev : vs 4 = _ := ev
   simp only [ev] at hKO
   go_simp
   exact hKO _ W (Ext.refl W) hu
  ·have q4 := hp.1
   obtain ⟨u, ev, hu⟩ := q4
   replace ev : vs 4 = _ := ev
   simp only [ev] at hKO
   go_simp
   exact hKO _ W (Ext.refl W) rfl
  ·have hn := Bx3.new W 35 (.bool false) (.slice none 0 0) (.slice none 0 0)
   have hE := Ext.alloc1 W (.cells #[.bool false, .slice none 0 0, .slice none 0 0] 35)
   have hsz := hS.2.2.2.2.2.2
   go_simp
   exact hKO _ _ hE ⟨_, rfl, hsz, hn.form⟩
  ·have q7 := hp.1
   have q5 := hp.2.1
   obtain ⟨g, ev, hg, hf⟩ := q7
   replace ev : vs 7 = _ := ev
   obtain ⟨x0, y0, z0, hx, hno⟩ := hf.bx3
   have qr := q5
   obtain ⟨b3, a3, n3, c3, d3, m3, o3, er, -, -, -⟩ := qr
   replace er : vs 5 = _ := er
   have r0 := hx.froz0
   have t0 := hx.cell0
   have r1 := hx.froz1
   have t1 := hx.cell1
   have r2 := hx.froz2
   have t2 := hx.cell2
   have hw := Wr.set3 hx hno b3 a3 n3 c3 d3 m3 o3
   have hq := hx.set (.bool b3) (.slice a3 n3 c3) (.slice d3 m3 o3)
   simp only [ev, er] at hKO
   go_simp
   exact hKO _ _ hw ⟨(Ext.wr hS.1 hw (by omega)), (hS.2.1.wr hw), (hS.2.2.1.wr hw (by omega)), (hS.2.2.2.1.wr hw), (hS.2.2.2.2.1.wr hw (by omega)), (hS.2.2.2.2.2.1.wr hw), (Nat.le_trans hS.2.2.2.2.2.2 hw.apart.size)⟩ ⟨g, b3, a3, n3, c3, d3, m3, o3, ev, er, hg, hq⟩
  ·have e6 := isOf hp.1
   simp only [e6] at hKO
   go_simp
   exact hKO _ W (Ext.refl W) rfl
 intro vs W2 hS hp
 clear szw2 E0 h1 p4 h1_5 p1_8 h1_1
 obtain ⟨E0, h1, p4, h1_5, p1_8, h1_1, sz2⟩ := hS
 obtain ⟨h2_0, h2_1, h2_2, h2_3, h2_4, h2_5, h2_6, h2_7, h2_8, h2_9, -⟩ := hp
 obtain ⟨g2_8, b2_8, a2_8, n2_8, c2_8, d2_8, m2_8, o2_8, ev2_8, er2_8, hg2_8, p2_8⟩ := h2_8
 replace ev2_8 : vs 7 = _ := ev2_8
 replace er2_8 : vs 5 = _ := er2_8
 replace h2_5 := (show Rw W2 (vs 5) (((1 : Int) : Rat) / P2 J) from h2_5)
 rw [er2_8] at h2_5
 replace h2_1 : vs 1 = .int .i64 (K : Int) := h2_1
 replace h2_2 : vs 2 = .int .i64 (J : Int) := h2_2
 replace h2_6 : vs 6 = .int .i64 0 := h2_6
 replace h2_9 : vs 9 = .int .i64 0 := h2_9
 simp only [ev2_8, er2_8, h2_1, h2_2, h2_6, h2_9]
 replace h2_0 : Zw W2 (vs 0) ((1 : Int)) := h2_0
 generalize vs 0 = u2_0 at h2_0 ⊢
 clear ev2_8 er2_8 h2_1 h2_2 h2_6 h2_9 h2_3 h2_4 h2_7
 have kp4_0 := p4.cell0
 have kp4_1 := p4.cell1
 have kp4_2 := p4.cell2
 have kp1_8_0 := p1_8.cell0
 have kp1_8_1 := p1_8.cell1
 have kp1_8_2 := p1_8.cell2
 have kp2_8_0 := p2_8.cell0
 have kp2_8_1 := p2_8.cell1
 have kp2_8_2 := p2_8.cell2
 go_upto_region 3 with (fail)
 clear kp4_0 kp4_1 kp4_2 kp1_8_0 kp1_8_1 kp1_8_2 kp2_8_0 kp2_8_1 kp2_8_2
 have ltp2_8 := p2_8.lt
 have szw3 := Ext.size E0
 refine region_go [.one fun v _ => v = .agg #[.bool b1_8, .slice a1_8 n1_8 c1_8, .slice d1_8 m1_8 o1_8],
   .one fun v _ => v = .agg #[.bool b1, .slice a1 n1 c1, .slice d1 m1 o1],
   .one fun v W => Rw W v ((n : Rat) / P2 K - x),
   .one fun v W => Rw W v (Rat.abs ((n : Rat) / P2 K - x)),
   .one fun v _ => v = .agg #[.bool b2_8, .slice a2_8 n2_8 c2_8, .slice d2_8 m2_8 o2_8],
   .one fun v _ => v = .int .i64 c,
   .one fun v _ => v = .bool true,
   .one fun v _ => v = .bool true]
  (fun W => Ext w W ∧ Rw W (.agg #[.bool b1, .slice a1 n1 c1, .slice d1 m1 o1]) x ∧ Bx3 W w.heap.size 35 (.bool b1) (.slice a1 n1 c1) (.slice d1 m1 o1) ∧ Rw W (.agg #[.bool b1_8, .slice a1_8 n1_8 c1_8, .slice d1_8 m1_8 o1_8]) ((n : Rat) / P2 K) ∧ Bx3 W g1_8 35 (.bool b1_8) (.slice a1_8 n1_8 c1_8) (.slice d1_8 m1_8 o1_8) ∧ Zw W u1_1 n ∧ Rw W (.agg #[.bool b2_8, .slice a2_8 n2_8 c2_8, .slice d2_8 m2_8 o2_8]) (((1 : Int) : Rat) / P2 J) ∧ Bx3 W g2_8 35 (.bool b2_8) (.slice a2_8 n2_8 c2_8) (.slice d2_8 m2_8 o2_8) ∧ Zw W u2_0 ((1 : Int)) ∧ W2.heap.size ≤ W.heap.size) ⟨Good.is _, Good.is _, Good.rat _, Good.rat _, Good.is _, Good.is _, Good.is _, Good.is _, trivial⟩
  (fun W W1 hS hE => ⟨(Ext.trans hS.1 hE), (hS.2.1.ext hE), (hS.2.2.1.ext hE), (hS.2.2.2.1.ext hE), (hS.2.2.2.2.1.ext hE), (hS.2.2.2.2.2.1.ext hE), (hS.2.2.2.2.2.2.1.ext hE), (hS.2.2.2.2.2.2.2.1.ext hE), (hS.2.2.2.2.2.2.2.2.1.ext hE), (Nat.le_trans hS.2.2.2.2.2.2.2.2.2 (Ext.size hE))⟩) ⟨E0, h1, p4, h1_5, p1_8, h1_1, h2_5, p2_8, h2_0, Nat.le_refl _⟩ (by kernel_rfl) (by kernel_rfl) (by kernel_rfl) (by kernel_rfl) (A := ?A3) ?hA3 ?howe3 ?hfin3
 case hA3 =>
  intro vs
  simp only [putAll, Act.put, List.setIfInBounds_toArray, List.set_cons_zero, List.set_cons_succ, Nat.zero_add, Nat.reduceAdd]
  exact rfl
 case howe3 =>
  clear E0 h1 p4 h1_5 p1_8 h1_1 h2_5 p2_8 h2_0
  intro hf
  refine ⟨owesE 0 [] hf rfl (by kernel_rfl) ?_, owesE 1 [] hf rfl (by kernel_rfl) ?_, owesE 2 [0, 1] hf rfl (by kernel_rfl) ?_, owesE 3 [2] hf rfl (by kernel_rfl) ?_, owesE 4 [] hf rfl (by kernel_rfl) ?_, owesE 5 [3, 4] hf rfl (by kernel_rfl) ?_, owesE 6 [5] hf rfl (by kernel_rfl) ?_, owesE 7 [6] hf rfl (by kernel_rfl) ?_, trivial⟩
  all_goals intro vs W hS hp hx KO hKO
  all_goals simp only [Act.put, List.setIfInBounds_toArray, List.set_cons_zero, List.set_cons_succ] at hKO
  ·have fc0 := hS.2.2.2.2.1.cell0
   have fc1 := hS.2.2.2.2.1.cell1
   have fc2 := hS.2.2.2.2.1.cell2
   go_simp
   exact hKO _ W (Ext.refl W) rfl
  ·have fc0 := hS.2.2.1.cell0
   have fc1 := hS.2.2.1.cell1
   have fc2 := hS.2.2.1.cell2
   go_simp
   exact hKO _ W (Ext.refl W) rfl
  ·have e0 := isOf hp.1
   have e1 := isOf hp.2.1
   simp only [e0, e1] at hKO
   go_simp
   refine (Try.refRSub (hS.2.2.2.1) (hS.2.1) SO.out s1 (by omega)).mono ?_
   rintro e W1 ⟨v, rfl, hv, hE⟩
   exact hKO _ W1 hE hv
  ·have q2 := hp.1
   go_simp
   refine (Try.refRAbs q2).mono ?_
   rintro e W1 ⟨v, rfl, hv, hE⟩
   exact hKO _ W1 hE hv
  ·have fc0 := hS.2.2.2.2.2.2.2.1.cell0
   have fc1 := hS.2.2.2.2.2.2.2.1.cell1
   have fc2 := hS.2.2.2.2.2.2.2.1.cell2
   go_simp
   exact hKO _ W (Ext.refl W) rfl
  ·have q3 := hp.1
   have e4 := isOf hp.2.1
   simp only [e4] at hKO
   go_simp
   refine (Try.refRCmpR q3 (hS.2.2.2.2.2.2.1) SD.out SH.out (by omega) HC.out).mono ?_
   rintro e W1 ⟨rfl, hE⟩
   exact hKO _ W1 hE rfl
  ·have e5 := isOf hp.1
   simp only [e5] at hKO
   go_simp
   exact hKO _ W (Ext.refl W) (by first | rfl | exact congrArg Value.bool (decide_eq_true hcl))
  ·have e6 := isOf hp.1
   simp only [e6] at hKO
   go_simp
   exact hKO _ W (Ext.refl W) rfl
 intro vs W3 hS hp
 clear szw3 E0 h1 p4 h1_5 p1_8 h1_1 h2_5 p2_8 h2_0
 obtain ⟨E0, h1, p4, h1_5, p1_8, h1_1, h2_5, p2_8, h2_0, sz3⟩ := hS
 obtain ⟨h3_0, h3_1, h3_2, h3_3, h3_4, h3_5, h3_6, h3_7, -⟩ := hp
 replace h3_0 : vs 0 = .agg #[.bool b1_8, .slice a1_8 n1_8 c1_8, .slice d1_8 m1_8 o1_8] := h3_0
 replace h3_1 : vs 1 = .agg #[.bool b1, .slice a1 n1 c1, .slice d1 m1 o1] := h3_1
 replace h3_4 : vs 4 = .agg #[.bool b2_8, .slice a2_8 n2_8 c2_8, .slice d2_8 m2_8 o2_8] := h3_4
 replace h3_5 : vs 5 = .int .i64 c := h3_5
 replace h3_6 : vs 6 = .bool true := h3_6
 replace h3_7 : vs 7 = .bool true := h3_7
 simp only [h3_0, h3_1, h3_4, h3_5, h3_6, h3_7]
 replace h3_2 : Rw W3 (vs 2) ((n : Rat) / P2 K - x) := h3_2
 generalize vs 2 = u3_2 at h3_2 ⊢
 replace h3_3 : Rw W3 (vs 3) (Rat.abs ((n : Rat) / P2 K - x)) := h3_3
 generalize vs 3 = u3_3 at h3_3 ⊢
 clear h3_0 h3_1 h3_4 h3_5 h3_6 h3_7
 have kp4_0 := p4.cell0
 have kp4_1 := p4.cell1
 have kp4_2 := p4.cell2
 have kp1_8_0 := p1_8.cell0
 have kp1_8_1 := p1_8.cell1
 have kp1_8_2 := p1_8.cell2
 have kp2_8_0 := p2_8.cell0
 have kp2_8_1 := p2_8.cell1
 have kp2_8_2 := p2_8.cell2
 go_wp2
 go_ret
 exact ⟨rfl, E0⟩

set_option maxRecDepth 100000 in
set_option maxHeartbeats 16000000 in
theorem Try.lawFixHalf (a b f : Int) (w : World) (ha1 : -9223372036854775808 ≤ a) (ha2 : a < 9223372036854775808) (hb1 : -9223372036854775808 ≤ b) (hb2 : b < 9223372036854775808) :
  Calls Try.prog 4 #[.int .i64 a, .int .i64 b, .int .i64 f] w fun e w' => e = .returned (.bool true) ∧ Ext w w' := by
 by_cases hf1 : f < 0
 ·have HF : Hid (fracB f = false) := Lib.hid (decide_eq_false (by omega))
  have hf1d : decide (f < 0) = true := decide_eq_true hf1
  obtain ⟨W0, hW0⟩ : ∃ W0, W0 = w := ⟨_, rfl⟩
  have E0 : Ext w W0 := by rw [hW0]; exact Ext.refl w
  go_enter Try.func4, Try.ntmps4
  go_wp2_with fail
  rw [← hW0]
  clear hW0
  refine (Try.fixMulNo a b f _ HF.out).mono ?_
  rintro e V1 ⟨rfl, rfl⟩
  go_wp2_with fail
  refine (Try.fixDivNo a b f _ HF.out).mono ?_
  rintro e V2 ⟨rfl, rfl⟩
  go_wp2_with fail
  refine (Try.alive08 _).mono ?_
  rintro e V3 ⟨rfl, hE⟩
  replace E0 : Ext w V3 := (Ext.trans E0 hE)
  clear hE
  go_wp2
  go_ret
  exact ⟨rfl, E0⟩
 ·by_cases hf2 : 40 < f
  ·have HF : Hid (fracB f = false) := Lib.hid (decide_eq_false (by omega))
   have hf1d : decide (f < 0) = false := decide_eq_false hf1
   have hf2d : decide (40 < f) = true := decide_eq_true hf2
   obtain ⟨W0, hW0⟩ : ∃ W0, W0 = w := ⟨_, rfl⟩
   have E0 : Ext w W0 := by rw [hW0]; exact Ext.refl w
   go_enter Try.func4, Try.ntmps4
   go_wp2_with fail
   rw [← hW0]
   clear hW0
   refine (Try.fixMulNo a b f _ HF.out).mono ?_
   rintro e V4 ⟨rfl, rfl⟩
   go_wp2_with fail
   refine (Try.fixDivNo a b f _ HF.out).mono ?_
   rintro e V5 ⟨rfl, rfl⟩
   go_wp2_with fail
   refine (Try.alive08 _).mono ?_
   rintro e V6 ⟨rfl, hE⟩
   replace E0 : Ext w V6 := (Ext.trans E0 hE)
   clear hE
   go_wp2
   go_ret
   exact ⟨rfl, E0⟩
  ·obtain ⟨K, rfl⟩ := Int.eq_ofNat_of_zero_le (show 0 ≤ f by omega)
   have hK : K ≤ 40 := by omega
   have hf1d : decide ((K : Int) < 0) = false := decide_eq_false hf1
   have hf2d : decide (40 < (K : Int)) = false := decide_eq_false hf2
   have hf2n : decide (40 < K) = false := decide_eq_false (by omega)
   have SX : Hid (SmR 2 ((a : Rat) / P2 K)) := Lib.hid (SmR.backP (Sm.small (by omega)) (by omega))
   have SY : Hid (SmR 2 ((b : Rat) / P2 K)) := Lib.hid (SmR.backP (Sm.small (by omega)) (by omega))
   have SXY : Hid (SmR 10 ((a : Rat) / P2 K * ((b : Rat) / P2 K))) := Lib.hid ((SX.out.mul SY.out).mono (by omega))
   have S1 : Hid (Sm 1 a.natAbs) := Lib.hid (Sm.small (by omega))
   have S2 : Hid (Sm 1 b.natAbs) := Lib.hid (Sm.small (by omega))
   have S3 : Hid (Sm 1 (9223372036854775807 : Int).natAbs) := Lib.hid (Sm.small (by decide))
   have HB := Lib.hid (show (-9223372036854775808 ≤ a ∧ a < 9223372036854775808) ∧ (-9223372036854775808 ≤ b ∧ b < 9223372036854775808) from ⟨⟨ha1, ha2⟩, ⟨hb1, hb2⟩⟩)
   have HK := Lib.hid (show K ≤ 40 ∧ K ≤ 2000 by omega)
   have HKF : Hid (fracB (K : Int) = true) := Lib.hid (decide_eq_true (by omega))
   clear ha1 ha2 hb1 hb2 hf1 hf2 hK
   obtain ⟨M, hM⟩ : ∃ M, nearR (((a * b : Int) : Rat) / ((2 ^ K : Nat) : Rat)) = M := ⟨_, rfl⟩
   have HMN : Hid (Rat.abs ((M : Rat) / P2 K - (a : Rat) / P2 K * ((b : Rat) / P2 K)) ≤ ((1 : Int) : Rat) / P2 (K + 1)) := Lib.hid (by have := half_near ((a : Rat) / P2 K * ((b : Rat) / P2 K)) K; rw [mul_back, hM] at this; exact this)
   have HM := Lib.hid hM
   clear hM
   obtain he | he := fitE_2 (a := M)
   ·have HVM : Hid (fitV (nearR (((a * b : Int) : Rat) / ((2 ^ K : Nat) : Rat))) = M) := Lib.hid (by rw [HM.out]; exact fitE_0 he)
    have HMF : Hid (-9223372036854775808 ≤ M ∧ M < 9223372036854775808) := Lib.hid (by
     have h2 : fits M = true := by cases hh : fits M; rw [fitE_out hh] at he; cases he; rfl
     exact fits_iff.1 h2)
    have HEM : Hid (fitE (nearR (((a * b : Int) : Rat) / ((2 ^ K : Nat) : Rat))) = 0) := Lib.hid (by rw [HM.out]; exact he)
    clear he HM
    by_cases hb0 : b = 0
    ·subst hb0
     have hm2n : (0 : Int) = 0 := rfl
     clear hm2n
     obtain ⟨W0, hW0⟩ : ∃ W0, W0 = w := ⟨_, rfl⟩
     have E0 : Ext w W0 := by rw [hW0]; exact Ext.refl w
     go_enter Try.func4, Try.ntmps4
     go_upto_region 5 with (fail)
     rw [← hW0]
     clear hW0
     have szw4 := Ext.size E0
     refine region_go [.one fun v _ => v = .int .i64 a,
       .one fun v W => Zw W v a,
       .one fun v _ => v = .int .i64 (K : Int),
       .one fun v W => ∃ v', v = .tuple #[v', .int .i64 0] ∧ (fun v W => Rw W v ((a : Rat) / P2 K)) v' W,
       .one fun v W => ∃ v', v = .tuple #[v', .int .i64 0] ∧ (fun v W => Rw W v ((a : Rat) / P2 K)) v' W,
       .one fun v W => Rw W v ((a : Rat) / P2 K),
       .one fun v _ => v = .int .i64 0,
       .one fun v W => ∃ g, v = .pointer (some ⟨g, 0, none⟩) ∧ W0.heap.size ≤ g ∧ Form W g 35 3,
       .three 7 5 (fun p r _ W => Put3 W0.heap.size 35 p r W),
       .one fun v _ => v = .int .i64 0]
      (fun W => Ext w W ∧ W0.heap.size ≤ W.heap.size) ⟨Good.is _, Good.zed _, Good.is _, (Good.rat _).tup _, (Good.rat _).tup _, Good.rat _, Good.is _, Good.box _ _ _, cert_put3, Good.is _, trivial⟩
      (fun W W1 hS hE => ⟨(Ext.trans hS.1 hE), (Nat.le_trans hS.2 (Ext.size hE))⟩) ⟨E0, Nat.le_refl _⟩ (by kernel_rfl) (by kernel_rfl) (by kernel_rfl) (by kernel_rfl) (A := ?A4) ?hA4 ?howe4 ?hfin4
     case hA4 =>
      intro vs
      simp only [putAll, Act.put, List.setIfInBounds_toArray, List.set_cons_zero, List.set_cons_succ, Nat.zero_add, Nat.reduceAdd]
      exact rfl
     case howe4 =>
      clear E0
      intro hf
      refine ⟨owesE 0 [] hf rfl (by kernel_rfl) ?_, owesE 1 [0] hf rfl (by kernel_rfl) ?_, owesE 2 [] hf rfl (by kernel_rfl) ?_, owesE 3 [1, 2] hf rfl (by kernel_rfl) ?_, owesE 4 [3] hf rfl (by kernel_rfl) ?_, owesE 5 [4] hf rfl (by kernel_rfl) ?_, owesE 6 [4] hf rfl (by kernel_rfl) ?_, owesE 7 [] hf rfl (by kernel_rfl) ?_, owesW 8 [7, 5] hf rfl (by kernel_rfl) (by kernel_rfl) ?_, owesE 9 [6] hf rfl (by kernel_rfl) ?_, trivial⟩
      all_goals intro vs W hS hp hx KO hKO
      all_goals simp only [Act.put, List.setIfInBounds_toArray, List.set_cons_zero, List.set_cons_succ] at hKO
      ·go_simp
       exact hKO _ W (Ext.refl W) rfl
      ·have e0 := isOf hp.1
       simp only [e0] at hKO
       go_simp
       refine (Try.refZOf a _ HB.out.1.1 HB.out.1.2).mono ?_
       rintro e W1 ⟨v, rfl, hv, hE⟩
       exact hKO _ W1 hE hv
      ·go_simp
       exact hKO _ W (Ext.refl W) rfl
      ·have q1 := hp.1
       have e2 := isOf hp.2.1
       simp only [e2] at hKO
       go_simp
       refine (Try.refBack q1 S1.out (by omega) K HK.out.2).mono ?_
       rintro e W1 ⟨v, rfl, hv, hE⟩
       exact hKO _ W1 hE ⟨_, rfl, hv⟩
      ·have q3 := hp.1
       obtain ⟨u, ev, hu⟩ := q3
       replace ev : vs 3 = _ := ev
       simp only [ev] at hKO
       go_simp
       exact hKO _ W (Ext.refl W) ⟨u, rfl, hu⟩
      ·have q4 := hp.1
       obtain ⟨u, ev, hu⟩ := q4
       replace ev : vs 4 = _ := ev
       simp only [ev] at hKO
       go_simp
       exact hKO _ W (Ext.refl W) hu
      ·have q4 := hp.1
       obtain ⟨u, ev, hu⟩ := q4
       replace ev : vs 4 = _ := ev
       simp only [ev] at hKO
       go_simp
       exact hKO _ W (Ext.refl W) rfl
      ·have hn := Bx3.new W 35 (.bool false) (.slice none 0 0) (.slice none 0 0)
       have hE := Ext.alloc1 W (.cells #[.bool false, .slice none 0 0, .slice none 0 0] 35)
       have hsz := hS.2
       go_simp
       exact hKO _ _ hE ⟨_, rfl, hsz, hn.form⟩
      ·have q7 := hp.1
       have q5 := hp.2.1
       obtain ⟨g, ev, hg, hf⟩ := q7
       replace ev : vs 7 = _ := ev
       obtain ⟨x0, y0, z0, hx, hno⟩ := hf.bx3
       have qr := q5
       obtain ⟨b3, a3, n3, c3, d3, m3, o3, er, -, -, -⟩ := qr
       replace er : vs 5 = _ := er
       have r0 := hx.froz0
       have t0 := hx.cell0
       have r1 := hx.froz1
       have t1 := hx.cell1
       have r2 := hx.froz2
       have t2 := hx.cell2
       have hw := Wr.set3 hx hno b3 a3 n3 c3 d3 m3 o3
       have hq := hx.set (.bool b3) (.slice a3 n3 c3) (.slice d3 m3 o3)
       simp only [ev, er] at hKO
       go_simp
       exact hKO _ _ hw ⟨(Ext.wr hS.1 hw (by omega)), (Nat.le_trans hS.2 hw.apart.size)⟩ ⟨g, b3, a3, n3, c3, d3, m3, o3, ev, er, hg, hq⟩
      ·have e6 := isOf hp.1
       simp only [e6] at hKO
       go_simp
       exact hKO _ W (Ext.refl W) rfl
     intro vs W4 hS hp
     clear szw4 E0
     obtain ⟨E0, sz4⟩ := hS
     obtain ⟨h4_0, h4_1, h4_2, h4_3, h4_4, h4_5, h4_6, h4_7, h4_8, h4_9, -⟩ := hp
     obtain ⟨g4_8, b4_8, a4_8, n4_8, c4_8, d4_8, m4_8, o4_8, ev4_8, er4_8, hg4_8, p4_8⟩ := h4_8
     replace ev4_8 : vs 7 = _ := ev4_8
     replace er4_8 : vs 5 = _ := er4_8
     replace h4_5 := (show Rw W4 (vs 5) ((a : Rat) / P2 K) from h4_5)
     rw [er4_8] at h4_5
     replace h4_0 : vs 0 = .int .i64 a := h4_0
     replace h4_2 : vs 2 = .int .i64 (K : Int) := h4_2
     replace h4_6 : vs 6 = .int .i64 0 := h4_6
     replace h4_9 : vs 9 = .int .i64 0 := h4_9
     simp only [ev4_8, er4_8, h4_0, h4_2, h4_6, h4_9]
     replace h4_1 : Zw W4 (vs 1) a := h4_1
     generalize vs 1 = u4_1 at h4_1 ⊢
     clear ev4_8 er4_8 h4_0 h4_2 h4_6 h4_9 h4_3 h4_4 h4_7
     have kp4_8_0 := p4_8.cell0
     have kp4_8_1 := p4_8.cell1
     have kp4_8_2 := p4_8.cell2
     go_upto_region 6 with (fail)
     clear kp4_8_0 kp4_8_1 kp4_8_2
     have ltp4_8 := p4_8.lt
     have szw5 := Ext.size E0
     refine region_go [.one fun v _ => v = .int .i64 0,
       .one fun v W => Zw W v ((0 : Int)),
       .one fun v _ => v = .int .i64 (K : Int),
       .one fun v W => ∃ v', v = .tuple #[v', .int .i64 0] ∧ (fun v W => Rw W v (((0 : Int) : Rat) / P2 K)) v' W,
       .one fun v W => ∃ v', v = .tuple #[v', .int .i64 0] ∧ (fun v W => Rw W v (((0 : Int) : Rat) / P2 K)) v' W,
       .one fun v W => Rw W v (((0 : Int) : Rat) / P2 K),
       .one fun v _ => v = .int .i64 0,
       .one fun v W => ∃ g, v = .pointer (some ⟨g, 0, none⟩) ∧ W4.heap.size ≤ g ∧ Form W g 35 3,
       .three 7 5 (fun p r _ W => Put3 W4.heap.size 35 p r W),
       .one fun v _ => v = .int .i64 0]
      (fun W => Ext w W ∧ Rw W (.agg #[.bool b4_8, .slice a4_8 n4_8 c4_8, .slice d4_8 m4_8 o4_8]) ((a : Rat) / P2 K) ∧ Bx3 W g4_8 35 (.bool b4_8) (.slice a4_8 n4_8 c4_8) (.slice d4_8 m4_8 o4_8) ∧ Zw W u4_1 a ∧ W4.heap.size ≤ W.heap.size) ⟨Good.is _, Good.zed _, Good.is _, (Good.rat _).tup _, (Good.rat _).tup _, Good.rat _, Good.is _, Good.box _ _ _, cert_put3, Good.is _, trivial⟩
      (fun W W1 hS hE => ⟨(Ext.trans hS.1 hE), (hS.2.1.ext hE), (hS.2.2.1.ext hE), (hS.2.2.2.1.ext hE), (Nat.le_trans hS.2.2.2.2 (Ext.size hE))⟩) ⟨E0, h4_5, p4_8, h4_1, Nat.le_refl _⟩ (by kernel_rfl) (by kernel_rfl) (by kernel_rfl) (by kernel_rfl) (A := ?A5) ?hA5 ?howe5 ?hfin5
     case hA5 =>
      intro vs
      simp only [putAll, Act.put, List.setIfInBounds_toArray, List.set_cons_zero, List.set_cons_succ, Nat.zero_add, Nat.reduceAdd]
      exact rfl
     case howe5 =>
      clear E0 h4_5 p4_8 h4_1
      intro hf
      refine ⟨owesE 0 [] hf rfl (by kernel_rfl) ?_, owesE 1 [0] hf rfl (by kernel_rfl) ?_, owesE 2 [] hf rfl (by kernel_rfl) ?_, owesE 3 [1, 2] hf rfl (by kernel_rfl) ?_, owesE 4 [3] hf rfl (by kernel_rfl) ?_, owesE 5 [4] hf rfl (by kernel_rfl) ?_, owesE 6 [4] hf rfl (by kernel_rfl) ?_, owesE 7 [] hf rfl (by kernel_rfl) ?_, owesW 8 [7, 5] hf rfl (by kernel_rfl) (by kernel_rfl) ?_, owesE 9 [6] hf rfl (by kernel_rfl) ?_, trivial⟩
      all_goals intro vs W hS hp hx KO hKO
      all_goals simp only [Act.put, List.setIfInBounds_toArray, List.set_cons_zero, List.set_cons_succ] at hKO
      ·go_simp
       exact hKO _ W (Ext.refl W) rfl
      ·have e0 := isOf hp.1
       simp only [e0] at hKO
       go_simp
       refine (Try.refZOf 0 _ HB.out.2.1 HB.out.2.2).mono ?_
       rintro e W1 ⟨v, rfl, hv, hE⟩
       exact hKO _ W1 hE hv
      ·go_simp
       exact hKO _ W (Ext.refl W) rfl
      ·have q1 := hp.1
       have e2 := isOf hp.2.1
       simp only [e2] at hKO
       go_simp
       refine (Try.refBack q1 S2.out (by omega) K HK.out.2).mono ?_
       rintro e W1 ⟨v, rfl, hv, hE⟩
       exact hKO _ W1 hE ⟨_, rfl, hv⟩
      ·have q3 := hp.1
       obtain ⟨u, ev, hu⟩ := q3
       replace ev : vs 3 = _ := ev
       simp only [ev] at hKO
       go_simp
       exact hKO _ W (Ext.refl W) ⟨u, rfl, hu⟩
      ·have q4 := hp.1
       obtain ⟨u, ev, hu⟩ := q4
       replace ev : vs 4 = _ := ev
       simp only [ev] at hKO
       go_simp
       exact hKO _ W (Ext.refl W) hu
      ·have q4 := hp.1
       obtain ⟨u, ev, hu⟩ := q4
       replace ev : vs 4 = _ := ev
       simp only [ev] at hKO
       go_simp
       exact hKO _ W (Ext.refl W) rfl
      ·have hn := Bx3.new W 35 (.bool false) (.slice none 0 0) (.slice none 0 0)
       have hE := Ext.alloc1 W (.cells #[.bool false, .slice none 0 0, .slice none 0 0] 35)
       have hsz := hS.2.2.2.2
       go_simp
       exact hKO _ _ hE ⟨_, rfl, hsz, hn.form⟩
      ·have q7 := hp.1
       have q5 := hp.2.1
       obtain ⟨g, ev, hg, hf⟩ := q7
       replace ev : vs 7 = _ := ev
       obtain ⟨x0, y0, z0, hx, hno⟩ := hf.bx3
       have qr := q5
       obtain ⟨b3, a3, n3, c3, d3, m3, o3, er, -, -, -⟩ := qr
       replace er : vs 5 = _ := er
       have r0 := hx.froz0
       have t0 := hx.cell0
       have r1 := hx.froz1
       have t1 := hx.cell1
       have r2 := hx.froz2
       have t2 := hx.cell2
       have hw := Wr.set3 hx hno b3 a3 n3 c3 d3 m3 o3
       have hq := hx.set (.bool b3) (.slice a3 n3 c3) (.slice d3 m3 o3)
       simp only [ev, er] at hKO
       go_simp
       exact hKO _ _ hw ⟨(Ext.wr hS.1 hw (by omega)), (hS.2.1.wr hw), (hS.2.2.1.wr hw (by omega)), (hS.2.2.2.1.wr hw), (Nat.le_trans hS.2.2.2.2 hw.apart.size)⟩ ⟨g, b3, a3, n3, c3, d3, m3, o3, ev, er, hg, hq⟩
      ·have e6 := isOf hp.1
       simp only [e6] at hKO
       go_simp
       exact hKO _ W (Ext.refl W) rfl
     intro vs W5 hS hp
     clear szw5 E0 h4_5 p4_8 h4_1
     obtain ⟨E0, h4_5, p4_8, h4_1, sz5⟩ := hS
     obtain ⟨h5_0, h5_1, h5_2, h5_3, h5_4, h5_5, h5_6, h5_7, h5_8, h5_9, -⟩ := hp
     obtain ⟨g5_8, b5_8, a5_8, n5_8, c5_8, d5_8, m5_8, o5_8, ev5_8, er5_8, hg5_8, p5_8⟩ := h5_8
     replace ev5_8 : vs 7 = _ := ev5_8
     replace er5_8 : vs 5 = _ := er5_8
     replace h5_5 := (show Rw W5 (vs 5) (((0 : Int) : Rat) / P2 K) from h5_5)
     rw [er5_8] at h5_5
     replace h5_0 : vs 0 = .int .i64 0 := h5_0
     replace h5_2 : vs 2 = .int .i64 (K : Int) := h5_2
     replace h5_6 : vs 6 = .int .i64 0 := h5_6
     replace h5_9 : vs 9 = .int .i64 0 := h5_9
     simp only [ev5_8, er5_8, h5_0, h5_2, h5_6, h5_9]
     replace h5_1 : Zw W5 (vs 1) ((0 : Int)) := h5_1
     generalize vs 1 = u5_1 at h5_1 ⊢
     clear ev5_8 er5_8 h5_0 h5_2 h5_6 h5_9 h5_3 h5_4 h5_7
     have kp4_8_0 := p4_8.cell0
     have kp4_8_1 := p4_8.cell1
     have kp4_8_2 := p4_8.cell2
     have kp5_8_0 := p5_8.cell0
     have kp5_8_1 := p5_8.cell1
     have kp5_8_2 := p5_8.cell2
     go_upto_region 7 with (fail)
     clear kp4_8_0 kp4_8_1 kp4_8_2 kp5_8_0 kp5_8_1 kp5_8_2
     have ltp5_8 := p5_8.lt
     have szw6 := Ext.size E0
     refine region_go [.one fun v _ => v = .int .i64 a,
       .one fun v _ => v = .int .i64 0,
       .one fun v _ => v = .int .i64 (K : Int),
       .one fun v _ => v = .tuple #[.int .i64 M, .int .i64 0],
       .one fun v _ => v = .tuple #[.int .i64 M, .int .i64 0],
       .one fun v _ => v = .int .i64 M,
       .one fun v _ => v = .int .i64 0,
       .one fun v _ => v = .int .i64 M,
       .one fun v _ => v = .int .i64 0]
      (fun W => Ext w W ∧ Rw W (.agg #[.bool b4_8, .slice a4_8 n4_8 c4_8, .slice d4_8 m4_8 o4_8]) ((a : Rat) / P2 K) ∧ Bx3 W g4_8 35 (.bool b4_8) (.slice a4_8 n4_8 c4_8) (.slice d4_8 m4_8 o4_8) ∧ Zw W u4_1 a ∧ Rw W (.agg #[.bool b5_8, .slice a5_8 n5_8 c5_8, .slice d5_8 m5_8 o5_8]) (((0 : Int) : Rat) / P2 K) ∧ Bx3 W g5_8 35 (.bool b5_8) (.slice a5_8 n5_8 c5_8) (.slice d5_8 m5_8 o5_8) ∧ Zw W u5_1 ((0 : Int)) ∧ W5.heap.size ≤ W.heap.size) ⟨Good.is _, Good.is _, Good.is _, Good.is _, Good.is _, Good.is _, Good.is _, Good.is _, Good.is _, trivial⟩
      (fun W W1 hS hE => ⟨(Ext.trans hS.1 hE), (hS.2.1.ext hE), (hS.2.2.1.ext hE), (hS.2.2.2.1.ext hE), (hS.2.2.2.2.1.ext hE), (hS.2.2.2.2.2.1.ext hE), (hS.2.2.2.2.2.2.1.ext hE), (Nat.le_trans hS.2.2.2.2.2.2.2 (Ext.size hE))⟩) ⟨E0, h4_5, p4_8, h4_1, h5_5, p5_8, h5_1, Nat.le_refl _⟩ (by kernel_rfl) (by kernel_rfl) (by kernel_rfl) (by kernel_rfl) (A := ?A6) ?hA6 ?howe6 ?hfin6
     case hA6 =>
      intro vs
      simp only [putAll, Act.put, List.setIfInBounds_toArray, List.set_cons_zero, List.set_cons_succ, Nat.zero_add, Nat.reduceAdd]
      exact rfl
     case howe6 =>
      clear E0 h4_5 p4_8 h4_1 h5_5 p5_8 h5_1
      intro hf
      refine ⟨owesE 0 [] hf rfl (by kernel_rfl) ?_, owesE 1 [] hf rfl (by kernel_rfl) ?_, owesE 2 [] hf rfl (by kernel_rfl) ?_, owesE 3 [0, 1, 2] hf rfl (by kernel_rfl) ?_, owesE 4 [3] hf rfl (by kernel_rfl) ?_, owesE 5 [4] hf rfl (by kernel_rfl) ?_, owesE 6 [4] hf rfl (by kernel_rfl) ?_, owesE 7 [5] hf rfl (by kernel_rfl) ?_, owesE 8 [6] hf rfl (by kernel_rfl) ?_, trivial⟩
      all_goals intro vs W hS hp hx KO hKO
      all_goals simp only [Act.put, List.setIfInBounds_toArray, List.set_cons_zero, List.set_cons_succ] at hKO
      ·go_simp
       exact hKO _ W (Ext.refl W) rfl
      ·go_simp
       exact hKO _ W (Ext.refl W) rfl
      ·go_simp
       exact hKO _ W (Ext.refl W) rfl
      ·have e0 := isOf hp.1
       have e1 := isOf hp.2.1
       have e2 := isOf hp.2.2.1
       simp only [e0, e1, e2] at hKO
       go_simp
       refine (Try.fixMulV a 0 K HK.out.1 _ HB.out.1.1 HB.out.1.2 HB.out.2.1 HB.out.2.2 HVM.out HEM.out).mono ?_
       rintro e W1 ⟨rfl, hE⟩
       exact hKO _ W1 hE rfl
      ·have e3 := isOf hp.1
       simp only [e3] at hKO
       go_simp
       exact hKO _ W (Ext.refl W) rfl
      ·have e4 := isOf hp.1
       simp only [e4] at hKO
       go_simp
       exact hKO _ W (Ext.refl W) rfl
      ·have e4 := isOf hp.1
       simp only [e4] at hKO
       go_simp
       exact hKO _ W (Ext.refl W) rfl
      ·have e5 := isOf hp.1
       simp only [e5] at hKO
       go_simp
       exact hKO _ W (Ext.refl W) rfl
      ·have e6 := isOf hp.1
       simp only [e6] at hKO
       go_simp
       exact hKO _ W (Ext.refl W) rfl
     intro vs W6 hS hp
     clear szw6 E0 h4_5 p4_8 h4_1 h5_5 p5_8 h5_1
     obtain ⟨E0, h4_5, p4_8, h4_1, h5_5, p5_8, h5_1, sz6⟩ := hS
     obtain ⟨h6_0, h6_1, h6_2, h6_3, h6_4, h6_5, h6_6, h6_7, h6_8, -⟩ := hp
     replace h6_0 : vs 0 = .int .i64 a := h6_0
     replace h6_1 : vs 1 = .int .i64 0 := h6_1
     replace h6_2 : vs 2 = .int .i64 (K : Int) := h6_2
     replace h6_3 : vs 3 = .tuple #[.int .i64 M, .int .i64 0] := h6_3
     replace h6_4 : vs 4 = .tuple #[.int .i64 M, .int .i64 0] := h6_4
     replace h6_5 : vs 5 = .int .i64 M := h6_5
     replace h6_6 : vs 6 = .int .i64 0 := h6_6
     replace h6_7 : vs 7 = .int .i64 M := h6_7
     replace h6_8 : vs 8 = .int .i64 0 := h6_8
     simp only [h6_0, h6_1, h6_2, h6_3, h6_4, h6_5, h6_6, h6_7, h6_8]
     clear h6_0 h6_1 h6_2 h6_3 h6_4 h6_5 h6_6 h6_7 h6_8
     have kp4_8_0 := p4_8.cell0
     have kp4_8_1 := p4_8.cell1
     have kp4_8_2 := p4_8.cell2
     have kp5_8_0 := p5_8.cell0
     have kp5_8_1 := p5_8.cell1
     have kp5_8_2 := p5_8.cell2
     go_upto_region 8 with (fail)
     clear kp4_8_0 kp4_8_1 kp4_8_2 kp5_8_0 kp5_8_1 kp5_8_2
     have szw7 := Ext.size E0
     refine region_go [.one fun v _ => v = .int .i64 0,
       .one fun v _ => v = .bool true,
       .one fun v _ => v = .bool true,
       .one fun v _ => v = .int .i64 M,
       .one fun v _ => v = .agg #[.bool b4_8, .slice a4_8 n4_8 c4_8, .slice d4_8 m4_8 o4_8],
       .one fun v _ => v = .agg #[.bool b5_8, .slice a5_8 n5_8 c5_8, .slice d5_8 m5_8 o5_8],
       .one fun v W => Rw W v ((a : Rat) / P2 K * (((0 : Int) : Rat) / P2 K)),
       .one fun v _ => v = .int .i64 (K : Int),
       .one fun v _ => v = .bool true,
       .one fun v _ => v = .bool false,
       .one fun v _ => v = .bool false,
       .one fun v _ => v = .bool false,
       .one fun v _ => v = .int .i64 0,
       .one fun v _ => v = .bool false,
       .one fun v _ => v = .bool false,
       .one fun v _ => v = undef,
       .one fun v _ => v = undef,
       .one fun v _ => v = undef,
       .one fun v _ => v = undef,
       .one fun v _ => v = undef,
       .one fun v _ => v = undef,
       .one fun v _ => v = .bool false,
       .one fun v _ => v = .bool false]
      (fun W => Ext w W ∧ Rw W (.agg #[.bool b4_8, .slice a4_8 n4_8 c4_8, .slice d4_8 m4_8 o4_8]) ((a : Rat) / P2 K) ∧ Bx3 W g4_8 35 (.bool b4_8) (.slice a4_8 n4_8 c4_8) (.slice d4_8 m4_8 o4_8) ∧ Zw W u4_1 a ∧ Rw W (.agg #[.bool b5_8, .slice a5_8 n5_8 c5_8, .slice d5_8 m5_8 o5_8]) (((0 : Int) : Rat) / P2 K) ∧ Bx3 W g5_8 35 (.bool b5_8) (.slice a5_8 n5_8 c5_8) (.slice d5_8 m5_8 o5_8) ∧ Zw W u5_1 ((0 : Int)) ∧ W6.heap.size ≤ W.heap.size) ⟨Good.is _, Good.is _, Good.is _, Good.is _, Good.is _, Good.is _, Good.rat _, Good.is _, Good.is _, Good.is _, Good.is _, Good.is _, Good.is _, Good.is _, Good.is _, Good.is _, Good.is _, Good.is _, Good.is _, Good.is _, Good.is _, Good.is _, Good.is _, trivial⟩
      (fun W W1 hS hE => ⟨(Ext.trans hS.1 hE), (hS.2.1.ext hE), (hS.2.2.1.ext hE), (hS.2.2.2.1.ext hE), (hS.2.2.2.2.1.ext hE), (hS.2.2.2.2.2.1.ext hE), (hS.2.2.2.2.2.2.1.ext hE), (Nat.le_trans hS.2.2.2.2.2.2.2 (Ext.size hE))⟩) ⟨E0, h4_5, p4_8, h4_1, h5_5, p5_8, h5_1, Nat.le_refl _⟩ (by kernel_rfl) (by kernel_rfl) (by kernel_rfl) (by kernel_rfl) (A := ?A7) ?hA7 ?howe7 ?hfin7
     case hA7 =>
      intro vs
      simp only [putAll, Act.put, List.setIfInBounds_toArray, List.set_cons_zero, List.set_cons_succ, Nat.zero_add, Nat.reduceAdd]
      exact rfl
     case howe7 =>
      clear E0 h4_5 p4_8 h4_1 h5_5 p5_8 h5_1
      intro hf
      refine ⟨owesE 0 [] hf rfl (by kernel_rfl) ?_, owesE 1 [0] hf rfl (by kernel_rfl) ?_, owesE 2 [1] hf rfl (by kernel_rfl) ?_, owesE 3 [2] hf rfl (by kernel_rfl) ?_, owesE 4 [2] hf rfl (by kernel_rfl) ?_, owesE 5 [2] hf rfl (by kernel_rfl) ?_, owesE 6 [2, 4, 5] hf rfl (by kernel_rfl) ?_, owesE 7 [2] hf rfl (by kernel_rfl) ?_, owesE 8 [2, 3, 6, 7] hf rfl (by kernel_rfl) ?_, owesE 9 [2, 8] hf rfl (by kernel_rfl) ?_, owesE 10 [2, 9] hf rfl (by kernel_rfl) ?_, owesE 11 [10] hf rfl (by kernel_rfl) ?_, owesE 12 [11] hf rfl (by kernel_rfl) ?_, owesE 13 [11, 12] hf rfl (by kernel_rfl) ?_, owesE 14 [11, 13] hf rfl (by kernel_rfl) ?_, owesE 15 [14] hf rfl (by kernel_rfl) ?_, owesE 16 [14] hf rfl (by kernel_rfl) ?_, owesE 17 [14] hf rfl (by kernel_rfl) ?_, owesE 18 [17] hf rfl (by kernel_rfl) ?_, owesE 19 [17] hf rfl (by kernel_rfl) ?_, owesE 20 [14] hf rfl (by kernel_rfl) ?_, owesE 21 [11, 14, 20] hf rfl (by kernel_rfl) ?_, owesE 22 [11, 21] hf rfl (by kernel_rfl) ?_, trivial⟩
      all_goals intro vs W hS hp hx KO hKO
      all_goals simp only [Act.put, List.setIfInBounds_toArray, List.set_cons_zero, List.set_cons_succ] at hKO
      ·go_simp
       exact hKO _ W (Ext.refl W) rfl
      ·have e0 := isOf hp.1
       simp only [e0] at hKO
       go_simp
       exact hKO _ W (Ext.refl W) rfl
      ·have e1 := isOf hp.1
       simp only [e1] at hKO
       go_simp
       exact hKO _ W (Ext.refl W) rfl
      ·have e2 := isOf hp.1
       simp only [e2] at hKO
       go_simp
       exact hKO _ W (Ext.refl W) rfl
      ·have e2 := isOf hp.1
       simp only [e2] at hKO
       have fc0 := hS.2.2.1.cell0
       have fc1 := hS.2.2.1.cell1
       have fc2 := hS.2.2.1.cell2
       go_simp
       exact hKO _ W (Ext.refl W) rfl
      ·have e2 := isOf hp.1
       simp only [e2] at hKO
       have fc0 := hS.2.2.2.2.2.1.cell0
       have fc1 := hS.2.2.2.2.2.1.cell1
       have fc2 := hS.2.2.2.2.2.1.cell2
       go_simp
       exact hKO _ W (Ext.refl W) rfl
      ·have e2 := isOf hp.1
       have e4 := isOf hp.2.1
       have e5 := isOf hp.2.2.1
       simp only [e2, e4, e5] at hKO
       go_simp
       refine (Try.refRMul (hS.2.1) (hS.2.2.2.2.1) SX.out SY.out (by omega)).mono ?_
       rintro e W1 ⟨v, rfl, hv, hE⟩
       exact hKO _ W1 hE hv
      ·have e2 := isOf hp.1
       simp only [e2] at hKO
       go_simp
       exact hKO _ W (Ext.refl W) rfl
      ·have e2 := isOf hp.1
       have e3 := isOf hp.2.1
       have q6 := hp.2.2.1
       have e7 := isOf hp.2.2.2.1
       simp only [e2, e3, e7] at hKO
       go_simp
       refine (Try.within08 M q6 SXY.out K HK.out.1 HMF.out.1 HMF.out.2 HMN.out).mono ?_
       rintro e W1 ⟨rfl, hE⟩
       exact hKO _ W1 hE rfl
      ·have e2 := isOf hp.1
       have e8 := isOf hp.2.1
       simp only [e2, e8] at hKO
       go_simp
       exact hKO _ W (Ext.refl W) rfl
      ·have e2 := isOf hp.1
       have e9 := isOf hp.2.1
       simp only [e2, e9] at hKO
       go_simp
       exact hKO _ W (Ext.refl W) rfl
      ·have e10 := isOf hp.1
       simp only [e10] at hKO
       go_simp
       exact hKO _ W (Ext.refl W) rfl
      ·have e11 := isOf hp.1
       simp only [e11] at hKO
       go_simp
       exact hKO _ W (Ext.refl W) rfl
      ·have e11 := isOf hp.1
       have e12 := isOf hp.2.1
       simp only [e11, e12] at hKO
       go_simp
       exact hKO _ W (Ext.refl W) rfl
      ·have e11 := isOf hp.1
       have e13 := isOf hp.2.1
       simp only [e11, e13] at hKO
       go_simp
       exact hKO _ W (Ext.refl W) rfl
      ·have e14 := isOf hp.1
       simp only [e14] at hKO
       go_simp
       exact hKO _ W (Ext.refl W) rfl
      ·have e14 := isOf hp.1
       simp only [e14] at hKO
       go_simp
       exact hKO _ W (Ext.refl W) rfl
      ·have e14 := isOf hp.1
       simp only [e14] at hKO
       go_simp
       exact hKO _ W (Ext.refl W) rfl
      ·have e17 := isOf hp.1
       simp only [e17] at hKO
       go_simp
       exact hKO _ W (Ext.refl W) rfl
      ·have e17 := isOf hp.1
       simp only [e17] at hKO
       go_simp
       exact hKO _ W (Ext.refl W) rfl
      ·have e14 := isOf hp.1
       simp only [e14] at hKO
       go_simp
       exact hKO _ W (Ext.refl W) rfl
      ·have e11 := isOf hp.1
       have e14 := isOf hp.2.1
       have e20 := isOf hp.2.2.1
       simp only [e11, e14, e20] at hKO
       go_simp
       exact hKO _ W (Ext.refl W) rfl
      ·have e11 := isOf hp.1
       have e21 := isOf hp.2.1
       simp only [e11, e21] at hKO
       go_simp
       exact hKO _ W (Ext.refl W) rfl
     intro vs W7 hS hp
     clear szw7 E0 h4_5 p4_8 h4_1 h5_5 p5_8 h5_1
     obtain ⟨E0, h4_5, p4_8, h4_1, h5_5, p5_8, h5_1, sz7⟩ := hS
     obtain ⟨h7_0, h7_1, h7_2, h7_3, h7_4, h7_5, h7_6, h7_7, h7_8, h7_9, h7_10, h7_11, h7_12, h7_13, h7_14, h7_15, h7_16, h7_17, h7_18, h7_19, h7_20, h7_21, h7_22, -⟩ := hp
     replace h7_0 : vs 0 = .int .i64 0 := h7_0
     replace h7_1 : vs 1 = .bool true := h7_1
     replace h7_2 : vs 2 = .bool true := h7_2
     replace h7_3 : vs 3 = .int .i64 M := h7_3
     replace h7_4 : vs 4 = .agg #[.bool b4_8, .slice a4_8 n4_8 c4_8, .slice d4_8 m4_8 o4_8] := h7_4
     replace h7_5 : vs 5 = .agg #[.bool b5_8, .slice a5_8 n5_8 c5_8, .slice d5_8 m5_8 o5_8] := h7_5
     replace h7_7 : vs 7 = .int .i64 (K : Int) := h7_7
     replace h7_8 : vs 8 = .bool true := h7_8
     replace h7_9 : vs 9 = .bool false := h7_9
     replace h7_10 : vs 10 = .bool false := h7_10
     replace h7_11 : vs 11 = .bool false := h7_11
     replace h7_12 : vs 12 = .int .i64 0 := h7_12
     replace h7_13 : vs 13 = .bool false := h7_13
     replace h7_14 : vs 14 = .bool false := h7_14
     replace h7_15 : vs 15 = undef := h7_15
     replace h7_16 : vs 16 = undef := h7_16
     replace h7_17 : vs 17 = undef := h7_17
     replace h7_18 : vs 18 = undef := h7_18
     replace h7_19 : vs 19 = undef := h7_19
     replace h7_20 : vs 20 = undef := h7_20
     replace h7_21 : vs 21 = .bool false := h7_21
     replace h7_22 : vs 22 = .bool false := h7_22
     simp only [h7_0, h7_1, h7_2, h7_3, h7_4, h7_5, h7_7, h7_8, h7_9, h7_10, h7_11, h7_12, h7_13, h7_14, h7_15, h7_16, h7_17, h7_18, h7_19, h7_20, h7_21, h7_22]
     replace h7_6 : Rw W7 (vs 6) ((a : Rat) / P2 K * (((0 : Int) : Rat) / P2 K)) := h7_6
     generalize vs 6 = u7_6 at h7_6 ⊢
     clear h7_0 h7_1 h7_2 h7_3 h7_4 h7_5 h7_7 h7_8 h7_9 h7_10 h7_11 h7_12 h7_13 h7_14 h7_15 h7_16 h7_17 h7_18 h7_19 h7_20 h7_21 h7_22
     have kp4_8_0 := p4_8.cell0
     have kp4_8_1 := p4_8.cell1
     have kp4_8_2 := p4_8.cell2
     have kp5_8_0 := p5_8.cell0
     have kp5_8_1 := p5_8.cell1
     have kp5_8_2 := p5_8.cell2
     go_upto_region 10 with (fail)
     clear kp4_8_0 kp4_8_1 kp4_8_2 kp5_8_0 kp5_8_1 kp5_8_2
     have szw8 := Ext.size E0
     refine region_go [.one fun v _ => v = .int .i64 a,
       .one fun v _ => v = .int .i64 0,
       .one fun v _ => v = .int .i64 (K : Int),
       .one fun v _ => v = .tuple #[.int .i64 0, .int .i64 4],
       .one fun v _ => v = .tuple #[.int .i64 0, .int .i64 4],
       .one fun v _ => v = .int .i64 0,
       .one fun v _ => v = .int .i64 4,
       .one fun v _ => v = .int .i64 0,
       .one fun v _ => v = .int .i64 4]
      (fun W => Ext w W ∧ Rw W (.agg #[.bool b4_8, .slice a4_8 n4_8 c4_8, .slice d4_8 m4_8 o4_8]) ((a : Rat) / P2 K) ∧ Bx3 W g4_8 35 (.bool b4_8) (.slice a4_8 n4_8 c4_8) (.slice d4_8 m4_8 o4_8) ∧ Zw W u4_1 a ∧ Rw W (.agg #[.bool b5_8, .slice a5_8 n5_8 c5_8, .slice d5_8 m5_8 o5_8]) (((0 : Int) : Rat) / P2 K) ∧ Bx3 W g5_8 35 (.bool b5_8) (.slice a5_8 n5_8 c5_8) (.slice d5_8 m5_8 o5_8) ∧ Zw W u5_1 ((0 : Int)) ∧ Rw W u7_6 ((a : Rat) / P2 K * (((0 : Int) : Rat) / P2 K)) ∧ W7.heap.size ≤ W.heap.size) ⟨Good.is _, Good.is _, Good.is _, Good.is _, Good.is _, Good.is _, Good.is _, Good.is _, Good.is _, trivial⟩
      (fun W W1 hS hE => ⟨(Ext.trans hS.1 hE), (hS.2.1.ext hE), (hS.2.2.1.ext hE), (hS.2.2.2.1.ext hE), (hS.2.2.2.2.1.ext hE), (hS.2.2.2.2.2.1.ext hE), (hS.2.2.2.2.2.2.1.ext hE), (hS.2.2.2.2.2.2.2.1.ext hE), (Nat.le_trans hS.2.2.2.2.2.2.2.2 (Ext.size hE))⟩) ⟨E0, h4_5, p4_8, h4_1, h5_5, p5_8, h5_1, h7_6, Nat.le_refl _⟩ (by kernel_rfl) (by kernel_rfl) (by kernel_rfl) (by kernel_rfl) (A := ?A8) ?hA8 ?howe8 ?hfin8
     case hA8 =>
      intro vs
      simp only [putAll, Act.put, List.setIfInBounds_toArray, List.set_cons_zero, List.set_cons_succ, Nat.zero_add, Nat.reduceAdd]
      exact rfl
     case howe8 =>
      clear E0 h4_5 p4_8 h4_1 h5_5 p5_8 h5_1 h7_6
      intro hf
      refine ⟨owesE 0 [] hf rfl (by kernel_rfl) ?_, owesE 1 [] hf rfl (by kernel_rfl) ?_, owesE 2 [] hf rfl (by kernel_rfl) ?_, owesE 3 [0, 1, 2] hf rfl (by kernel_rfl) ?_, owesE 4 [3] hf rfl (by kernel_rfl) ?_, owesE 5 [4] hf rfl (by kernel_rfl) ?_, owesE 6 [4] hf rfl (by kernel_rfl) ?_, owesE 7 [5] hf rfl (by kernel_rfl) ?_, owesE 8 [6] hf rfl (by kernel_rfl) ?_, trivial⟩
      all_goals intro vs W hS hp hx KO hKO
      all_goals simp only [Act.put, List.setIfInBounds_toArray, List.set_cons_zero, List.set_cons_succ] at hKO
      ·go_simp
       exact hKO _ W (Ext.refl W) rfl
      ·go_simp
       exact hKO _ W (Ext.refl W) rfl
      ·go_simp
       exact hKO _ W (Ext.refl W) rfl
      ·have e0 := isOf hp.1
       have e1 := isOf hp.2.1
       have e2 := isOf hp.2.2.1
       simp only [e0, e1, e2] at hKO
       go_simp
       refine (Try.fixDiv0 a (K : Int) _ HKF.out).mono ?_
       rintro e W1 ⟨rfl, rfl⟩
       exact hKO _ W (Ext.refl W) rfl
      ·have e3 := isOf hp.1
       simp only [e3] at hKO
       go_simp
       exact hKO _ W (Ext.refl W) rfl
      ·have e4 := isOf hp.1
       simp only [e4] at hKO
       go_simp
       exact hKO _ W (Ext.refl W) rfl
      ·have e4 := isOf hp.1
       simp only [e4] at hKO
       go_simp
       exact hKO _ W (Ext.refl W) rfl
      ·have e5 := isOf hp.1
       simp only [e5] at hKO
       go_simp
       exact hKO _ W (Ext.refl W) rfl
      ·have e6 := isOf hp.1
       simp only [e6] at hKO
       go_simp
       exact hKO _ W (Ext.refl W) rfl
     intro vs W8 hS hp
     clear szw8 E0 h4_5 p4_8 h4_1 h5_5 p5_8 h5_1 h7_6
     obtain ⟨E0, h4_5, p4_8, h4_1, h5_5, p5_8, h5_1, h7_6, sz8⟩ := hS
     obtain ⟨h8_0, h8_1, h8_2, h8_3, h8_4, h8_5, h8_6, h8_7, h8_8, -⟩ := hp
     replace h8_0 : vs 0 = .int .i64 a := h8_0
     replace h8_1 : vs 1 = .int .i64 0 := h8_1
     replace h8_2 : vs 2 = .int .i64 (K : Int) := h8_2
     replace h8_3 : vs 3 = .tuple #[.int .i64 0, .int .i64 4] := h8_3
     replace h8_4 : vs 4 = .tuple #[.int .i64 0, .int .i64 4] := h8_4
     replace h8_5 : vs 5 = .int .i64 0 := h8_5
     replace h8_6 : vs 6 = .int .i64 4 := h8_6
     replace h8_7 : vs 7 = .int .i64 0 := h8_7
     replace h8_8 : vs 8 = .int .i64 4 := h8_8
     simp only [h8_0, h8_1, h8_2, h8_3, h8_4, h8_5, h8_6, h8_7, h8_8]
     clear h8_0 h8_1 h8_2 h8_3 h8_4 h8_5 h8_6 h8_7 h8_8
     have kp4_8_0 := p4_8.cell0
     have kp4_8_1 := p4_8.cell1
     have kp4_8_2 := p4_8.cell2
     have kp5_8_0 := p5_8.cell0
     have kp5_8_1 := p5_8.cell1
     have kp5_8_2 := p5_8.cell2
     go_wp2_with fail
     clear kp4_8_0 kp4_8_1 kp4_8_2 kp5_8_0 kp5_8_1 kp5_8_2
     refine (Try.alive08 _).mono ?_
     rintro e V7 ⟨rfl, hE⟩
     replace E0 : Ext w V7 := (Ext.trans E0 hE)
     replace h4_5 : Rw V7 (.agg #[.bool b4_8, .slice a4_8 n4_8 c4_8, .slice d4_8 m4_8 o4_8]) ((a : Rat) / P2 K) := (h4_5.ext hE)
     replace p4_8 : Bx3 V7 g4_8 35 (.bool b4_8) (.slice a4_8 n4_8 c4_8) (.slice d4_8 m4_8 o4_8) := (p4_8.ext hE)
     replace h4_1 : Zw V7 u4_1 a := (h4_1.ext hE)
     replace h5_5 : Rw V7 (.agg #[.bool b5_8, .slice a5_8 n5_8 c5_8, .slice d5_8 m5_8 o5_8]) (((0 : Int) : Rat) / P2 K) := (h5_5.ext hE)
     replace p5_8 : Bx3 V7 g5_8 35 (.bool b5_8) (.slice a5_8 n5_8 c5_8) (.slice d5_8 m5_8 o5_8) := (p5_8.ext hE)
     replace h5_1 : Zw V7 u5_1 ((0 : Int)) := (h5_1.ext hE)
     replace h7_6 : Rw V7 u7_6 ((a : Rat) / P2 K * (((0 : Int) : Rat) / P2 K)) := (h7_6.ext hE)
     clear hE
     have kp4_8_0 := p4_8.cell0
     have kp4_8_1 := p4_8.cell1
     have kp4_8_2 := p4_8.cell2
     have kp5_8_0 := p5_8.cell0
     have kp5_8_1 := p5_8.cell1
     have kp5_8_2 := p5_8.cell2
     go_wp2
     go_ret
     exact ⟨rfl, E0⟩
    ·have HB0 : Hid (b ≠ 0 ∧ (b : Rat) ≠ 0) := Lib.hid ⟨hb0, by exact_mod_cast hb0⟩
     have hb0d : (b == 0) = false := beq_eq_false_iff_ne.2 hb0
     have HY0 : Hid ((b : Rat) / P2 K ≠ 0) := Lib.hid (fun e => HB0.out.2 (by have h := Rat.div_mul_cancel (a := (b : Rat)) (P2_ne K); rw [e, Rat.zero_mul] at h; exact h.symm))
     have SQ : Hid (SmR 10 ((a : Rat) / P2 K / ((b : Rat) / P2 K))) := Lib.hid ((SX.out.div SY.out HY0.out).mono (by omega))
     have SQA : Hid (SmR 10 (Rat.abs ((a : Rat) / P2 K / ((b : Rat) / P2 K)))) := Lib.hid (SmR.abs SQ.out)
     have SMO : Hid (SmR 10 (((9223372036854775807 : Int) : Rat) / P2 K)) := Lib.hid ((SmR.backP S3.out (by have := HK.out; omega)).mono (by omega))
     have hDq : nearR ((a : Rat) / P2 K / ((b : Rat) / P2 K) * P2 K) = nearR (((a * ((2 ^ K : Nat) : Int) : Int) : Rat) / (b : Rat)) := by rw [quot_back a b K HB0.out.2, div_scaled]
     clear hb0
     obtain ⟨D, hD⟩ : ∃ D, nearR (((a * ((2 ^ K : Nat) : Int) : Int) : Rat) / (b : Rat)) = D := ⟨_, rfl⟩
     have HD := Lib.hid hD
     rw [hD] at hDq
     have HDQ := Lib.hid hDq
     clear hD hDq
     obtain he | he := fitE_2 (a := D)
     ·have HVD : Hid (fitV (nearR (((a * ((2 ^ K : Nat) : Int) : Int) : Rat) / (b : Rat))) = D) := Lib.hid (by rw [HD.out]; exact fitE_0 he)
      have HED : Hid (fitE (nearR (((a * ((2 ^ K : Nat) : Int) : Int) : Rat) / (b : Rat))) = 0) := Lib.hid (by rw [HD.out]; exact he)
      have HDF : Hid (-9223372036854775808 ≤ D ∧ D < 9223372036854775808) := Lib.hid (by
       have h2 : fits D = true := by cases hh : fits D; rw [fitE_out hh] at he; cases he; rfl
       exact fits_iff.1 h2)
      have HDN : Hid (Rat.abs ((D : Rat) / P2 K - (a : Rat) / P2 K / ((b : Rat) / P2 K)) ≤ ((1 : Int) : Rat) / P2 (K + 1)) := Lib.hid (by have := half_near ((a : Rat) / P2 K / ((b : Rat) / P2 K)) K; rw [HDQ.out] at this; exact this)
      clear he HD
      obtain ⟨W0, hW0⟩ : ∃ W0, W0 = w := ⟨_, rfl⟩
      have E0 : Ext w W0 := by rw [hW0]; exact Ext.refl w
      go_enter Try.func4, Try.ntmps4
      go_upto_region 5 with (fail)
      rw [← hW0]
      clear hW0
      have szw9 := Ext.size E0
      refine region_go [.one fun v _ => v = .int .i64 a,
        .one fun v W => Zw W v a,
        .one fun v _ => v = .int .i64 (K : Int),
        .one fun v W => ∃ v', v = .tuple #[v', .int .i64 0] ∧ (fun v W => Rw W v ((a : Rat) / P2 K)) v' W,
        .one fun v W => ∃ v', v = .tuple #[v', .int .i64 0] ∧ (fun v W => Rw W v ((a : Rat) / P2 K)) v' W,
        .one fun v W => Rw W v ((a : Rat) / P2 K),
        .one fun v _ => v = .int .i64 0,
        .one fun v W => ∃ g, v = .pointer (some ⟨g, 0, none⟩) ∧ W0.heap.size ≤ g ∧ Form W g 35 3,
        .three 7 5 (fun p r _ W => Put3 W0.heap.size 35 p r W),
        .one fun v _ => v = .int .i64 0]
       (fun W => Ext w W ∧ W0.heap.size ≤ W.heap.size) ⟨Good.is _, Good.zed _, Good.is _, (Good.rat _).tup _, (Good.rat _).tup _, Good.rat _, Good.is _, Good.box _ _ _, cert_put3, Good.is _, trivial⟩
       (fun W W1 hS hE => ⟨(Ext.trans hS.1 hE), (Nat.le_trans hS.2 (Ext.size hE))⟩) ⟨E0, Nat.le_refl _⟩ (by kernel_rfl) (by kernel_rfl) (by kernel_rfl) (by kernel_rfl) (A := ?A9) ?hA9 ?howe9 ?hfin9
      case hA9 =>
       intro vs
       simp only [putAll, Act.put, List.setIfInBounds_toArray, List.set_cons_zero, List.set_cons_succ, Nat.zero_add, Nat.reduceAdd]
       exact rfl
      case howe9 =>
       clear E0
       intro hf
       refine ⟨owesE 0 [] hf rfl (by kernel_rfl) ?_, owesE 1 [0] hf rfl (by kernel_rfl) ?_, owesE 2 [] hf rfl (by kernel_rfl) ?_, owesE 3 [1, 2] hf rfl (by kernel_rfl) ?_, owesE 4 [3] hf rfl (by kernel_rfl) ?_, owesE 5 [4] hf rfl (by kernel_rfl) ?_, owesE 6 [4] hf rfl (by kernel_rfl) ?_, owesE 7 [] hf rfl (by kernel_rfl) ?_, owesW 8 [7, 5] hf rfl (by kernel_rfl) (by kernel_rfl) ?_, owesE 9 [6] hf rfl (by kernel_rfl) ?_, trivial⟩
       all_goals intro vs W hS hp hx KO hKO
       all_goals simp only [Act.put, List.setIfInBounds_toArray, List.set_cons_zero, List.set_cons_succ] at hKO
       ·go_simp
        exact hKO _ W (Ext.refl W) rfl
       ·have e0 := isOf hp.1
        simp only [e0] at hKO
        go_simp
        refine (Try.refZOf a _ HB.out.1.1 HB.out.1.2).mono ?_
        rintro e W1 ⟨v, rfl, hv, hE⟩
        exact hKO _ W1 hE hv
       ·go_simp
        exact hKO _ W (Ext.refl W) rfl
       ·have q1 := hp.1
        have e2 := isOf hp.2.1
        simp only [e2] at hKO
        go_simp
        refine (Try.refBack q1 S1.out (by omega) K HK.out.2).mono ?_
        rintro e W1 ⟨v, rfl, hv, hE⟩
        exact hKO _ W1 hE ⟨_, rfl, hv⟩
       ·have q3 := hp.1
        obtain ⟨u, ev, hu⟩ := q3
        replace ev : vs 3 = _ := ev
        simp only [ev] at hKO
        go_simp
        exact hKO _ W (Ext.refl W) ⟨u, rfl, hu⟩
       ·have q4 := hp.1
        obtain ⟨u, ev, hu⟩ := q4
        replace ev : vs 4 = _ := ev
        simp only [ev] at hKO
        go_simp
        exact hKO _ W (Ext.refl W) hu
       ·have q4 := hp.1
        obtain ⟨u, ev, hu⟩ := q4
        replace ev : vs 4 = _ := ev
        simp only [ev] at hKO
        go_simp
        exact hKO _ W (Ext.refl W) rfl
       ·have hn := Bx3.new W 35 (.bool false) (.slice none 0 0) (.slice none 0 0)
        have hE := Ext.alloc1 W (.cells #[.bool false, .slice none 0 0, .slice none 0 0] 35)
        have hsz := hS.2
        go_simp
        exact hKO _ _ hE ⟨_, rfl, hsz, hn.form⟩
       ·have q7 := hp.1
        have q5 := hp.2.1
        obtain ⟨g, ev, hg, hf⟩ := q7
        replace ev : vs 7 = _ := ev
        obtain ⟨x0, y0, z0, hx, hno⟩ := hf.bx3
        have qr := q5
        obtain ⟨b3, a3, n3, c3, d3, m3, o3, er, -, -, -⟩ := qr
        replace er : vs 5 = _ := er
        have r0 := hx.froz0
        have t0 := hx.cell0
        have r1 := hx.froz1
        have t1 := hx.cell1
        have r2 := hx.froz2
        have t2 := hx.cell2
        have hw := Wr.set3 hx hno b3 a3 n3 c3 d3 m3 o3
        have hq := hx.set (.bool b3) (.slice a3 n3 c3) (.slice d3 m3 o3)
        simp only [ev, er] at hKO
        go_simp
        exact hKO _ _ hw ⟨(Ext.wr hS.1 hw (by omega)), (Nat.le_trans hS.2 hw.apart.size)⟩ ⟨g, b3, a3, n3, c3, d3, m3, o3, ev, er, hg, hq⟩
       ·have e6 := isOf hp.1
        simp only [e6] at hKO
        go_simp
        exact hKO _ W (Ext.refl W) rfl
      intro vs W9 hS hp
      clear szw9 E0
      obtain ⟨E0, sz9⟩ := hS
      obtain ⟨h9_0, h9_1, h9_2, h9_3, h9_4, h9_5, h9_6, h9_7, h9_8, h9_9, -⟩ := hp
      obtain ⟨g9_8, b9_8, a9_8, n9_8, c9_8, d9_8, m9_8, o9_8, ev9_8, er9_8, hg9_8, p9_8⟩ := h9_8
      replace ev9_8 : vs 7 = _ := ev9_8
      replace er9_8 : vs 5 = _ := er9_8
      replace h9_5 := (show Rw W9 (vs 5) ((a : Rat) / P2 K) from h9_5)
      rw [er9_8] at h9_5
      replace h9_0 : vs 0 = .int .i64 a := h9_0
      replace h9_2 : vs 2 = .int .i64 (K : Int) := h9_2
      replace h9_6 : vs 6 = .int .i64 0 := h9_6
      replace h9_9 : vs 9 = .int .i64 0 := h9_9
      simp only [ev9_8, er9_8, h9_0, h9_2, h9_6, h9_9]
      replace h9_1 : Zw W9 (vs 1) a := h9_1
      generalize vs 1 = u9_1 at h9_1 ⊢
      clear ev9_8 er9_8 h9_0 h9_2 h9_6 h9_9 h9_3 h9_4 h9_7
      have kp9_8_0 := p9_8.cell0
      have kp9_8_1 := p9_8.cell1
      have kp9_8_2 := p9_8.cell2
      go_upto_region 6 with (fail)
      clear kp9_8_0 kp9_8_1 kp9_8_2
      have ltp9_8 := p9_8.lt
      have szw10 := Ext.size E0
      refine region_go [.one fun v _ => v = .int .i64 b,
        .one fun v W => Zw W v b,
        .one fun v _ => v = .int .i64 (K : Int),
        .one fun v W => ∃ v', v = .tuple #[v', .int .i64 0] ∧ (fun v W => Rw W v ((b : Rat) / P2 K)) v' W,
        .one fun v W => ∃ v', v = .tuple #[v', .int .i64 0] ∧ (fun v W => Rw W v ((b : Rat) / P2 K)) v' W,
        .one fun v W => Rw W v ((b : Rat) / P2 K),
        .one fun v _ => v = .int .i64 0,
        .one fun v W => ∃ g, v = .pointer (some ⟨g, 0, none⟩) ∧ W9.heap.size ≤ g ∧ Form W g 35 3,
        .three 7 5 (fun p r _ W => Put3 W9.heap.size 35 p r W),
        .one fun v _ => v = .int .i64 0]
       (fun W => Ext w W ∧ Rw W (.agg #[.bool b9_8, .slice a9_8 n9_8 c9_8, .slice d9_8 m9_8 o9_8]) ((a : Rat) / P2 K) ∧ Bx3 W g9_8 35 (.bool b9_8) (.slice a9_8 n9_8 c9_8) (.slice d9_8 m9_8 o9_8) ∧ Zw W u9_1 a ∧ W9.heap.size ≤ W.heap.size) ⟨Good.is _, Good.zed _, Good.is _, (Good.rat _).tup _, (Good.rat _).tup _, Good.rat _, Good.is _, Good.box _ _ _, cert_put3, Good.is _, trivial⟩
       (fun W W1 hS hE => ⟨(Ext.trans hS.1 hE), (hS.2.1.ext hE), (hS.2.2.1.ext hE), (hS.2.2.2.1.ext hE), (Nat.le_trans hS.2.2.2.2 (Ext.size hE))⟩) ⟨E0, h9_5, p9_8, h9_1, Nat.le_refl _⟩ (by kernel_rfl) (by kernel_rfl) (by kernel_rfl) (by kernel_rfl) (A := ?A10) ?hA10 ?howe10 ?hfin10
      case hA10 =>
       intro vs
       simp only [putAll, Act.put, List.setIfInBounds_toArray, List.set_cons_zero, List.set_cons_succ, Nat.zero_add, Nat.reduceAdd]
       exact rfl
      case howe10 =>
       clear E0 h9_5 p9_8 h9_1
       intro hf
       refine ⟨owesE 0 [] hf rfl (by kernel_rfl) ?_, owesE 1 [0] hf rfl (by kernel_rfl) ?_, owesE 2 [] hf rfl (by kernel_rfl) ?_, owesE 3 [1, 2] hf rfl (by kernel_rfl) ?_, owesE 4 [3] hf rfl (by kernel_rfl) ?_, owesE 5 [4] hf rfl (by kernel_rfl) ?_, owesE 6 [4] hf rfl (by kernel_rfl) ?_, owesE 7 [] hf rfl (by kernel_rfl) ?_, owesW 8 [7, 5] hf rfl (by kernel_rfl) (by kernel_rfl) ?_, owesE 9 [6] hf rfl (by kernel_rfl) ?_, trivial⟩
       all_goals intro vs W hS hp hx KO hKO
       all_goals simp only [Act.put, List.setIfInBounds_toArray, List.set_cons_zero, List.set_cons_succ] at hKO
       ·go_simp
        exact hKO _ W (Ext.refl W) rfl
       ·have e0 := isOf hp.1
        simp only [e0] at hKO
        go_simp
        refine (Try.refZOf b _ HB.out.2.1 HB.out.2.2).mono ?_
        rintro e W1 ⟨v, rfl, hv, hE⟩
        exact hKO _ W1 hE hv
       ·go_simp
        exact hKO _ W (Ext.refl W) rfl
       ·have q1 := hp.1
        have e2 := isOf hp.2.1
        simp only [e2] at hKO
        go_simp
        refine (Try.refBack q1 S2.out (by omega) K HK.out.2).mono ?_
        rintro e W1 ⟨v, rfl, hv, hE⟩
        exact hKO _ W1 hE ⟨_, rfl, hv⟩
       ·have q3 := hp.1
        obtain ⟨u, ev, hu⟩ := q3
        replace ev : vs 3 = _ := ev
        simp only [ev] at hKO
        go_simp
        exact hKO _ W (Ext.refl W) ⟨u, rfl, hu⟩
       ·have q4 := hp.1
        obtain ⟨u, ev, hu⟩ := q4
        replace ev : vs 4 = _ := ev
        simp only [ev] at hKO
        go_simp
        exact hKO _ W (Ext.refl W) hu
       ·have q4 := hp.1
        obtain ⟨u, ev, hu⟩ := q4
        replace ev : vs 4 = _ := ev
        simp only [ev] at hKO
        go_simp
        exact hKO _ W (Ext.refl W) rfl
       ·have hn := Bx3.new W 35 (.bool false) (.slice none 0 0) (.slice none 0 0)
        have hE := Ext.alloc1 W (.cells #[.bool false, .slice none 0 0, .slice none 0 0] 35)
        have hsz := hS.2.2.2.2
        go_simp
        exact hKO _ _ hE ⟨_, rfl, hsz, hn.form⟩
       ·have q7 := hp.1
        have q5 := hp.2.1
        obtain ⟨g, ev, hg, hf⟩ := q7
        replace ev : vs 7 = _ := ev
        obtain ⟨x0, y0, z0, hx, hno⟩ := hf.bx3
        have qr := q5
        obtain ⟨b3, a3, n3, c3, d3, m3, o3, er, -, -, -⟩ := qr
        replace er : vs 5 = _ := er
        have r0 := hx.froz0
        have t0 := hx.cell0
        have r1 := hx.froz1
        have t1 := hx.cell1
        have r2 := hx.froz2
        have t2 := hx.cell2
        have hw := Wr.set3 hx hno b3 a3 n3 c3 d3 m3 o3
        have hq := hx.set (.bool b3) (.slice a3 n3 c3) (.slice d3 m3 o3)
        simp only [ev, er] at hKO
        go_simp
        exact hKO _ _ hw ⟨(Ext.wr hS.1 hw (by omega)), (hS.2.1.wr hw), (hS.2.2.1.wr hw (by omega)), (hS.2.2.2.1.wr hw), (Nat.le_trans hS.2.2.2.2 hw.apart.size)⟩ ⟨g, b3, a3, n3, c3, d3, m3, o3, ev, er, hg, hq⟩
       ·have e6 := isOf hp.1
        simp only [e6] at hKO
        go_simp
        exact hKO _ W (Ext.refl W) rfl
      intro vs W10 hS hp
      clear szw10 E0 h9_5 p9_8 h9_1
      obtain ⟨E0, h9_5, p9_8, h9_1, sz10⟩ := hS
      obtain ⟨h10_0, h10_1, h10_2, h10_3, h10_4, h10_5, h10_6, h10_7, h10_8, h10_9, -⟩ := hp
      obtain ⟨g10_8, b10_8, a10_8, n10_8, c10_8, d10_8, m10_8, o10_8, ev10_8, er10_8, hg10_8, p10_8⟩ := h10_8
      replace ev10_8 : vs 7 = _ := ev10_8
      replace er10_8 : vs 5 = _ := er10_8
      replace h10_5 := (show Rw W10 (vs 5) ((b : Rat) / P2 K) from h10_5)
      rw [er10_8] at h10_5
      replace h10_0 : vs 0 = .int .i64 b := h10_0
      replace h10_2 : vs 2 = .int .i64 (K : Int) := h10_2
      replace h10_6 : vs 6 = .int .i64 0 := h10_6
      replace h10_9 : vs 9 = .int .i64 0 := h10_9
      simp only [ev10_8, er10_8, h10_0, h10_2, h10_6, h10_9]
      replace h10_1 : Zw W10 (vs 1) b := h10_1
      generalize vs 1 = u10_1 at h10_1 ⊢
      clear ev10_8 er10_8 h10_0 h10_2 h10_6 h10_9 h10_3 h10_4 h10_7
      have kp9_8_0 := p9_8.cell0
      have kp9_8_1 := p9_8.cell1
      have kp9_8_2 := p9_8.cell2
      have kp10_8_0 := p10_8.cell0
      have kp10_8_1 := p10_8.cell1
      have kp10_8_2 := p10_8.cell2
      go_upto_region 7 with (fail)
      clear kp9_8_0 kp9_8_1 kp9_8_2 kp10_8_0 kp10_8_1 kp10_8_2
      have ltp10_8 := p10_8.lt
      have szw11 := Ext.size E0
      refine region_go [.one fun v _ => v = .int .i64 a,
        .one fun v _ => v = .int .i64 b,
        .one fun v _ => v = .int .i64 (K : Int),
        .one fun v _ => v = .tuple #[.int .i64 M, .int .i64 0],
        .one fun v _ => v = .tuple #[.int .i64 M, .int .i64 0],
        .one fun v _ => v = .int .i64 M,
        .one fun v _ => v = .int .i64 0,
        .one fun v _ => v = .int .i64 M,
        .one fun v _ => v = .int .i64 0]
       (fun W => Ext w W ∧ Rw W (.agg #[.bool b9_8, .slice a9_8 n9_8 c9_8, .slice d9_8 m9_8 o9_8]) ((a : Rat) / P2 K) ∧ Bx3 W g9_8 35 (.bool b9_8) (.slice a9_8 n9_8 c9_8) (.slice d9_8 m9_8 o9_8) ∧ Zw W u9_1 a ∧ Rw W (.agg #[.bool b10_8, .slice a10_8 n10_8 c10_8, .slice d10_8 m10_8 o10_8]) ((b : Rat) / P2 K) ∧ Bx3 W g10_8 35 (.bool b10_8) (.slice a10_8 n10_8 c10_8) (.slice d10_8 m10_8 o10_8) ∧ Zw W u10_1 b ∧ W10.heap.size ≤ W.heap.size) ⟨Good.is _, Good.is _, Good.is _, Good.is _, Good.is _, Good.is _, Good.is _, Good.is _, Good.is _, trivial⟩
       (fun W W1 hS hE => ⟨(Ext.trans hS.1 hE), (hS.2.1.ext hE), (hS.2.2.1.ext hE), (hS.2.2.2.1.ext hE), (hS.2.2.2.2.1.ext hE), (hS.2.2.2.2.2.1.ext hE), (hS.2.2.2.2.2.2.1.ext hE), (Nat.le_trans hS.2.2.2.2.2.2.2 (Ext.size hE))⟩) ⟨E0, h9_5, p9_8, h9_1, h10_5, p10_8, h10_1, Nat.le_refl _⟩ (by kernel_rfl) (by kernel_rfl) (by kernel_rfl) (by kernel_rfl) (A := ?A11) ?hA11 ?howe11 ?hfin11
      case hA11 =>
       intro vs
       simp only [putAll, Act.put, List.setIfInBounds_toArray, List.set_cons_zero, List.set_cons_succ, Nat.zero_add, Nat.reduceAdd]
       exact rfl
      case howe11 =>
       clear E0 h9_5 p9_8 h9_1 h10_5 p10_8 h10_1
       intro hf
       refine ⟨owesE 0 [] hf rfl (by kernel_rfl) ?_, owesE 1 [] hf rfl (by kernel_rfl) ?_, owesE 2 [] hf rfl (by kernel_rfl) ?_, owesE 3 [0, 1, 2] hf rfl (by kernel_rfl) ?_, owesE 4 [3] hf rfl (by kernel_rfl) ?_, owesE 5 [4] hf rfl (by kernel_rfl) ?_, owesE 6 [4] hf rfl (by kernel_rfl) ?_, owesE 7 [5] hf rfl (by kernel_rfl) ?_, owesE 8 [6] hf rfl (by kernel_rfl) ?_, trivial⟩
       all_goals intro vs W hS hp hx KO hKO
       all_goals simp only [Act.put, List.setIfInBounds_toArray, List.set_cons_zero, List.set_cons_succ] at hKO
       ·go_simp
        exact hKO _ W (Ext.refl W) rfl
       ·go_simp
        exact hKO _ W (Ext.refl W) rfl
       ·go_simp
        exact hKO _ W (Ext.refl W) rfl
       ·have e0 := isOf hp.1
        have e1 := isOf hp.2.1
        have e2 := isOf hp.2.2.1
        simp only [e0, e1, e2] at hKO
        go_simp
        refine (Try.fixMulV a b K HK.out.1 _ HB.out.1.1 HB.out.1.2 HB.out.2.1 HB.out.2.2 HVM.out HEM.out).mono ?_
        rintro e W1 ⟨rfl, hE⟩
        exact hKO _ W1 hE rfl
       ·have e3 := isOf hp.1
        simp only [e3] at hKO
        go_simp
        exact hKO _ W (Ext.refl W) rfl
       ·have e4 := isOf hp.1
        simp only [e4] at hKO
        go_simp
        exact hKO _ W (Ext.refl W) rfl
       ·have e4 := isOf hp.1
        simp only [e4] at hKO
        go_simp
        exact hKO _ W (Ext.refl W) rfl
       ·have e5 := isOf hp.1
        simp only [e5] at hKO
        go_simp
        exact hKO _ W (Ext.refl W) rfl
       ·have e6 := isOf hp.1
        simp only [e6] at hKO
        go_simp
        exact hKO _ W (Ext.refl W) rfl
      intro vs W11 hS hp
      clear szw11 E0 h9_5 p9_8 h9_1 h10_5 p10_8 h10_1
      obtain ⟨E0, h9_5, p9_8, h9_1, h10_5, p10_8, h10_1, sz11⟩ := hS
      obtain ⟨h11_0, h11_1, h11_2, h11_3, h11_4, h11_5, h11_6, h11_7, h11_8, -⟩ := hp
      replace h11_0 : vs 0 = .int .i64 a := h11_0
      replace h11_1 : vs 1 = .int .i64 b := h11_1
      replace h11_2 : vs 2 = .int .i64 (K : Int) := h11_2
      replace h11_3 : vs 3 = .tuple #[.int .i64 M, .int .i64 0] := h11_3
      replace h11_4 : vs 4 = .tuple #[.int .i64 M, .int .i64 0] := h11_4
      replace h11_5 : vs 5 = .int .i64 M := h11_5
      replace h11_6 : vs 6 = .int .i64 0 := h11_6
      replace h11_7 : vs 7 = .int .i64 M := h11_7
      replace h11_8 : vs 8 = .int .i64 0 := h11_8
      simp only [h11_0, h11_1, h11_2, h11_3, h11_4, h11_5, h11_6, h11_7, h11_8]
      clear h11_0 h11_1 h11_2 h11_3 h11_4 h11_5 h11_6 h11_7 h11_8
      have kp9_8_0 := p9_8.cell0
      have kp9_8_1 := p9_8.cell1
      have kp9_8_2 := p9_8.cell2
      have kp10_8_0 := p10_8.cell0
      have kp10_8_1 := p10_8.cell1
      have kp10_8_2 := p10_8.cell2
      go_upto_region 8 with (fail)
      clear kp9_8_0 kp9_8_1 kp9_8_2 kp10_8_0 kp10_8_1 kp10_8_2
      have szw12 := Ext.size E0
      refine region_go [.one fun v _ => v = .int .i64 0,
        .one fun v _ => v = .bool true,
        .one fun v _ => v = .bool true,
        .one fun v _ => v = .int .i64 M,
        .one fun v _ => v = .agg #[.bool b9_8, .slice a9_8 n9_8 c9_8, .slice d9_8 m9_8 o9_8],
        .one fun v _ => v = .agg #[.bool b10_8, .slice a10_8 n10_8 c10_8, .slice d10_8 m10_8 o10_8],
        .one fun v W => Rw W v ((a : Rat) / P2 K * ((b : Rat) / P2 K)),
        .one fun v _ => v = .int .i64 (K : Int),
        .one fun v _ => v = .bool true,
        .one fun v _ => v = .bool false,
        .one fun v _ => v = .bool false,
        .one fun v _ => v = .bool false,
        .one fun v _ => v = .int .i64 0,
        .one fun v _ => v = .bool false,
        .one fun v _ => v = .bool false,
        .one fun v _ => v = undef,
        .one fun v _ => v = undef,
        .one fun v _ => v = undef,
        .one fun v _ => v = undef,
        .one fun v _ => v = undef,
        .one fun v _ => v = undef,
        .one fun v _ => v = .bool false,
        .one fun v _ => v = .bool false]
       (fun W => Ext w W ∧ Rw W (.agg #[.bool b9_8, .slice a9_8 n9_8 c9_8, .slice d9_8 m9_8 o9_8]) ((a : Rat) / P2 K) ∧ Bx3 W g9_8 35 (.bool b9_8) (.slice a9_8 n9_8 c9_8) (.slice d9_8 m9_8 o9_8) ∧ Zw W u9_1 a ∧ Rw W (.agg #[.bool b10_8, .slice a10_8 n10_8 c10_8, .slice d10_8 m10_8 o10_8]) ((b : Rat) / P2 K) ∧ Bx3 W g10_8 35 (.bool b10_8) (.slice a10_8 n10_8 c10_8) (.slice d10_8 m10_8 o10_8) ∧ Zw W u10_1 b ∧ W11.heap.size ≤ W.heap.size) ⟨Good.is _, Good.is _, Good.is _, Good.is _, Good.is _, Good.is _, Good.rat _, Good.is _, Good.is _, Good.is _, Good.is _, Good.is _, Good.is _, Good.is _, Good.is _, Good.is _, Good.is _, Good.is _, Good.is _, Good.is _, Good.is _, Good.is _, Good.is _, trivial⟩
       (fun W W1 hS hE => ⟨(Ext.trans hS.1 hE), (hS.2.1.ext hE), (hS.2.2.1.ext hE), (hS.2.2.2.1.ext hE), (hS.2.2.2.2.1.ext hE), (hS.2.2.2.2.2.1.ext hE), (hS.2.2.2.2.2.2.1.ext hE), (Nat.le_trans hS.2.2.2.2.2.2.2 (Ext.size hE))⟩) ⟨E0, h9_5, p9_8, h9_1, h10_5, p10_8, h10_1, Nat.le_refl _⟩ (by kernel_rfl) (by kernel_rfl) (by kernel_rfl) (by kernel_rfl) (A := ?A12) ?hA12 ?howe12 ?hfin12
      case hA12 =>
       intro vs
       simp only [putAll, Act.put, List.setIfInBounds_toArray, List.set_cons_zero, List.set_cons_succ, Nat.zero_add, Nat.reduceAdd]
       exact rfl
      case howe12 =>
       clear E0 h9_5 p9_8 h9_1 h10_5 p10_8 h10_1
       intro hf
       refine ⟨owesE 0 [] hf rfl (by kernel_rfl) ?_, owesE 1 [0] hf rfl (by kernel_rfl) ?_, owesE 2 [1] hf rfl (by kernel_rfl) ?_, owesE 3 [2] hf rfl (by kernel_rfl) ?_, owesE 4 [2] hf rfl (by kernel_rfl) ?_, owesE 5 [2] hf rfl (by kernel_rfl) ?_, owesE 6 [2, 4, 5] hf rfl (by kernel_rfl) ?_, owesE 7 [2] hf rfl (by kernel_rfl) ?_, owesE 8 [2, 3, 6, 7] hf rfl (by kernel_rfl) ?_, owesE 9 [2, 8] hf rfl (by kernel_rfl) ?_, owesE 10 [2, 9] hf rfl (by kernel_rfl) ?_, owesE 11 [10] hf rfl (by kernel_rfl) ?_, owesE 12 [11] hf rfl (by kernel_rfl) ?_, owesE 13 [11, 12] hf rfl (by kernel_rfl) ?_, owesE 14 [11, 13] hf rfl (by kernel_rfl) ?_, owesE 15 [14] hf rfl (by kernel_rfl) ?_, owesE 16 [14] hf rfl (by kernel_rfl) ?_, owesE 17 [14] hf rfl (by kernel_rfl) ?_, owesE 18 [17] hf rfl (by kernel_rfl) ?_, owesE 19 [17] hf rfl (by kernel_rfl) ?_, owesE 20 [14] hf rfl (by kernel_rfl) ?_, owesE 21 [11, 14, 20] hf rfl (by kernel_rfl) ?_, owesE 22 [11, 21] hf rfl (by kernel_rfl) ?_, trivial⟩
       all_goals intro vs W hS hp hx KO hKO
       all_goals simp only [Act.put, List.setIfInBounds_toArray, List.set_cons_zero, List.set_cons_succ] at hKO
       ·go_simp
        exact hKO _ W (Ext.refl W) rfl
       ·have e0 := isOf hp.1
        simp only [e0] at hKO
        go_simp
        exact hKO _ W (Ext.refl W) rfl
       ·have e1 := isOf hp.1
        simp only [e1] at hKO
        go_simp
        exact hKO _ W (Ext.refl W) rfl
       ·have e2 := isOf hp.1
        simp only [e2] at hKO
        go_simp
        exact hKO _ W (Ext.refl W) rfl
       ·have e2 := isOf hp.1
        simp only [e2] at hKO
        have fc0 := hS.2.2.1.cell0
        have fc1 := hS.2.2.1.cell1
        have fc2 := hS.2.2.1.cell2
        go_simp
        exact hKO _ W (Ext.refl W) rfl
       ·have e2 := isOf hp.1
        simp only [e2] at hKO
        have fc0 := hS.2.2.2.2.2.1.cell0
        have fc1 := hS.2.2.2.2.2.1.cell1
        have fc2 := hS.2.2.2.2.2.1.cell2
        go_simp
        exact hKO _ W (Ext.refl W) rfl
       ·have e2 := isOf hp.1
        have e4 := isOf hp.2.1
        have e5 := isOf hp.2.2.1
        simp only [e2, e4, e5] at hKO
        go_simp
        refine (Try.refRMul (hS.2.1) (hS.2.2.2.2.1) SX.out SY.out (by omega)).mono ?_
        rintro e W1 ⟨v, rfl, hv, hE⟩
        exact hKO _ W1 hE hv
       ·have e2 := isOf hp.1
        simp only [e2] at hKO
        go_simp
        exact hKO _ W (Ext.refl W) rfl
       ·have e2 := isOf hp.1
        have e3 := isOf hp.2.1
        have q6 := hp.2.2.1
        have e7 := isOf hp.2.2.2.1
        simp only [e2, e3, e7] at hKO
        go_simp
        refine (Try.within08 M q6 SXY.out K HK.out.1 HMF.out.1 HMF.out.2 HMN.out).mono ?_
        rintro e W1 ⟨rfl, hE⟩
        exact hKO _ W1 hE rfl
       ·have e2 := isOf hp.1
        have e8 := isOf hp.2.1
        simp only [e2, e8] at hKO
        go_simp
        exact hKO _ W (Ext.refl W) rfl
       ·have e2 := isOf hp.1
        have e9 := isOf hp.2.1
        simp only [e2, e9] at hKO
        go_simp
        exact hKO _ W (Ext.refl W) rfl
       ·have e10 := isOf hp.1
        simp only [e10] at hKO
        go_simp
        exact hKO _ W (Ext.refl W) rfl
       ·have e11 := isOf hp.1
        simp only [e11] at hKO
        go_simp
        exact hKO _ W (Ext.refl W) rfl
       ·have e11 := isOf hp.1
        have e12 := isOf hp.2.1
        simp only [e11, e12] at hKO
        go_simp
        exact hKO _ W (Ext.refl W) rfl
       ·have e11 := isOf hp.1
        have e13 := isOf hp.2.1
        simp only [e11, e13] at hKO
        go_simp
        exact hKO _ W (Ext.refl W) rfl
       ·have e14 := isOf hp.1
        simp only [e14] at hKO
        go_simp
        exact hKO _ W (Ext.refl W) rfl
       ·have e14 := isOf hp.1
        simp only [e14] at hKO
        go_simp
        exact hKO _ W (Ext.refl W) rfl
       ·have e14 := isOf hp.1
        simp only [e14] at hKO
        go_simp
        exact hKO _ W (Ext.refl W) rfl
       ·have e17 := isOf hp.1
        simp only [e17] at hKO
        go_simp
        exact hKO _ W (Ext.refl W) rfl
       ·have e17 := isOf hp.1
        simp only [e17] at hKO
        go_simp
        exact hKO _ W (Ext.refl W) rfl
       ·have e14 := isOf hp.1
        simp only [e14] at hKO
        go_simp
        exact hKO _ W (Ext.refl W) rfl
       ·have e11 := isOf hp.1
        have e14 := isOf hp.2.1
        have e20 := isOf hp.2.2.1
        simp only [e11, e14, e20] at hKO
        go_simp
        exact hKO _ W (Ext.refl W) rfl
       ·have e11 := isOf hp.1
        have e21 := isOf hp.2.1
        simp only [e11, e21] at hKO
        go_simp
        exact hKO _ W (Ext.refl W) rfl
      intro vs W12 hS hp
      clear szw12 E0 h9_5 p9_8 h9_1 h10_5 p10_8 h10_1
      obtain ⟨E0, h9_5, p9_8, h9_1, h10_5, p10_8, h10_1, sz12⟩ := hS
      obtain ⟨h12_0, h12_1, h12_2, h12_3, h12_4, h12_5, h12_6, h12_7, h12_8, h12_9, h12_10, h12_11, h12_12, h12_13, h12_14, h12_15, h12_16, h12_17, h12_18, h12_19, h12_20, h12_21, h12_22, -⟩ := hp
      replace h12_0 : vs 0 = .int .i64 0 := h12_0
      replace h12_1 : vs 1 = .bool true := h12_1
      replace h12_2 : vs 2 = .bool true := h12_2
      replace h12_3 : vs 3 = .int .i64 M := h12_3
      replace h12_4 : vs 4 = .agg #[.bool b9_8, .slice a9_8 n9_8 c9_8, .slice d9_8 m9_8 o9_8] := h12_4
      replace h12_5 : vs 5 = .agg #[.bool b10_8, .slice a10_8 n10_8 c10_8, .slice d10_8 m10_8 o10_8] := h12_5
      replace h12_7 : vs 7 = .int .i64 (K : Int) := h12_7
      replace h12_8 : vs 8 = .bool true := h12_8
      replace h12_9 : vs 9 = .bool false := h12_9
      replace h12_10 : vs 10 = .bool false := h12_10
      replace h12_11 : vs 11 = .bool false := h12_11
      replace h12_12 : vs 12 = .int .i64 0 := h12_12
      replace h12_13 : vs 13 = .bool false := h12_13
      replace h12_14 : vs 14 = .bool false := h12_14
      replace h12_15 : vs 15 = undef := h12_15
      replace h12_16 : vs 16 = undef := h12_16
      replace h12_17 : vs 17 = undef := h12_17
      replace h12_18 : vs 18 = undef := h12_18
      replace h12_19 : vs 19 = undef := h12_19
      replace h12_20 : vs 20 = undef := h12_20
      replace h12_21 : vs 21 = .bool false := h12_21
      replace h12_22 : vs 22 = .bool false := h12_22
      simp only [h12_0, h12_1, h12_2, h12_3, h12_4, h12_5, h12_7, h12_8, h12_9, h12_10, h12_11, h12_12, h12_13, h12_14, h12_15, h12_16, h12_17, h12_18, h12_19, h12_20, h12_21, h12_22]
      replace h12_6 : Rw W12 (vs 6) ((a : Rat) / P2 K * ((b : Rat) / P2 K)) := h12_6
      generalize vs 6 = u12_6 at h12_6 ⊢
      clear h12_0 h12_1 h12_2 h12_3 h12_4 h12_5 h12_7 h12_8 h12_9 h12_10 h12_11 h12_12 h12_13 h12_14 h12_15 h12_16 h12_17 h12_18 h12_19 h12_20 h12_21 h12_22
      have kp9_8_0 := p9_8.cell0
      have kp9_8_1 := p9_8.cell1
      have kp9_8_2 := p9_8.cell2
      have kp10_8_0 := p10_8.cell0
      have kp10_8_1 := p10_8.cell1
      have kp10_8_2 := p10_8.cell2
      go_upto_region 10 with (fail)
      clear kp9_8_0 kp9_8_1 kp9_8_2 kp10_8_0 kp10_8_1 kp10_8_2
      have szw13 := Ext.size E0
      refine region_go [.one fun v _ => v = .int .i64 a,
        .one fun v _ => v = .int .i64 b,
        .one fun v _ => v = .int .i64 (K : Int),
        .one fun v _ => v = .tuple #[.int .i64 D, .int .i64 0],
        .one fun v _ => v = .tuple #[.int .i64 D, .int .i64 0],
        .one fun v _ => v = .int .i64 D,
        .one fun v _ => v = .int .i64 0,
        .one fun v _ => v = .int .i64 D,
        .one fun v _ => v = .int .i64 0]
       (fun W => Ext w W ∧ Rw W (.agg #[.bool b9_8, .slice a9_8 n9_8 c9_8, .slice d9_8 m9_8 o9_8]) ((a : Rat) / P2 K) ∧ Bx3 W g9_8 35 (.bool b9_8) (.slice a9_8 n9_8 c9_8) (.slice d9_8 m9_8 o9_8) ∧ Zw W u9_1 a ∧ Rw W (.agg #[.bool b10_8, .slice a10_8 n10_8 c10_8, .slice d10_8 m10_8 o10_8]) ((b : Rat) / P2 K) ∧ Bx3 W g10_8 35 (.bool b10_8) (.slice a10_8 n10_8 c10_8) (.slice d10_8 m10_8 o10_8) ∧ Zw W u10_1 b ∧ Rw W u12_6 ((a : Rat) / P2 K * ((b : Rat) / P2 K)) ∧ W12.heap.size ≤ W.heap.size) ⟨Good.is _, Good.is _, Good.is _, Good.is _, Good.is _, Good.is _, Good.is _, Good.is _, Good.is _, trivial⟩
       (fun W W1 hS hE => ⟨(Ext.trans hS.1 hE), (hS.2.1.ext hE), (hS.2.2.1.ext hE), (hS.2.2.2.1.ext hE), (hS.2.2.2.2.1.ext hE), (hS.2.2.2.2.2.1.ext hE), (hS.2.2.2.2.2.2.1.ext hE), (hS.2.2.2.2.2.2.2.1.ext hE), (Nat.le_trans hS.2.2.2.2.2.2.2.2 (Ext.size hE))⟩) ⟨E0, h9_5, p9_8, h9_1, h10_5, p10_8, h10_1, h12_6, Nat.le_refl _⟩ (by kernel_rfl) (by kernel_rfl) (by kernel_rfl) (by kernel_rfl) (A := ?A13) ?hA13 ?howe13 ?hfin13
      case hA13 =>
       intro vs
       simp only [putAll, Act.put, List.setIfInBounds_toArray, List.set_cons_zero, List.set_cons_succ, Nat.zero_add, Nat.reduceAdd]
       exact rfl
      case howe13 =>
       clear E0 h9_5 p9_8 h9_1 h10_5 p10_8 h10_1 h12_6
       intro hf
       refine ⟨owesE 0 [] hf rfl (by kernel_rfl) ?_, owesE 1 [] hf rfl (by kernel_rfl) ?_, owesE 2 [] hf rfl (by kernel_rfl) ?_, owesE 3 [0, 1, 2] hf rfl (by kernel_rfl) ?_, owesE 4 [3] hf rfl (by kernel_rfl) ?_, owesE 5 [4] hf rfl (by kernel_rfl) ?_, owesE 6 [4] hf rfl (by kernel_rfl) ?_, owesE 7 [5] hf rfl (by kernel_rfl) ?_, owesE 8 [6] hf rfl (by kernel_rfl) ?_, trivial⟩
       all_goals intro vs W hS hp hx KO hKO
       all_goals simp only [Act.put, List.setIfInBounds_toArray, List.set_cons_zero, List.set_cons_succ] at hKO
       ·go_simp
        exact hKO _ W (Ext.refl W) rfl
       ·go_simp
        exact hKO _ W (Ext.refl W) rfl
       ·go_simp
        exact hKO _ W (Ext.refl W) rfl
       ·have e0 := isOf hp.1
        have e1 := isOf hp.2.1
        have e2 := isOf hp.2.2.1
        simp only [e0, e1, e2] at hKO
        go_simp
        refine (Try.fixDivV a b K HK.out.1 _ HB.out.1.1 HB.out.1.2 HB.out.2.1 HB.out.2.2 HB0.out.1 HVD.out HED.out).mono ?_
        rintro e W1 ⟨rfl, hE⟩
        exact hKO _ W1 hE rfl
       ·have e3 := isOf hp.1
        simp only [e3] at hKO
        go_simp
        exact hKO _ W (Ext.refl W) rfl
       ·have e4 := isOf hp.1
        simp only [e4] at hKO
        go_simp
        exact hKO _ W (Ext.refl W) rfl
       ·have e4 := isOf hp.1
        simp only [e4] at hKO
        go_simp
        exact hKO _ W (Ext.refl W) rfl
       ·have e5 := isOf hp.1
        simp only [e5] at hKO
        go_simp
        exact hKO _ W (Ext.refl W) rfl
       ·have e6 := isOf hp.1
        simp only [e6] at hKO
        go_simp
        exact hKO _ W (Ext.refl W) rfl
      intro vs W13 hS hp
      clear szw13 E0 h9_5 p9_8 h9_1 h10_5 p10_8 h10_1 h12_6
      obtain ⟨E0, h9_5, p9_8, h9_1, h10_5, p10_8, h10_1, h12_6, sz13⟩ := hS
      obtain ⟨h13_0, h13_1, h13_2, h13_3, h13_4, h13_5, h13_6, h13_7, h13_8, -⟩ := hp
      replace h13_0 : vs 0 = .int .i64 a := h13_0
      replace h13_1 : vs 1 = .int .i64 b := h13_1
      replace h13_2 : vs 2 = .int .i64 (K : Int) := h13_2
      replace h13_3 : vs 3 = .tuple #[.int .i64 D, .int .i64 0] := h13_3
      replace h13_4 : vs 4 = .tuple #[.int .i64 D, .int .i64 0] := h13_4
      replace h13_5 : vs 5 = .int .i64 D := h13_5
      replace h13_6 : vs 6 = .int .i64 0 := h13_6
      replace h13_7 : vs 7 = .int .i64 D := h13_7
      replace h13_8 : vs 8 = .int .i64 0 := h13_8
      simp only [h13_0, h13_1, h13_2, h13_3, h13_4, h13_5, h13_6, h13_7, h13_8]
      clear h13_0 h13_1 h13_2 h13_3 h13_4 h13_5 h13_6 h13_7 h13_8
      have kp9_8_0 := p9_8.cell0
      have kp9_8_1 := p9_8.cell1
      have kp9_8_2 := p9_8.cell2
      have kp10_8_0 := p10_8.cell0
      have kp10_8_1 := p10_8.cell1
      have kp10_8_2 := p10_8.cell2
      go_upto_region 13 with (fail)
      clear kp9_8_0 kp9_8_1 kp9_8_2 kp10_8_0 kp10_8_1 kp10_8_2
      have szw14 := Ext.size E0
      refine region_go [.one fun v _ => v = .agg #[.bool b9_8, .slice a9_8 n9_8 c9_8, .slice d9_8 m9_8 o9_8],
        .one fun v _ => v = .agg #[.bool b10_8, .slice a10_8 n10_8 c10_8, .slice d10_8 m10_8 o10_8],
        .one fun v W => ∃ v', v = .tuple #[v', .int .i64 0] ∧ (fun v W => Rw W v ((a : Rat) / P2 K / ((b : Rat) / P2 K))) v' W,
        .one fun v W => ∃ v', v = .tuple #[v', .int .i64 0] ∧ (fun v W => Rw W v ((a : Rat) / P2 K / ((b : Rat) / P2 K))) v' W,
        .one fun v W => Rw W v ((a : Rat) / P2 K / ((b : Rat) / P2 K)),
        .one fun v _ => v = .int .i64 0,
        .one fun v W => ∃ g, v = .pointer (some ⟨g, 0, none⟩) ∧ W13.heap.size ≤ g ∧ Form W g 35 3,
        .three 6 4 (fun p r _ W => Put3 W13.heap.size 35 p r W),
        .one fun v _ => v = .int .i64 0]
       (fun W => Ext w W ∧ Rw W (.agg #[.bool b9_8, .slice a9_8 n9_8 c9_8, .slice d9_8 m9_8 o9_8]) ((a : Rat) / P2 K) ∧ Bx3 W g9_8 35 (.bool b9_8) (.slice a9_8 n9_8 c9_8) (.slice d9_8 m9_8 o9_8) ∧ Zw W u9_1 a ∧ Rw W (.agg #[.bool b10_8, .slice a10_8 n10_8 c10_8, .slice d10_8 m10_8 o10_8]) ((b : Rat) / P2 K) ∧ Bx3 W g10_8 35 (.bool b10_8) (.slice a10_8 n10_8 c10_8) (.slice d10_8 m10_8 o10_8) ∧ Zw W u10_1 b ∧ Rw W u12_6 ((a : Rat) / P2 K * ((b : Rat) / P2 K)) ∧ W13.heap.size ≤ W.heap.size) ⟨Good.is _, Good.is _, (Good.rat _).tup _, (Good.rat _).tup _, Good.rat _, Good.is _, Good.box _ _ _, cert_put3, Good.is _, trivial⟩
       (fun W W1 hS hE => ⟨(Ext.trans hS.1 hE), (hS.2.1.ext hE), (hS.2.2.1.ext hE), (hS.2.2.2.1.ext hE), (hS.2.2.2.2.1.ext hE), (hS.2.2.2.2.2.1.ext hE), (hS.2.2.2.2.2.2.1.ext hE), (hS.2.2.2.2.2.2.2.1.ext hE), (Nat.le_trans hS.2.2.2.2.2.2.2.2 (Ext.size hE))⟩) ⟨E0, h9_5, p9_8, h9_1, h10_5, p10_8, h10_1, h12_6, Nat.le_refl _⟩ (by kernel_rfl) (by kernel_rfl) (by kernel_rfl) (by kernel_rfl) (A := ?A14) ?hA14 ?howe14 ?hfin14
      case hA14 =>
       intro vs
       simp only [putAll, Act.put, List.setIfInBounds_toArray, List.set_cons_zero, List.set_cons_succ, Nat.zero_add, Nat.reduceAdd]
       exact rfl
      case howe14 =>
       clear E0 h9_5 p9_8 h9_1 h10_5 p10_8 h10_1 h12_6
       intro hf
       refine ⟨owesE 0 [] hf rfl (by kernel_rfl) ?_, owesE 1 [] hf rfl (by kernel_rfl) ?_, owesE 2 [0, 1] hf rfl (by kernel_rfl) ?_, owesE 3 [2] hf rfl (by kernel_rfl) ?_, owesE 4 [3] hf rfl (by kernel_rfl) ?_, owesE 5 [3] hf rfl (by kernel_rfl) ?_, owesE 6 [] hf rfl (by kernel_rfl) ?_, owesW 7 [6, 4] hf rfl (by kernel_rfl) (by kernel_rfl) ?_, owesE 8 [5] hf rfl (by kernel_rfl) ?_, trivial⟩
       all_goals intro vs W hS hp hx KO hKO
       all_goals simp only [Act.put, List.setIfInBounds_toArray, List.set_cons_zero, List.set_cons_succ] at hKO
       ·have fc0 := hS.2.2.1.cell0
        have fc1 := hS.2.2.1.cell1
        have fc2 := hS.2.2.1.cell2
        go_simp
        exact hKO _ W (Ext.refl W) rfl
       ·have fc0 := hS.2.2.2.2.2.1.cell0
        have fc1 := hS.2.2.2.2.2.1.cell1
        have fc2 := hS.2.2.2.2.2.1.cell2
        go_simp
        exact hKO _ W (Ext.refl W) rfl
       ·have e0 := isOf hp.1
        have e1 := isOf hp.2.1
        simp only [e0, e1] at hKO
        go_simp
        refine (Try.refRDiv (hS.2.1) (hS.2.2.2.2.1) SX.out SY.out (by omega) HY0.out).mono ?_
        rintro e W1 ⟨v, rfl, hv, hE⟩
        exact hKO _ W1 hE ⟨_, rfl, hv⟩
       ·have q2 := hp.1
        obtain ⟨u, ev, hu⟩ := q2
        replace ev : vs 2 = _ := ev
        simp only [ev] at hKO
        go_simp
        exact hKO _ W (Ext.refl W) ⟨u, rfl, hu⟩
       ·have q3 := hp.1
        obtain ⟨u, ev, hu⟩ := q3
        replace ev : vs 3 = _ := ev
        simp only [ev] at hKO
        go_simp
        exact hKO _ W (Ext.refl W) hu
       ·have q3 := hp.1
        obtain ⟨u, ev, hu⟩ := q3
        replace ev : vs 3 = _ := ev
        simp only [ev] at hKO
        go_simp
        exact hKO _ W (Ext.refl W) rfl
       ·have hn := Bx3.new W 35 (.bool false) (.slice none 0 0) (.slice none 0 0)
        have hE := Ext.alloc1 W (.cells #[.bool false, .slice none 0 0, .slice none 0 0] 35)
        have hsz := hS.2.2.2.2.2.2.2.2
        go_simp
        exact hKO _ _ hE ⟨_, rfl, hsz, hn.form⟩
       ·have q6 := hp.1
        have q4 := hp.2.1
        obtain ⟨g, ev, hg, hf⟩ := q6
        replace ev : vs 6 = _ := ev
        obtain ⟨x0, y0, z0, hx, hno⟩ := hf.bx3
        have qr := q4
        obtain ⟨b3, a3, n3, c3, d3, m3, o3, er, -, -, -⟩ := qr
        replace er : vs 4 = _ := er
        have r0 := hx.froz0
        have t0 := hx.cell0
        have r1 := hx.froz1
        have t1 := hx.cell1
        have r2 := hx.froz2
        have t2 := hx.cell2
        have hw := Wr.set3 hx hno b3 a3 n3 c3 d3 m3 o3
        have hq := hx.set (.bool b3) (.slice a3 n3 c3) (.slice d3 m3 o3)
        simp only [ev, er] at hKO
        go_simp
        exact hKO _ _ hw ⟨(Ext.wr hS.1 hw (by omega)), (hS.2.1.wr hw), (hS.2.2.1.wr hw (by omega)), (hS.2.2.2.1.wr hw), (hS.2.2.2.2.1.wr hw), (hS.2.2.2.2.2.1.wr hw (by omega)), (hS.2.2.2.2.2.2.1.wr hw), (hS.2.2.2.2.2.2.2.1.wr hw), (Nat.le_trans hS.2.2.2.2.2.2.2.2 hw.apart.size)⟩ ⟨g, b3, a3, n3, c3, d3, m3, o3, ev, er, hg, hq⟩
       ·have e5 := isOf hp.1
        simp only [e5] at hKO
        go_simp
        exact hKO _ W (Ext.refl W) rfl
      intro vs W14 hS hp
      clear szw14 E0 h9_5 p9_8 h9_1 h10_5 p10_8 h10_1 h12_6
      obtain ⟨E0, h9_5, p9_8, h9_1, h10_5, p10_8, h10_1, h12_6, sz14⟩ := hS
      obtain ⟨h14_0, h14_1, h14_2, h14_3, h14_4, h14_5, h14_6, h14_7, h14_8, -⟩ := hp
      obtain ⟨g14_7, b14_7, a14_7, n14_7, c14_7, d14_7, m14_7, o14_7, ev14_7, er14_7, hg14_7, p14_7⟩ := h14_7
      replace ev14_7 : vs 6 = _ := ev14_7
      replace er14_7 : vs 4 = _ := er14_7
      replace h14_4 := (show Rw W14 (vs 4) ((a : Rat) / P2 K / ((b : Rat) / P2 K)) from h14_4)
      rw [er14_7] at h14_4
      replace h14_0 : vs 0 = .agg #[.bool b9_8, .slice a9_8 n9_8 c9_8, .slice d9_8 m9_8 o9_8] := h14_0
      replace h14_1 : vs 1 = .agg #[.bool b10_8, .slice a10_8 n10_8 c10_8, .slice d10_8 m10_8 o10_8] := h14_1
      replace h14_5 : vs 5 = .int .i64 0 := h14_5
      replace h14_8 : vs 8 = .int .i64 0 := h14_8
      simp only [ev14_7, er14_7, h14_0, h14_1, h14_5, h14_8]
      clear ev14_7 er14_7 h14_0 h14_1 h14_5 h14_8 h14_2 h14_3 h14_6
      have kp9_8_0 := p9_8.cell0
      have kp9_8_1 := p9_8.cell1
      have kp9_8_2 := p9_8.cell2
      have kp10_8_0 := p10_8.cell0
      have kp10_8_1 := p10_8.cell1
      have kp10_8_2 := p10_8.cell2
      have kp14_7_0 := p14_7.cell0
      have kp14_7_1 := p14_7.cell1
      have kp14_7_2 := p14_7.cell2
      go_upto_region 17 with (fail)
      clear kp9_8_0 kp9_8_1 kp9_8_2 kp10_8_0 kp10_8_1 kp10_8_2 kp14_7_0 kp14_7_1 kp14_7_2
      have ltp14_7 := p14_7.lt
      have szw15 := Ext.size E0
      refine region_go [.one fun v _ => v = .bool true,
        .one fun v _ => v = .bool true,
        .one fun v _ => v = .int .i64 D,
        .one fun v _ => v = .agg #[.bool b14_7, .slice a14_7 n14_7 c14_7, .slice d14_7 m14_7 o14_7],
        .one fun v _ => v = .int .i64 (K : Int),
        .one fun v _ => v = .bool true,
        .one fun v _ => v = .bool true,
        .one fun v _ => v = .bool true]
       (fun W => Ext w W ∧ Rw W (.agg #[.bool b9_8, .slice a9_8 n9_8 c9_8, .slice d9_8 m9_8 o9_8]) ((a : Rat) / P2 K) ∧ Bx3 W g9_8 35 (.bool b9_8) (.slice a9_8 n9_8 c9_8) (.slice d9_8 m9_8 o9_8) ∧ Zw W u9_1 a ∧ Rw W (.agg #[.bool b10_8, .slice a10_8 n10_8 c10_8, .slice d10_8 m10_8 o10_8]) ((b : Rat) / P2 K) ∧ Bx3 W g10_8 35 (.bool b10_8) (.slice a10_8 n10_8 c10_8) (.slice d10_8 m10_8 o10_8) ∧ Zw W u10_1 b ∧ Rw W u12_6 ((a : Rat) / P2 K * ((b : Rat) / P2 K)) ∧ Rw W (.agg #[.bool b14_7, .slice a14_7 n14_7 c14_7, .slice d14_7 m14_7 o14_7]) ((a : Rat) / P2 K / ((b : Rat) / P2 K)) ∧ Bx3 W g14_7 35 (.bool b14_7) (.slice a14_7 n14_7 c14_7) (.slice d14_7 m14_7 o14_7) ∧ W14.heap.size ≤ W.heap.size) ⟨Good.is _, Good.is _, Good.is _, Good.is _, Good.is _, Good.is _, Good.is _, Good.is _, trivial⟩
       (fun W W1 hS hE => ⟨(Ext.trans hS.1 hE), (hS.2.1.ext hE), (hS.2.2.1.ext hE), (hS.2.2.2.1.ext hE), (hS.2.2.2.2.1.ext hE), (hS.2.2.2.2.2.1.ext hE), (hS.2.2.2.2.2.2.1.ext hE), (hS.2.2.2.2.2.2.2.1.ext hE), (hS.2.2.2.2.2.2.2.2.1.ext hE), (hS.2.2.2.2.2.2.2.2.2.1.ext hE), (Nat.le_trans hS.2.2.2.2.2.2.2.2.2.2 (Ext.size hE))⟩) ⟨E0, h9_5, p9_8, h9_1, h10_5, p10_8, h10_1, h12_6, h14_4, p14_7, Nat.le_refl _⟩ (by kernel_rfl) (by kernel_rfl) (by kernel_rfl) (by kernel_rfl) (A := ?A15) ?hA15 ?howe15 ?hfin15
      case hA15 =>
       intro vs
       simp only [putAll, Act.put, List.setIfInBounds_toArray, List.set_cons_zero, List.set_cons_succ, Nat.zero_add, Nat.reduceAdd]
       exact rfl
      case howe15 =>
       clear E0 h9_5 p9_8 h9_1 h10_5 p10_8 h10_1 h12_6 h14_4 p14_7
       intro hf
       refine ⟨owesE 0 [] hf rfl (by kernel_rfl) ?_, owesE 1 [0] hf rfl (by kernel_rfl) ?_, owesE 2 [1] hf rfl (by kernel_rfl) ?_, owesE 3 [1] hf rfl (by kernel_rfl) ?_, owesE 4 [1] hf rfl (by kernel_rfl) ?_, owesE 5 [1, 2, 3, 4] hf rfl (by kernel_rfl) ?_, owesE 6 [1, 5] hf rfl (by kernel_rfl) ?_, owesE 7 [6] hf rfl (by kernel_rfl) ?_, trivial⟩
       all_goals intro vs W hS hp hx KO hKO
       all_goals simp only [Act.put, List.setIfInBounds_toArray, List.set_cons_zero, List.set_cons_succ] at hKO
       ·go_simp
        refine (Try.alive08 _).mono ?_
        rintro e W1 ⟨rfl, hE⟩
        exact hKO _ W1 hE rfl
       ·have e0 := isOf hp.1
        simp only [e0] at hKO
        go_simp
        exact hKO _ W (Ext.refl W) rfl
       ·have e1 := isOf hp.1
        simp only [e1] at hKO
        go_simp
        exact hKO _ W (Ext.refl W) rfl
       ·have e1 := isOf hp.1
        simp only [e1] at hKO
        have fc0 := hS.2.2.2.2.2.2.2.2.2.1.cell0
        have fc1 := hS.2.2.2.2.2.2.2.2.2.1.cell1
        have fc2 := hS.2.2.2.2.2.2.2.2.2.1.cell2
        go_simp
        exact hKO _ W (Ext.refl W) rfl
       ·have e1 := isOf hp.1
        simp only [e1] at hKO
        go_simp
        exact hKO _ W (Ext.refl W) rfl
       ·have e1 := isOf hp.1
        have e2 := isOf hp.2.1
        have e3 := isOf hp.2.2.1
        have e4 := isOf hp.2.2.2.1
        simp only [e1, e2, e3, e4] at hKO
        go_simp
        refine (Try.within08 D (hS.2.2.2.2.2.2.2.2.1) SQ.out K HK.out.1 HDF.out.1 HDF.out.2 HDN.out).mono ?_
        rintro e W1 ⟨rfl, hE⟩
        exact hKO _ W1 hE rfl
       ·have e1 := isOf hp.1
        have e5 := isOf hp.2.1
        simp only [e1, e5] at hKO
        go_simp
        exact hKO _ W (Ext.refl W) rfl
       ·have e6 := isOf hp.1
        simp only [e6] at hKO
        go_simp
        exact hKO _ W (Ext.refl W) rfl
      intro vs W15 hS hp
      clear szw15 E0 h9_5 p9_8 h9_1 h10_5 p10_8 h10_1 h12_6 h14_4 p14_7
      obtain ⟨E0, h9_5, p9_8, h9_1, h10_5, p10_8, h10_1, h12_6, h14_4, p14_7, sz15⟩ := hS
      obtain ⟨h15_0, h15_1, h15_2, h15_3, h15_4, h15_5, h15_6, h15_7, -⟩ := hp
      replace h15_0 : vs 0 = .bool true := h15_0
      replace h15_1 : vs 1 = .bool true := h15_1
      replace h15_2 : vs 2 = .int .i64 D := h15_2
      replace h15_3 : vs 3 = .agg #[.bool b14_7, .slice a14_7 n14_7 c14_7, .slice d14_7 m14_7 o14_7] := h15_3
      replace h15_4 : vs 4 = .int .i64 (K : Int) := h15_4
      replace h15_5 : vs 5 = .bool true := h15_5
      replace h15_6 : vs 6 = .bool true := h15_6
      replace h15_7 : vs 7 = .bool true := h15_7
      simp only [h15_0, h15_1, h15_2, h15_3, h15_4, h15_5, h15_6, h15_7]
      clear h15_0 h15_1 h15_2 h15_3 h15_4 h15_5 h15_6 h15_7
      have kp9_8_0 := p9_8.cell0
      have kp9_8_1 := p9_8.cell1
      have kp9_8_2 := p9_8.cell2
      have kp10_8_0 := p10_8.cell0
      have kp10_8_1 := p10_8.cell1
      have kp10_8_2 := p10_8.cell2
      have kp14_7_0 := p14_7.cell0
      have kp14_7_1 := p14_7.cell1
      have kp14_7_2 := p14_7.cell2
      go_wp2
      go_ret
      exact ⟨rfl, E0⟩
     ·have HVD : Hid (fitV (nearR (((a * ((2 ^ K : Nat) : Int) : Int) : Rat) / (b : Rat))) = 0) := Lib.hid (by
       rw [HD.out]
       have h2 : fits D = false := by cases hh : fits D; rfl; rw [fitE_in hh] at he; cases he
       exact fitV_out h2)
      have HED : Hid (fitE (nearR (((a * ((2 ^ K : Nat) : Int) : Int) : Rat) / (b : Rat))) = 2) := Lib.hid (by rw [HD.out]; exact he)
      have HFO : Hid (cmpR (Rat.abs ((a : Rat) / P2 K / ((b : Rat) / P2 K))) (((9223372036854775807 : Int) : Rat) / P2 K) = 1) := Lib.hid (far_out _ K (by rw [HDQ.out]; exact he))
      clear he HD
      obtain ⟨W0, hW0⟩ : ∃ W0, W0 = w := ⟨_, rfl⟩
      have E0 : Ext w W0 := by rw [hW0]; exact Ext.refl w
      go_enter Try.func4, Try.ntmps4
      go_upto_region 5 with (fail)
      rw [← hW0]
      clear hW0
      have szw16 := Ext.size E0
      refine region_go [.one fun v _ => v = .int .i64 a,
        .one fun v W => Zw W v a,
        .one fun v _ => v = .int .i64 (K : Int),
        .one fun v W => ∃ v', v = .tuple #[v', .int .i64 0] ∧ (fun v W => Rw W v ((a : Rat) / P2 K)) v' W,
        .one fun v W => ∃ v', v = .tuple #[v', .int .i64 0] ∧ (fun v W => Rw W v ((a : Rat) / P2 K)) v' W,
        .one fun v W => Rw W v ((a : Rat) / P2 K),
        .one fun v _ => v = .int .i64 0,
        .one fun v W => ∃ g, v = .pointer (some ⟨g, 0, none⟩) ∧ W0.heap.size ≤ g ∧ Form W g 35 3,
        .three 7 5 (fun p r _ W => Put3 W0.heap.size 35 p r W),
        .one fun v _ => v = .int .i64 0]
       (fun W => Ext w W ∧ W0.heap.size ≤ W.heap.size) ⟨Good.is _, Good.zed _, Good.is _, (Good.rat _).tup _, (Good.rat _).tup _, Good.rat _, Good.is _, Good.box _ _ _, cert_put3, Good.is _, trivial⟩
       (fun W W1 hS hE => ⟨(Ext.trans hS.1 hE), (Nat.le_trans hS.2 (Ext.size hE))⟩) ⟨E0, Nat.le_refl _⟩ (by kernel_rfl) (by kernel_rfl) (by kernel_rfl) (by kernel_rfl) (A := ?A16) ?hA16 ?howe16 ?hfin16
      case hA16 =>
       intro vs
       simp only [putAll, Act.put, List.setIfInBounds_toArray, List.set_cons_zero, List.set_cons_succ, Nat.zero_add, Nat.reduceAdd]
       exact rfl
      case howe16 =>
       clear E0
       intro hf
       refine ⟨owesE 0 [] hf rfl (by kernel_rfl) ?_, owesE 1 [0] hf rfl (by kernel_rfl) ?_, owesE 2 [] hf rfl (by kernel_rfl) ?_, owesE 3 [1, 2] hf rfl (by kernel_rfl) ?_, owesE 4 [3] hf rfl (by kernel_rfl) ?_, owesE 5 [4] hf rfl (by kernel_rfl) ?_, owesE 6 [4] hf rfl (by kernel_rfl) ?_, owesE 7 [] hf rfl (by kernel_rfl) ?_, owesW 8 [7, 5] hf rfl (by kernel_rfl) (by kernel_rfl) ?_, owesE 9 [6] hf rfl (by kernel_rfl) ?_, trivial⟩
       all_goals intro vs W hS hp hx KO hKO
       all_goals simp only [Act.put, List.setIfInBounds_toArray, List.set_cons_zero, List.set_cons_succ] at hKO
       ·go_simp
        exact hKO _ W (Ext.refl W) rfl
       ·have e0 := isOf hp.1
        simp only [e0] at hKO
        go_simp
        refine (Try.refZOf a _ HB.out.1.1 HB.out.1.2).mono ?_
        rintro e W1 ⟨v, rfl, hv, hE⟩
        exact hKO _ W1 hE hv
       ·go_simp
        exact hKO _ W (Ext.refl W) rfl
       ·have q1 := hp.1
        have e2 := isOf hp.2.1
        simp only [e2] at hKO
        go_simp
        refine (Try.refBack q1 S1.out (by omega) K HK.out.2).mono ?_
        rintro e W1 ⟨v, rfl, hv, hE⟩
        exact hKO _ W1 hE ⟨_, rfl, hv⟩
       ·have q3 := hp.1
        obtain ⟨u, ev, hu⟩ := q3
        replace ev : vs 3 = _ := ev
        simp only [ev] at hKO
        go_simp
        exact hKO _ W (Ext.refl W) ⟨u, rfl, hu⟩
       ·have q4 := hp.1
        obtain ⟨u, ev, hu⟩ := q4
        replace ev : vs 4 = _ := ev
        simp only [ev] at hKO
        go_simp
        exact hKO _ W (Ext.refl W) hu
       ·have q4 := hp.1
        obtain ⟨u, ev, hu⟩ := q4
        replace ev : vs 4 = _ := ev
        simp only [ev] at hKO
        go_simp
        exact hKO _ W (Ext.refl W) rfl
       ·have hn := Bx3.new W 35 (.bool false) (.slice none 0 0) (.slice none 0 0)
        have hE := Ext.alloc1 W (.cells #[.bool false, .slice none 0 0, .slice none 0 0] 35)
        have hsz := hS.2
        go_simp
        exact hKO _ _ hE ⟨_, rfl, hsz, hn.form⟩
       ·have q7 := hp.1
        have q5 := hp.2.1
        obtain ⟨g, ev, hg, hf⟩ := q7
        replace ev : vs 7 = _ := ev
        obtain ⟨x0, y0, z0, hx, hno⟩ := hf.bx3
        have qr := q5
        obtain ⟨b3, a3, n3, c3, d3, m3, o3, er, -, -, -⟩ := qr
        replace er : vs 5 = _ := er
        have r0 := hx.froz0
        have t0 := hx.cell0
        have r1 := hx.froz1
        have t1 := hx.cell1
        have r2 := hx.froz2
        have t2 := hx.cell2
        have hw := Wr.set3 hx hno b3 a3 n3 c3 d3 m3 o3
        have hq := hx.set (.bool b3) (.slice a3 n3 c3) (.slice d3 m3 o3)
        simp only [ev, er] at hKO
        go_simp
        exact hKO _ _ hw ⟨(Ext.wr hS.1 hw (by omega)), (Nat.le_trans hS.2 hw.apart.size)⟩ ⟨g, b3, a3, n3, c3, d3, m3, o3, ev, er, hg, hq⟩
       ·have e6 := isOf hp.1
        simp only [e6] at hKO
        go_simp
        exact hKO _ W (Ext.refl W) rfl
      intro vs W16 hS hp
      clear szw16 E0
      obtain ⟨E0, sz16⟩ := hS
      obtain ⟨h16_0, h16_1, h16_2, h16_3, h16_4, h16_5, h16_6, h16_7, h16_8, h16_9, -⟩ := hp
      obtain ⟨g16_8, b16_8, a16_8, n16_8, c16_8, d16_8, m16_8, o16_8, ev16_8, er16_8, hg16_8, p16_8⟩ := h16_8
      replace ev16_8 : vs 7 = _ := ev16_8
      replace er16_8 : vs 5 = _ := er16_8
      replace h16_5 := (show Rw W16 (vs 5) ((a : Rat) / P2 K) from h16_5)
      rw [er16_8] at h16_5
      replace h16_0 : vs 0 = .int .i64 a := h16_0
      replace h16_2 : vs 2 = .int .i64 (K : Int) := h16_2
      replace h16_6 : vs 6 = .int .i64 0 := h16_6
      replace h16_9 : vs 9 = .int .i64 0 := h16_9
      simp only [ev16_8, er16_8, h16_0, h16_2, h16_6, h16_9]
      replace h16_1 : Zw W16 (vs 1) a := h16_1
      generalize vs 1 = u16_1 at h16_1 ⊢
      clear ev16_8 er16_8 h16_0 h16_2 h16_6 h16_9 h16_3 h16_4 h16_7
      have kp16_8_0 := p16_8.cell0
      have kp16_8_1 := p16_8.cell1
      have kp16_8_2 := p16_8.cell2
      go_upto_region 6 with (fail)
      clear kp16_8_0 kp16_8_1 kp16_8_2
      have ltp16_8 := p16_8.lt
      have szw17 := Ext.size E0
      refine region_go [.one fun v _ => v = .int .i64 b,
        .one fun v W => Zw W v b,
        .one fun v _ => v = .int .i64 (K : Int),
        .one fun v W => ∃ v', v = .tuple #[v', .int .i64 0] ∧ (fun v W => Rw W v ((b : Rat) / P2 K)) v' W,
        .one fun v W => ∃ v', v = .tuple #[v', .int .i64 0] ∧ (fun v W => Rw W v ((b : Rat) / P2 K)) v' W,
        .one fun v W => Rw W v ((b : Rat) / P2 K),
        .one fun v _ => v = .int .i64 0,
        .one fun v W => ∃ g, v = .pointer (some ⟨g, 0, none⟩) ∧ W16.heap.size ≤ g ∧ Form W g 35 3,
        .three 7 5 (fun p r _ W => Put3 W16.heap.size 35 p r W),
        .one fun v _ => v = .int .i64 0]
       (fun W => Ext w W ∧ Rw W (.agg #[.bool b16_8, .slice a16_8 n16_8 c16_8, .slice d16_8 m16_8 o16_8]) ((a : Rat) / P2 K) ∧ Bx3 W g16_8 35 (.bool b16_8) (.slice a16_8 n16_8 c16_8) (.slice d16_8 m16_8 o16_8) ∧ Zw W u16_1 a ∧ W16.heap.size ≤ W.heap.size) ⟨Good.is _, Good.zed _, Good.is _, (Good.rat _).tup _, (Good.rat _).tup _, Good.rat _, Good.is _, Good.box _ _ _, cert_put3, Good.is _, trivial⟩
       (fun W W1 hS hE => ⟨(Ext.trans hS.1 hE), (hS.2.1.ext hE), (hS.2.2.1.ext hE), (hS.2.2.2.1.ext hE), (Nat.le_trans hS.2.2.2.2 (Ext.size hE))⟩) ⟨E0, h16_5, p16_8, h16_1, Nat.le_refl _⟩ (by kernel_rfl) (by kernel_rfl) (by kernel_rfl) (by kernel_rfl) (A := ?A17) ?hA17 ?howe17 ?hfin17
      case hA17 =>
       intro vs
       simp only [putAll, Act.put, List.setIfInBounds_toArray, List.set_cons_zero, List.set_cons_succ, Nat.zero_add, Nat.reduceAdd]
       exact rfl
      case howe17 =>
       clear E0 h16_5 p16_8 h16_1
       intro hf
       refine ⟨owesE 0 [] hf rfl (by kernel_rfl) ?_, owesE 1 [0] hf rfl (by kernel_rfl) ?_, owesE 2 [] hf rfl (by kernel_rfl) ?_, owesE 3 [1, 2] hf rfl (by kernel_rfl) ?_, owesE 4 [3] hf rfl (by kernel_rfl) ?_, owesE 5 [4] hf rfl (by kernel_rfl) ?_, owesE 6 [4] hf rfl (by kernel_rfl) ?_, owesE 7 [] hf rfl (by kernel_rfl) ?_, owesW 8 [7, 5] hf rfl (by kernel_rfl) (by kernel_rfl) ?_, owesE 9 [6] hf rfl (by kernel_rfl) ?_, trivial⟩
       all_goals intro vs W hS hp hx KO hKO
       all_goals simp only [Act.put, List.setIfInBounds_toArray, List.set_cons_zero, List.set_cons_succ] at hKO
       ·go_simp
        exact hKO _ W (Ext.refl W) rfl
       ·have e0 := isOf hp.1
        simp only [e0] at hKO
        go_simp
        refine (Try.refZOf b _ HB.out.2.1 HB.out.2.2).mono ?_
        rintro e W1 ⟨v, rfl, hv, hE⟩
        exact hKO _ W1 hE hv
       ·go_simp
        exact hKO _ W (Ext.refl W) rfl
       ·have q1 := hp.1
        have e2 := isOf hp.2.1
        simp only [e2] at hKO
        go_simp
        refine (Try.refBack q1 S2.out (by omega) K HK.out.2).mono ?_
        rintro e W1 ⟨v, rfl, hv, hE⟩
        exact hKO _ W1 hE ⟨_, rfl, hv⟩
       ·have q3 := hp.1
        obtain ⟨u, ev, hu⟩ := q3
        replace ev : vs 3 = _ := ev
        simp only [ev] at hKO
        go_simp
        exact hKO _ W (Ext.refl W) ⟨u, rfl, hu⟩
       ·have q4 := hp.1
        obtain ⟨u, ev, hu⟩ := q4
        replace ev : vs 4 = _ := ev
        simp only [ev] at hKO
        go_simp
        exact hKO _ W (Ext.refl W) hu
       ·have q4 := hp.1
        obtain ⟨u, ev, hu⟩ := q4
        replace ev : vs 4 = _ := ev
        simp only [ev] at hKO
        go_simp
        exact hKO _ W (Ext.refl W) rfl
       ·have hn := Bx3.new W 35 (.bool false) (.slice none 0 0) (.slice none 0 0)
        have hE := Ext.alloc1 W (.cells #[.bool false, .slice none 0 0, .slice none 0 0] 35)
        have hsz := hS.2.2.2.2
        go_simp
        exact hKO _ _ hE ⟨_, rfl, hsz, hn.form⟩
       ·have q7 := hp.1
        have q5 := hp.2.1
        obtain ⟨g, ev, hg, hf⟩ := q7
        replace ev : vs 7 = _ := ev
        obtain ⟨x0, y0, z0, hx, hno⟩ := hf.bx3
        have qr := q5
        obtain ⟨b3, a3, n3, c3, d3, m3, o3, er, -, -, -⟩ := qr
        replace er : vs 5 = _ := er
        have r0 := hx.froz0
        have t0 := hx.cell0
        have r1 := hx.froz1
        have t1 := hx.cell1
        have r2 := hx.froz2
        have t2 := hx.cell2
        have hw := Wr.set3 hx hno b3 a3 n3 c3 d3 m3 o3
        have hq := hx.set (.bool b3) (.slice a3 n3 c3) (.slice d3 m3 o3)
        simp only [ev, er] at hKO
        go_simp
        exact hKO _ _ hw ⟨(Ext.wr hS.1 hw (by omega)), (hS.2.1.wr hw), (hS.2.2.1.wr hw (by omega)), (hS.2.2.2.1.wr hw), (Nat.le_trans hS.2.2.2.2 hw.apart.size)⟩ ⟨g, b3, a3, n3, c3, d3, m3, o3, ev, er, hg, hq⟩
       ·have e6 := isOf hp.1
        simp only [e6] at hKO
        go_simp
        exact hKO _ W (Ext.refl W) rfl
      intro vs W17 hS hp
      clear szw17 E0 h16_5 p16_8 h16_1
      obtain ⟨E0, h16_5, p16_8, h16_1, sz17⟩ := hS
      obtain ⟨h17_0, h17_1, h17_2, h17_3, h17_4, h17_5, h17_6, h17_7, h17_8, h17_9, -⟩ := hp
      obtain ⟨g17_8, b17_8, a17_8, n17_8, c17_8, d17_8, m17_8, o17_8, ev17_8, er17_8, hg17_8, p17_8⟩ := h17_8
      replace ev17_8 : vs 7 = _ := ev17_8
      replace er17_8 : vs 5 = _ := er17_8
      replace h17_5 := (show Rw W17 (vs 5) ((b : Rat) / P2 K) from h17_5)
      rw [er17_8] at h17_5
      replace h17_0 : vs 0 = .int .i64 b := h17_0
      replace h17_2 : vs 2 = .int .i64 (K : Int) := h17_2
      replace h17_6 : vs 6 = .int .i64 0 := h17_6
      replace h17_9 : vs 9 = .int .i64 0 := h17_9
      simp only [ev17_8, er17_8, h17_0, h17_2, h17_6, h17_9]
      replace h17_1 : Zw W17 (vs 1) b := h17_1
      generalize vs 1 = u17_1 at h17_1 ⊢
      clear ev17_8 er17_8 h17_0 h17_2 h17_6 h17_9 h17_3 h17_4 h17_7
      have kp16_8_0 := p16_8.cell0
      have kp16_8_1 := p16_8.cell1
      have kp16_8_2 := p16_8.cell2
      have kp17_8_0 := p17_8.cell0
      have kp17_8_1 := p17_8.cell1
      have kp17_8_2 := p17_8.cell2
      go_upto_region 7 with (fail)
      clear kp16_8_0 kp16_8_1 kp16_8_2 kp17_8_0 kp17_8_1 kp17_8_2
      have ltp17_8 := p17_8.lt
      have szw18 := Ext.size E0
      refine region_go [.one fun v _ => v = .int .i64 a,
        .one fun v _ => v = .int .i64 b,
        .one fun v _ => v = .int .i64 (K : Int),
        .one fun v _ => v = .tuple #[.int .i64 M, .int .i64 0],
        .one fun v _ => v = .tuple #[.int .i64 M, .int .i64 0],
        .one fun v _ => v = .int .i64 M,
        .one fun v _ => v = .int .i64 0,
        .one fun v _ => v = .int .i64 M,
        .one fun v _ => v = .int .i64 0]
       (fun W => Ext w W ∧ Rw W (.agg #[.bool b16_8, .slice a16_8 n16_8 c16_8, .slice d16_8 m16_8 o16_8]) ((a : Rat) / P2 K) ∧ Bx3 W g16_8 35 (.bool b16_8) (.slice a16_8 n16_8 c16_8) (.slice d16_8 m16_8 o16_8) ∧ Zw W u16_1 a ∧ Rw W (.agg #[.bool b17_8, .slice a17_8 n17_8 c17_8, .slice d17_8 m17_8 o17_8]) ((b : Rat) / P2 K) ∧ Bx3 W g17_8 35 (.bool b17_8) (.slice a17_8 n17_8 c17_8) (.slice d17_8 m17_8 o17_8) ∧ Zw W u17_1 b ∧ W17.heap.size ≤ W.heap.size) ⟨Good.is _, Good.is _, Good.is _, Good.is _, Good.is _, Good.is _, Good.is _, Good.is _, Good.is _, trivial⟩
       (fun W W1 hS hE => ⟨(Ext.trans hS.1 hE), (hS.2.1.ext hE), (hS.2.2.1.ext hE), (hS.2.2.2.1.ext hE), (hS.2.2.2.2.1.ext hE), (hS.2.2.2.2.2.1.ext hE), (hS.2.2.2.2.2.2.1.ext hE), (Nat.le_trans hS.2.2.2.2.2.2.2 (Ext.size hE))⟩) ⟨E0, h16_5, p16_8, h16_1, h17_5, p17_8, h17_1, Nat.le_refl _⟩ (by kernel_rfl) (by kernel_rfl) (by kernel_rfl) (by kernel_rfl) (A := ?A18) ?hA18 ?howe18 ?hfin18
      case hA18 =>
       intro vs
       simp only [putAll, Act.put, List.setIfInBounds_toArray, List.set_cons_zero, List.set_cons_succ, Nat.zero_add, Nat.reduceAdd]
       exact rfl
      case howe18 =>
       clear E0 h16_5 p16_8 h16_1 h17_5 p17_8 h17_1
       intro hf
       refine ⟨owesE 0 [] hf rfl (by kernel_rfl) ?_, owesE 1 [] hf rfl (by kernel_rfl) ?_, owesE 2 [] hf rfl (by kernel_rfl) ?_, owesE 3 [0, 1, 2] hf rfl (by kernel_rfl) ?_, owesE 4 [3] hf rfl (by kernel_rfl) ?_, owesE 5 [4] hf rfl (by kernel_rfl) ?_, owesE 6 [4] hf rfl (by kernel_rfl) ?_, owesE 7 [5] hf rfl (by kernel_rfl) ?_, owesE 8 [6] hf rfl (by kernel_rfl) ?_, trivial⟩
       all_goals intro vs W hS hp hx KO hKO
       all_goals simp only [Act.put, List.setIfInBounds_toArray, List.set_cons_zero, List.set_cons_succ] at hKO
       ·go_simp
        exact hKO _ W (Ext.refl W) rfl
       ·go_simp
        exact hKO _ W (Ext.refl W) rfl
       ·go_simp
        exact hKO _ W (Ext.refl W) rfl
       ·have e0 := isOf hp.1
        have e1 := isOf hp.2.1
        have e2 := isOf hp.2.2.1
        simp only [e0, e1, e2] at hKO
        go_simp
        refine (Try.fixMulV a b K HK.out.1 _ HB.out.1.1 HB.out.1.2 HB.out.2.1 HB.out.2.2 HVM.out HEM.out).mono ?_
        rintro e W1 ⟨rfl, hE⟩
        exact hKO _ W1 hE rfl
       ·have e3 := isOf hp.1
        simp only [e3] at hKO
        go_simp
        exact hKO _ W (Ext.refl W) rfl
       ·have e4 := isOf hp.1
        simp only [e4] at hKO
        go_simp
        exact hKO _ W (Ext.refl W) rfl
       ·have e4 := isOf hp.1
        simp only [e4] at hKO
        go_simp
        exact hKO _ W (Ext.refl W) rfl
       ·have e5 := isOf hp.1
        simp only [e5] at hKO
        go_simp
        exact hKO _ W (Ext.refl W) rfl
       ·have e6 := isOf hp.1
        simp only [e6] at hKO
        go_simp
        exact hKO _ W (Ext.refl W) rfl
      intro vs W18 hS hp
      clear szw18 E0 h16_5 p16_8 h16_1 h17_5 p17_8 h17_1
      obtain ⟨E0, h16_5, p16_8, h16_1, h17_5, p17_8, h17_1, sz18⟩ := hS
      obtain ⟨h18_0, h18_1, h18_2, h18_3, h18_4, h18_5, h18_6, h18_7, h18_8, -⟩ := hp
      replace h18_0 : vs 0 = .int .i64 a := h18_0
      replace h18_1 : vs 1 = .int .i64 b := h18_1
      replace h18_2 : vs 2 = .int .i64 (K : Int) := h18_2
      replace h18_3 : vs 3 = .tuple #[.int .i64 M, .int .i64 0] := h18_3
      replace h18_4 : vs 4 = .tuple #[.int .i64 M, .int .i64 0] := h18_4
      replace h18_5 : vs 5 = .int .i64 M := h18_5
      replace h18_6 : vs 6 = .int .i64 0 := h18_6
      replace h18_7 : vs 7 = .int .i64 M := h18_7
      replace h18_8 : vs 8 = .int .i64 0 := h18_8
      simp only [h18_0, h18_1, h18_2, h18_3, h18_4, h18_5, h18_6, h18_7, h18_8]
      clear h18_0 h18_1 h18_2 h18_3 h18_4 h18_5 h18_6 h18_7 h18_8
      have kp16_8_0 := p16_8.cell0
      have kp16_8_1 := p16_8.cell1
      have kp16_8_2 := p16_8.cell2
      have kp17_8_0 := p17_8.cell0
      have kp17_8_1 := p17_8.cell1
      have kp17_8_2 := p17_8.cell2
      go_upto_region 8 with (fail)
      clear kp16_8_0 kp16_8_1 kp16_8_2 kp17_8_0 kp17_8_1 kp17_8_2
      have szw19 := Ext.size E0
      refine region_go [.one fun v _ => v = .int .i64 0,
        .one fun v _ => v = .bool true,
        .one fun v _ => v = .bool true,
        .one fun v _ => v = .int .i64 M,
        .one fun v _ => v = .agg #[.bool b16_8, .slice a16_8 n16_8 c16_8, .slice d16_8 m16_8 o16_8],
        .one fun v _ => v = .agg #[.bool b17_8, .slice a17_8 n17_8 c17_8, .slice d17_8 m17_8 o17_8],
        .one fun v W => Rw W v ((a : Rat) / P2 K * ((b : Rat) / P2 K)),
        .one fun v _ => v = .int .i64 (K : Int),
        .one fun v _ => v = .bool true,
        .one fun v _ => v = .bool false,
        .one fun v _ => v = .bool false,
        .one fun v _ => v = .bool false,
        .one fun v _ => v = .int .i64 0,
        .one fun v _ => v = .bool false,
        .one fun v _ => v = .bool false,
        .one fun v _ => v = undef,
        .one fun v _ => v = undef,
        .one fun v _ => v = undef,
        .one fun v _ => v = undef,
        .one fun v _ => v = undef,
        .one fun v _ => v = undef,
        .one fun v _ => v = .bool false,
        .one fun v _ => v = .bool false]
       (fun W => Ext w W ∧ Rw W (.agg #[.bool b16_8, .slice a16_8 n16_8 c16_8, .slice d16_8 m16_8 o16_8]) ((a : Rat) / P2 K) ∧ Bx3 W g16_8 35 (.bool b16_8) (.slice a16_8 n16_8 c16_8) (.slice d16_8 m16_8 o16_8) ∧ Zw W u16_1 a ∧ Rw W (.agg #[.bool b17_8, .slice a17_8 n17_8 c17_8, .slice d17_8 m17_8 o17_8]) ((b : Rat) / P2 K) ∧ Bx3 W g17_8 35 (.bool b17_8) (.slice a17_8 n17_8 c17_8) (.slice d17_8 m17_8 o17_8) ∧ Zw W u17_1 b ∧ W18.heap.size ≤ W.heap.size) ⟨Good.is _, Good.is _, Good.is _, Good.is _, Good.is _, Good.is _, Good.rat _, Good.is _, Good.is _, Good.is _, Good.is _, Good.is _, Good.is _, Good.is _, Good.is _, Good.is _, Good.is _, Good.is _, Good.is _, Good.is _, Good.is _, Good.is _, Good.is _, trivial⟩
       (fun W W1 hS hE => ⟨(Ext.trans hS.1 hE), (hS.2.1.ext hE), (hS.2.2.1.ext hE), (hS.2.2.2.1.ext hE), (hS.2.2.2.2.1.ext hE), (hS.2.2.2.2.2.1.ext hE), (hS.2.2.2.2.2.2.1.ext hE), (Nat.le_trans hS.2.2.2.2.2.2.2 (Ext.size hE))⟩) ⟨E0, h16_5, p16_8, h16_1, h17_5, p17_8, h17_1, Nat.le_refl _⟩ (by kernel_rfl) (by kernel_rfl) (by kernel_rfl) (by kernel_rfl) (A := ?A19) ?hA19 ?howe19 ?hfin19
      case hA19 =>
       intro vs
       simp only [putAll, Act.put, List.setIfInBounds_toArray, List.set_cons_zero, List.set_cons_succ, Nat.zero_add, Nat.reduceAdd]
       exact rfl
      case howe19 =>
       clear E0 h16_5 p16_8 h16_1 h17_5 p17_8 h17_1
       intro hf
       refine ⟨owesE 0 [] hf rfl (by kernel_rfl) ?_, owesE 1 [0] hf rfl (by kernel_rfl) ?_, owesE 2 [1] hf rfl (by kernel_rfl) ?_, owesE 3 [2] hf rfl (by kernel_rfl) ?_, owesE 4 [2] hf rfl (by kernel_rfl) ?_, owesE 5 [2] hf rfl (by kernel_rfl) ?_, owesE 6 [2, 4, 5] hf rfl (by kernel_rfl) ?_, owesE 7 [2] hf rfl (by kernel_rfl) ?_, owesE 8 [2, 3, 6, 7] hf rfl (by kernel_rfl) ?_, owesE 9 [2, 8] hf rfl (by kernel_rfl) ?_, owesE 10 [2, 9] hf rfl (by kernel_rfl) ?_, owesE 11 [10] hf rfl (by kernel_rfl) ?_, owesE 12 [11] hf rfl (by kernel_rfl) ?_, owesE 13 [11, 12] hf rfl (by kernel_rfl) ?_, owesE 14 [11, 13] hf rfl (by kernel_rfl) ?_, owesE 15 [14] hf rfl (by kernel_rfl) ?_, owesE 16 [14] hf rfl (by kernel_rfl) ?_, owesE 17 [14] hf rfl (by kernel_rfl) ?_, owesE 18 [17] hf rfl (by kernel_rfl) ?_, owesE 19 [17] hf rfl (by kernel_rfl) ?_, owesE 20 [14] hf rfl (by kernel_rfl) ?_, owesE 21 [11, 14, 20] hf rfl (by kernel_rfl) ?_, owesE 22 [11, 21] hf rfl (by kernel_rfl) ?_, trivial⟩
       all_goals intro vs W hS hp hx KO hKO
       all_goals simp only [Act.put, List.setIfInBounds_toArray, List.set_cons_zero, List.set_cons_succ] at hKO
       ·go_simp
        exact hKO _ W (Ext.refl W) rfl
       ·have e0 := isOf hp.1
        simp only [e0] at hKO
        go_simp
        exact hKO _ W (Ext.refl W) rfl
       ·have e1 := isOf hp.1
        simp only [e1] at hKO
        go_simp
        exact hKO _ W (Ext.refl W) rfl
       ·have e2 := isOf hp.1
        simp only [e2] at hKO
        go_simp
        exact hKO _ W (Ext.refl W) rfl
       ·have e2 := isOf hp.1
        simp only [e2] at hKO
        have fc0 := hS.2.2.1.cell0
        have fc1 := hS.2.2.1.cell1
        have fc2 := hS.2.2.1.cell2
        go_simp
        exact hKO _ W (Ext.refl W) rfl
       ·have e2 := isOf hp.1
        simp only [e2] at hKO
        have fc0 := hS.2.2.2.2.2.1.cell0
        have fc1 := hS.2.2.2.2.2.1.cell1
        have fc2 := hS.2.2.2.2.2.1.cell2
        go_simp
        exact hKO _ W (Ext.refl W) rfl
       ·have e2 := isOf hp.1
        have e4 := isOf hp.2.1
        have e5 := isOf hp.2.2.1
        simp only [e2, e4, e5] at hKO
        go_simp
        refine (Try.refRMul (hS.2.1) (hS.2.2.2.2.1) SX.out SY.out (by omega)).mono ?_
        rintro e W1 ⟨v, rfl, hv, hE⟩
        exact hKO _ W1 hE hv
       ·have e2 := isOf hp.1
        simp only [e2] at hKO
        go_simp
        exact hKO _ W (Ext.refl W) rfl
       ·have e2 := isOf hp.1
        have e3 := isOf hp.2.1
        have q6 := hp.2.2.1
        have e7 := isOf hp.2.2.2.1
        simp only [e2, e3, e7] at hKO
        go_simp
        refine (Try.within08 M q6 SXY.out K HK.out.1 HMF.out.1 HMF.out.2 HMN.out).mono ?_
        rintro e W1 ⟨rfl, hE⟩
        exact hKO _ W1 hE rfl
       ·have e2 := isOf hp.1
        have e8 := isOf hp.2.1
        simp only [e2, e8] at hKO
        go_simp
        exact hKO _ W (Ext.refl W) rfl
       ·have e2 := isOf hp.1
        have e9 := isOf hp.2.1
        simp only [e2, e9] at hKO
        go_simp
        exact hKO _ W (Ext.refl W) rfl
       ·have e10 := isOf hp.1
        simp only [e10] at hKO
        go_simp
        exact hKO _ W (Ext.refl W) rfl
       ·have e11 := isOf hp.1
        simp only [e11] at hKO
        go_simp
        exact hKO _ W (Ext.refl W) rfl
       ·have e11 := isOf hp.1
        have e12 := isOf hp.2.1
        simp only [e11, e12] at hKO
        go_simp
        exact hKO _ W (Ext.refl W) rfl
       ·have e11 := isOf hp.1
        have e13 := isOf hp.2.1
        simp only [e11, e13] at hKO
        go_simp
        exact hKO _ W (Ext.refl W) rfl
       ·have e14 := isOf hp.1
        simp only [e14] at hKO
        go_simp
        exact hKO _ W (Ext.refl W) rfl
       ·have e14 := isOf hp.1
        simp only [e14] at hKO
        go_simp
        exact hKO _ W (Ext.refl W) rfl
       ·have e14 := isOf hp.1
        simp only [e14] at hKO
        go_simp
        exact hKO _ W (Ext.refl W) rfl
       ·have e17 := isOf hp.1
        simp only [e17] at hKO
        go_simp
        exact hKO _ W (Ext.refl W) rfl
       ·have e17 := isOf hp.1
        simp only [e17] at hKO
        go_simp
        exact hKO _ W (Ext.refl W) rfl
       ·have e14 := isOf hp.1
        simp only [e14] at hKO
        go_simp
        exact hKO _ W (Ext.refl W) rfl
       ·have e11 := isOf hp.1
        have e14 := isOf hp.2.1
        have e20 := isOf hp.2.2.1
        simp only [e11, e14, e20] at hKO
        go_simp
        exact hKO _ W (Ext.refl W) rfl
       ·have e11 := isOf hp.1
        have e21 := isOf hp.2.1
        simp only [e11, e21] at hKO
        go_simp
        exact hKO _ W (Ext.refl W) rfl
      intro vs W19 hS hp
      clear szw19 E0 h16_5 p16_8 h16_1 h17_5 p17_8 h17_1
      obtain ⟨E0, h16_5, p16_8, h16_1, h17_5, p17_8, h17_1, sz19⟩ := hS
      obtain ⟨h19_0, h19_1, h19_2, h19_3, h19_4, h19_5, h19_6, h19_7, h19_8, h19_9, h19_10, h19_11, h19_12, h19_13, h19_14, h19_15, h19_16, h19_17, h19_18, h19_19, h19_20, h19_21, h19_22, -⟩ := hp
      replace h19_0 : vs 0 = .int .i64 0 := h19_0
      replace h19_1 : vs 1 = .bool true := h19_1
      replace h19_2 : vs 2 = .bool true := h19_2
      replace h19_3 : vs 3 = .int .i64 M := h19_3
      replace h19_4 : vs 4 = .agg #[.bool b16_8, .slice a16_8 n16_8 c16_8, .slice d16_8 m16_8 o16_8] := h19_4
      replace h19_5 : vs 5 = .agg #[.bool b17_8, .slice a17_8 n17_8 c17_8, .slice d17_8 m17_8 o17_8] := h19_5
      replace h19_7 : vs 7 = .int .i64 (K : Int) := h19_7
      replace h19_8 : vs 8 = .bool true := h19_8
      replace h19_9 : vs 9 = .bool false := h19_9
      replace h19_10 : vs 10 = .bool false := h19_10
      replace h19_11 : vs 11 = .bool false := h19_11
      replace h19_12 : vs 12 = .int .i64 0 := h19_12
      replace h19_13 : vs 13 = .bool false := h19_13
      replace h19_14 : vs 14 = .bool false := h19_14
      replace h19_15 : vs 15 = undef := h19_15
      replace h19_16 : vs 16 = undef := h19_16
      replace h19_17 : vs 17 = undef := h19_17
      replace h19_18 : vs 18 = undef := h19_18
      replace h19_19 : vs 19 = undef := h19_19
      replace h19_20 : vs 20 = undef := h19_20
      replace h19_21 : vs 21 = .bool false := h19_21
      replace h19_22 : vs 22 = .bool false := h19_22
      simp only [h19_0, h19_1, h19_2, h19_3, h19_4, h19_5, h19_7, h19_8, h19_9, h19_10, h19_11, h19_12, h19_13, h19_14, h19_15, h19_16, h19_17, h19_18, h19_19, h19_20, h19_21, h19_22]
      replace h19_6 : Rw W19 (vs 6) ((a : Rat) / P2 K * ((b : Rat) / P2 K)) := h19_6
      generalize vs 6 = u19_6 at h19_6 ⊢
      clear h19_0 h19_1 h19_2 h19_3 h19_4 h19_5 h19_7 h19_8 h19_9 h19_10 h19_11 h19_12 h19_13 h19_14 h19_15 h19_16 h19_17 h19_18 h19_19 h19_20 h19_21 h19_22
      have kp16_8_0 := p16_8.cell0
      have kp16_8_1 := p16_8.cell1
      have kp16_8_2 := p16_8.cell2
      have kp17_8_0 := p17_8.cell0
      have kp17_8_1 := p17_8.cell1
      have kp17_8_2 := p17_8.cell2
      go_upto_region 10 with (fail)
      clear kp16_8_0 kp16_8_1 kp16_8_2 kp17_8_0 kp17_8_1 kp17_8_2
      have szw20 := Ext.size E0
      refine region_go [.one fun v _ => v = .int .i64 a,
        .one fun v _ => v = .int .i64 b,
        .one fun v _ => v = .int .i64 (K : Int),
        .one fun v _ => v = .tuple #[.int .i64 0, .int .i64 2],
        .one fun v _ => v = .tuple #[.int .i64 0, .int .i64 2],
        .one fun v _ => v = .int .i64 0,
        .one fun v _ => v = .int .i64 2,
        .one fun v _ => v = .int .i64 0,
        .one fun v _ => v = .int .i64 2]
       (fun W => Ext w W ∧ Rw W (.agg #[.bool b16_8, .slice a16_8 n16_8 c16_8, .slice d16_8 m16_8 o16_8]) ((a : Rat) / P2 K) ∧ Bx3 W g16_8 35 (.bool b16_8) (.slice a16_8 n16_8 c16_8) (.slice d16_8 m16_8 o16_8) ∧ Zw W u16_1 a ∧ Rw W (.agg #[.bool b17_8, .slice a17_8 n17_8 c17_8, .slice d17_8 m17_8 o17_8]) ((b : Rat) / P2 K) ∧ Bx3 W g17_8 35 (.bool b17_8) (.slice a17_8 n17_8 c17_8) (.slice d17_8 m17_8 o17_8) ∧ Zw W u17_1 b ∧ Rw W u19_6 ((a : Rat) / P2 K * ((b : Rat) / P2 K)) ∧ W19.heap.size ≤ W.heap.size) ⟨Good.is _, Good.is _, Good.is _, Good.is _, Good.is _, Good.is _, Good.is _, Good.is _, Good.is _, trivial⟩
       (fun W W1 hS hE => ⟨(Ext.trans hS.1 hE), (hS.2.1.ext hE), (hS.2.2.1.ext hE), (hS.2.2.2.1.ext hE), (hS.2.2.2.2.1.ext hE), (hS.2.2.2.2.2.1.ext hE), (hS.2.2.2.2.2.2.1.ext hE), (hS.2.2.2.2.2.2.2.1.ext hE), (Nat.le_trans hS.2.2.2.2.2.2.2.2 (Ext.size hE))⟩) ⟨E0, h16_5, p16_8, h16_1, h17_5, p17_8, h17_1, h19_6, Nat.le_refl _⟩ (by kernel_rfl) (by kernel_rfl) (by kernel_rfl) (by kernel_rfl) (A := ?A20) ?hA20 ?howe20 ?hfin20
      case hA20 =>
       intro vs
       simp only [putAll, Act.put, List.setIfInBounds_toArray, List.set_cons_zero, List.set_cons_succ, Nat.zero_add, Nat.reduceAdd]
       exact rfl
      case howe20 =>
       clear E0 h16_5 p16_8 h16_1 h17_5 p17_8 h17_1 h19_6
       intro hf
       refine ⟨owesE 0 [] hf rfl (by kernel_rfl) ?_, owesE 1 [] hf rfl (by kernel_rfl) ?_, owesE 2 [] hf rfl (by kernel_rfl) ?_, owesE 3 [0, 1, 2] hf rfl (by kernel_rfl) ?_, owesE 4 [3] hf rfl (by kernel_rfl) ?_, owesE 5 [4] hf rfl (by kernel_rfl) ?_, owesE 6 [4] hf rfl (by kernel_rfl) ?_, owesE 7 [5] hf rfl (by kernel_rfl) ?_, owesE 8 [6] hf rfl (by kernel_rfl) ?_, trivial⟩
       all_goals intro vs W hS hp hx KO hKO
       all_goals simp only [Act.put, List.setIfInBounds_toArray, List.set_cons_zero, List.set_cons_succ] at hKO
       ·go_simp
        exact hKO _ W (Ext.refl W) rfl
       ·go_simp
        exact hKO _ W (Ext.refl W) rfl
       ·go_simp
        exact hKO _ W (Ext.refl W) rfl
       ·have e0 := isOf hp.1
        have e1 := isOf hp.2.1
        have e2 := isOf hp.2.2.1
        simp only [e0, e1, e2] at hKO
        go_simp
        refine (Try.fixDivV a b K HK.out.1 _ HB.out.1.1 HB.out.1.2 HB.out.2.1 HB.out.2.2 HB0.out.1 HVD.out HED.out).mono ?_
        rintro e W1 ⟨rfl, hE⟩
        exact hKO _ W1 hE rfl
       ·have e3 := isOf hp.1
        simp only [e3] at hKO
        go_simp
        exact hKO _ W (Ext.refl W) rfl
       ·have e4 := isOf hp.1
        simp only [e4] at hKO
        go_simp
        exact hKO _ W (Ext.refl W) rfl
       ·have e4 := isOf hp.1
        simp only [e4] at hKO
        go_simp
        exact hKO _ W (Ext.refl W) rfl
       ·have e5 := isOf hp.1
        simp only [e5] at hKO
        go_simp
        exact hKO _ W (Ext.refl W) rfl
       ·have e6 := isOf hp.1
        simp only [e6] at hKO
        go_simp
        exact hKO _ W (Ext.refl W) rfl
      intro vs W20 hS hp
      clear szw20 E0 h16_5 p16_8 h16_1 h17_5 p17_8 h17_1 h19_6
      obtain ⟨E0, h16_5, p16_8, h16_1, h17_5, p17_8, h17_1, h19_6, sz20⟩ := hS
      obtain ⟨h20_0, h20_1, h20_2, h20_3, h20_4, h20_5, h20_6, h20_7, h20_8, -⟩ := hp
      replace h20_0 : vs 0 = .int .i64 a := h20_0
      replace h20_1 : vs 1 = .int .i64 b := h20_1
      replace h20_2 : vs 2 = .int .i64 (K : Int) := h20_2
      replace h20_3 : vs 3 = .tuple #[.int .i64 0, .int .i64 2] := h20_3
      replace h20_4 : vs 4 = .tuple #[.int .i64 0, .int .i64 2] := h20_4
      replace h20_5 : vs 5 = .int .i64 0 := h20_5
      replace h20_6 : vs 6 = .int .i64 2 := h20_6
      replace h20_7 : vs 7 = .int .i64 0 := h20_7
      replace h20_8 : vs 8 = .int .i64 2 := h20_8
      simp only [h20_0, h20_1, h20_2, h20_3, h20_4, h20_5, h20_6, h20_7, h20_8]
      clear h20_0 h20_1 h20_2 h20_3 h20_4 h20_5 h20_6 h20_7 h20_8
      have kp16_8_0 := p16_8.cell0
      have kp16_8_1 := p16_8.cell1
      have kp16_8_2 := p16_8.cell2
      have kp17_8_0 := p17_8.cell0
      have kp17_8_1 := p17_8.cell1
      have kp17_8_2 := p17_8.cell2
      go_upto_region 13 with (fail)
      clear kp16_8_0 kp16_8_1 kp16_8_2 kp17_8_0 kp17_8_1 kp17_8_2
      have szw21 := Ext.size E0
      refine region_go [.one fun v _ => v = .agg #[.bool b16_8, .slice a16_8 n16_8 c16_8, .slice d16_8 m16_8 o16_8],
        .one fun v _ => v = .agg #[.bool b17_8, .slice a17_8 n17_8 c17_8, .slice d17_8 m17_8 o17_8],
        .one fun v W => ∃ v', v = .tuple #[v', .int .i64 0] ∧ (fun v W => Rw W v ((a : Rat) / P2 K / ((b : Rat) / P2 K))) v' W,
        .one fun v W => ∃ v', v = .tuple #[v', .int .i64 0] ∧ (fun v W => Rw W v ((a : Rat) / P2 K / ((b : Rat) / P2 K))) v' W,
        .one fun v W => Rw W v ((a : Rat) / P2 K / ((b : Rat) / P2 K)),
        .one fun v _ => v = .int .i64 0,
        .one fun v W => ∃ g, v = .pointer (some ⟨g, 0, none⟩) ∧ W20.heap.size ≤ g ∧ Form W g 35 3,
        .three 6 4 (fun p r _ W => Put3 W20.heap.size 35 p r W),
        .one fun v _ => v = .int .i64 0]
       (fun W => Ext w W ∧ Rw W (.agg #[.bool b16_8, .slice a16_8 n16_8 c16_8, .slice d16_8 m16_8 o16_8]) ((a : Rat) / P2 K) ∧ Bx3 W g16_8 35 (.bool b16_8) (.slice a16_8 n16_8 c16_8) (.slice d16_8 m16_8 o16_8) ∧ Zw W u16_1 a ∧ Rw W (.agg #[.bool b17_8, .slice a17_8 n17_8 c17_8, .slice d17_8 m17_8 o17_8]) ((b : Rat) / P2 K) ∧ Bx3 W g17_8 35 (.bool b17_8) (.slice a17_8 n17_8 c17_8) (.slice d17_8 m17_8 o17_8) ∧ Zw W u17_1 b ∧ Rw W u19_6 ((a : Rat) / P2 K * ((b : Rat) / P2 K)) ∧ W20.heap.size ≤ W.heap.size) ⟨Good.is _, Good.is _, (Good.rat _).tup _, (Good.rat _).tup _, Good.rat _, Good.is _, Good.box _ _ _, cert_put3, Good.is _, trivial⟩
       (fun W W1 hS hE => ⟨(Ext.trans hS.1 hE), (hS.2.1.ext hE), (hS.2.2.1.ext hE), (hS.2.2.2.1.ext hE), (hS.2.2.2.2.1.ext hE), (hS.2.2.2.2.2.1.ext hE), (hS.2.2.2.2.2.2.1.ext hE), (hS.2.2.2.2.2.2.2.1.ext hE), (Nat.le_trans hS.2.2.2.2.2.2.2.2 (Ext.size hE))⟩) ⟨E0, h16_5, p16_8, h16_1, h17_5, p17_8, h17_1, h19_6, Nat.le_refl _⟩ (by kernel_rfl) (by kernel_rfl) (by kernel_rfl) (by kernel_rfl) (A := ?A21) ?hA21 ?howe21 ?hfin21
      case hA21 =>
       intro vs
       simp only [putAll, Act.put, List.setIfInBounds_toArray, List.set_cons_zero, List.set_cons_succ, Nat.zero_add, Nat.reduceAdd]
       exact rfl
      case howe21 =>
       clear E0 h16_5 p16_8 h16_1 h17_5 p17_8 h17_1 h19_6
       intro hf
       refine ⟨owesE 0 [] hf rfl (by kernel_rfl) ?_, owesE 1 [] hf rfl (by kernel_rfl) ?_, owesE 2 [0, 1] hf rfl (by kernel_rfl) ?_, owesE 3 [2] hf rfl (by kernel_rfl) ?_, owesE 4 [3] hf rfl (by kernel_rfl) ?_, owesE 5 [3] hf rfl (by kernel_rfl) ?_, owesE 6 [] hf rfl (by kernel_rfl) ?_, owesW 7 [6, 4] hf rfl (by kernel_rfl) (by kernel_rfl) ?_, owesE 8 [5] hf rfl (by kernel_rfl) ?_, trivial⟩
       all_goals intro vs W hS hp hx KO hKO
       all_goals simp only [Act.put, List.setIfInBounds_toArray, List.set_cons_zero, List.set_cons_succ] at hKO
       ·have fc0 := hS.2.2.1.cell0
        have fc1 := hS.2.2.1.cell1
        have fc2 := hS.2.2.1.cell2
        go_simp
        exact hKO _ W (Ext.refl W) rfl
       ·have fc0 := hS.2.2.2.2.2.1.cell0
        have fc1 := hS.2.2.2.2.2.1.cell1
        have fc2 := hS.2.2.2.2.2.1.cell2
        go_simp
        exact hKO _ W (Ext.refl W) rfl
       ·have e0 := isOf hp.1
        have e1 := isOf hp.2.1
        simp only [e0, e1] at hKO
        go_simp
        refine (Try.refRDiv (hS.2.1) (hS.2.2.2.2.1) SX.out SY.out (by omega) HY0.out).mono ?_
        rintro e W1 ⟨v, rfl, hv, hE⟩
        exact hKO _ W1 hE ⟨_, rfl, hv⟩
       ·have q2 := hp.1
        obtain ⟨u, ev, hu⟩ := q2
        replace ev : vs 2 = _ := ev
        simp only [ev] at hKO
        go_simp
        exact hKO _ W (Ext.refl W) ⟨u, rfl, hu⟩
       ·have q3 := hp.1
        obtain ⟨u, ev, hu⟩ := q3
        replace ev : vs 3 = _ := ev
        simp only [ev] at hKO
        go_simp
        exact hKO _ W (Ext.refl W) hu
       ·have q3 := hp.1
        obtain ⟨u, ev, hu⟩ := q3
        replace ev : vs 3 = _ := ev
        simp only [ev] at hKO
        go_simp
        exact hKO _ W (Ext.refl W) rfl
       ·have hn := Bx3.new W 35 (.bool false) (.slice none 0 0) (.slice none 0 0)
        have hE := Ext.alloc1 W (.cells #[.bool false, .slice none 0 0, .slice none 0 0] 35)
        have hsz := hS.2.2.2.2.2.2.2.2
        go_simp
        exact hKO _ _ hE ⟨_, rfl, hsz, hn.form⟩
       ·have q6 := hp.1
        have q4 := hp.2.1
        obtain ⟨g, ev, hg, hf⟩ := q6
        replace ev : vs 6 = _ := ev
        obtain ⟨x0, y0, z0, hx, hno⟩ := hf.bx3
        have qr := q4
        obtain ⟨b3, a3, n3, c3, d3, m3, o3, er, -, -, -⟩ := qr
        replace er : vs 4 = _ := er
        have r0 := hx.froz0
        have t0 := hx.cell0
        have r1 := hx.froz1
        have t1 := hx.cell1
        have r2 := hx.froz2
        have t2 := hx.cell2
        have hw := Wr.set3 hx hno b3 a3 n3 c3 d3 m3 o3
        have hq := hx.set (.bool b3) (.slice a3 n3 c3) (.slice d3 m3 o3)
        simp only [ev, er] at hKO
        go_simp
        exact hKO _ _ hw ⟨(Ext.wr hS.1 hw (by omega)), (hS.2.1.wr hw), (hS.2.2.1.wr hw (by omega)), (hS.2.2.2.1.wr hw), (hS.2.2.2.2.1.wr hw), (hS.2.2.2.2.2.1.wr hw (by omega)), (hS.2.2.2.2.2.2.1.wr hw), (hS.2.2.2.2.2.2.2.1.wr hw), (Nat.le_trans hS.2.2.2.2.2.2.2.2 hw.apart.size)⟩ ⟨g, b3, a3, n3, c3, d3, m3, o3, ev, er, hg, hq⟩
       ·have e5 := isOf hp.1
        simp only [e5] at hKO
        go_simp
        exact hKO _ W (Ext.refl W) rfl
      intro vs W21 hS hp
      clear szw21 E0 h16_5 p16_8 h16_1 h17_5 p17_8 h17_1 h19_6
      obtain ⟨E0, h16_5, p16_8, h16_1, h17_5, p17_8, h17_1, h19_6, sz21⟩ := hS
      obtain ⟨h21_0, h21_1, h21_2, h21_3, h21_4, h21_5, h21_6, h21_7, h21_8, -⟩ := hp
      obtain ⟨g21_7, b21_7, a21_7, n21_7, c21_7, d21_7, m21_7, o21_7, ev21_7, er21_7, hg21_7, p21_7⟩ := h21_7
      replace ev21_7 : vs 6 = _ := ev21_7
      replace er21_7 : vs 4 = _ := er21_7
      replace h21_4 := (show Rw W21 (vs 4) ((a : Rat) / P2 K / ((b : Rat) / P2 K)) from h21_4)
      rw [er21_7] at h21_4
      replace h21_0 : vs 0 = .agg #[.bool b16_8, .slice a16_8 n16_8 c16_8, .slice d16_8 m16_8 o16_8] := h21_0
      replace h21_1 : vs 1 = .agg #[.bool b17_8, .slice a17_8 n17_8 c17_8, .slice d17_8 m17_8 o17_8] := h21_1
      replace h21_5 : vs 5 = .int .i64 0 := h21_5
      replace h21_8 : vs 8 = .int .i64 0 := h21_8
      simp only [ev21_7, er21_7, h21_0, h21_1, h21_5, h21_8]
      clear ev21_7 er21_7 h21_0 h21_1 h21_5 h21_8 h21_2 h21_3 h21_6
      have kp16_8_0 := p16_8.cell0
      have kp16_8_1 := p16_8.cell1
      have kp16_8_2 := p16_8.cell2
      have kp17_8_0 := p17_8.cell0
      have kp17_8_1 := p17_8.cell1
      have kp17_8_2 := p17_8.cell2
      have kp21_7_0 := p21_7.cell0
      have kp21_7_1 := p21_7.cell1
      have kp21_7_2 := p21_7.cell2
      go_upto_region 15 with (fail)
      clear kp16_8_0 kp16_8_1 kp16_8_2 kp17_8_0 kp17_8_1 kp17_8_2 kp21_7_0 kp21_7_1 kp21_7_2
      have ltp21_7 := p21_7.lt
      have szw22 := Ext.size E0
      refine region_go [.one fun v W => Zw W v ((9223372036854775807 : Int)),
        .one fun v _ => v = .int .i64 (K : Int),
        .one fun v W => ∃ v', v = .tuple #[v', .int .i64 0] ∧ (fun v W => Rw W v (((9223372036854775807 : Int) : Rat) / P2 K)) v' W,
        .one fun v W => ∃ v', v = .tuple #[v', .int .i64 0] ∧ (fun v W => Rw W v (((9223372036854775807 : Int) : Rat) / P2 K)) v' W,
        .one fun v W => Rw W v (((9223372036854775807 : Int) : Rat) / P2 K),
        .one fun v _ => v = .int .i64 0,
        .one fun v W => ∃ g, v = .pointer (some ⟨g, 0, none⟩) ∧ W21.heap.size ≤ g ∧ Form W g 35 3,
        .three 6 4 (fun p r _ W => Put3 W21.heap.size 35 p r W),
        .one fun v _ => v = .int .i64 0]
       (fun W => Ext w W ∧ Rw W (.agg #[.bool b16_8, .slice a16_8 n16_8 c16_8, .slice d16_8 m16_8 o16_8]) ((a : Rat) / P2 K) ∧ Bx3 W g16_8 35 (.bool b16_8) (.slice a16_8 n16_8 c16_8) (.slice d16_8 m16_8 o16_8) ∧ Zw W u16_1 a ∧ Rw W (.agg #[.bool b17_8, .slice a17_8 n17_8 c17_8, .slice d17_8 m17_8 o17_8]) ((b : Rat) / P2 K) ∧ Bx3 W g17_8 35 (.bool b17_8) (.slice a17_8 n17_8 c17_8) (.slice d17_8 m17_8 o17_8) ∧ Zw W u17_1 b ∧ Rw W u19_6 ((a : Rat) / P2 K * ((b : Rat) / P2 K)) ∧ Rw W (.agg #[.bool b21_7, .slice a21_7 n21_7 c21_7, .slice d21_7 m21_7 o21_7]) ((a : Rat) / P2 K / ((b : Rat) / P2 K)) ∧ Bx3 W g21_7 35 (.bool b21_7) (.slice a21_7 n21_7 c21_7) (.slice d21_7 m21_7 o21_7) ∧ W21.heap.size ≤ W.heap.size) ⟨Good.zed _, Good.is _, (Good.rat _).tup _, (Good.rat _).tup _, Good.rat _, Good.is _, Good.box _ _ _, cert_put3, Good.is _, trivial⟩
       (fun W W1 hS hE => ⟨(Ext.trans hS.1 hE), (hS.2.1.ext hE), (hS.2.2.1.ext hE), (hS.2.2.2.1.ext hE), (hS.2.2.2.2.1.ext hE), (hS.2.2.2.2.2.1.ext hE), (hS.2.2.2.2.2.2.1.ext hE), (hS.2.2.2.2.2.2.2.1.ext hE), (hS.2.2.2.2.2.2.2.2.1.ext hE), (hS.2.2.2.2.2.2.2.2.2.1.ext hE), (Nat.le_trans hS.2.2.2.2.2.2.2.2.2.2 (Ext.size hE))⟩) ⟨E0, h16_5, p16_8, h16_1, h17_5, p17_8, h17_1, h19_6, h21_4, p21_7, Nat.le_refl _⟩ (by kernel_rfl) (by kernel_rfl) (by kernel_rfl) (by kernel_rfl) (A := ?A22) ?hA22 ?howe22 ?hfin22
      case hA22 =>
       intro vs
       simp only [putAll, Act.put, List.setIfInBounds_toArray, List.set_cons_zero, List.set_cons_succ, Nat.zero_add, Nat.reduceAdd]
       exact rfl
      case howe22 =>
       clear E0 h16_5 p16_8 h16_1 h17_5 p17_8 h17_1 h19_6 h21_4 p21_7
       intro hf
       refine ⟨owesE 0 [] hf rfl (by kernel_rfl) ?_, owesE 1 [] hf rfl (by kernel_rfl) ?_, owesE 2 [0, 1] hf rfl (by kernel_rfl) ?_, owesE 3 [2] hf rfl (by kernel_rfl) ?_, owesE 4 [3] hf rfl (by kernel_rfl) ?_, owesE 5 [3] hf rfl (by kernel_rfl) ?_, owesE 6 [] hf rfl (by kernel_rfl) ?_, owesW 7 [6, 4] hf rfl (by kernel_rfl) (by kernel_rfl) ?_, owesE 8 [5] hf rfl (by kernel_rfl) ?_, trivial⟩
       all_goals intro vs W hS hp hx KO hKO
       all_goals simp only [Act.put, List.setIfInBounds_toArray, List.set_cons_zero, List.set_cons_succ] at hKO
       ·go_simp
        refine (Try.refZOf 9223372036854775807 _ (by omega) (by omega)).mono ?_
        rintro e W1 ⟨v, rfl, hv, hE⟩
        exact hKO _ W1 hE hv
       ·go_simp
        exact hKO _ W (Ext.refl W) rfl
       ·have q0 := hp.1
        have e1 := isOf hp.2.1
        simp only [e1] at hKO
        go_simp
        refine (Try.refBack q0 S3.out (by omega) K HK.out.2).mono ?_
        rintro e W1 ⟨v, rfl, hv, hE⟩
        exact hKO _ W1 hE ⟨_, rfl, hv⟩
       ·have q2 := hp.1
        obtain ⟨u, ev, hu⟩ := q2
        replace ev : vs 2 = _ := ev
        simp only [ev] at hKO
        go_simp
        exact hKO _ W (Ext.refl W) ⟨u, rfl, hu⟩
       ·have q3 := hp.1
        obtain ⟨u, ev, hu⟩ := q3
        replace ev : vs 3 = _ := ev
        simp only [ev] at hKO
        go_simp
        exact hKO _ W (Ext.refl W) hu
       ·have q3 := hp.1
        obtain ⟨u, ev, hu⟩ := q3
        replace ev : vs 3 = _ := ev
        simp only [ev] at hKO
        go_simp
        exact hKO _ W (Ext.refl W) rfl
       ·have hn := Bx3.new W 35 (.bool false) (.slice none 0 0) (.slice none 0 0)
        have hE := Ext.alloc1 W (.cells #[.bool false, .slice none 0 0, .slice none 0 0] 35)
        have hsz := hS.2.2.2.2.2.2.2.2.2.2
        go_simp
        exact hKO _ _ hE ⟨_, rfl, hsz, hn.form⟩
       ·have q6 := hp.1
        have q4 := hp.2.1
        obtain ⟨g, ev, hg, hf⟩ := q6
        replace ev : vs 6 = _ := ev
        obtain ⟨x0, y0, z0, hx, hno⟩ := hf.bx3
        have qr := q4
        obtain ⟨b3, a3, n3, c3, d3, m3, o3, er, -, -, -⟩ := qr
        replace er : vs 4 = _ := er
        have r0 := hx.froz0
        have t0 := hx.cell0
        have r1 := hx.froz1
        have t1 := hx.cell1
        have r2 := hx.froz2
        have t2 := hx.cell2
        have hw := Wr.set3 hx hno b3 a3 n3 c3 d3 m3 o3
        have hq := hx.set (.bool b3) (.slice a3 n3 c3) (.slice d3 m3 o3)
        simp only [ev, er] at hKO
        go_simp
        exact hKO _ _ hw ⟨(Ext.wr hS.1 hw (by omega)), (hS.2.1.wr hw), (hS.2.2.1.wr hw (by omega)), (hS.2.2.2.1.wr hw), (hS.2.2.2.2.1.wr hw), (hS.2.2.2.2.2.1.wr hw (by omega)), (hS.2.2.2.2.2.2.1.wr hw), (hS.2.2.2.2.2.2.2.1.wr hw), (hS.2.2.2.2.2.2.2.2.1.wr hw), (hS.2.2.2.2.2.2.2.2.2.1.wr hw (by omega)), (Nat.le_trans hS.2.2.2.2.2.2.2.2.2.2 hw.apart.size)⟩ ⟨g, b3, a3, n3, c3, d3, m3, o3, ev, er, hg, hq⟩
       ·have e5 := isOf hp.1
        simp only [e5] at hKO
        go_simp
        exact hKO _ W (Ext.refl W) rfl
      intro vs W22 hS hp
      clear szw22 E0 h16_5 p16_8 h16_1 h17_5 p17_8 h17_1 h19_6 h21_4 p21_7
      obtain ⟨E0, h16_5, p16_8, h16_1, h17_5, p17_8, h17_1, h19_6, h21_4, p21_7, sz22⟩ := hS
      obtain ⟨h22_0, h22_1, h22_2, h22_3, h22_4, h22_5, h22_6, h22_7, h22_8, -⟩ := hp
      obtain ⟨g22_7, b22_7, a22_7, n22_7, c22_7, d22_7, m22_7, o22_7, ev22_7, er22_7, hg22_7, p22_7⟩ := h22_7
      replace ev22_7 : vs 6 = _ := ev22_7
      replace er22_7 : vs 4 = _ := er22_7
      replace h22_4 := (show Rw W22 (vs 4) (((9223372036854775807 : Int) : Rat) / P2 K) from h22_4)
      rw [er22_7] at h22_4
      replace h22_1 : vs 1 = .int .i64 (K : Int) := h22_1
      replace h22_5 : vs 5 = .int .i64 0 := h22_5
      replace h22_8 : vs 8 = .int .i64 0 := h22_8
      simp only [ev22_7, er22_7, h22_1, h22_5, h22_8]
      replace h22_0 : Zw W22 (vs 0) ((9223372036854775807 : Int)) := h22_0
      generalize vs 0 = u22_0 at h22_0 ⊢
      clear ev22_7 er22_7 h22_1 h22_5 h22_8 h22_2 h22_3 h22_6
      have kp16_8_0 := p16_8.cell0
      have kp16_8_1 := p16_8.cell1
      have kp16_8_2 := p16_8.cell2
      have kp17_8_0 := p17_8.cell0
      have kp17_8_1 := p17_8.cell1
      have kp17_8_2 := p17_8.cell2
      have kp21_7_0 := p21_7.cell0
      have kp21_7_1 := p21_7.cell1
      have kp21_7_2 := p21_7.cell2
      have kp22_7_0 := p22_7.cell0
      have kp22_7_1 := p22_7.cell1
      have kp22_7_2 := p22_7.cell2
      go_upto_region 16 with (fail)
      clear kp16_8_0 kp16_8_1 kp16_8_2 kp17_8_0 kp17_8_1 kp17_8_2 kp21_7_0 kp21_7_1 kp21_7_2 kp22_7_0 kp22_7_1 kp22_7_2
      have ltp22_7 := p22_7.lt
      have szw23 := Ext.size E0
      refine region_go [.one fun v _ => v = .bool true,
        .one fun v _ => v = .bool true,
        .one fun v _ => v = .int .i64 2,
        .one fun v _ => v = .bool true,
        .one fun v _ => v = .bool true,
        .one fun v _ => v = .bool true,
        .one fun v _ => v = .int .i64 0,
        .one fun v _ => v = .bool true,
        .one fun v _ => v = .bool true,
        .one fun v _ => v = .bool true,
        .one fun v _ => v = .agg #[.bool b21_7, .slice a21_7 n21_7 c21_7, .slice d21_7 m21_7 o21_7],
        .one fun v W => Rw W v (Rat.abs ((a : Rat) / P2 K / ((b : Rat) / P2 K))),
        .one fun v _ => v = .agg #[.bool b22_7, .slice a22_7 n22_7 c22_7, .slice d22_7 m22_7 o22_7],
        .one fun v _ => v = .int .i64 1,
        .one fun v _ => v = .bool true,
        .one fun v _ => v = .bool true,
        .one fun v _ => v = .bool true]
       (fun W => Ext w W ∧ Rw W (.agg #[.bool b16_8, .slice a16_8 n16_8 c16_8, .slice d16_8 m16_8 o16_8]) ((a : Rat) / P2 K) ∧ Bx3 W g16_8 35 (.bool b16_8) (.slice a16_8 n16_8 c16_8) (.slice d16_8 m16_8 o16_8) ∧ Zw W u16_1 a ∧ Rw W (.agg #[.bool b17_8, .slice a17_8 n17_8 c17_8, .slice d17_8 m17_8 o17_8]) ((b : Rat) / P2 K) ∧ Bx3 W g17_8 35 (.bool b17_8) (.slice a17_8 n17_8 c17_8) (.slice d17_8 m17_8 o17_8) ∧ Zw W u17_1 b ∧ Rw W u19_6 ((a : Rat) / P2 K * ((b : Rat) / P2 K)) ∧ Rw W (.agg #[.bool b21_7, .slice a21_7 n21_7 c21_7, .slice d21_7 m21_7 o21_7]) ((a : Rat) / P2 K / ((b : Rat) / P2 K)) ∧ Bx3 W g21_7 35 (.bool b21_7) (.slice a21_7 n21_7 c21_7) (.slice d21_7 m21_7 o21_7) ∧ Rw W (.agg #[.bool b22_7, .slice a22_7 n22_7 c22_7, .slice d22_7 m22_7 o22_7]) (((9223372036854775807 : Int) : Rat) / P2 K) ∧ Bx3 W g22_7 35 (.bool b22_7) (.slice a22_7 n22_7 c22_7) (.slice d22_7 m22_7 o22_7) ∧ Zw W u22_0 ((9223372036854775807 : Int)) ∧ W22.heap.size ≤ W.heap.size) ⟨Good.is _, Good.is _, Good.is _, Good.is _, Good.is _, Good.is _, Good.is _, Good.is _, Good.is _, Good.is _, Good.is _, Good.rat _, Good.is _, Good.is _, Good.is _, Good.is _, Good.is _, trivial⟩
       (fun W W1 hS hE => ⟨(Ext.trans hS.1 hE), (hS.2.1.ext hE), (hS.2.2.1.ext hE), (hS.2.2.2.1.ext hE), (hS.2.2.2.2.1.ext hE), (hS.2.2.2.2.2.1.ext hE), (hS.2.2.2.2.2.2.1.ext hE), (hS.2.2.2.2.2.2.2.1.ext hE), (hS.2.2.2.2.2.2.2.2.1.ext hE), (hS.2.2.2.2.2.2.2.2.2.1.ext hE), (hS.2.2.2.2.2.2.2.2.2.2.1.ext hE), (hS.2.2.2.2.2.2.2.2.2.2.2.1.ext hE), (hS.2.2.2.2.2.2.2.2.2.2.2.2.1.ext hE), (Nat.le_trans hS.2.2.2.2.2.2.2.2.2.2.2.2.2 (Ext.size hE))⟩) ⟨E0, h16_5, p16_8, h16_1, h17_5, p17_8, h17_1, h19_6, h21_4, p21_7, h22_4, p22_7, h22_0, Nat.le_refl _⟩ (by kernel_rfl) (by kernel_rfl) (by kernel_rfl) (by kernel_rfl) (A := ?A23) ?hA23 ?howe23 ?hfin23
      case hA23 =>
       intro vs
       simp only [putAll, Act.put, List.setIfInBounds_toArray, List.set_cons_zero, List.set_cons_succ, Nat.zero_add, Nat.reduceAdd]
       exact rfl
      case howe23 =>
       clear E0 h16_5 p16_8 h16_1 h17_5 p17_8 h17_1 h19_6 h21_4 p21_7 h22_4 p22_7 h22_0
       intro hf
       refine ⟨owesE 0 [] hf rfl (by kernel_rfl) ?_, owesE 1 [0] hf rfl (by kernel_rfl) ?_, owesE 2 [1] hf rfl (by kernel_rfl) ?_, owesE 3 [1, 2] hf rfl (by kernel_rfl) ?_, owesE 4 [1, 3] hf rfl (by kernel_rfl) ?_, owesE 5 [4] hf rfl (by kernel_rfl) ?_, owesE 6 [5] hf rfl (by kernel_rfl) ?_, owesE 7 [5, 6] hf rfl (by kernel_rfl) ?_, owesE 8 [5, 7] hf rfl (by kernel_rfl) ?_, owesE 9 [8] hf rfl (by kernel_rfl) ?_, owesE 10 [9] hf rfl (by kernel_rfl) ?_, owesE 11 [9, 10] hf rfl (by kernel_rfl) ?_, owesE 12 [9] hf rfl (by kernel_rfl) ?_, owesE 13 [9, 11, 12] hf rfl (by kernel_rfl) ?_, owesE 14 [9, 13] hf rfl (by kernel_rfl) ?_, owesE 15 [9, 14] hf rfl (by kernel_rfl) ?_, owesE 16 [15] hf rfl (by kernel_rfl) ?_, trivial⟩
       all_goals intro vs W hS hp hx KO hKO
       all_goals simp only [Act.put, List.setIfInBounds_toArray, List.set_cons_zero, List.set_cons_succ] at hKO
       ·go_simp
        refine (Try.alive08 _).mono ?_
        rintro e W1 ⟨rfl, hE⟩
        exact hKO _ W1 hE rfl
       ·have e0 := isOf hp.1
        simp only [e0] at hKO
        go_simp
        exact hKO _ W (Ext.refl W) rfl
       ·have e1 := isOf hp.1
        simp only [e1] at hKO
        go_simp
        exact hKO _ W (Ext.refl W) rfl
       ·have e1 := isOf hp.1
        have e2 := isOf hp.2.1
        simp only [e1, e2] at hKO
        go_simp
        exact hKO _ W (Ext.refl W) rfl
       ·have e1 := isOf hp.1
        have e3 := isOf hp.2.1
        simp only [e1, e3] at hKO
        go_simp
        exact hKO _ W (Ext.refl W) rfl
       ·have e4 := isOf hp.1
        simp only [e4] at hKO
        go_simp
        exact hKO _ W (Ext.refl W) rfl
       ·have e5 := isOf hp.1
        simp only [e5] at hKO
        go_simp
        exact hKO _ W (Ext.refl W) rfl
       ·have e5 := isOf hp.1
        have e6 := isOf hp.2.1
        simp only [e5, e6] at hKO
        go_simp
        exact hKO _ W (Ext.refl W) rfl
       ·have e5 := isOf hp.1
        have e7 := isOf hp.2.1
        simp only [e5, e7] at hKO
        go_simp
        exact hKO _ W (Ext.refl W) rfl
       ·have e8 := isOf hp.1
        simp only [e8] at hKO
        go_simp
        exact hKO _ W (Ext.refl W) rfl
       ·have e9 := isOf hp.1
        simp only [e9] at hKO
        have fc0 := hS.2.2.2.2.2.2.2.2.2.1.cell0
        have fc1 := hS.2.2.2.2.2.2.2.2.2.1.cell1
        have fc2 := hS.2.2.2.2.2.2.2.2.2.1.cell2
        go_simp
        exact hKO _ W (Ext.refl W) rfl
       ·have e9 := isOf hp.1
        have e10 := isOf hp.2.1
        simp only [e9, e10] at hKO
        go_simp
        refine (Try.refRAbs (hS.2.2.2.2.2.2.2.2.1)).mono ?_
        rintro e W1 ⟨v, rfl, hv, hE⟩
        exact hKO _ W1 hE hv
       ·have e9 := isOf hp.1
        simp only [e9] at hKO
        have fc0 := hS.2.2.2.2.2.2.2.2.2.2.2.1.cell0
        have fc1 := hS.2.2.2.2.2.2.2.2.2.2.2.1.cell1
        have fc2 := hS.2.2.2.2.2.2.2.2.2.2.2.1.cell2
        go_simp
        exact hKO _ W (Ext.refl W) rfl
       ·have e9 := isOf hp.1
        have q11 := hp.2.1
        have e12 := isOf hp.2.2.1
        simp only [e9, e12] at hKO
        go_simp
        refine (Try.refRCmpR q11 (hS.2.2.2.2.2.2.2.2.2.2.1) SQA.out SMO.out (by omega) HFO.out).mono ?_
        rintro e W1 ⟨rfl, hE⟩
        exact hKO _ W1 hE rfl
       ·have e9 := isOf hp.1
        have e13 := isOf hp.2.1
        simp only [e9, e13] at hKO
        go_simp
        exact hKO _ W (Ext.refl W) rfl
       ·have e9 := isOf hp.1
        have e14 := isOf hp.2.1
        simp only [e9, e14] at hKO
        go_simp
        exact hKO _ W (Ext.refl W) rfl
       ·have e15 := isOf hp.1
        simp only [e15] at hKO
        go_simp
        exact hKO _ W (Ext.refl W) rfl
      intro vs W23 hS hp
      clear szw23 E0 h16_5 p16_8 h16_1 h17_5 p17_8 h17_1 h19_6 h21_4 p21_7 h22_4 p22_7 h22_0
      obtain ⟨E0, h16_5, p16_8, h16_1, h17_5, p17_8, h17_1, h19_6, h21_4, p21_7, h22_4, p22_7, h22_0, sz23⟩ := hS
      obtain ⟨h23_0, h23_1, h23_2, h23_3, h23_4, h23_5, h23_6, h23_7, h23_8, h23_9, h23_10, h23_11, h23_12, h23_13, h23_14, h23_15, h23_16, -⟩ := hp
      replace h23_0 : vs 0 = .bool true := h23_0
      replace h23_1 : vs 1 = .bool true := h23_1
      replace h23_2 : vs 2 = .int .i64 2 := h23_2
      replace h23_3 : vs 3 = .bool true := h23_3
      replace h23_4 : vs 4 = .bool true := h23_4
      replace h23_5 : vs 5 = .bool true := h23_5
      replace h23_6 : vs 6 = .int .i64 0 := h23_6
      replace h23_7 : vs 7 = .bool true := h23_7
      replace h23_8 : vs 8 = .bool true := h23_8
      replace h23_9 : vs 9 = .bool true := h23_9
      replace h23_10 : vs 10 = .agg #[.bool b21_7, .slice a21_7 n21_7 c21_7, .slice d21_7 m21_7 o21_7] := h23_10
      replace h23_12 : vs 12 = .agg #[.bool b22_7, .slice a22_7 n22_7 c22_7, .slice d22_7 m22_7 o22_7] := h23_12
      replace h23_13 : vs 13 = .int .i64 1 := h23_13
      replace h23_14 : vs 14 = .bool true := h23_14
      replace h23_15 : vs 15 = .bool true := h23_15
      replace h23_16 : vs 16 = .bool true := h23_16
      simp only [h23_0, h23_1, h23_2, h23_3, h23_4, h23_5, h23_6, h23_7, h23_8, h23_9, h23_10, h23_12, h23_13, h23_14, h23_15, h23_16]
      replace h23_11 : Rw W23 (vs 11) (Rat.abs ((a : Rat) / P2 K / ((b : Rat) / P2 K))) := h23_11
      generalize vs 11 = u23_11 at h23_11 ⊢
      clear h23_0 h23_1 h23_2 h23_3 h23_4 h23_5 h23_6 h23_7 h23_8 h23_9 h23_10 h23_12 h23_13 h23_14 h23_15 h23_16
      have kp16_8_0 := p16_8.cell0
      have kp16_8_1 := p16_8.cell1
      have kp16_8_2 := p16_8.cell2
      have kp17_8_0 := p17_8.cell0
      have kp17_8_1 := p17_8.cell1
      have kp17_8_2 := p17_8.cell2
      have kp21_7_0 := p21_7.cell0
      have kp21_7_1 := p21_7.cell1
      have kp21_7_2 := p21_7.cell2
      have kp22_7_0 := p22_7.cell0
      have kp22_7_1 := p22_7.cell1
      have kp22_7_2 := p22_7.cell2
      go_wp2
      go_ret
      exact ⟨rfl, E0⟩
   ·have HVM : Hid (fitV (nearR (((a * b : Int) : Rat) / ((2 ^ K : Nat) : Rat))) = 0) := Lib.hid (by
     rw [HM.out]
     have h2 : fits M = false := by cases hh : fits M; rfl; rw [fitE_in hh] at he; cases he
     exact fitV_out h2)
    have HEM : Hid (fitE (nearR (((a * b : Int) : Rat) / ((2 ^ K : Nat) : Rat))) = 2) := Lib.hid (by rw [HM.out]; exact he)
    clear he HM
    by_cases hb0 : b = 0
    ·subst hb0
     have hm2n : (2 : Int) = 2 := rfl
     clear hm2n
     obtain ⟨W0, hW0⟩ : ∃ W0, W0 = w := ⟨_, rfl⟩
     have E0 : Ext w W0 := by rw [hW0]; exact Ext.refl w
     go_enter Try.func4, Try.ntmps4
     go_upto_region 5 with (fail)
     rw [← hW0]
     clear hW0
     have szw24 := Ext.size E0
     refine region_go [.one fun v _ => v = .int .i64 a,
       .one fun v W => Zw W v a,
       .one fun v _ => v = .int .i64 (K : Int),
       .one fun v W => ∃ v', v = .tuple #[v', .int .i64 0] ∧ (fun v W => Rw W v ((a : Rat) / P2 K)) v' W,
       .one fun v W => ∃ v', v = .tuple #[v', .int .i64 0] ∧ (fun v W => Rw W v ((a : Rat) / P2 K)) v' W,
       .one fun v W => Rw W v ((a : Rat) / P2 K),
       .one fun v _ => v = .int .i64 0,
       .one fun v W => ∃ g, v = .pointer (some ⟨g, 0, none⟩) ∧ W0.heap.size ≤ g ∧ Form W g 35 3,
       .three 7 5 (fun p r _ W => Put3 W0.heap.size 35 p r W),
       .one fun v _ => v = .int .i64 0]
      (fun W => Ext w W ∧ W0.heap.size ≤ W.heap.size) ⟨Good.is _, Good.zed _, Good.is _, (Good.rat _).tup _, (Good.rat _).tup _, Good.rat _, Good.is _, Good.box _ _ _, cert_put3, Good.is _, trivial⟩
      (fun W W1 hS hE => ⟨(Ext.trans hS.1 hE), (Nat.le_trans hS.2 (Ext.size hE))⟩) ⟨E0, Nat.le_refl _⟩ (by kernel_rfl) (by kernel_rfl) (by kernel_rfl) (by kernel_rfl) (A := ?A24) ?hA24 ?howe24 ?hfin24
     case hA24 =>
      intro vs
      simp only [putAll, Act.put, List.setIfInBounds_toArray, List.set_cons_zero, List.set_cons_succ, Nat.zero_add, Nat.reduceAdd]
      exact rfl
     case howe24 =>
      clear E0
      intro hf
      refine ⟨owesE 0 [] hf rfl (by kernel_rfl) ?_, owesE 1 [0] hf rfl (by kernel_rfl) ?_, owesE 2 [] hf rfl (by kernel_rfl) ?_, owesE 3 [1, 2] hf rfl (by kernel_rfl) ?_, owesE 4 [3] hf rfl (by kernel_rfl) ?_, owesE 5 [4] hf rfl (by kernel_rfl) ?_, owesE 6 [4] hf rfl (by kernel_rfl) ?_, owesE 7 [] hf rfl (by kernel_rfl) ?_, owesW 8 [7, 5] hf rfl (by kernel_rfl) (by kernel_rfl) ?_, owesE 9 [6] hf rfl (by kernel_rfl) ?_, trivial⟩
      all_goals intro vs W hS hp hx KO hKO
      all_goals simp only [Act.put, List.setIfInBounds_toArray, List.set_cons_zero, List.set_cons_succ] at hKO
      ·go_simp
       exact hKO _ W (Ext.refl W) rfl
      ·have e0 := isOf hp.1
       simp only [e0] at hKO
       go_simp
       refine (Try.refZOf a _ HB.out.1.1 HB.out.1.2).mono ?_
       rintro e W1 ⟨v, rfl, hv, hE⟩
       exact hKO _ W1 hE hv
      ·go_simp
       exact hKO _ W (Ext.refl W) rfl
      ·have q1 := hp.1
       have e2 := isOf hp.2.1
       simp only [e2] at hKO
       go_simp
       refine (Try.refBack q1 S1.out (by omega) K HK.out.2).mono ?_
       rintro e W1 ⟨v, rfl, hv, hE⟩
       exact hKO _ W1 hE ⟨_, rfl, hv⟩
      ·have q3 := hp.1
       obtain ⟨u, ev, hu⟩ := q3
       replace ev : vs 3 = _ := ev
       simp only [ev] at hKO
       go_simp
       exact hKO _ W (Ext.refl W) ⟨u, rfl, hu⟩
      ·have q4 := hp.1
       obtain ⟨u, ev, hu⟩ := q4
       replace ev : vs 4 = _ := ev
       simp only [ev] at hKO
       go_simp
       exact hKO _ W (Ext.refl W) hu
      ·have q4 := hp.1
       obtain ⟨u, ev, hu⟩ := q4
       replace ev : vs 4 = _ := ev
       simp only [ev] at hKO
       go_simp
       exact hKO _ W (Ext.refl W) rfl
      ·have hn := Bx3.new W 35 (.bool false) (.slice none 0 0) (.slice none 0 0)
       have hE := Ext.alloc1 W (.cells #[.bool false, .slice none 0 0, .slice none 0 0] 35)
       have hsz := hS.2
       go_simp
       exact hKO _ _ hE ⟨_, rfl, hsz, hn.form⟩
      ·have q7 := hp.1
       have q5 := hp.2.1
       obtain ⟨g, ev, hg, hf⟩ := q7
       replace ev : vs 7 = _ := ev
       obtain ⟨x0, y0, z0, hx, hno⟩ := hf.bx3
       have qr := q5
       obtain ⟨b3, a3, n3, c3, d3, m3, o3, er, -, -, -⟩ := qr
       replace er : vs 5 = _ := er
       have r0 := hx.froz0
       have t0 := hx.cell0
       have r1 := hx.froz1
       have t1 := hx.cell1
       have r2 := hx.froz2
       have t2 := hx.cell2
       have hw := Wr.set3 hx hno b3 a3 n3 c3 d3 m3 o3
       have hq := hx.set (.bool b3) (.slice a3 n3 c3) (.slice d3 m3 o3)
       simp only [ev, er] at hKO
       go_simp
       exact hKO _ _ hw ⟨(Ext.wr hS.1 hw (by omega)), (Nat.le_trans hS.2 hw.apart.size)⟩ ⟨g, b3, a3, n3, c3, d3, m3, o3, ev, er, hg, hq⟩
      ·have e6 := isOf hp.1
       simp only [e6] at hKO
       go_simp
       exact hKO _ W (Ext.refl W) rfl
     intro vs W24 hS hp
     clear szw24 E0
     obtain ⟨E0, sz24⟩ := hS
     obtain ⟨h24_0, h24_1, h24_2, h24_3, h24_4, h24_5, h24_6, h24_7, h24_8, h24_9, -⟩ := hp
     obtain ⟨g24_8, b24_8, a24_8, n24_8, c24_8, d24_8, m24_8, o24_8, ev24_8, er24_8, hg24_8, p24_8⟩ := h24_8
     replace ev24_8 : vs 7 = _ := ev24_8
     replace er24_8 : vs 5 = _ := er24_8
     replace h24_5 := (show Rw W24 (vs 5) ((a : Rat) / P2 K) from h24_5)
     rw [er24_8] at h24_5
     replace h24_0 : vs 0 = .int .i64 a := h24_0
     replace h24_2 : vs 2 = .int .i64 (K : Int) := h24_2
     replace h24_6 : vs 6 = .int .i64 0 := h24_6
     replace h24_9 : vs 9 = .int .i64 0 := h24_9
     simp only [ev24_8, er24_8, h24_0, h24_2, h24_6, h24_9]
     replace h24_1 : Zw W24 (vs 1) a := h24_1
     generalize vs 1 = u24_1 at h24_1 ⊢
     clear ev24_8 er24_8 h24_0 h24_2 h24_6 h24_9 h24_3 h24_4 h24_7
     have kp24_8_0 := p24_8.cell0
     have kp24_8_1 := p24_8.cell1
     have kp24_8_2 := p24_8.cell2
     go_upto_region 6 with (fail)
     clear kp24_8_0 kp24_8_1 kp24_8_2
     have ltp24_8 := p24_8.lt
     have szw25 := Ext.size E0
     refine region_go [.one fun v _ => v = .int .i64 0,
       .one fun v W => Zw W v ((0 : Int)),
       .one fun v _ => v = .int .i64 (K : Int),
       .one fun v W => ∃ v', v = .tuple #[v', .int .i64 0] ∧ (fun v W => Rw W v (((0 : Int) : Rat) / P2 K)) v' W,
       .one fun v W => ∃ v', v = .tuple #[v', .int .i64 0] ∧ (fun v W => Rw W v (((0 : Int) : Rat) / P2 K)) v' W,
       .one fun v W => Rw W v (((0 : Int) : Rat) / P2 K),
       .one fun v _ => v = .int .i64 0,
       .one fun v W => ∃ g, v = .pointer (some ⟨g, 0, none⟩) ∧ W24.heap.size ≤ g ∧ Form W g 35 3,
       .three 7 5 (fun p r _ W => Put3 W24.heap.size 35 p r W),
       .one fun v _ => v = .int .i64 0]
      (fun W => Ext w W ∧ Rw W (.agg #[.bool b24_8, .slice a24_8 n24_8 c24_8, .slice d24_8 m24_8 o24_8]) ((a : Rat) / P2 K) ∧ Bx3 W g24_8 35 (.bool b24_8) (.slice a24_8 n24_8 c24_8) (.slice d24_8 m24_8 o24_8) ∧ Zw W u24_1 a ∧ W24.heap.size ≤ W.heap.size) ⟨Good.is _, Good.zed _, Good.is _, (Good.rat _).tup _, (Good.rat _).tup _, Good.rat _, Good.is _, Good.box _ _ _, cert_put3, Good.is _, trivial⟩
      (fun W W1 hS hE => ⟨(Ext.trans hS.1 hE), (hS.2.1.ext hE), (hS.2.2.1.ext hE), (hS.2.2.2.1.ext hE), (Nat.le_trans hS.2.2.2.2 (Ext.size hE))⟩) ⟨E0, h24_5, p24_8, h24_1, Nat.le_refl _⟩ (by kernel_rfl) (by kernel_rfl) (by kernel_rfl) (by kernel_rfl) (A := ?A25) ?hA25 ?howe25 ?hfin25
     case hA25 =>
      intro vs
      simp only [putAll, Act.put, List.setIfInBounds_toArray, List.set_cons_zero, List.set_cons_succ, Nat.zero_add, Nat.reduceAdd]
      exact rfl
     case howe25 =>
      clear E0 h24_5 p24_8 h24_1
      intro hf
      refine ⟨owesE 0 [] hf rfl (by kernel_rfl) ?_, owesE 1 [0] hf rfl (by kernel_rfl) ?_, owesE 2 [] hf rfl (by kernel_rfl) ?_, owesE 3 [1, 2] hf rfl (by kernel_rfl) ?_, owesE 4 [3] hf rfl (by kernel_rfl) ?_, owesE 5 [4] hf rfl (by kernel_rfl) ?_, owesE 6 [4] hf rfl (by kernel_rfl) ?_, owesE 7 [] hf rfl (by kernel_rfl) ?_, owesW 8 [7, 5] hf rfl (by kernel_rfl) (by kernel_rfl) ?_, owesE 9 [6] hf rfl (by kernel_rfl) ?_, trivial⟩
      all_goals intro vs W hS hp hx KO hKO
      all_goals simp only [Act.put, List.setIfInBounds_toArray, List.set_cons_zero, List.set_cons_succ] at hKO
      ·go_simp
       exact hKO _ W (Ext.refl W) rfl
      ·have e0 := isOf hp.1
       simp only [e0] at hKO
       go_simp
       refine (Try.refZOf 0 _ HB.out.2.1 HB.out.2.2).mono ?_
       rintro e W1 ⟨v, rfl, hv, hE⟩
       exact hKO _ W1 hE hv
      ·go_simp
       exact hKO _ W (Ext.refl W) rfl
      ·have q1 := hp.1
       have e2 := isOf hp.2.1
       simp only [e2] at hKO
       go_simp
       refine (Try.refBack q1 S2.out (by omega) K HK.out.2).mono ?_
       rintro e W1 ⟨v, rfl, hv, hE⟩
       exact hKO _ W1 hE ⟨_, rfl, hv⟩
      ·have q3 := hp.1
       obtain ⟨u, ev, hu⟩ := q3
       replace ev : vs 3 = _ := ev
       simp only [ev] at hKO
       go_simp
       exact hKO _ W (Ext.refl W) ⟨u, rfl, hu⟩
      ·have q4 := hp.1
       obtain ⟨u, ev, hu⟩ := q4
       replace ev : vs 4 = _ := ev
       simp only [ev] at hKO
       go_simp
       exact hKO _ W (Ext.refl W) hu
      ·have q4 := hp.1
       obtain ⟨u, ev, hu⟩ := q4
       replace ev : vs 4 = _ := ev
       simp only [ev] at hKO
       go_simp
       exact hKO _ W (Ext.refl W) rfl
      ·have hn := Bx3.new W 35 (.bool false) (.slice none 0 0) (.slice none 0 0)
       have hE := Ext.alloc1 W (.cells #[.bool false, .slice none 0 0, .slice none 0 0] 35)
       have hsz := hS.2.2.2.2
       go_simp
       exact hKO _ _ hE ⟨_, rfl, hsz, hn.form⟩
      ·have q7 := hp.1
       have q5 := hp.2.1
       obtain ⟨g, ev, hg, hf⟩ := q7
       replace ev : vs 7 = _ := ev
       obtain ⟨x0, y0, z0, hx, hno⟩ := hf.bx3
       have qr := q5
       obtain ⟨b3, a3, n3, c3, d3, m3, o3, er, -, -, -⟩ := qr
       replace er : vs 5 = _ := er
       have r0 := hx.froz0
       have t0 := hx.cell0
       have r1 := hx.froz1
       have t1 := hx.cell1
       have r2 := hx.froz2
       have t2 := hx.cell2
       have hw := Wr.set3 hx hno b3 a3 n3 c3 d3 m3 o3
       have hq := hx.set (.bool b3) (.slice a3 n3 c3) (.slice d3 m3 o3)
       simp only [ev, er] at hKO
       go_simp
       exact hKO _ _ hw ⟨(Ext.wr hS.1 hw (by omega)), (hS.2.1.wr hw), (hS.2.2.1.wr hw (by omega)), (hS.2.2.2.1.wr hw), (Nat.le_trans hS.2.2.2.2 hw.apart.size)⟩ ⟨g, b3, a3, n3, c3, d3, m3, o3, ev, er, hg, hq⟩
      ·have e6 := isOf hp.1
       simp only [e6] at hKO
       go_simp
       exact hKO _ W (Ext.refl W) rfl
     intro vs W25 hS hp
     clear szw25 E0 h24_5 p24_8 h24_1
     obtain ⟨E0, h24_5, p24_8, h24_1, sz25⟩ := hS
     obtain ⟨h25_0, h25_1, h25_2, h25_3, h25_4, h25_5, h25_6, h25_7, h25_8, h25_9, -⟩ := hp
     obtain ⟨g25_8, b25_8, a25_8, n25_8, c25_8, d25_8, m25_8, o25_8, ev25_8, er25_8, hg25_8, p25_8⟩ := h25_8
     replace ev25_8 : vs 7 = _ := ev25_8
     replace er25_8 : vs 5 = _ := er25_8
     replace h25_5 := (show Rw W25 (vs 5) (((0 : Int) : Rat) / P2 K) from h25_5)
     rw [er25_8] at h25_5
     replace h25_0 : vs 0 = .int .i64 0 := h25_0
     replace h25_2 : vs 2 = .int .i64 (K : Int) := h25_2
     replace h25_6 : vs 6 = .int .i64 0 := h25_6
     replace h25_9 : vs 9 = .int .i64 0 := h25_9
     simp only [ev25_8, er25_8, h25_0, h25_2, h25_6, h25_9]
     replace h25_1 : Zw W25 (vs 1) ((0 : Int)) := h25_1
     generalize vs 1 = u25_1 at h25_1 ⊢
     clear ev25_8 er25_8 h25_0 h25_2 h25_6 h25_9 h25_3 h25_4 h25_7
     have kp24_8_0 := p24_8.cell0
     have kp24_8_1 := p24_8.cell1
     have kp24_8_2 := p24_8.cell2
     have kp25_8_0 := p25_8.cell0
     have kp25_8_1 := p25_8.cell1
     have kp25_8_2 := p25_8.cell2
     go_upto_region 7 with (fail)
     clear kp24_8_0 kp24_8_1 kp24_8_2 kp25_8_0 kp25_8_1 kp25_8_2
     have ltp25_8 := p25_8.lt
     have szw26 := Ext.size E0
     refine region_go [.one fun v _ => v = .int .i64 a,
       .one fun v _ => v = .int .i64 0,
       .one fun v _ => v = .int .i64 (K : Int),
       .one fun v _ => v = .tuple #[.int .i64 0, .int .i64 2],
       .one fun v _ => v = .tuple #[.int .i64 0, .int .i64 2],
       .one fun v _ => v = .int .i64 0,
       .one fun v _ => v = .int .i64 2,
       .one fun v _ => v = .int .i64 0,
       .one fun v _ => v = .int .i64 2]
      (fun W => Ext w W ∧ Rw W (.agg #[.bool b24_8, .slice a24_8 n24_8 c24_8, .slice d24_8 m24_8 o24_8]) ((a : Rat) / P2 K) ∧ Bx3 W g24_8 35 (.bool b24_8) (.slice a24_8 n24_8 c24_8) (.slice d24_8 m24_8 o24_8) ∧ Zw W u24_1 a ∧ Rw W (.agg #[.bool b25_8, .slice a25_8 n25_8 c25_8, .slice d25_8 m25_8 o25_8]) (((0 : Int) : Rat) / P2 K) ∧ Bx3 W g25_8 35 (.bool b25_8) (.slice a25_8 n25_8 c25_8) (.slice d25_8 m25_8 o25_8) ∧ Zw W u25_1 ((0 : Int)) ∧ W25.heap.size ≤ W.heap.size) ⟨Good.is _, Good.is _, Good.is _, Good.is _, Good.is _, Good.is _, Good.is _, Good.is _, Good.is _, trivial⟩
      (fun W W1 hS hE => ⟨(Ext.trans hS.1 hE), (hS.2.1.ext hE), (hS.2.2.1.ext hE), (hS.2.2.2.1.ext hE), (hS.2.2.2.2.1.ext hE), (hS.2.2.2.2.2.1.ext hE), (hS.2.2.2.2.2.2.1.ext hE), (Nat.le_trans hS.2.2.2.2.2.2.2 (Ext.size hE))⟩) ⟨E0, h24_5, p24_8, h24_1, h25_5, p25_8, h25_1, Nat.le_refl _⟩ (by kernel_rfl) (by kernel_rfl) (by kernel_rfl) (by kernel_rfl) (A := ?A26) ?hA26 ?howe26 ?hfin26
     case hA26 =>
      intro vs
      simp only [putAll, Act.put, List.setIfInBounds_toArray, List.set_cons_zero, List.set_cons_succ, Nat.zero_add, Nat.reduceAdd]
      exact rfl
     case howe26 =>
      clear E0 h24_5 p24_8 h24_1 h25_5 p25_8 h25_1
      intro hf
      refine ⟨owesE 0 [] hf rfl (by kernel_rfl) ?_, owesE 1 [] hf rfl (by kernel_rfl) ?_, owesE 2 [] hf rfl (by kernel_rfl) ?_, owesE 3 [0, 1, 2] hf rfl (by kernel_rfl) ?_, owesE 4 [3] hf rfl (by kernel_rfl) ?_, owesE 5 [4] hf rfl (by kernel_rfl) ?_, owesE 6 [4] hf rfl (by kernel_rfl) ?_, owesE 7 [5] hf rfl (by kernel_rfl) ?_, owesE 8 [6] hf rfl (by kernel_rfl) ?_, trivial⟩
      all_goals intro vs W hS hp hx KO hKO
      all_goals simp only [Act.put, List.setIfInBounds_toArray, List.set_cons_zero, List.set_cons_succ] at hKO
      ·go_simp
       exact hKO _ W (Ext.refl W) rfl
      ·go_simp
       exact hKO _ W (Ext.refl W) rfl
      ·go_simp
       exact hKO _ W (Ext.refl W) rfl
      ·have e0 := isOf hp.1
       have e1 := isOf hp.2.1
       have e2 := isOf hp.2.2.1
       simp only [e0, e1, e2] at hKO
       go_simp
       refine (Try.fixMulV a 0 K HK.out.1 _ HB.out.1.1 HB.out.1.2 HB.out.2.1 HB.out.2.2 HVM.out HEM.out).mono ?_
       rintro e W1 ⟨rfl, hE⟩
       exact hKO _ W1 hE rfl
      ·have e3 := isOf hp.1
       simp only [e3] at hKO
       go_simp
       exact hKO _ W (Ext.refl W) rfl
      ·have e4 := isOf hp.1
       simp only [e4] at hKO
       go_simp
       exact hKO _ W (Ext.refl W) rfl
      ·have e4 := isOf hp.1
       simp only [e4] at hKO
       go_simp
       exact hKO _ W (Ext.refl W) rfl
      ·have e5 := isOf hp.1
       simp only [e5] at hKO
       go_simp
       exact hKO _ W (Ext.refl W) rfl
      ·have e6 := isOf hp.1
       simp only [e6] at hKO
       go_simp
       exact hKO _ W (Ext.refl W) rfl
     intro vs W26 hS hp
     clear szw26 E0 h24_5 p24_8 h24_1 h25_5 p25_8 h25_1
     obtain ⟨E0, h24_5, p24_8, h24_1, h25_5, p25_8, h25_1, sz26⟩ := hS
     obtain ⟨h26_0, h26_1, h26_2, h26_3, h26_4, h26_5, h26_6, h26_7, h26_8, -⟩ := hp
     replace h26_0 : vs 0 = .int .i64 a := h26_0
     replace h26_1 : vs 1 = .int .i64 0 := h26_1
     replace h26_2 : vs 2 = .int .i64 (K : Int) := h26_2
     replace h26_3 : vs 3 = .tuple #[.int .i64 0, .int .i64 2] := h26_3
     replace h26_4 : vs 4 = .tuple #[.int .i64 0, .int .i64 2] := h26_4
     replace h26_5 : vs 5 = .int .i64 0 := h26_5
     replace h26_6 : vs 6 = .int .i64 2 := h26_6
     replace h26_7 : vs 7 = .int .i64 0 := h26_7
     replace h26_8 : vs 8 = .int .i64 2 := h26_8
     simp only [h26_0, h26_1, h26_2, h26_3, h26_4, h26_5, h26_6, h26_7, h26_8]
     clear h26_0 h26_1 h26_2 h26_3 h26_4 h26_5 h26_6 h26_7 h26_8
     have kp24_8_0 := p24_8.cell0
     have kp24_8_1 := p24_8.cell1
     have kp24_8_2 := p24_8.cell2
     have kp25_8_0 := p25_8.cell0
     have kp25_8_1 := p25_8.cell1
     have kp25_8_2 := p25_8.cell2
     go_upto_region 8 with (fail)
     clear kp24_8_0 kp24_8_1 kp24_8_2 kp25_8_0 kp25_8_1 kp25_8_2
     have szw27 := Ext.size E0
     refine region_go [.one fun v _ => v = .int .i64 2,
       .one fun v _ => v = .bool false,
       .one fun v _ => v = .bool false,
       .one fun v _ => v = undef,
       .one fun v _ => v = undef,
       .one fun v _ => v = undef,
       .one fun v _ => v = undef,
       .one fun v _ => v = undef,
       .one fun v _ => v = undef,
       .one fun v _ => v = undef,
       .one fun v _ => v = .bool false,
       .one fun v _ => v = .bool false,
       .one fun v _ => v = .int .i64 2,
       .one fun v _ => v = .bool true,
       .one fun v _ => v = .bool true,
       .one fun v _ => v = .int .i64 2,
       .one fun v _ => v = .bool false,
       .one fun v _ => v = .bool false,
       .one fun v _ => v = .int .i64 0,
       .one fun v _ => v = .bool false,
       .one fun v _ => v = .bool false,
       .one fun v _ => v = .bool false,
       .one fun v _ => v = .bool false]
      (fun W => Ext w W ∧ Rw W (.agg #[.bool b24_8, .slice a24_8 n24_8 c24_8, .slice d24_8 m24_8 o24_8]) ((a : Rat) / P2 K) ∧ Bx3 W g24_8 35 (.bool b24_8) (.slice a24_8 n24_8 c24_8) (.slice d24_8 m24_8 o24_8) ∧ Zw W u24_1 a ∧ Rw W (.agg #[.bool b25_8, .slice a25_8 n25_8 c25_8, .slice d25_8 m25_8 o25_8]) (((0 : Int) : Rat) / P2 K) ∧ Bx3 W g25_8 35 (.bool b25_8) (.slice a25_8 n25_8 c25_8) (.slice d25_8 m25_8 o25_8) ∧ Zw W u25_1 ((0 : Int)) ∧ W26.heap.size ≤ W.heap.size) ⟨Good.is _, Good.is _, Good.is _, Good.is _, Good.is _, Good.is _, Good.is _, Good.is _, Good.is _, Good.is _, Good.is _, Good.is _, Good.is _, Good.is _, Good.is _, Good.is _, Good.is _, Good.is _, Good.is _, Good.is _, Good.is _, Good.is _, Good.is _, trivial⟩
      (fun W W1 hS hE => ⟨(Ext.trans hS.1 hE), (hS.2.1.ext hE), (hS.2.2.1.ext hE), (hS.2.2.2.1.ext hE), (hS.2.2.2.2.1.ext hE), (hS.2.2.2.2.2.1.ext hE), (hS.2.2.2.2.2.2.1.ext hE), (Nat.le_trans hS.2.2.2.2.2.2.2 (Ext.size hE))⟩) ⟨E0, h24_5, p24_8, h24_1, h25_5, p25_8, h25_1, Nat.le_refl _⟩ (by kernel_rfl) (by kernel_rfl) (by kernel_rfl) (by kernel_rfl) (A := ?A27) ?hA27 ?howe27 ?hfin27
     case hA27 =>
      intro vs
      simp only [putAll, Act.put, List.setIfInBounds_toArray, List.set_cons_zero, List.set_cons_succ, Nat.zero_add, Nat.reduceAdd]
      exact rfl
     case howe27 =>
      clear E0 h24_5 p24_8 h24_1 h25_5 p25_8 h25_1
      intro hf
      refine ⟨owesE 0 [] hf rfl (by kernel_rfl) ?_, owesE 1 [0] hf rfl (by kernel_rfl) ?_, owesE 2 [1] hf rfl (by kernel_rfl) ?_, owesE 3 [2] hf rfl (by kernel_rfl) ?_, owesE 4 [2] hf rfl (by kernel_rfl) ?_, owesE 5 [2] hf rfl (by kernel_rfl) ?_, owesE 6 [2] hf rfl (by kernel_rfl) ?_, owesE 7 [2] hf rfl (by kernel_rfl) ?_, owesE 8 [2] hf rfl (by kernel_rfl) ?_, owesE 9 [2] hf rfl (by kernel_rfl) ?_, owesE 10 [2, 9] hf rfl (by kernel_rfl) ?_, owesE 11 [10] hf rfl (by kernel_rfl) ?_, owesE 12 [11] hf rfl (by kernel_rfl) ?_, owesE 13 [11, 12] hf rfl (by kernel_rfl) ?_, owesE 14 [11, 13] hf rfl (by kernel_rfl) ?_, owesE 15 [14] hf rfl (by kernel_rfl) ?_, owesE 16 [14, 15] hf rfl (by kernel_rfl) ?_, owesE 17 [14, 16] hf rfl (by kernel_rfl) ?_, owesE 18 [17] hf rfl (by kernel_rfl) ?_, owesE 19 [17, 18] hf rfl (by kernel_rfl) ?_, owesE 20 [14, 17, 19] hf rfl (by kernel_rfl) ?_, owesE 21 [11, 14, 20] hf rfl (by kernel_rfl) ?_, owesE 22 [11, 21] hf rfl (by kernel_rfl) ?_, trivial⟩
      all_goals intro vs W hS hp hx KO hKO
      all_goals simp only [Act.put, List.setIfInBounds_toArray, List.set_cons_zero, List.set_cons_succ] at hKO
      ·go_simp
       exact hKO _ W (Ext.refl W) rfl
      ·have e0 := isOf hp.1
       simp only [e0] at hKO
       go_simp
       exact hKO _ W (Ext.refl W) rfl
      ·have e1 := isOf hp.1
       simp only [e1] at hKO
       go_simp
       exact hKO _ W (Ext.refl W) rfl
      ·have e2 := isOf hp.1
       simp only [e2] at hKO
       go_simp
       exact hKO _ W (Ext.refl W) rfl
      ·have e2 := isOf hp.1
       simp only [e2] at hKO
       go_simp
       exact hKO _ W (Ext.refl W) rfl
      ·have e2 := isOf hp.1
       simp only [e2] at hKO
       go_simp
       exact hKO _ W (Ext.refl W) rfl
      ·have e2 := isOf hp.1
       simp only [e2] at hKO
       go_simp
       exact hKO _ W (Ext.refl W) rfl
      ·have e2 := isOf hp.1
       simp only [e2] at hKO
       go_simp
       exact hKO _ W (Ext.refl W) rfl
      ·have e2 := isOf hp.1
       simp only [e2] at hKO
       go_simp
       exact hKO _ W (Ext.refl W) rfl
      ·have e2 := isOf hp.1
       simp only [e2] at hKO
       go_simp
       exact hKO _ W (Ext.refl W) rfl
      ·have e2 := isOf hp.1
       have e9 := isOf hp.2.1
       simp only [e2, e9] at hKO
       go_simp
       exact hKO _ W (Ext.refl W) rfl
      ·have e10 := isOf hp.1
       simp only [e10] at hKO
       go_simp
       exact hKO _ W (Ext.refl W) rfl
      ·have e11 := isOf hp.1
       simp only [e11] at hKO
       go_simp
       exact hKO _ W (Ext.refl W) rfl
      ·have e11 := isOf hp.1
       have e12 := isOf hp.2.1
       simp only [e11, e12] at hKO
       go_simp
       exact hKO _ W (Ext.refl W) rfl
      ·have e11 := isOf hp.1
       have e13 := isOf hp.2.1
       simp only [e11, e13] at hKO
       go_simp
       exact hKO _ W (Ext.refl W) rfl
      ·have e14 := isOf hp.1
       simp only [e14] at hKO
       go_simp
       exact hKO _ W (Ext.refl W) rfl
      ·have e14 := isOf hp.1
       have e15 := isOf hp.2.1
       simp only [e14, e15] at hKO
       go_simp
       exact hKO _ W (Ext.refl W) rfl
      ·have e14 := isOf hp.1
       have e16 := isOf hp.2.1
       simp only [e14, e16] at hKO
       go_simp
       exact hKO _ W (Ext.refl W) rfl
      ·have e17 := isOf hp.1
       simp only [e17] at hKO
       go_simp
       exact hKO _ W (Ext.refl W) rfl
      ·have e17 := isOf hp.1
       have e18 := isOf hp.2.1
       simp only [e17, e18] at hKO
       go_simp
       exact hKO _ W (Ext.refl W) rfl
      ·have e14 := isOf hp.1
       have e17 := isOf hp.2.1
       have e19 := isOf hp.2.2.1
       simp only [e14, e17, e19] at hKO
       go_simp
       exact hKO _ W (Ext.refl W) rfl
      ·have e11 := isOf hp.1
       have e14 := isOf hp.2.1
       have e20 := isOf hp.2.2.1
       simp only [e11, e14, e20] at hKO
       go_simp
       exact hKO _ W (Ext.refl W) rfl
      ·have e11 := isOf hp.1
       have e21 := isOf hp.2.1
       simp only [e11, e21] at hKO
       go_simp
       exact hKO _ W (Ext.refl W) rfl
     intro vs W27 hS hp
     clear szw27 E0 h24_5 p24_8 h24_1 h25_5 p25_8 h25_1
     obtain ⟨E0, h24_5, p24_8, h24_1, h25_5, p25_8, h25_1, sz27⟩ := hS
     obtain ⟨h27_0, h27_1, h27_2, h27_3, h27_4, h27_5, h27_6, h27_7, h27_8, h27_9, h27_10, h27_11, h27_12, h27_13, h27_14, h27_15, h27_16, h27_17, h27_18, h27_19, h27_20, h27_21, h27_22, -⟩ := hp
     replace h27_0 : vs 0 = .int .i64 2 := h27_0
     replace h27_1 : vs 1 = .bool false := h27_1
     replace h27_2 : vs 2 = .bool false := h27_2
     replace h27_3 : vs 3 = undef := h27_3
     replace h27_4 : vs 4 = undef := h27_4
     replace h27_5 : vs 5 = undef := h27_5
     replace h27_6 : vs 6 = undef := h27_6
     replace h27_7 : vs 7 = undef := h27_7
     replace h27_8 : vs 8 = undef := h27_8
     replace h27_9 : vs 9 = undef := h27_9
     replace h27_10 : vs 10 = .bool false := h27_10
     replace h27_11 : vs 11 = .bool false := h27_11
     replace h27_12 : vs 12 = .int .i64 2 := h27_12
     replace h27_13 : vs 13 = .bool true := h27_13
     replace h27_14 : vs 14 = .bool true := h27_14
     replace h27_15 : vs 15 = .int .i64 2 := h27_15
     replace h27_16 : vs 16 = .bool false := h27_16
     replace h27_17 : vs 17 = .bool false := h27_17
     replace h27_18 : vs 18 = .int .i64 0 := h27_18
     replace h27_19 : vs 19 = .bool false := h27_19
     replace h27_20 : vs 20 = .bool false := h27_20
     replace h27_21 : vs 21 = .bool false := h27_21
     replace h27_22 : vs 22 = .bool false := h27_22
     simp only [h27_0, h27_1, h27_2, h27_3, h27_4, h27_5, h27_6, h27_7, h27_8, h27_9, h27_10, h27_11, h27_12, h27_13, h27_14, h27_15, h27_16, h27_17, h27_18, h27_19, h27_20, h27_21, h27_22]
     clear h27_0 h27_1 h27_2 h27_3 h27_4 h27_5 h27_6 h27_7 h27_8 h27_9 h27_10 h27_11 h27_12 h27_13 h27_14 h27_15 h27_16 h27_17 h27_18 h27_19 h27_20 h27_21 h27_22
     have kp24_8_0 := p24_8.cell0
     have kp24_8_1 := p24_8.cell1
     have kp24_8_2 := p24_8.cell2
     have kp25_8_0 := p25_8.cell0
     have kp25_8_1 := p25_8.cell1
     have kp25_8_2 := p25_8.cell2
     go_upto_region 10 with (fail)
     clear kp24_8_0 kp24_8_1 kp24_8_2 kp25_8_0 kp25_8_1 kp25_8_2
     have szw28 := Ext.size E0
     refine region_go [.one fun v _ => v = .int .i64 a,
       .one fun v _ => v = .int .i64 0,
       .one fun v _ => v = .int .i64 (K : Int),
       .one fun v _ => v = .tuple #[.int .i64 0, .int .i64 4],
       .one fun v _ => v = .tuple #[.int .i64 0, .int .i64 4],
       .one fun v _ => v = .int .i64 0,
       .one fun v _ => v = .int .i64 4,
       .one fun v _ => v = .int .i64 0,
       .one fun v _ => v = .int .i64 4]
      (fun W => Ext w W ∧ Rw W (.agg #[.bool b24_8, .slice a24_8 n24_8 c24_8, .slice d24_8 m24_8 o24_8]) ((a : Rat) / P2 K) ∧ Bx3 W g24_8 35 (.bool b24_8) (.slice a24_8 n24_8 c24_8) (.slice d24_8 m24_8 o24_8) ∧ Zw W u24_1 a ∧ Rw W (.agg #[.bool b25_8, .slice a25_8 n25_8 c25_8, .slice d25_8 m25_8 o25_8]) (((0 : Int) : Rat) / P2 K) ∧ Bx3 W g25_8 35 (.bool b25_8) (.slice a25_8 n25_8 c25_8) (.slice d25_8 m25_8 o25_8) ∧ Zw W u25_1 ((0 : Int)) ∧ W27.heap.size ≤ W.heap.size) ⟨Good.is _, Good.is _, Good.is _, Good.is _, Good.is _, Good.is _, Good.is _, Good.is _, Good.is _, trivial⟩
      (fun W W1 hS hE => ⟨(Ext.trans hS.1 hE), (hS.2.1.ext hE), (hS.2.2.1.ext hE), (hS.2.2.2.1.ext hE), (hS.2.2.2.2.1.ext hE), (hS.2.2.2.2.2.1.ext hE), (hS.2.2.2.2.2.2.1.ext hE), (Nat.le_trans hS.2.2.2.2.2.2.2 (Ext.size hE))⟩) ⟨E0, h24_5, p24_8, h24_1, h25_5, p25_8, h25_1, Nat.le_refl _⟩ (by kernel_rfl) (by kernel_rfl) (by kernel_rfl) (by kernel_rfl) (A := ?A28) ?hA28 ?howe28 ?hfin28
     case hA28 =>
      intro vs
      simp only [putAll, Act.put, List.setIfInBounds_toArray, List.set_cons_zero, List.set_cons_succ, Nat.zero_add, Nat.reduceAdd]
      exact rfl
     case howe28 =>
      clear E0 h24_5 p24_8 h24_1 h25_5 p25_8 h25_1
      intro hf
      refine ⟨owesE 0 [] hf rfl (by kernel_rfl) ?_, owesE 1 [] hf rfl (by kernel_rfl) ?_, owesE 2 [] hf rfl (by kernel_rfl) ?_, owesE 3 [0, 1, 2] hf rfl (by kernel_rfl) ?_, owesE 4 [3] hf rfl (by kernel_rfl) ?_, owesE 5 [4] hf rfl (by kernel_rfl) ?_, owesE 6 [4] hf rfl (by kernel_rfl) ?_, owesE 7 [5] hf rfl (by kernel_rfl) ?_, owesE 8 [6] hf rfl (by kernel_rfl) ?_, trivial⟩
      all_goals intro vs W hS hp hx KO hKO
      all_goals simp only [Act.put, List.setIfInBounds_toArray, List.set_cons_zero, List.set_cons_succ] at hKO
      ·go_simp
       exact hKO _ W (Ext.refl W) rfl
      ·go_simp
       exact hKO _ W (Ext.refl W) rfl
      ·go_simp
       exact hKO _ W (Ext.refl W) rfl
      ·have e0 := isOf hp.1
       have e1 := isOf hp.2.1
       have e2 := isOf hp.2.2.1
       simp only [e0, e1, e2] at hKO
       go_simp
       refine (Try.fixDiv0 a (K : Int) _ HKF.out).mono ?_
       rintro e W1 ⟨rfl, rfl⟩
       exact hKO _ W (Ext.refl W) rfl
      ·have e3 := isOf hp.1
       simp only [e3] at hKO
       go_simp
       exact hKO _ W (Ext.refl W) rfl
      ·have e4 := isOf hp.1
       simp only [e4] at hKO
       go_simp
       exact hKO _ W (Ext.refl W) rfl
      ·have e4 := isOf hp.1
       simp only [e4] at hKO
       go_simp
       exact hKO _ W (Ext.refl W) rfl
      ·have e5 := isOf hp.1
       simp only [e5] at hKO
       go_simp
       exact hKO _ W (Ext.refl W) rfl
      ·have e6 := isOf hp.1
       simp only [e6] at hKO
       go_simp
       exact hKO _ W (Ext.refl W) rfl
     intro vs W28 hS hp
     clear szw28 E0 h24_5 p24_8 h24_1 h25_5 p25_8 h25_1
     obtain ⟨E0, h24_5, p24_8, h24_1, h25_5, p25_8, h25_1, sz28⟩ := hS
     obtain ⟨h28_0, h28_1, h28_2, h28_3, h28_4, h28_5, h28_6, h28_7, h28_8, -⟩ := hp
     replace h28_0 : vs 0 = .int .i64 a := h28_0
     replace h28_1 : vs 1 = .int .i64 0 := h28_1
     replace h28_2 : vs 2 = .int .i64 (K : Int) := h28_2
     replace h28_3 : vs 3 = .tuple #[.int .i64 0, .int .i64 4] := h28_3
     replace h28_4 : vs 4 = .tuple #[.int .i64 0, .int .i64 4] := h28_4
     replace h28_5 : vs 5 = .int .i64 0 := h28_5
     replace h28_6 : vs 6 = .int .i64 4 := h28_6
     replace h28_7 : vs 7 = .int .i64 0 := h28_7
     replace h28_8 : vs 8 = .int .i64 4 := h28_8
     simp only [h28_0, h28_1, h28_2, h28_3, h28_4, h28_5, h28_6, h28_7, h28_8]
     clear h28_0 h28_1 h28_2 h28_3 h28_4 h28_5 h28_6 h28_7 h28_8
     have kp24_8_0 := p24_8.cell0
     have kp24_8_1 := p24_8.cell1
     have kp24_8_2 := p24_8.cell2
     have kp25_8_0 := p25_8.cell0
     have kp25_8_1 := p25_8.cell1
     have kp25_8_2 := p25_8.cell2
     go_wp2_with fail
     clear kp24_8_0 kp24_8_1 kp24_8_2 kp25_8_0 kp25_8_1 kp25_8_2
     refine (Try.alive08 _).mono ?_
     rintro e V8 ⟨rfl, hE⟩
     replace E0 : Ext w V8 := (Ext.trans E0 hE)
     replace h24_5 : Rw V8 (.agg #[.bool b24_8, .slice a24_8 n24_8 c24_8, .slice d24_8 m24_8 o24_8]) ((a : Rat) / P2 K) := (h24_5.ext hE)
     replace p24_8 : Bx3 V8 g24_8 35 (.bool b24_8) (.slice a24_8 n24_8 c24_8) (.slice d24_8 m24_8 o24_8) := (p24_8.ext hE)
     replace h24_1 : Zw V8 u24_1 a := (h24_1.ext hE)
     replace h25_5 : Rw V8 (.agg #[.bool b25_8, .slice a25_8 n25_8 c25_8, .slice d25_8 m25_8 o25_8]) (((0 : Int) : Rat) / P2 K) := (h25_5.ext hE)
     replace p25_8 : Bx3 V8 g25_8 35 (.bool b25_8) (.slice a25_8 n25_8 c25_8) (.slice d25_8 m25_8 o25_8) := (p25_8.ext hE)
     replace h25_1 : Zw V8 u25_1 ((0 : Int)) := (h25_1.ext hE)
     clear hE
     have kp24_8_0 := p24_8.cell0
     have kp24_8_1 := p24_8.cell1
     have kp24_8_2 := p24_8.cell2
     have kp25_8_0 := p25_8.cell0
     have kp25_8_1 := p25_8.cell1
     have kp25_8_2 := p25_8.cell2
     go_wp2
     go_ret
     exact ⟨rfl, E0⟩
    ·have HB0 : Hid (b ≠ 0 ∧ (b : Rat) ≠ 0) := Lib.hid ⟨hb0, by exact_mod_cast hb0⟩
     have hb0d : (b == 0) = false := beq_eq_false_iff_ne.2 hb0
     have HY0 : Hid ((b : Rat) / P2 K ≠ 0) := Lib.hid (fun e => HB0.out.2 (by have h := Rat.div_mul_cancel (a := (b : Rat)) (P2_ne K); rw [e, Rat.zero_mul] at h; exact h.symm))
     have SQ : Hid (SmR 10 ((a : Rat) / P2 K / ((b : Rat) / P2 K))) := Lib.hid ((SX.out.div SY.out HY0.out).mono (by omega))
     have SQA : Hid (SmR 10 (Rat.abs ((a : Rat) / P2 K / ((b : Rat) / P2 K)))) := Lib.hid (SmR.abs SQ.out)
     have SMO : Hid (SmR 10 (((9223372036854775807 : Int) : Rat) / P2 K)) := Lib.hid ((SmR.backP S3.out (by have := HK.out; omega)).mono (by omega))
     have hDq : nearR ((a : Rat) / P2 K / ((b : Rat) / P2 K) * P2 K) = nearR (((a * ((2 ^ K : Nat) : Int) : Int) : Rat) / (b : Rat)) := by rw [quot_back a b K HB0.out.2, div_scaled]
     clear hb0
     obtain ⟨D, hD⟩ : ∃ D, nearR (((a * ((2 ^ K : Nat) : Int) : Int) : Rat) / (b : Rat)) = D := ⟨_, rfl⟩
     have HD := Lib.hid hD
     rw [hD] at hDq
     have HDQ := Lib.hid hDq
     clear hD hDq
     obtain he | he := fitE_2 (a := D)
     ·have HVD : Hid (fitV (nearR (((a * ((2 ^ K : Nat) : Int) : Int) : Rat) / (b : Rat))) = D) := Lib.hid (by rw [HD.out]; exact fitE_0 he)
      have HED : Hid (fitE (nearR (((a * ((2 ^ K : Nat) : Int) : Int) : Rat) / (b : Rat))) = 0) := Lib.hid (by rw [HD.out]; exact he)
      have HDF : Hid (-9223372036854775808 ≤ D ∧ D < 9223372036854775808) := Lib.hid (by
       have h2 : fits D = true := by cases hh : fits D; rw [fitE_out hh] at he; cases he; rfl
       exact fits_iff.1 h2)
      have HDN : Hid (Rat.abs ((D : Rat) / P2 K - (a : Rat) / P2 K / ((b : Rat) / P2 K)) ≤ ((1 : Int) : Rat) / P2 (K + 1)) := Lib.hid (by have := half_near ((a : Rat) / P2 K / ((b : Rat) / P2 K)) K; rw [HDQ.out] at this; exact this)
      clear he HD
      obtain ⟨W0, hW0⟩ : ∃ W0, W0 = w := ⟨_, rfl⟩
      have E0 : Ext w W0 := by rw [hW0]; exact Ext.refl w
      go_enter Try.func4, Try.ntmps4
      go_upto_region 5 with (fail)
      rw [← hW0]
      clear hW0
      have szw29 := Ext.size E0
      refine region_go [.one fun v _ => v = .int .i64 a,
        .one fun v W => Zw W v a,
        .one fun v _ => v = .int .i64 (K : Int),
        .one fun v W => ∃ v', v = .tuple #[v', .int .i64 0] ∧ (fun v W => Rw W v ((a : Rat) / P2 K)) v' W,
        .one fun v W => ∃ v', v = .tuple #[v', .int .i64 0] ∧ (fun v W => Rw W v ((a : Rat) / P2 K)) v' W,
        .one fun v W => Rw W v ((a : Rat) / P2 K),
        .one fun v _ => v = .int .i64 0,
        .one fun v W => ∃ g, v = .pointer (some ⟨g, 0, none⟩) ∧ W0.heap.size ≤ g ∧ Form W g 35 3,
        .three 7 5 (fun p r _ W => Put3 W0.heap.size 35 p r W),
        .one fun v _ => v = .int .i64 0]
       (fun W => Ext w W ∧ W0.heap.size ≤ W.heap.size) ⟨Good.is _, Good.zed _, Good.is _, (Good.rat _).tup _, (Good.rat _).tup _, Good.rat _, Good.is _, Good.box _ _ _, cert_put3, Good.is _, trivial⟩
       (fun W W1 hS hE => ⟨(Ext.trans hS.1 hE), (Nat.le_trans hS.2 (Ext.size hE))⟩) ⟨E0, Nat.le_refl _⟩ (by kernel_rfl) (by kernel_rfl) (by kernel_rfl) (by kernel_rfl) (A := ?A29) ?hA29 ?howe29 ?hfin29
      case hA29 =>
       intro vs
       simp only [putAll, Act.put, List.setIfInBounds_toArray, List.set_cons_zero, List.set_cons_succ, Nat.zero_add, Nat.reduceAdd]
       exact rfl
      case howe29 =>
       clear E0
       intro hf
       refine ⟨owesE 0 [] hf rfl (by kernel_rfl) ?_, owesE 1 [0] hf rfl (by kernel_rfl) ?_, owesE 2 [] hf rfl (by kernel_rfl) ?_, owesE 3 [1, 2] hf rfl (by kernel_rfl) ?_, owesE 4 [3] hf rfl (by kernel_rfl) ?_, owesE 5 [4] hf rfl (by kernel_rfl) ?_, owesE 6 [4] hf rfl (by kernel_rfl) ?_, owesE 7 [] hf rfl (by kernel_rfl) ?_, owesW 8 [7, 5] hf rfl (by kernel_rfl) (by kernel_rfl) ?_, owesE 9 [6] hf rfl (by kernel_rfl) ?_, trivial⟩
       all_goals intro vs W hS hp hx KO hKO
       all_goals simp only [Act.put, List.setIfInBounds_toArray, List.set_cons_zero, List.set_cons_succ] at hKO
       ·go_simp
        exact hKO _ W (Ext.refl W) rfl
       ·have e0 := isOf hp.1
        simp only [e0] at hKO
        go_simp
        refine (Try.refZOf a _ HB.out.1.1 HB.out.1.2).mono ?_
        rintro e W1 ⟨v, rfl, hv, hE⟩
        exact hKO _ W1 hE hv
       ·go_simp
        exact hKO _ W (Ext.refl W) rfl
       ·have q1 := hp.1
        have e2 := isOf hp.2.1
        simp only [e2] at hKO
        go_simp
        refine (Try.refBack q1 S1.out (by omega) K HK.out.2).mono ?_
        rintro e W1 ⟨v, rfl, hv, hE⟩
        exact hKO _ W1 hE ⟨_, rfl, hv⟩
       ·have q3 := hp.1
        obtain ⟨u, ev, hu⟩ := q3
        replace ev : vs 3 = _ := ev
        simp only [ev] at hKO
        go_simp
        exact hKO _ W (Ext.refl W) ⟨u, rfl, hu⟩
       ·have q4 := hp.1
        obtain ⟨u, ev, hu⟩ := q4
        replace ev : vs 4 = _ := ev
        simp only [ev] at hKO
        go_simp
        exact hKO _ W (Ext.refl W) hu
       ·have q4 := hp.1
        obtain ⟨u, ev, hu⟩ := q4
        replace ev : vs 4 = _ := ev
        simp only [ev] at hKO
        go_simp
        exact hKO _ W (Ext.refl W) rfl
       ·have hn := Bx3.new W 35 (.bool false) (.slice none 0 0) (.slice none 0 0)
        have hE := Ext.alloc1 W (.cells #[.bool false, .slice none 0 0, .slice none 0 0] 35)
        have hsz := hS.2
        go_simp
        exact hKO _ _ hE ⟨_, rfl, hsz, hn.form⟩
       ·have q7 := hp.1
        have q5 := hp.2.1
        obtain ⟨g, ev, hg, hf⟩ := q7
        replace ev : vs 7 = _ := ev
        obtain ⟨x0, y0, z0, hx, hno⟩ := hf.bx3
        have qr := q5
        obtain ⟨b3, a3, n3, c3, d3, m3, o3, er, -, -, -⟩ := qr
        replace er : vs 5 = _ := er
        have r0 := hx.froz0
        have t0 := hx.cell0
        have r1 := hx.froz1
        have t1 := hx.cell1
        have r2 := hx.froz2
        have t2 := hx.cell2
        have hw := Wr.set3 hx hno b3 a3 n3 c3 d3 m3 o3
        have hq := hx.set (.bool b3) (.slice a3 n3 c3) (.slice d3 m3 o3)
        simp only [ev, er] at hKO
        go_simp
        exact hKO _ _ hw ⟨(Ext.wr hS.1 hw (by omega)), (Nat.le_trans hS.2 hw.apart.size)⟩ ⟨g, b3, a3, n3, c3, d3, m3, o3, ev, er, hg, hq⟩
       ·have e6 := isOf hp.1
        simp only [e6] at hKO
        go_simp
        exact hKO _ W (Ext.refl W) rfl
      intro vs W29 hS hp
      clear szw29 E0
      obtain ⟨E0, sz29⟩ := hS
      obtain ⟨h29_0, h29_1, h29_2, h29_3, h29_4, h29_5, h29_6, h29_7, h29_8, h29_9, -⟩ := hp
      obtain ⟨g29_8, b29_8, a29_8, n29_8, c29_8, d29_8, m29_8, o29_8, ev29_8, er29_8, hg29_8, p29_8⟩ := h29_8
      replace ev29_8 : vs 7 = _ := ev29_8
      replace er29_8 : vs 5 = _ := er29_8
      replace h29_5 := (show Rw W29 (vs 5) ((a : Rat) / P2 K) from h29_5)
      rw [er29_8] at h29_5
      replace h29_0 : vs 0 = .int .i64 a := h29_0
      replace h29_2 : vs 2 = .int .i64 (K : Int) := h29_2
      replace h29_6 : vs 6 = .int .i64 0 := h29_6
      replace h29_9 : vs 9 = .int .i64 0 := h29_9
      simp only [ev29_8, er29_8, h29_0, h29_2, h29_6, h29_9]
      replace h29_1 : Zw W29 (vs 1) a := h29_1
      generalize vs 1 = u29_1 at h29_1 ⊢
      clear ev29_8 er29_8 h29_0 h29_2 h29_6 h29_9 h29_3 h29_4 h29_7
      have kp29_8_0 := p29_8.cell0
      have kp29_8_1 := p29_8.cell1
      have kp29_8_2 := p29_8.cell2
      go_upto_region 6 with (fail)
      clear kp29_8_0 kp29_8_1 kp29_8_2
      have ltp29_8 := p29_8.lt
      have szw30 := Ext.size E0
      refine region_go [.one fun v _ => v = .int .i64 b,
        .one fun v W => Zw W v b,
        .one fun v _ => v = .int .i64 (K : Int),
        .one fun v W => ∃ v', v = .tuple #[v', .int .i64 0] ∧ (fun v W => Rw W v ((b : Rat) / P2 K)) v' W,
        .one fun v W => ∃ v', v = .tuple #[v', .int .i64 0] ∧ (fun v W => Rw W v ((b : Rat) / P2 K)) v' W,
        .one fun v W => Rw W v ((b : Rat) / P2 K),
        .one fun v _ => v = .int .i64 0,
        .one fun v W => ∃ g, v = .pointer (some ⟨g, 0, none⟩) ∧ W29.heap.size ≤ g ∧ Form W g 35 3,
        .three 7 5 (fun p r _ W => Put3 W29.heap.size 35 p r W),
        .one fun v _ => v = .int .i64 0]
       (fun W => Ext w W ∧ Rw W (.agg #[.bool b29_8, .slice a29_8 n29_8 c29_8, .slice d29_8 m29_8 o29_8]) ((a : Rat) / P2 K) ∧ Bx3 W g29_8 35 (.bool b29_8) (.slice a29_8 n29_8 c29_8) (.slice d29_8 m29_8 o29_8) ∧ Zw W u29_1 a ∧ W29.heap.size ≤ W.heap.size) ⟨Good.is _, Good.zed _, Good.is _, (Good.rat _).tup _, (Good.rat _).tup _, Good.rat _, Good.is _, Good.box _ _ _, cert_put3, Good.is _, trivial⟩
       (fun W W1 hS hE => ⟨(Ext.trans hS.1 hE), (hS.2.1.ext hE), (hS.2.2.1.ext hE), (hS.2.2.2.1.ext hE), (Nat.le_trans hS.2.2.2.2 (Ext.size hE))⟩) ⟨E0, h29_5, p29_8, h29_1, Nat.le_refl _⟩ (by kernel_rfl) (by kernel_rfl) (by kernel_rfl) (by kernel_rfl) (A := ?A30) ?hA30 ?howe30 ?hfin30
      case hA30 =>
       intro vs
       simp only [putAll, Act.put, List.setIfInBounds_toArray, List.set_cons_zero, List.set_cons_succ, Nat.zero_add, Nat.reduceAdd]
       exact rfl
      case howe30 =>
       clear E0 h29_5 p29_8 h29_1
       intro hf
       refine ⟨owesE 0 [] hf rfl (by kernel_rfl) ?_, owesE 1 [0] hf rfl (by kernel_rfl) ?_, owesE 2 [] hf rfl (by kernel_rfl) ?_, owesE 3 [1, 2] hf rfl (by kernel_rfl) ?_, owesE 4 [3] hf rfl (by kernel_rfl) ?_, owesE 5 [4] hf rfl (by kernel_rfl) ?_, owesE 6 [4] hf rfl (by kernel_rfl) ?_, owesE 7 [] hf rfl (by kernel_rfl) ?_, owesW 8 [7, 5] hf rfl (by kernel_rfl) (by kernel_rfl) ?_, owesE 9 [6] hf rfl (by kernel_rfl) ?_, trivial⟩
       all_goals intro vs W hS hp hx KO hKO
       all_goals simp only [Act.put, List.setIfInBounds_toArray, List.set_cons_zero, List.set_cons_succ] at hKO
       ·go_simp
        exact hKO _ W (Ext.refl W) rfl
       ·have e0 := isOf hp.1
        simp only [e0] at hKO
        go_simp
        refine (Try.refZOf b _ HB.out.2.1 HB.out.2.2).mono ?_
        rintro e W1 ⟨v, rfl, hv, hE⟩
        exact hKO _ W1 hE hv
       ·go_simp
        exact hKO _ W (Ext.refl W) rfl
       ·have q1 := hp.1
        have e2 := isOf hp.2.1
        simp only [e2] at hKO
        go_simp
        refine (Try.refBack q1 S2.out (by omega) K HK.out.2).mono ?_
        rintro e W1 ⟨v, rfl, hv, hE⟩
        exact hKO _ W1 hE ⟨_, rfl, hv⟩
       ·have q3 := hp.1
        obtain ⟨u, ev, hu⟩ := q3
        replace ev : vs 3 = _ := ev
        simp only [ev] at hKO
        go_simp
        exact hKO _ W (Ext.refl W) ⟨u, rfl, hu⟩
       ·have q4 := hp.1
        obtain ⟨u, ev, hu⟩ := q4
        replace ev : vs 4 = _ := ev
        simp only [ev] at hKO
        go_simp
        exact hKO _ W (Ext.refl W) hu
       ·have q4 := hp.1
        obtain ⟨u, ev, hu⟩ := q4
        replace ev : vs 4 = _ := ev
        simp only [ev] at hKO
        go_simp
        exact hKO _ W (Ext.refl W) rfl
       ·have hn := Bx3.new W 35 (.bool false) (.slice none 0 0) (.slice none 0 0)
        have hE := Ext.alloc1 W (.cells #[.bool false, .slice none 0 0, .slice none 0 0] 35)
        have hsz := hS.2.2.2.2
        go_simp
        exact hKO _ _ hE ⟨_, rfl, hsz, hn.form⟩
       ·have q7 := hp.1
        have q5 := hp.2.1
        obtain ⟨g, ev, hg, hf⟩ := q7
        replace ev : vs 7 = _ := ev
        obtain ⟨x0, y0, z0, hx, hno⟩ := hf.bx3
        have qr := q5
        obtain ⟨b3, a3, n3, c3, d3, m3, o3, er, -, -, -⟩ := qr
        replace er : vs 5 = _ := er
        have r0 := hx.froz0
        have t0 := hx.cell0
        have r1 := hx.froz1
        have t1 := hx.cell1
        have r2 := hx.froz2
        have t2 := hx.cell2
        have hw := Wr.set3 hx hno b3 a3 n3 c3 d3 m3 o3
        have hq := hx.set (.bool b3) (.slice a3 n3 c3) (.slice d3 m3 o3)
        simp only [ev, er] at hKO
        go_simp
        exact hKO _ _ hw ⟨(Ext.wr hS.1 hw (by omega)), (hS.2.1.wr hw), (hS.2.2.1.wr hw (by omega)), (hS.2.2.2.1.wr hw), (Nat.le_trans hS.2.2.2.2 hw.apart.size)⟩ ⟨g, b3, a3, n3, c3, d3, m3, o3, ev, er, hg, hq⟩
       ·have e6 := isOf hp.1
        simp only [e6] at hKO
        go_simp
        exact hKO _ W (Ext.refl W) rfl
      intro vs W30 hS hp
      clear szw30 E0 h29_5 p29_8 h29_1
      obtain ⟨E0, h29_5, p29_8, h29_1, sz30⟩ := hS
      obtain ⟨h30_0, h30_1, h30_2, h30_3, h30_4, h30_5, h30_6, h30_7, h30_8, h30_9, -⟩ := hp
      obtain ⟨g30_8, b30_8, a30_8, n30_8, c30_8, d30_8, m30_8, o30_8, ev30_8, er30_8, hg30_8, p30_8⟩ := h30_8
      replace ev30_8 : vs 7 = _ := ev30_8
      replace er30_8 : vs 5 = _ := er30_8
      replace h30_5 := (show Rw W30 (vs 5) ((b : Rat) / P2 K) from h30_5)
      rw [er30_8] at h30_5
      replace h30_0 : vs 0 = .int .i64 b := h30_0
      replace h30_2 : vs 2 = .int .i64 (K : Int) := h30_2
      replace h30_6 : vs 6 = .int .i64 0 := h30_6
      replace h30_9 : vs 9 = .int .i64 0 := h30_9
      simp only [ev30_8, er30_8, h30_0, h30_2, h30_6, h30_9]
      replace h30_1 : Zw W30 (vs 1) b := h30_1
      generalize vs 1 = u30_1 at h30_1 ⊢
      clear ev30_8 er30_8 h30_0 h30_2 h30_6 h30_9 h30_3 h30_4 h30_7
      have kp29_8_0 := p29_8.cell0
      have kp29_8_1 := p29_8.cell1
      have kp29_8_2 := p29_8.cell2
      have kp30_8_0 := p30_8.cell0
      have kp30_8_1 := p30_8.cell1
      have kp30_8_2 := p30_8.cell2
      go_upto_region 7 with (fail)
      clear kp29_8_0 kp29_8_1 kp29_8_2 kp30_8_0 kp30_8_1 kp30_8_2
      have ltp30_8 := p30_8.lt
      have szw31 := Ext.size E0
      refine region_go [.one fun v _ => v = .int .i64 a,
        .one fun v _ => v = .int .i64 b,
        .one fun v _ => v = .int .i64 (K : Int),
        .one fun v _ => v = .tuple #[.int .i64 0, .int .i64 2],
        .one fun v _ => v = .tuple #[.int .i64 0, .int .i64 2],
        .one fun v _ => v = .int .i64 0,
        .one fun v _ => v = .int .i64 2,
        .one fun v _ => v = .int .i64 0,
        .one fun v _ => v = .int .i64 2]
       (fun W => Ext w W ∧ Rw W (.agg #[.bool b29_8, .slice a29_8 n29_8 c29_8, .slice d29_8 m29_8 o29_8]) ((a : Rat) / P2 K) ∧ Bx3 W g29_8 35 (.bool b29_8) (.slice a29_8 n29_8 c29_8) (.slice d29_8 m29_8 o29_8) ∧ Zw W u29_1 a ∧ Rw W (.agg #[.bool b30_8, .slice a30_8 n30_8 c30_8, .slice d30_8 m30_8 o30_8]) ((b : Rat) / P2 K) ∧ Bx3 W g30_8 35 (.bool b30_8) (.slice a30_8 n30_8 c30_8) (.slice d30_8 m30_8 o30_8) ∧ Zw W u30_1 b ∧ W30.heap.size ≤ W.heap.size) ⟨Good.is _, Good.is _, Good.is _, Good.is _, Good.is _, Good.is _, Good.is _, Good.is _, Good.is _, trivial⟩
       (fun W W1 hS hE => ⟨(Ext.trans hS.1 hE), (hS.2.1.ext hE), (hS.2.2.1.ext hE), (hS.2.2.2.1.ext hE), (hS.2.2.2.2.1.ext hE), (hS.2.2.2.2.2.1.ext hE), (hS.2.2.2.2.2.2.1.ext hE), (Nat.le_trans hS.2.2.2.2.2.2.2 (Ext.size hE))⟩) ⟨E0, h29_5, p29_8, h29_1, h30_5, p30_8, h30_1, Nat.le_refl _⟩ (by kernel_rfl) (by kernel_rfl) (by kernel_rfl) (by kernel_rfl) (A := ?A31) ?hA31 ?howe31 ?hfin31
      case hA31 =>
       intro vs
       simp only [putAll, Act.put, List.setIfInBounds_toArray, List.set_cons_zero, List.set_cons_succ, Nat.zero_add, Nat.reduceAdd]
       exact rfl
      case howe31 =>
       clear E0 h29_5 p29_8 h29_1 h30_5 p30_8 h30_1
       intro hf
       refine ⟨owesE 0 [] hf rfl (by kernel_rfl) ?_, owesE 1 [] hf rfl (by kernel_rfl) ?_, owesE 2 [] hf rfl (by kernel_rfl) ?_, owesE 3 [0, 1, 2] hf rfl (by kernel_rfl) ?_, owesE 4 [3] hf rfl (by kernel_rfl) ?_, owesE 5 [4] hf rfl (by kernel_rfl) ?_, owesE 6 [4] hf rfl (by kernel_rfl) ?_, owesE 7 [5] hf rfl (by kernel_rfl) ?_, owesE 8 [6] hf rfl (by kernel_rfl) ?_, trivial⟩
       all_goals intro vs W hS hp hx KO hKO
       all_goals simp only [Act.put, List.setIfInBounds_toArray, List.set_cons_zero, List.set_cons_succ] at hKO
       ·go_simp
        exact hKO _ W (Ext.refl W) rfl
       ·go_simp
        exact hKO _ W (Ext.refl W) rfl
       ·go_simp
        exact hKO _ W (Ext.refl W) rfl
       ·have e0 := isOf hp.1
        have e1 := isOf hp.2.1
        have e2 := isOf hp.2.2.1
        simp only [e0, e1, e2] at hKO
        go_simp
        refine (Try.fixMulV a b K HK.out.1 _ HB.out.1.1 HB.out.1.2 HB.out.2.1 HB.out.2.2 HVM.out HEM.out).mono ?_
        rintro e W1 ⟨rfl, hE⟩
        exact hKO _ W1 hE rfl
       ·have e3 := isOf hp.1
        simp only [e3] at hKO
        go_simp
        exact hKO _ W (Ext.refl W) rfl
       ·have e4 := isOf hp.1
        simp only [e4] at hKO
        go_simp
        exact hKO _ W (Ext.refl W) rfl
       ·have e4 := isOf hp.1
        simp only [e4] at hKO
        go_simp
        exact hKO _ W (Ext.refl W) rfl
       ·have e5 := isOf hp.1
        simp only [e5] at hKO
        go_simp
        exact hKO _ W (Ext.refl W) rfl
       ·have e6 := isOf hp.1
        simp only [e6] at hKO
        go_simp
        exact hKO _ W (Ext.refl W) rfl
      intro vs W31 hS hp
      clear szw31 E0 h29_5 p29_8 h29_1 h30_5 p30_8 h30_1
      obtain ⟨E0, h29_5, p29_8, h29_1, h30_5, p30_8, h30_1, sz31⟩ := hS
      obtain ⟨h31_0, h31_1, h31_2, h31_3, h31_4, h31_5, h31_6, h31_7, h31_8, -⟩ := hp
      replace h31_0 : vs 0 = .int .i64 a := h31_0
      replace h31_1 : vs 1 = .int .i64 b := h31_1
      replace h31_2 : vs 2 = .int .i64 (K : Int) := h31_2
      replace h31_3 : vs 3 = .tuple #[.int .i64 0, .int .i64 2] := h31_3
      replace h31_4 : vs 4 = .tuple #[.int .i64 0, .int .i64 2] := h31_4
      replace h31_5 : vs 5 = .int .i64 0 := h31_5
      replace h31_6 : vs 6 = .int .i64 2 := h31_6
      replace h31_7 : vs 7 = .int .i64 0 := h31_7
      replace h31_8 : vs 8 = .int .i64 2 := h31_8
      simp only [h31_0, h31_1, h31_2, h31_3, h31_4, h31_5, h31_6, h31_7, h31_8]
      clear h31_0 h31_1 h31_2 h31_3 h31_4 h31_5 h31_6 h31_7 h31_8
      have kp29_8_0 := p29_8.cell0
      have kp29_8_1 := p29_8.cell1
      have kp29_8_2 := p29_8.cell2
      have kp30_8_0 := p30_8.cell0
      have kp30_8_1 := p30_8.cell1
      have kp30_8_2 := p30_8.cell2
      go_upto_region 8 with (fail)
      clear kp29_8_0 kp29_8_1 kp29_8_2 kp30_8_0 kp30_8_1 kp30_8_2
      have szw32 := Ext.size E0
      refine region_go [.one fun v _ => v = .int .i64 2,
        .one fun v _ => v = .bool false,
        .one fun v _ => v = .bool false,
        .one fun v _ => v = undef,
        .one fun v _ => v = undef,
        .one fun v _ => v = undef,
        .one fun v _ => v = undef,
        .one fun v _ => v = undef,
        .one fun v _ => v = undef,
        .one fun v _ => v = undef,
        .one fun v _ => v = .bool false,
        .one fun v _ => v = .bool false,
        .one fun v _ => v = .int .i64 2,
        .one fun v _ => v = .bool true,
        .one fun v _ => v = .bool true,
        .one fun v _ => v = .int .i64 2,
        .one fun v _ => v = .bool false,
        .one fun v _ => v = .bool false,
        .one fun v _ => v = .int .i64 0,
        .one fun v _ => v = .bool false,
        .one fun v _ => v = .bool false,
        .one fun v _ => v = .bool false,
        .one fun v _ => v = .bool false]
       (fun W => Ext w W ∧ Rw W (.agg #[.bool b29_8, .slice a29_8 n29_8 c29_8, .slice d29_8 m29_8 o29_8]) ((a : Rat) / P2 K) ∧ Bx3 W g29_8 35 (.bool b29_8) (.slice a29_8 n29_8 c29_8) (.slice d29_8 m29_8 o29_8) ∧ Zw W u29_1 a ∧ Rw W (.agg #[.bool b30_8, .slice a30_8 n30_8 c30_8, .slice d30_8 m30_8 o30_8]) ((b : Rat) / P2 K) ∧ Bx3 W g30_8 35 (.bool b30_8) (.slice a30_8 n30_8 c30_8) (.slice d30_8 m30_8 o30_8) ∧ Zw W u30_1 b ∧ W31.heap.size ≤ W.heap.size) ⟨Good.is _, Good.is _, Good.is _, Good.is _, Good.is _, Good.is _, Good.is _, Good.is _, Good.is _, Good.is _, Good.is _, Good.is _, Good.is _, Good.is _, Good.is _, Good.is _, Good.is _, Good.is _, Good.is _, Good.is _, Good.is _, Good.is _, Good.is _, trivial⟩
       (fun W W1 hS hE => ⟨(Ext.trans hS.1 hE), (hS.2.1.ext hE), (hS.2.2.1.ext hE), (hS.2.2.2.1.ext hE), (hS.2.2.2.2.1.ext hE), (hS.2.2.2.2.2.1.ext hE), (hS.2.2.2.2.2.2.1.ext hE), (Nat.le_trans hS.2.2.2.2.2.2.2 (Ext.size hE))⟩) ⟨E0, h29_5, p29_8, h29_1, h30_5, p30_8, h30_1, Nat.le_refl _⟩ (by kernel_rfl) (by kernel_rfl) (by kernel_rfl) (by kernel_rfl) (A := ?A32) ?hA32 ?howe32 ?hfin32
      case hA32 =>
       intro vs
       simp only [putAll, Act.put, List.setIfInBounds_toArray, List.set_cons_zero, List.set_cons_succ, Nat.zero_add, Nat.reduceAdd]
       exact rfl
      case howe32 =>
       clear E0 h29_5 p29_8 h29_1 h30_5 p30_8 h30_1
       intro hf
       refine ⟨owesE 0 [] hf rfl (by kernel_rfl) ?_, owesE 1 [0] hf rfl (by kernel_rfl) ?_, owesE 2 [1] hf rfl (by kernel_rfl) ?_, owesE 3 [2] hf rfl (by kernel_rfl) ?_, owesE 4 [2] hf rfl (by kernel_rfl) ?_, owesE 5 [2] hf rfl (by kernel_rfl) ?_, owesE 6 [2] hf rfl (by kernel_rfl) ?_, owesE 7 [2] hf rfl (by kernel_rfl) ?_, owesE 8 [2] hf rfl (by kernel_rfl) ?_, owesE 9 [2] hf rfl (by kernel_rfl) ?_, owesE 10 [2, 9] hf rfl (by kernel_rfl) ?_, owesE 11 [10] hf rfl (by kernel_rfl) ?_, owesE 12 [11] hf rfl (by kernel_rfl) ?_, owesE 13 [11, 12] hf rfl (by kernel_rfl) ?_, owesE 14 [11, 13] hf rfl (by kernel_rfl) ?_, owesE 15 [14] hf rfl (by kernel_rfl) ?_, owesE 16 [14, 15] hf rfl (by kernel_rfl) ?_, owesE 17 [14, 16] hf rfl (by kernel_rfl) ?_, owesE 18 [17] hf rfl (by kernel_rfl) ?_, owesE 19 [17, 18] hf rfl (by kernel_rfl) ?_, owesE 20 [14, 17, 19] hf rfl (by kernel_rfl) ?_, owesE 21 [11, 14, 20] hf rfl (by kernel_rfl) ?_, owesE 22 [11, 21] hf rfl (by kernel_rfl) ?_, trivial⟩
       all_goals intro vs W hS hp hx KO hKO
       all_goals simp only [Act.put, List.setIfInBounds_toArray, List.set_cons_zero, List.set_cons_succ] at hKO
       ·go_simp
        exact hKO _ W (Ext.refl W) rfl
       ·have e0 := isOf hp.1
        simp only [e0] at hKO
        go_simp
        exact hKO _ W (Ext.refl W) rfl
       ·have e1 := isOf hp.1
        simp only [e1] at hKO
        go_simp
        exact hKO _ W (Ext.refl W) rfl
       ·have e2 := isOf hp.1
        simp only [e2] at hKO
        go_simp
        exact hKO _ W (Ext.refl W) rfl
       ·have e2 := isOf hp.1
        simp only [e2] at hKO
        go_simp
        exact hKO _ W (Ext.refl W) rfl
       ·have e2 := isOf hp.1
        simp only [e2] at hKO
        go_simp
        exact hKO _ W (Ext.refl W) rfl
       ·have e2 := isOf hp.1
        simp only [e2] at hKO
        go_simp
        exact hKO _ W (Ext.refl W) rfl
       ·have e2 := isOf hp.1
        simp only [e2] at hKO
        go_simp
        exact hKO _ W (Ext.refl W) rfl
       ·have e2 := isOf hp.1
        simp only [e2] at hKO
        go_simp
        exact hKO _ W (Ext.refl W) rfl
       ·have e2 := isOf hp.1
        simp only [e2] at hKO
        go_simp
        exact hKO _ W (Ext.refl W) rfl
       ·have e2 := isOf hp.1
        have e9 := isOf hp.2.1
        simp only [e2, e9] at hKO
        go_simp
        exact hKO _ W (Ext.refl W) rfl
       ·have e10 := isOf hp.1
        simp only [e10] at hKO
        go_simp
        exact hKO _ W (Ext.refl W) rfl
       ·have e11 := isOf hp.1
        simp only [e11] at hKO
        go_simp
        exact hKO _ W (Ext.refl W) rfl
       ·have e11 := isOf hp.1
        have e12 := isOf hp.2.1
        simp only [e11, e12] at hKO
        go_simp
        exact hKO _ W (Ext.refl W) rfl
       ·have e11 := isOf hp.1
        have e13 := isOf hp.2.1
        simp only [e11, e13] at hKO
        go_simp
        exact hKO _ W (Ext.refl W) rfl
       ·have e14 := isOf hp.1
        simp only [e14] at hKO
        go_simp
        exact hKO _ W (Ext.refl W) rfl
       ·have e14 := isOf hp.1
        have e15 := isOf hp.2.1
        simp only [e14, e15] at hKO
        go_simp
        exact hKO _ W (Ext.refl W) rfl
       ·have e14 := isOf hp.1
        have e16 := isOf hp.2.1
        simp only [e14, e16] at hKO
        go_simp
        exact hKO _ W (Ext.refl W) rfl
       ·have e17 := isOf hp.1
        simp only [e17] at hKO
        go_simp
        exact hKO _ W (Ext.refl W) rfl
       ·have e17 := isOf hp.1
        have e18 := isOf hp.2.1
        simp only [e17, e18] at hKO
        go_simp
        exact hKO _ W (Ext.refl W) rfl
       ·have e14 := isOf hp.1
        have e17 := isOf hp.2.1
        have e19 := isOf hp.2.2.1
        simp only [e14, e17, e19] at hKO
        go_simp
        exact hKO _ W (Ext.refl W) rfl
       ·have e11 := isOf hp.1
        have e14 := isOf hp.2.1
        have e20 := isOf hp.2.2.1
        simp only [e11, e14, e20] at hKO
        go_simp
        exact hKO _ W (Ext.refl W) rfl
       ·have e11 := isOf hp.1
        have e21 := isOf hp.2.1
        simp only [e11, e21] at hKO
        go_simp
        exact hKO _ W (Ext.refl W) rfl
      intro vs W32 hS hp
      clear szw32 E0 h29_5 p29_8 h29_1 h30_5 p30_8 h30_1
      obtain ⟨E0, h29_5, p29_8, h29_1, h30_5, p30_8, h30_1, sz32⟩ := hS
      obtain ⟨h32_0, h32_1, h32_2, h32_3, h32_4, h32_5, h32_6, h32_7, h32_8, h32_9, h32_10, h32_11, h32_12, h32_13, h32_14, h32_15, h32_16, h32_17, h32_18, h32_19, h32_20, h32_21, h32_22, -⟩ := hp
      replace h32_0 : vs 0 = .int .i64 2 := h32_0
      replace h32_1 : vs 1 = .bool false := h32_1
      replace h32_2 : vs 2 = .bool false := h32_2
      replace h32_3 : vs 3 = undef := h32_3
      replace h32_4 : vs 4 = undef := h32_4
      replace h32_5 : vs 5 = undef := h32_5
      replace h32_6 : vs 6 = undef := h32_6
      replace h32_7 : vs 7 = undef := h32_7
      replace h32_8 : vs 8 = undef := h32_8
      replace h32_9 : vs 9 = undef := h32_9
      replace h32_10 : vs 10 = .bool false := h32_10
      replace h32_11 : vs 11 = .bool false := h32_11
      replace h32_12 : vs 12 = .int .i64 2 := h32_12
      replace h32_13 : vs 13 = .bool true := h32_13
      replace h32_14 : vs 14 = .bool true := h32_14
      replace h32_15 : vs 15 = .int .i64 2 := h32_15
      replace h32_16 : vs 16 = .bool false := h32_16
      replace h32_17 : vs 17 = .bool false := h32_17
      replace h32_18 : vs 18 = .int .i64 0 := h32_18
      replace h32_19 : vs 19 = .bool false := h32_19
      replace h32_20 : vs 20 = .bool false := h32_20
      replace h32_21 : vs 21 = .bool false := h32_21
      replace h32_22 : vs 22 = .bool false := h32_22
      simp only [h32_0, h32_1, h32_2, h32_3, h32_4, h32_5, h32_6, h32_7, h32_8, h32_9, h32_10, h32_11, h32_12, h32_13, h32_14, h32_15, h32_16, h32_17, h32_18, h32_19, h32_20, h32_21, h32_22]
      clear h32_0 h32_1 h32_2 h32_3 h32_4 h32_5 h32_6 h32_7 h32_8 h32_9 h32_10 h32_11 h32_12 h32_13 h32_14 h32_15 h32_16 h32_17 h32_18 h32_19 h32_20 h32_21 h32_22
      have kp29_8_0 := p29_8.cell0
      have kp29_8_1 := p29_8.cell1
      have kp29_8_2 := p29_8.cell2
      have kp30_8_0 := p30_8.cell0
      have kp30_8_1 := p30_8.cell1
      have kp30_8_2 := p30_8.cell2
      go_upto_region 10 with (fail)
      clear kp29_8_0 kp29_8_1 kp29_8_2 kp30_8_0 kp30_8_1 kp30_8_2
      have szw33 := Ext.size E0
      refine region_go [.one fun v _ => v = .int .i64 a,
        .one fun v _ => v = .int .i64 b,
        .one fun v _ => v = .int .i64 (K : Int),
        .one fun v _ => v = .tuple #[.int .i64 D, .int .i64 0],
        .one fun v _ => v = .tuple #[.int .i64 D, .int .i64 0],
        .one fun v _ => v = .int .i64 D,
        .one fun v _ => v = .int .i64 0,
        .one fun v _ => v = .int .i64 D,
        .one fun v _ => v = .int .i64 0]
       (fun W => Ext w W ∧ Rw W (.agg #[.bool b29_8, .slice a29_8 n29_8 c29_8, .slice d29_8 m29_8 o29_8]) ((a : Rat) / P2 K) ∧ Bx3 W g29_8 35 (.bool b29_8) (.slice a29_8 n29_8 c29_8) (.slice d29_8 m29_8 o29_8) ∧ Zw W u29_1 a ∧ Rw W (.agg #[.bool b30_8, .slice a30_8 n30_8 c30_8, .slice d30_8 m30_8 o30_8]) ((b : Rat) / P2 K) ∧ Bx3 W g30_8 35 (.bool b30_8) (.slice a30_8 n30_8 c30_8) (.slice d30_8 m30_8 o30_8) ∧ Zw W u30_1 b ∧ W32.heap.size ≤ W.heap.size) ⟨Good.is _, Good.is _, Good.is _, Good.is _, Good.is _, Good.is _, Good.is _, Good.is _, Good.is _, trivial⟩
       (fun W W1 hS hE => ⟨(Ext.trans hS.1 hE), (hS.2.1.ext hE), (hS.2.2.1.ext hE), (hS.2.2.2.1.ext hE), (hS.2.2.2.2.1.ext hE), (hS.2.2.2.2.2.1.ext hE), (hS.2.2.2.2.2.2.1.ext hE), (Nat.le_trans hS.2.2.2.2.2.2.2 (Ext.size hE))⟩) ⟨E0, h29_5, p29_8, h29_1, h30_5, p30_8, h30_1, Nat.le_refl _⟩ (by kernel_rfl) (by kernel_rfl) (by kernel_rfl) (by kernel_rfl) (A := ?A33) ?hA33 ?howe33 ?hfin33
      case hA33 =>
       intro vs
       simp only [putAll, Act.put, List.setIfInBounds_toArray, List.set_cons_zero, List.set_cons_succ, Nat.zero_add, Nat.reduceAdd]
       exact rfl
      case howe33 =>
       clear E0 h29_5 p29_8 h29_1 h30_5 p30_8 h30_1
       intro hf
       refine ⟨owesE 0 [] hf rfl (by kernel_rfl) ?_, owesE 1 [] hf rfl (by kernel_rfl) ?_, owesE 2 [] hf rfl (by kernel_rfl) ?_, owesE 3 [0, 1, 2] hf rfl (by kernel_rfl) ?_, owesE 4 [3] hf rfl (by kernel_rfl) ?_, owesE 5 [4] hf rfl (by kernel_rfl) ?_, owesE 6 [4] hf rfl (by kernel_rfl) ?_, owesE 7 [5] hf rfl (by kernel_rfl) ?_, owesE 8 [6] hf rfl (by kernel_rfl) ?_, trivial⟩
       all_goals intro vs W hS hp hx KO hKO
       all_goals simp only [Act.put, List.setIfInBounds_toArray, List.set_cons_zero, List.set_cons_succ] at hKO
       ·go_simp
        exact hKO _ W (Ext.refl W) rfl
       ·go_simp
        exact hKO _ W (Ext.refl W) rfl
       ·go_simp
        exact hKO _ W (Ext.refl W) rfl
       ·have e0 := isOf hp.1
        have e1 := isOf hp.2.1
        have e2 := isOf hp.2.2.1
        simp only [e0, e1, e2] at hKO
        go_simp
        refine (Try.fixDivV a b K HK.out.1 _ HB.out.1.1 HB.out.1.2 HB.out.2.1 HB.out.2.2 HB0.out.1 HVD.out HED.out).mono ?_
        rintro e W1 ⟨rfl, hE⟩
        exact hKO _ W1 hE rfl
       ·have e3 := isOf hp.1
        simp only [e3] at hKO
        go_simp
        exact hKO _ W (Ext.refl W) rfl
       ·have e4 := isOf hp.1
        simp only [e4] at hKO
        go_simp
        exact hKO _ W (Ext.refl W) rfl
       ·have e4 := isOf hp.1
        simp only [e4] at hKO
        go_simp
        exact hKO _ W (Ext.refl W) rfl
       ·have e5 := isOf hp.1
        simp only [e5] at hKO
        go_simp
        exact hKO _ W (Ext.refl W) rfl
       ·have e6 := isOf hp.1
        simp only [e6] at hKO
        go_simp
        exact hKO _ W (Ext.refl W) rfl
      intro vs W33 hS hp
      clear szw33 E0 h29_5 p29_8 h29_1 h30_5 p30_8 h30_1
      obtain ⟨E0, h29_5, p29_8, h29_1, h30_5, p30_8, h30_1, sz33⟩ := hS
      obtain ⟨h33_0, h33_1, h33_2, h33_3, h33_4, h33_5, h33_6, h33_7, h33_8, -⟩ := hp
      replace h33_0 : vs 0 = .int .i64 a := h33_0
      replace h33_1 : vs 1 = .int .i64 b := h33_1
      replace h33_2 : vs 2 = .int .i64 (K : Int) := h33_2
      replace h33_3 : vs 3 = .tuple #[.int .i64 D, .int .i64 0] := h33_3
      replace h33_4 : vs 4 = .tuple #[.int .i64 D, .int .i64 0] := h33_4
      replace h33_5 : vs 5 = .int .i64 D := h33_5
      replace h33_6 : vs 6 = .int .i64 0 := h33_6
      replace h33_7 : vs 7 = .int .i64 D := h33_7
      replace h33_8 : vs 8 = .int .i64 0 := h33_8
      simp only [h33_0, h33_1, h33_2, h33_3, h33_4, h33_5, h33_6, h33_7, h33_8]
      clear h33_0 h33_1 h33_2 h33_3 h33_4 h33_5 h33_6 h33_7 h33_8
      have kp29_8_0 := p29_8.cell0
      have kp29_8_1 := p29_8.cell1
      have kp29_8_2 := p29_8.cell2
      have kp30_8_0 := p30_8.cell0
      have kp30_8_1 := p30_8.cell1
      have kp30_8_2 := p30_8.cell2
      go_upto_region 13 with (fail)
      clear kp29_8_0 kp29_8_1 kp29_8_2 kp30_8_0 kp30_8_1 kp30_8_2
      have szw34 := Ext.size E0
      refine region_go [.one fun v _ => v = .agg #[.bool b29_8, .slice a29_8 n29_8 c29_8, .slice d29_8 m29_8 o29_8],
        .one fun v _ => v = .agg #[.bool b30_8, .slice a30_8 n30_8 c30_8, .slice d30_8 m30_8 o30_8],
        .one fun v W => ∃ v', v = .tuple #[v', .int .i64 0] ∧ (fun v W => Rw W v ((a : Rat) / P2 K / ((b : Rat) / P2 K))) v' W,
        .one fun v W => ∃ v', v = .tuple #[v', .int .i64 0] ∧ (fun v W => Rw W v ((a : Rat) / P2 K / ((b : Rat) / P2 K))) v' W,
        .one fun v W => Rw W v ((a : Rat) / P2 K / ((b : Rat) / P2 K)),
        .one fun v _ => v = .int .i64 0,
        .one fun v W => ∃ g, v = .pointer (some ⟨g, 0, none⟩) ∧ W33.heap.size ≤ g ∧ Form W g 35 3,
        .three 6 4 (fun p r _ W => Put3 W33.heap.size 35 p r W),
        .one fun v _ => v = .int .i64 0]
       (fun W => Ext w W ∧ Rw W (.agg #[.bool b29_8, .slice a29_8 n29_8 c29_8, .slice d29_8 m29_8 o29_8]) ((a : Rat) / P2 K) ∧ Bx3 W g29_8 35 (.bool b29_8) (.slice a29_8 n29_8 c29_8) (.slice d29_8 m29_8 o29_8) ∧ Zw W u29_1 a ∧ Rw W (.agg #[.bool b30_8, .slice a30_8 n30_8 c30_8, .slice d30_8 m30_8 o30_8]) ((b : Rat) / P2 K) ∧ Bx3 W g30_8 35 (.bool b30_8) (.slice a30_8 n30_8 c30_8) (.slice d30_8 m30_8 o30_8) ∧ Zw W u30_1 b ∧ W33.heap.size ≤ W.heap.size) ⟨Good.is _, Good.is _, (Good.rat _).tup _, (Good.rat _).tup _, Good.rat _, Good.is _, Good.box _ _ _, cert_put3, Good.is _, trivial⟩
       (fun W W1 hS hE => ⟨(Ext.trans hS.1 hE), (hS.2.1.ext hE), (hS.2.2.1.ext hE), (hS.2.2.2.1.ext hE), (hS.2.2.2.2.1.ext hE), (hS.2.2.2.2.2.1.ext hE), (hS.2.2.2.2.2.2.1.ext hE), (Nat.le_trans hS.2.2.2.2.2.2.2 (Ext.size hE))⟩) ⟨E0, h29_5, p29_8, h29_1, h30_5, p30_8, h30_1, Nat.le_refl _⟩ (by kernel_rfl) (by kernel_rfl) (by kernel_rfl) (by kernel_rfl) (A := ?A34) ?hA34 ?howe34 ?hfin34
      case hA34 =>
       intro vs
       simp only [putAll, Act.put, List.setIfInBounds_toArray, List.set_cons_zero, List.set_cons_succ, Nat.zero_add, Nat.reduceAdd]
       exact rfl
      case howe34 =>
       clear E0 h29_5 p29_8 h29_1 h30_5 p30_8 h30_1
       intro hf
       refine ⟨owesE 0 [] hf rfl (by kernel_rfl) ?_, owesE 1 [] hf rfl (by kernel_rfl) ?_, owesE 2 [0, 1] hf rfl (by kernel_rfl) ?_, owesE 3 [2] hf rfl (by kernel_rfl) ?_, owesE 4 [3] hf rfl (by kernel_rfl) ?_, owesE 5 [3] hf rfl (by kernel_rfl) ?_, owesE 6 [] hf rfl (by kernel_rfl) ?_, owesW 7 [6, 4] hf rfl (by kernel_rfl) (by kernel_rfl) ?_, owesE 8 [5] hf rfl (by kernel_rfl) ?_, trivial⟩
       all_goals intro vs W hS hp hx KO hKO
       all_goals simp only [Act.put, List.setIfInBounds_toArray, List.set_cons_zero, List.set_cons_succ] at hKO
       ·have fc0 := hS.2.2.1.cell0
        have fc1 := hS.2.2.1.cell1
        have fc2 := hS.2.2.1.cell2
        go_simp
        exact hKO _ W (Ext.refl W) rfl
       ·have fc0 := hS.2.2.2.2.2.1.cell0
        have fc1 := hS.2.2.2.2.2.1.cell1
        have fc2 := hS.2.2.2.2.2.1.cell2
        go_simp
        exact hKO _ W (Ext.refl W) rfl
       ·have e0 := isOf hp.1
        have e1 := isOf hp.2.1
        simp only [e0, e1] at hKO
        go_simp
        refine (Try.refRDiv (hS.2.1) (hS.2.2.2.2.1) SX.out SY.out (by omega) HY0.out).mono ?_
        rintro e W1 ⟨v, rfl, hv, hE⟩
        exact hKO _ W1 hE ⟨_, rfl, hv⟩
       ·have q2 := hp.1
        obtain ⟨u, ev, hu⟩ := q2
        replace ev : vs 2 = _ := ev
        simp only [ev] at hKO
        go_simp
        exact hKO _ W (Ext.refl W) ⟨u, rfl, hu⟩
       ·have q3 := hp.1
        obtain ⟨u, ev, hu⟩ := q3
        replace ev : vs 3 = _ := ev
        simp only [ev] at hKO
        go_simp
        exact hKO _ W (Ext.refl W) hu
       ·have q3 := hp.1
        obtain ⟨u, ev, hu⟩ := q3
        replace ev : vs 3 = _ := ev
        simp only [ev] at hKO
        go_simp
        exact hKO _ W (Ext.refl W) rfl
       ·have hn := Bx3.new W 35 (.bool false) (.slice none 0 0) (.slice none 0 0)
        have hE := Ext.alloc1 W (.cells #[.bool false, .slice none 0 0, .slice none 0 0] 35)
        have hsz := hS.2.2.2.2.2.2.2
        go_simp
        exact hKO _ _ hE ⟨_, rfl, hsz, hn.form⟩
       ·have q6 := hp.1
        have q4 := hp.2.1
        obtain ⟨g, ev, hg, hf⟩ := q6
        replace ev : vs 6 = _ := ev
        obtain ⟨x0, y0, z0, hx, hno⟩ := hf.bx3
        have qr := q4
        obtain ⟨b3, a3, n3, c3, d3, m3, o3, er, -, -, -⟩ := qr
        replace er : vs 4 = _ := er
        have r0 := hx.froz0
        have t0 := hx.cell0
        have r1 := hx.froz1
        have t1 := hx.cell1
        have r2 := hx.froz2
        have t2 := hx.cell2
        have hw := Wr.set3 hx hno b3 a3 n3 c3 d3 m3 o3
        have hq := hx.set (.bool b3) (.slice a3 n3 c3) (.slice d3 m3 o3)
        simp only [ev, er] at hKO
        go_simp
        exact hKO _ _ hw ⟨(Ext.wr hS.1 hw (by omega)), (hS.2.1.wr hw), (hS.2.2.1.wr hw (by omega)), (hS.2.2.2.1.wr hw), (hS.2.2.2.2.1.wr hw), (hS.2.2.2.2.2.1.wr hw (by omega)), (hS.2.2.2.2.2.2.1.wr hw), (Nat.le_trans hS.2.2.2.2.2.2.2 hw.apart.size)⟩ ⟨g, b3, a3, n3, c3, d3, m3, o3, ev, er, hg, hq⟩
       ·have e5 := isOf hp.1
        simp only [e5] at hKO
        go_simp
        exact hKO _ W (Ext.refl W) rfl
      intro vs W34 hS hp
      clear szw34 E0 h29_5 p29_8 h29_1 h30_5 p30_8 h30_1
      obtain ⟨E0, h29_5, p29_8, h29_1, h30_5, p30_8, h30_1, sz34⟩ := hS
      obtain ⟨h34_0, h34_1, h34_2, h34_3, h34_4, h34_5, h34_6, h34_7, h34_8, -⟩ := hp
      obtain ⟨g34_7, b34_7, a34_7, n34_7, c34_7, d34_7, m34_7, o34_7, ev34_7, er34_7, hg34_7, p34_7⟩ := h34_7
      replace ev34_7 : vs 6 = _ := ev34_7
      replace er34_7 : vs 4 = _ := er34_7
      replace h34_4 := (show Rw W34 (vs 4) ((a : Rat) / P2 K / ((b : Rat) / P2 K)) from h34_4)
      rw [er34_7] at h34_4
      replace h34_0 : vs 0 = .agg #[.bool b29_8, .slice a29_8 n29_8 c29_8, .slice d29_8 m29_8 o29_8] := h34_0
      replace h34_1 : vs 1 = .agg #[.bool b30_8, .slice a30_8 n30_8 c30_8, .slice d30_8 m30_8 o30_8] := h34_1
      replace h34_5 : vs 5 = .int .i64 0 := h34_5
      replace h34_8 : vs 8 = .int .i64 0 := h34_8
      simp only [ev34_7, er34_7, h34_0, h34_1, h34_5, h34_8]
      clear ev34_7 er34_7 h34_0 h34_1 h34_5 h34_8 h34_2 h34_3 h34_6
      have kp29_8_0 := p29_8.cell0
      have kp29_8_1 := p29_8.cell1
      have kp29_8_2 := p29_8.cell2
      have kp30_8_0 := p30_8.cell0
      have kp30_8_1 := p30_8.cell1
      have kp30_8_2 := p30_8.cell2
      have kp34_7_0 := p34_7.cell0
      have kp34_7_1 := p34_7.cell1
      have kp34_7_2 := p34_7.cell2
      go_upto_region 17 with (fail)
      clear kp29_8_0 kp29_8_1 kp29_8_2 kp30_8_0 kp30_8_1 kp30_8_2 kp34_7_0 kp34_7_1 kp34_7_2
      have ltp34_7 := p34_7.lt
      have szw35 := Ext.size E0
      refine region_go [.one fun v _ => v = .bool true,
        .one fun v _ => v = .bool true,
        .one fun v _ => v = .int .i64 D,
        .one fun v _ => v = .agg #[.bool b34_7, .slice a34_7 n34_7 c34_7, .slice d34_7 m34_7 o34_7],
        .one fun v _ => v = .int .i64 (K : Int),
        .one fun v _ => v = .bool true,
        .one fun v _ => v = .bool true,
        .one fun v _ => v = .bool true]
       (fun W => Ext w W ∧ Rw W (.agg #[.bool b29_8, .slice a29_8 n29_8 c29_8, .slice d29_8 m29_8 o29_8]) ((a : Rat) / P2 K) ∧ Bx3 W g29_8 35 (.bool b29_8) (.slice a29_8 n29_8 c29_8) (.slice d29_8 m29_8 o29_8) ∧ Zw W u29_1 a ∧ Rw W (.agg #[.bool b30_8, .slice a30_8 n30_8 c30_8, .slice d30_8 m30_8 o30_8]) ((b : Rat) / P2 K) ∧ Bx3 W g30_8 35 (.bool b30_8) (.slice a30_8 n30_8 c30_8) (.slice d30_8 m30_8 o30_8) ∧ Zw W u30_1 b ∧ Rw W (.agg #[.bool b34_7, .slice a34_7 n34_7 c34_7, .slice d34_7 m34_7 o34_7]) ((a : Rat) / P2 K / ((b : Rat) / P2 K)) ∧ Bx3 W g34_7 35 (.bool b34_7) (.slice a34_7 n34_7 c34_7) (.slice d34_7 m34_7 o34_7) ∧ W34.heap.size ≤ W.heap.size) ⟨Good.is _, Good.is _, Good.is _, Good.is _, Good.is _, Good.is _, Good.is _, Good.is _, trivial⟩
       (fun W W1 hS hE => ⟨(Ext.trans hS.1 hE), (hS.2.1.ext hE), (hS.2.2.1.ext hE), (hS.2.2.2.1.ext hE), (hS.2.2.2.2.1.ext hE), (hS.2.2.2.2.2.1.ext hE), (hS.2.2.2.2.2.2.1.ext hE), (hS.2.2.2.2.2.2.2.1.ext hE), (hS.2.2.2.2.2.2.2.2.1.ext hE), (Nat.le_trans hS.2.2.2.2.2.2.2.2.2 (Ext.size hE))⟩) ⟨E0, h29_5, p29_8, h29_1, h30_5, p30_8, h30_1, h34_4, p34_7, Nat.le_refl _⟩ (by kernel_rfl) (by kernel_rfl) (by kernel_rfl) (by kernel_rfl) (A := ?A35) ?hA35 ?howe35 ?hfin35
      case hA35 =>
       intro vs
       simp only [putAll, Act.put, List.setIfInBounds_toArray, List.set_cons_zero, List.set_cons_succ, Nat.zero_add, Nat.reduceAdd]
       exact rfl
      case howe35 =>
       clear E0 h29_5 p29_8 h29_1 h30_5 p30_8 h30_1 h34_4 p34_7
       intro hf
       refine ⟨owesE 0 [] hf rfl (by kernel_rfl) ?_, owesE 1 [0] hf rfl (by kernel_rfl) ?_, owesE 2 [1] hf rfl (by kernel_rfl) ?_, owesE 3 [1] hf rfl (by kernel_rfl) ?_, owesE 4 [1] hf rfl (by kernel_rfl) ?_, owesE 5 [1, 2, 3, 4] hf rfl (by kernel_rfl) ?_, owesE 6 [1, 5] hf rfl (by kernel_rfl) ?_, owesE 7 [6] hf rfl (by kernel_rfl) ?_, trivial⟩
       all_goals intro vs W hS hp hx KO hKO
       all_goals simp only [Act.put, List.setIfInBounds_toArray, List.set_cons_zero, List.set_cons_succ] at hKO
       ·go_simp
        refine (Try.alive08 _).mono ?_
        rintro e W1 ⟨rfl, hE⟩
        exact hKO _ W1 hE rfl
       ·have e0 := isOf hp.1
        simp only [e0] at hKO
        go_simp
        exact hKO _ W (Ext.refl W) rfl
       ·have e1 := isOf hp.1
        simp only [e1] at hKO
        go_simp
        exact hKO _ W (Ext.refl W) rfl
       ·have e1 := isOf hp.1
        simp only [e1] at hKO
        have fc0 := hS.2.2.2.2.2.2.2.2.1.cell0
        have fc1 := hS.2.2.2.2.2.2.2.2.1.cell1
        have fc2 := hS.2.2.2.2.2.2.2.2.1.cell2
        go_simp
        exact hKO _ W (Ext.refl W) rfl
       ·have e1 := isOf hp.1
        simp only [e1] at hKO
        go_simp
        exact hKO _ W (Ext.refl W) rfl
       ·have e1 := isOf hp.1
        have e2 := isOf hp.2.1
        have e3 := isOf hp.2.2.1
        have e4 := isOf hp.2.2.2.1
        simp only [e1, e2, e3, e4] at hKO
        go_simp
        refine (Try.within08 D (hS.2.2.2.2.2.2.2.1) SQ.out K HK.out.1 HDF.out.1 HDF.out.2 HDN.out).mono ?_
        rintro e W1 ⟨rfl, hE⟩
        exact hKO _ W1 hE rfl
       ·have e1 := isOf hp.1
        have e5 := isOf hp.2.1
        simp only [e1, e5] at hKO
        go_simp
        exact hKO _ W (Ext.refl W) rfl
       ·have e6 := isOf hp.1
        simp only [e6] at hKO
        go_simp
        exact hKO _ W (Ext.refl W) rfl
      intro vs W35 hS hp
      clear szw35 E0 h29_5 p29_8 h29_1 h30_5 p30_8 h30_1 h34_4 p34_7
      obtain ⟨E0, h29_5, p29_8, h29_1, h30_5, p30_8, h30_1, h34_4, p34_7, sz35⟩ := hS
      obtain ⟨h35_0, h35_1, h35_2, h35_3, h35_4, h35_5, h35_6, h35_7, -⟩ := hp
      replace h35_0 : vs 0 = .bool true := h35_0
      replace h35_1 : vs 1 = .bool true := h35_1
      replace h35_2 : vs 2 = .int .i64 D := h35_2
      replace h35_3 : vs 3 = .agg #[.bool b34_7, .slice a34_7 n34_7 c34_7, .slice d34_7 m34_7 o34_7] := h35_3
      replace h35_4 : vs 4 = .int .i64 (K : Int) := h35_4
      replace h35_5 : vs 5 = .bool true := h35_5
      replace h35_6 : vs 6 = .bool true := h35_6
      replace h35_7 : vs 7 = .bool true := h35_7
      simp only [h35_0, h35_1, h35_2, h35_3, h35_4, h35_5, h35_6, h35_7]
      clear h35_0 h35_1 h35_2 h35_3 h35_4 h35_5 h35_6 h35_7
      have kp29_8_0 := p29_8.cell0
      have kp29_8_1 := p29_8.cell1
      have kp29_8_2 := p29_8.cell2
      have kp30_8_0 := p30_8.cell0
      have kp30_8_1 := p30_8.cell1
      have kp30_8_2 := p30_8.cell2
      have kp34_7_0 := p34_7.cell0
      have kp34_7_1 := p34_7.cell1
      have kp34_7_2 := p34_7.cell2
      go_wp2
      go_ret
      exact ⟨rfl, E0⟩
     ·have HVD : Hid (fitV (nearR (((a * ((2 ^ K : Nat) : Int) : Int) : Rat) / (b : Rat))) = 0) := Lib.hid (by
       rw [HD.out]
       have h2 : fits D = false := by cases hh : fits D; rfl; rw [fitE_in hh] at he; cases he
       exact fitV_out h2)
      have HED : Hid (fitE (nearR (((a * ((2 ^ K : Nat) : Int) : Int) : Rat) / (b : Rat))) = 2) := Lib.hid (by rw [HD.out]; exact he)
      have HFO : Hid (cmpR (Rat.abs ((a : Rat) / P2 K / ((b : Rat) / P2 K))) (((9223372036854775807 : Int) : Rat) / P2 K) = 1) := Lib.hid (far_out _ K (by rw [HDQ.out]; exact he))
      clear he HD
      obtain ⟨W0, hW0⟩ : ∃ W0, W0 = w := ⟨_, rfl⟩
      have E0 : Ext w W0 := by rw [hW0]; exact Ext.refl w
      go_enter Try.func4, Try.ntmps4
      go_upto_region 5 with (fail)
      rw [← hW0]
      clear hW0
      have szw36 := Ext.size E0
      refine region_go [.one fun v _ => v = .int .i64 a,
        .one fun v W => Zw W v a,
        .one fun v _ => v = .int .i64 (K : Int),
        .one fun v W => ∃ v', v = .tuple #[v', .int .i64 0] ∧ (fun v W => Rw W v ((a : Rat) / P2 K)) v' W,
        .one fun v W => ∃ v', v = .tuple #[v', .int .i64 0] ∧ (fun v W => Rw W v ((a : Rat) / P2 K)) v' W,
        .one fun v W => Rw W v ((a : Rat) / P2 K),
        .one fun v _ => v = .int .i64 0,
        .one fun v W => ∃ g, v = .pointer (some ⟨g, 0, none⟩) ∧ W0.heap.size ≤ g ∧ Form W g 35 3,
        .three 7 5 (fun p r _ W => Put3 W0.heap.size 35 p r W),
        .one fun v _ => v = .int .i64 0]
       (fun W => Ext w W ∧ W0.heap.size ≤ W.heap.size) ⟨Good.is _, Good.zed _, Good.is _, (Good.rat _).tup _, (Good.rat _).tup _, Good.rat _, Good.is _, Good.box _ _ _, cert_put3, Good.is _, trivial⟩
       (fun W W1 hS hE => ⟨(Ext.trans hS.1 hE), (Nat.le_trans hS.2 (Ext.size hE))⟩) ⟨E0, Nat.le_refl _⟩ (by kernel_rfl) (by kernel_rfl) (by kernel_rfl) (by kernel_rfl) (A := ?A36) ?hA36 ?howe36 ?hfin36
      case hA36 =>
       intro vs
       simp only [putAll, Act.put, List.setIfInBounds_toArray, List.set_cons_zero, List.set_cons_succ, Nat.zero_add, Nat.reduceAdd]
       exact rfl
      case howe36 =>
       clear E0
       intro hf
       refine ⟨owesE 0 [] hf rfl (by kernel_rfl) ?_, owesE 1 [0] hf rfl (by kernel_rfl) ?_, owesE 2 [] hf rfl (by kernel_rfl) ?_, owesE 3 [1, 2] hf rfl (by kernel_rfl) ?_, owesE 4 [3] hf rfl (by kernel_rfl) ?_, owesE 5 [4] hf rfl (by kernel_rfl) ?_, owesE 6 [4] hf rfl (by kernel_rfl) ?_, owesE 7 [] hf rfl (by kernel_rfl) ?_, owesW 8 [7, 5] hf rfl (by kernel_rfl) (by kernel_rfl) ?_, owesE 9 [6] hf rfl (by kernel_rfl) ?_, trivial⟩
       all_goals intro vs W hS hp hx KO hKO
       all_goals simp only [Act.put, List.setIfInBounds_toArray, List.set_cons_zero, List.set_cons_succ] at hKO
       ·go_simp
        exact hKO _ W (Ext.refl W) rfl
       ·have e0 := isOf hp.1
        simp only [e0] at hKO
        go_simp
        refine (Try.refZOf a _ HB.out.1.1 HB.out.1.2).mono ?_
        rintro e W1 ⟨v, rfl, hv, hE⟩
        exact hKO _ W1 hE hv
       ·go_simp
        exact hKO _ W (Ext.refl W) rfl
       ·have q1 := hp.1
        have e2 := isOf hp.2.1
        simp only [e2] at hKO
        go_simp
        refine (Try.refBack q1 S1.out (by omega) K HK.out.2).mono ?_
        rintro e W1 ⟨v, rfl, hv, hE⟩
        exact hKO _ W1 hE ⟨_, rfl, hv⟩
       ·have q3 := hp.1
        obtain ⟨u, ev, hu⟩ := q3
        replace ev : vs 3 = _ := ev
        simp only [ev] at hKO
        go_simp
        exact hKO _ W (Ext.refl W) ⟨u, rfl, hu⟩
       ·have q4 := hp.1
        obtain ⟨u, ev, hu⟩ := q4
        replace ev : vs 4 = _ := ev
        simp only [ev] at hKO
        go_simp
        exact hKO _ W (Ext.refl W) hu
       ·have q4 := hp.1
        obtain ⟨u, ev, hu⟩ := q4
        replace ev : vs 4 = _ := ev
        simp only [ev] at hKO
        go_simp
        exact hKO _ W (Ext.refl W) rfl
       ·have hn := Bx3.new W 35 (.bool false) (.slice none 0 0) (.slice none 0 0)
        have hE := Ext.alloc1 W (.cells #[.bool false, .slice none 0 0, .slice none 0 0] 35)
        have hsz := hS.2
        go_simp
        exact hKO _ _ hE ⟨_, rfl, hsz, hn.form⟩
       ·have q7 := hp.1
        have q5 := hp.2.1
        obtain ⟨g, ev, hg, hf⟩ := q7
        replace ev : vs 7 = _ := ev
        obtain ⟨x0, y0, z0, hx, hno⟩ := hf.bx3
        have qr := q5
        obtain ⟨b3, a3, n3, c3, d3, m3, o3, er, -, -, -⟩ := qr
        replace er : vs 5 = _ := er
        have r0 := hx.froz0
        have t0 := hx.cell0
        have r1 := hx.froz1
        have t1 := hx.cell1
        have r2 := hx.froz2
        have t2 := hx.cell2
        have hw := Wr.set3 hx hno b3 a3 n3 c3 d3 m3 o3
        have hq := hx.set (.bool b3) (.slice a3 n3 c3) (.slice d3 m3 o3)
        simp only [ev, er] at hKO
        go_simp
        exact hKO _ _ hw ⟨(Ext.wr hS.1 hw (by omega)), (Nat.le_trans hS.2 hw.apart.size)⟩ ⟨g, b3, a3, n3, c3, d3, m3, o3, ev, er, hg, hq⟩
       ·have e6 := isOf hp.1
        simp only [e6] at hKO
        go_simp
        exact hKO _ W (Ext.refl W) rfl
      intro vs W36 hS hp
      clear szw36 E0
      obtain ⟨E0, sz36⟩ := hS
      obtain ⟨h36_0, h36_1, h36_2, h36_3, h36_4, h36_5, h36_6, h36_7, h36_8, h36_9, -⟩ := hp
      obtain ⟨g36_8, b36_8, a36_8, n36_8, c36_8, d36_8, m36_8, o36_8, ev36_8, er36_8, hg36_8, p36_8⟩ := h36_8
      replace ev36_8 : vs 7 = _ := ev36_8
      replace er36_8 : vs 5 = _ := er36_8
      replace h36_5 := (show Rw W36 (vs 5) ((a : Rat) / P2 K) from h36_5)
      rw [er36_8] at h36_5
      replace h36_0 : vs 0 = .int .i64 a := h36_0
      replace h36_2 : vs 2 = .int .i64 (K : Int) := h36_2
      replace h36_6 : vs 6 = .int .i64 0 := h36_6
      replace h36_9 : vs 9 = .int .i64 0 := h36_9
      simp only [ev36_8, er36_8, h36_0, h36_2, h36_6, h36_9]
      replace h36_1 : Zw W36 (vs 1) a := h36_1
      generalize vs 1 = u36_1 at h36_1 ⊢
      clear ev36_8 er36_8 h36_0 h36_2 h36_6 h36_9 h36_3 h36_4 h36_7
      have kp36_8_0 := p36_8.cell0
      have kp36_8_1 := p36_8.cell1
      have kp36_8_2 := p36_8.cell2
      go_upto_region 6 with (fail)
      clear kp36_8_0 kp36_8_1 kp36_8_2
      have ltp36_8 := p36_8.lt
      have szw37 := Ext.size E0
      refine region_go [.one fun v _ => v = .int .i64 b,
        .one fun v W => Zw W v b,
        .one fun v _ => v = .int .i64 (K : Int),
        .one fun v W => ∃ v', v = .tuple #[v', .int .i64 0] ∧ (fun v W => Rw W v ((b : Rat) / P2 K)) v' W,
        .one fun v W => ∃ v', v = .tuple #[v', .int .i64 0] ∧ (fun v W => Rw W v ((b : Rat) / P2 K)) v' W,
        .one fun v W => Rw W v ((b : Rat) / P2 K),
        .one fun v _ => v = .int .i64 0,
        .one fun v W => ∃ g, v = .pointer (some ⟨g, 0, none⟩) ∧ W36.heap.size ≤ g ∧ Form W g 35 3,
        .three 7 5 (fun p r _ W => Put3 W36.heap.size 35 p r W),
        .one fun v _ => v = .int .i64 0]
       (fun W => Ext w W ∧ Rw W (.agg #[.bool b36_8, .slice a36_8 n36_8 c36_8, .slice d36_8 m36_8 o36_8]) ((a : Rat) / P2 K) ∧ Bx3 W g36_8 35 (.bool b36_8) (.slice a36_8 n36_8 c36_8) (.slice d36_8 m36_8 o36_8) ∧ Zw W u36_1 a ∧ W36.heap.size ≤ W.heap.size) ⟨Good.is _, Good.zed _, Good.is _, (Good.rat _).tup _, (Good.rat _).tup _, Good.rat _, Good.is _, Good.box _ _ _, cert_put3, Good.is _, trivial⟩
       (fun W W1 hS hE => ⟨(Ext.trans hS.1 hE), (hS.2.1.ext hE), (hS.2.2.1.ext hE), (hS.2.2.2.1.ext hE), (Nat.le_trans hS.2.2.2.2 (Ext.size hE))⟩) ⟨E0, h36_5, p36_8, h36_1, Nat.le_refl _⟩ (by kernel_rfl) (by kernel_rfl) (by kernel_rfl) (by kernel_rfl) (A := ?A37) ?hA37 ?howe37 ?hfin37
      case hA37 =>
       intro vs
       simp only [putAll, Act.put, List.setIfInBounds_toArray, List.set_cons_zero, List.set_cons_succ, Nat.zero_add, Nat.reduceAdd]
       exact rfl
      case howe37 =>
       clear E0 h36_5 p36_8 h36_1
       intro hf
       refine ⟨owesE 0 [] hf rfl (by kernel_rfl) ?_, owesE 1 [0] hf rfl (by kernel_rfl) ?_, owesE 2 [] hf rfl (by kernel_rfl) ?_, owesE 3 [1, 2] hf rfl (by kernel_rfl) ?_, owesE 4 [3] hf rfl (by kernel_rfl) ?_, owesE 5 [4] hf rfl (by kernel_rfl) ?_, owesE 6 [4] hf rfl (by kernel_rfl) ?_, owesE 7 [] hf rfl (by kernel_rfl) ?_, owesW 8 [7, 5] hf rfl (by kernel_rfl) (by kernel_rfl) ?_, owesE 9 [6] hf rfl (by kernel_rfl) ?_, trivial⟩
       all_goals intro vs W hS hp hx KO hKO
       all_goals simp only [Act.put, List.setIfInBounds_toArray, List.set_cons_zero, List.set_cons_succ] at hKO
       ·go_simp
        exact hKO _ W (Ext.refl W) rfl
       ·have e0 := isOf hp.1
        simp only [e0] at hKO
        go_simp
        refine (Try.refZOf b _ HB.out.2.1 HB.out.2.2).mono ?_
        rintro e W1 ⟨v, rfl, hv, hE⟩
        exact hKO _ W1 hE hv
       ·go_simp
        exact hKO _ W (Ext.refl W) rfl
       ·have q1 := hp.1
        have e2 := isOf hp.2.1
        simp only [e2] at hKO
        go_simp
        refine (Try.refBack q1 S2.out (by omega) K HK.out.2).mono ?_
        rintro e W1 ⟨v, rfl, hv, hE⟩
        exact hKO _ W1 hE ⟨_, rfl, hv⟩
       ·have q3 := hp.1
        obtain ⟨u, ev, hu⟩ := q3
        replace ev : vs 3 = _ := ev
        simp only [ev] at hKO
        go_simp
        exact hKO _ W (Ext.refl W) ⟨u, rfl, hu⟩
       ·have q4 := hp.1
        obtain ⟨u, ev, hu⟩ := q4
        replace ev : vs 4 = _ := ev
        simp only [ev] at hKO
        go_simp
        exact hKO _ W (Ext.refl W) hu
       ·have q4 := hp.1
        obtain ⟨u, ev, hu⟩ := q4
        replace ev : vs 4 = _ := ev
        simp only [ev] at hKO
        go_simp
        exact hKO _ W (Ext.refl W) rfl
       ·have hn := Bx3.new W 35 (.bool false) (.slice none 0 0) (.slice none 0 0)
        have hE := Ext.alloc1 W (.cells #[.bool false, .slice none 0 0, .slice none 0 0] 35)
        have hsz := hS.2.2.2.2
        go_simp
        exact hKO _ _ hE ⟨_, rfl, hsz, hn.form⟩
       ·have q7 := hp.1
        have q5 := hp.2.1
        obtain ⟨g, ev, hg, hf⟩ := q7
        replace ev : vs 7 = _ := ev
        obtain ⟨x0, y0, z0, hx, hno⟩ := hf.bx3
        have qr := q5
        obtain ⟨b3, a3, n3, c3, d3, m3, o3, er, -, -, -⟩ := qr
        replace er : vs 5 = _ := er
        have r0 := hx.froz0
        have t0 := hx.cell0
        have r1 := hx.froz1
        have t1 := hx.cell1
        have r2 := hx.froz2
        have t2 := hx.cell2
        have hw := Wr.set3 hx hno b3 a3 n3 c3 d3 m3 o3
        have hq := hx.set (.bool b3) (.slice a3 n3 c3) (.slice d3 m3 o3)
        simp only [ev, er] at hKO
        go_simp
        exact hKO _ _ hw ⟨(Ext.wr hS.1 hw (by omega)), (hS.2.1.wr hw), (hS.2.2.1.wr hw (by omega)), (hS.2.2.2.1.wr hw), (Nat.le_trans hS.2.2.2.2 hw.apart.size)⟩ ⟨g, b3, a3, n3, c3, d3, m3, o3, ev, er, hg, hq⟩
       ·have e6 := isOf hp.1
        simp only [e6] at hKO
        go_simp
        exact hKO _ W (Ext.refl W) rfl
      intro vs W37 hS hp
      clear szw37 E0 h36_5 p36_8 h36_1
      obtain ⟨E0, h36_5, p36_8, h36_1, sz37⟩ := hS
      obtain ⟨h37_0, h37_1, h37_2, h37_3, h37_4, h37_5, h37_6, h37_7, h37_8, h37_9, -⟩ := hp
      obtain ⟨g37_8, b37_8, a37_8, n37_8, c37_8, d37_8, m37_8, o37_8, ev37_8, er37_8, hg37_8, p37_8⟩ := h37_8
      replace ev37_8 : vs 7 = _ := ev37_8
      replace er37_8 : vs 5 = _ := er37_8
      replace h37_5 := (show Rw W37 (vs 5) ((b : Rat) / P2 K) from h37_5)
      rw [er37_8] at h37_5
      replace h37_0 : vs 0 = .int .i64 b := h37_0
      replace h37_2 : vs 2 = .int .i64 (K : Int) := h37_2
      replace h37_6 : vs 6 = .int .i64 0 := h37_6
      replace h37_9 : vs 9 = .int .i64 0 := h37_9
      simp only [ev37_8, er37_8, h37_0, h37_2, h37_6, h37_9]
      replace h37_1 : Zw W37 (vs 1) b := h37_1
      generalize vs 1 = u37_1 at h37_1 ⊢
      clear ev37_8 er37_8 h37_0 h37_2 h37_6 h37_9 h37_3 h37_4 h37_7
      have kp36_8_0 := p36_8.cell0
      have kp36_8_1 := p36_8.cell1
      have kp36_8_2 := p36_8.cell2
      have kp37_8_0 := p37_8.cell0
      have kp37_8_1 := p37_8.cell1
      have kp37_8_2 := p37_8.cell2
      go_upto_region 7 with (fail)
      clear kp36_8_0 kp36_8_1 kp36_8_2 kp37_8_0 kp37_8_1 kp37_8_2
      have ltp37_8 := p37_8.lt
      have szw38 := Ext.size E0
      refine region_go [.one fun v _ => v = .int .i64 a,
        .one fun v _ => v = .int .i64 b,
        .one fun v _ => v = .int .i64 (K : Int),
        .one fun v _ => v = .tuple #[.int .i64 0, .int .i64 2],
        .one fun v _ => v = .tuple #[.int .i64 0, .int .i64 2],
        .one fun v _ => v = .int .i64 0,
        .one fun v _ => v = .int .i64 2,
        .one fun v _ => v = .int .i64 0,
        .one fun v _ => v = .int .i64 2]
       (fun W => Ext w W ∧ Rw W (.agg #[.bool b36_8, .slice a36_8 n36_8 c36_8, .slice d36_8 m36_8 o36_8]) ((a : Rat) / P2 K) ∧ Bx3 W g36_8 35 (.bool b36_8) (.slice a36_8 n36_8 c36_8) (.slice d36_8 m36_8 o36_8) ∧ Zw W u36_1 a ∧ Rw W (.agg #[.bool b37_8, .slice a37_8 n37_8 c37_8, .slice d37_8 m37_8 o37_8]) ((b : Rat) / P2 K) ∧ Bx3 W g37_8 35 (.bool b37_8) (.slice a37_8 n37_8 c37_8) (.slice d37_8 m37_8 o37_8) ∧ Zw W u37_1 b ∧ W37.heap.size ≤ W.heap.size) ⟨Good.is _, Good.is _, Good.is _, Good.is _, Good.is _, Good.is _, Good.is _, Good.is _, Good.is _, trivial⟩
       (fun W W1 hS hE => ⟨(Ext.trans hS.1 hE), (hS.2.1.ext hE), (hS.2.2.1.ext hE), (hS.2.2.2.1.ext hE), (hS.2.2.2.2.1.ext hE), (hS.2.2.2.2.2.1.ext hE), (hS.2.2.2.2.2.2.1.ext hE), (Nat.le_trans hS.2.2.2.2.2.2.2 (Ext.size hE))⟩) ⟨E0, h36_5, p36_8, h36_1, h37_5, p37_8, h37_1, Nat.le_refl _⟩ (by kernel_rfl) (by kernel_rfl) (by kernel_rfl) (by kernel_rfl) (A := ?A38) ?hA38 ?howe38 ?hfin38
      case hA38 =>
       intro vs
       simp only [putAll, Act.put, List.setIfInBounds_toArray, List.set_cons_zero, List.set_cons_succ, Nat.zero_add, Nat.reduceAdd]
       exact rfl
      case howe38 =>
       clear E0 h36_5 p36_8 h36_1 h37_5 p37_8 h37_1
       intro hf
       refine ⟨owesE 0 [] hf rfl (by kernel_rfl) ?_, owesE 1 [] hf rfl (by kernel_rfl) ?_, owesE 2 [] hf rfl (by kernel_rfl) ?_, owesE 3 [0, 1, 2] hf rfl (by kernel_rfl) ?_, owesE 4 [3] hf rfl (by kernel_rfl) ?_, owesE 5 [4] hf rfl (by kernel_rfl) ?_, owesE 6 [4] hf rfl (by kernel_rfl) ?_, owesE 7 [5] hf rfl (by kernel_rfl) ?_, owesE 8 [6] hf rfl (by kernel_rfl) ?_, trivial⟩
       all_goals intro vs W hS hp hx KO hKO
       all_goals simp only [Act.put, List.setIfInBounds_toArray, List.set_cons_zero, List.set_cons_succ] at hKO
       ·go_simp
        exact hKO _ W (Ext.refl W) rfl
       ·go_simp
        exact hKO _ W (Ext.refl W) rfl
       ·go_simp
        exact hKO _ W (Ext.refl W) rfl
       ·have e0 := isOf hp.1
        have e1 := isOf hp.2.1
        have e2 := isOf hp.2.2.1
        simp only [e0, e1, e2] at hKO
        go_simp
        refine (Try.fixMulV a b K HK.out.1 _ HB.out.1.1 HB.out.1.2 HB.out.2.1 HB.out.2.2 HVM.out HEM.out).mono ?_
        rintro e W1 ⟨rfl, hE⟩
        exact hKO _ W1 hE rfl
       ·have e3 := isOf hp.1
        simp only [e3] at hKO
        go_simp
        exact hKO _ W (Ext.refl W) rfl
       ·have e4 := isOf hp.1
        simp only [e4] at hKO
        go_simp
        exact hKO _ W (Ext.refl W) rfl
       ·have e4 := isOf hp.1
        simp only [e4] at hKO
        go_simp
        exact hKO _ W (Ext.refl W) rfl
       ·have e5 := isOf hp.1
        simp only [e5] at hKO
        go_simp
        exact hKO _ W (Ext.refl W) rfl
       ·have e6 := isOf hp.1
        simp only [e6] at hKO
        go_simp
        exact hKO _ W (Ext.refl W) rfl
      intro vs W38 hS hp
      clear szw38 E0 h36_5 p36_8 h36_1 h37_5 p37_8 h37_1
      obtain ⟨E0, h36_5, p36_8, h36_1, h37_5, p37_8, h37_1, sz38⟩ := hS
      obtain ⟨h38_0, h38_1, h38_2, h38_3, h38_4, h38_5, h38_6, h38_7, h38_8, -⟩ := hp
      replace h38_0 : vs 0 = .int .i64 a := h38_0
      replace h38_1 : vs 1 = .int .i64 b := h38_1
      replace h38_2 : vs 2 = .int .i64 (K : Int) := h38_2
      replace h38_3 : vs 3 = .tuple #[.int .i64 0, .int .i64 2] := h38_3
      replace h38_4 : vs 4 = .tuple #[.int .i64 0, .int .i64 2] := h38_4
      replace h38_5 : vs 5 = .int .i64 0 := h38_5
      replace h38_6 : vs 6 = .int .i64 2 := h38_6
      replace h38_7 : vs 7 = .int .i64 0 := h38_7
      replace h38_8 : vs 8 = .int .i64 2 := h38_8
      simp only [h38_0, h38_1, h38_2, h38_3, h38_4, h38_5, h38_6, h38_7, h38_8]
      clear h38_0 h38_1 h38_2 h38_3 h38_4 h38_5 h38_6 h38_7 h38_8
      have kp36_8_0 := p36_8.cell0
      have kp36_8_1 := p36_8.cell1
      have kp36_8_2 := p36_8.cell2
      have kp37_8_0 := p37_8.cell0
      have kp37_8_1 := p37_8.cell1
      have kp37_8_2 := p37_8.cell2
      go_upto_region 8 with (fail)
      clear kp36_8_0 kp36_8_1 kp36_8_2 kp37_8_0 kp37_8_1 kp37_8_2
      have szw39 := Ext.size E0
      refine region_go [.one fun v _ => v = .int .i64 2,
        .one fun v _ => v = .bool false,
        .one fun v _ => v = .bool false,
        .one fun v _ => v = undef,
        .one fun v _ => v = undef,
        .one fun v _ => v = undef,
        .one fun v _ => v = undef,
        .one fun v _ => v = undef,
        .one fun v _ => v = undef,
        .one fun v _ => v = undef,
        .one fun v _ => v = .bool false,
        .one fun v _ => v = .bool false,
        .one fun v _ => v = .int .i64 2,
        .one fun v _ => v = .bool true,
        .one fun v _ => v = .bool true,
        .one fun v _ => v = .int .i64 2,
        .one fun v _ => v = .bool false,
        .one fun v _ => v = .bool false,
        .one fun v _ => v = .int .i64 0,
        .one fun v _ => v = .bool false,
        .one fun v _ => v = .bool false,
        .one fun v _ => v = .bool false,
        .one fun v _ => v = .bool false]
       (fun W => Ext w W ∧ Rw W (.agg #[.bool b36_8, .slice a36_8 n36_8 c36_8, .slice d36_8 m36_8 o36_8]) ((a : Rat) / P2 K) ∧ Bx3 W g36_8 35 (.bool b36_8) (.slice a36_8 n36_8 c36_8) (.slice d36_8 m36_8 o36_8) ∧ Zw W u36_1 a ∧ Rw W (.agg #[.bool b37_8, .slice a37_8 n37_8 c37_8, .slice d37_8 m37_8 o37_8]) ((b : Rat) / P2 K) ∧ Bx3 W g37_8 35 (.bool b37_8) (.slice a37_8 n37_8 c37_8) (.slice d37_8 m37_8 o37_8) ∧ Zw W u37_1 b ∧ W38.heap.size ≤ W.heap.size) ⟨Good.is _, Good.is _, Good.is _, Good.is _, Good.is _, Good.is _, Good.is _, Good.is _, Good.is _, Good.is _, Good.is _, Good.is _, Good.is _, Good.is _, Good.is _, Good.is _, Good.is _, Good.is _, Good.is _, Good.is _, Good.is _, Good.is _, Good.is _, trivial⟩
       (fun W W1 hS hE => ⟨(Ext.trans hS.1 hE), (hS.2.1.ext hE), (hS.2.2.1.ext hE), (hS.2.2.2.1.ext hE), (hS.2.2.2.2.1.ext hE), (hS.2.2.2.2.2.1.ext hE), (hS.2.2.2.2.2.2.1.ext hE), (Nat.le_trans hS.2.2.2.2.2.2.2 (Ext.size hE))⟩) ⟨E0, h36_5, p36_8, h36_1, h37_5, p37_8, h37_1, Nat.le_refl _⟩ (by kernel_rfl) (by kernel_rfl) (by kernel_rfl) (by kernel_rfl) (A := ?A39) ?hA39 ?howe39 ?hfin39
      case hA39 =>
       intro vs
       simp only [putAll, Act.put, List.setIfInBounds_toArray, List.set_cons_zero, List.set_cons_succ, Nat.zero_add, Nat.reduceAdd]
       exact rfl
      case howe39 =>
       clear E0 h36_5 p36_8 h36_1 h37_5 p37_8 h37_1
       intro hf
       refine ⟨owesE 0 [] hf rfl (by kernel_rfl) ?_, owesE 1 [0] hf rfl (by kernel_rfl) ?_, owesE 2 [1] hf rfl (by kernel_rfl) ?_, owesE 3 [2] hf rfl (by kernel_rfl) ?_, owesE 4 [2] hf rfl (by kernel_rfl) ?_, owesE 5 [2] hf rfl (by kernel_rfl) ?_, owesE 6 [2] hf rfl (by kernel_rfl) ?_, owesE 7 [2] hf rfl (by kernel_rfl) ?_, owesE 8 [2] hf rfl (by kernel_rfl) ?_, owesE 9 [2] hf rfl (by kernel_rfl) ?_, owesE 10 [2, 9] hf rfl (by kernel_rfl) ?_, owesE 11 [10] hf rfl (by kernel_rfl) ?_, owesE 12 [11] hf rfl (by kernel_rfl) ?_, owesE 13 [11, 12] hf rfl (by kernel_rfl) ?_, owesE 14 [11, 13] hf rfl (by kernel_rfl) ?_, owesE 15 [14] hf rfl (by kernel_rfl) ?_, owesE 16 [14, 15] hf rfl (by kernel_rfl) ?_, owesE 17 [14, 16] hf rfl (by kernel_rfl) ?_, owesE 18 [17] hf rfl (by kernel_rfl) ?_, owesE 19 [17, 18] hf rfl (by kernel_rfl) ?_, owesE 20 [14, 17, 19] hf rfl (by kernel_rfl) ?_, owesE 21 [11, 14, 20] hf rfl (by kernel_rfl) ?_, owesE 22 [11, 21] hf rfl (by kernel_rfl) ?_, trivial⟩
       all_goals intro vs W hS hp hx KO hKO
       all_goals simp only [Act.put, List.setIfInBounds_toArray, List.set_cons_zero, List.set_cons_succ] at hKO
       ·go_simp
        exact hKO _ W (Ext.refl W) rfl
       ·have e0 := isOf hp.1
        simp only [e0] at hKO
        go_simp
        exact hKO _ W (Ext.refl W) rfl
       ·have e1 := isOf hp.1
        simp only [e1] at hKO
        go_simp
        exact hKO _ W (Ext.refl W) rfl
       ·have e2 := isOf hp.1
        simp only [e2] at hKO
        go_simp
        exact hKO _ W (Ext.refl W) rfl
       ·have e2 := isOf hp.1
        simp only [e2] at hKO
        go_simp
        exact hKO _ W (Ext.refl W) rfl
       ·have e2 := isOf hp.1
        simp only [e2] at hKO
        go_simp
        exact hKO _ W (Ext.refl W) rfl
       ·have e2 := isOf hp.1
        simp only [e2] at hKO
        go_simp
        exact hKO _ W (Ext.refl W) rfl
       ·have e2 := isOf hp.1
        simp only [e2] at hKO
        go_simp
        exact hKO _ W (Ext.refl W) rfl
       ·have e2 := isOf hp.1
        simp only [e2] at hKO
        go_simp
        exact hKO _ W (Ext.refl W) rfl
       ·have e2 := isOf hp.1
        simp only [e2] at hKO
        go_simp
        exact hKO _ W (Ext.refl W) rfl
       ·have e2 := isOf hp.1
        have e9 := isOf hp.2.1
        simp only [e2, e9] at hKO
        go_simp
        exact hKO _ W (Ext.refl W) rfl
       ·have e10 := isOf hp.1
        simp only [e10] at hKO
        go_simp
        exact hKO _ W (Ext.refl W) rfl
       ·have e11 := isOf hp.1
        simp only [e11] at hKO
        go_simp
        exact hKO _ W (Ext.refl W) rfl
       ·have e11 := isOf hp.1
        have e12 := isOf hp.2.1
        simp only [e11, e12] at hKO
        go_simp
        exact hKO _ W (Ext.refl W) rfl
       ·have e11 := isOf hp.1
        have e13 := isOf hp.2.1
        simp only [e11, e13] at hKO
        go_simp
        exact hKO _ W (Ext.refl W) rfl
       ·have e14 := isOf hp.1
        simp only [e14] at hKO
        go_simp
        exact hKO _ W (Ext.refl W) rfl
       ·have e14 := isOf hp.1
        have e15 := isOf hp.2.1
        simp only [e14, e15] at hKO
        go_simp
        exact hKO _ W (Ext.refl W) rfl
       ·have e14 := isOf hp.1
        have e16 := isOf hp.2.1
        simp only [e14, e16] at hKO
        go_simp
        exact hKO _ W (Ext.refl W) rfl
       ·have e17 := isOf hp.1
        simp only [e17] at hKO
        go_simp
        exact hKO _ W (Ext.refl W) rfl
       ·have e17 := isOf hp.1
        have e18 := isOf hp.2.1
        simp only [e17, e18] at hKO
        go_simp
        exact hKO _ W (Ext.refl W) rfl
       ·have e14 := isOf hp.1
        have e17 := isOf hp.2.1
        have e19 := isOf hp.2.2.1
        simp only [e14, e17, e19] at hKO
        go_simp
        exact hKO _ W (Ext.refl W) rfl
       ·have e11 := isOf hp.1
        have e14 := isOf hp.2.1
        have e20 := isOf hp.2.2.1
        simp only [e11, e14, e20] at hKO
        go_simp
        exact hKO _ W (Ext.refl W) rfl
       ·have e11 := isOf hp.1
        have e21 := isOf hp.2.1
        simp only [e11, e21] at hKO
        go_simp
        exact hKO _ W (Ext.refl W) rfl
      intro vs W39 hS hp
      clear szw39 E0 h36_5 p36_8 h36_1 h37_5 p37_8 h37_1
      obtain ⟨E0, h36_5, p36_8, h36_1, h37_5, p37_8, h37_1, sz39⟩ := hS
      obtain ⟨h39_0, h39_1, h39_2, h39_3, h39_4, h39_5, h39_6, h39_7, h39_8, h39_9, h39_10, h39_11, h39_12, h39_13, h39_14, h39_15, h39_16, h39_17, h39_18, h39_19, h39_20, h39_21, h39_22, -⟩ := hp
      replace h39_0 : vs 0 = .int .i64 2 := h39_0
      replace h39_1 : vs 1 = .bool false := h39_1
      replace h39_2 : vs 2 = .bool false := h39_2
      replace h39_3 : vs 3 = undef := h39_3
      replace h39_4 : vs 4 = undef := h39_4
      replace h39_5 : vs 5 = undef := h39_5
      replace h39_6 : vs 6 = undef := h39_6
      replace h39_7 : vs 7 = undef := h39_7
      replace h39_8 : vs 8 = undef := h39_8
      replace h39_9 : vs 9 = undef := h39_9
      replace h39_10 : vs 10 = .bool false := h39_10
      replace h39_11 : vs 11 = .bool false := h39_11
      replace h39_12 : vs 12 = .int .i64 2 := h39_12
      replace h39_13 : vs 13 = .bool true := h39_13
      replace h39_14 : vs 14 = .bool true := h39_14
      replace h39_15 : vs 15 = .int .i64 2 := h39_15
      replace h39_16 : vs 16 = .bool false := h39_16
      replace h39_17 : vs 17 = .bool false := h39_17
      replace h39_18 : vs 18 = .int .i64 0 := h39_18
      replace h39_19 : vs 19 = .bool false := h39_19
      replace h39_20 : vs 20 = .bool false := h39_20
      replace h39_21 : vs 21 = .bool false := h39_21
      replace h39_22 : vs 22 = .bool false := h39_22
      simp only [h39_0, h39_1, h39_2, h39_3, h39_4, h39_5, h39_6, h39_7, h39_8, h39_9, h39_10, h39_11, h39_12, h39_13, h39_14, h39_15, h39_16, h39_17, h39_18, h39_19, h39_20, h39_21, h39_22]
      clear h39_0 h39_1 h39_2 h39_3 h39_4 h39_5 h39_6 h39_7 h39_8 h39_9 h39_10 h39_11 h39_12 h39_13 h39_14 h39_15 h39_16 h39_17 h39_18 h39_19 h39_20 h39_21 h39_22
      have kp36_8_0 := p36_8.cell0
      have kp36_8_1 := p36_8.cell1
      have kp36_8_2 := p36_8.cell2
      have kp37_8_0 := p37_8.cell0
      have kp37_8_1 := p37_8.cell1
      have kp37_8_2 := p37_8.cell2
      go_upto_region 10 with (fail)
      clear kp36_8_0 kp36_8_1 kp36_8_2 kp37_8_0 kp37_8_1 kp37_8_2
      have szw40 := Ext.size E0
      refine region_go [.one fun v _ => v = .int .i64 a,
        .one fun v _ => v = .int .i64 b,
        .one fun v _ => v = .int .i64 (K : Int),
        .one fun v _ => v = .tuple #[.int .i64 0, .int .i64 2],
        .one fun v _ => v = .tuple #[.int .i64 0, .int .i64 2],
        .one fun v _ => v = .int .i64 0,
        .one fun v _ => v = .int .i64 2,
        .one fun v _ => v = .int .i64 0,
        .one fun v _ => v = .int .i64 2]
       (fun W => Ext w W ∧ Rw W (.agg #[.bool b36_8, .slice a36_8 n36_8 c36_8, .slice d36_8 m36_8 o36_8]) ((a : Rat) / P2 K) ∧ Bx3 W g36_8 35 (.bool b36_8) (.slice a36_8 n36_8 c36_8) (.slice d36_8 m36_8 o36_8) ∧ Zw W u36_1 a ∧ Rw W (.agg #[.bool b37_8, .slice a37_8 n37_8 c37_8, .slice d37_8 m37_8 o37_8]) ((b : Rat) / P2 K) ∧ Bx3 W g37_8 35 (.bool b37_8) (.slice a37_8 n37_8 c37_8) (.slice d37_8 m37_8 o37_8) ∧ Zw W u37_1 b ∧ W39.heap.size ≤ W.heap.size) ⟨Good.is _, Good.is _, Good.is _, Good.is _, Good.is _, Good.is _, Good.is _, Good.is _, Good.is _, trivial⟩
       (fun W W1 hS hE => ⟨(Ext.trans hS.1 hE), (hS.2.1.ext hE), (hS.2.2.1.ext hE), (hS.2.2.2.1.ext hE), (hS.2.2.2.2.1.ext hE), (hS.2.2.2.2.2.1.ext hE), (hS.2.2.2.2.2.2.1.ext hE), (Nat.le_trans hS.2.2.2.2.2.2.2 (Ext.size hE))⟩) ⟨E0, h36_5, p36_8, h36_1, h37_5, p37_8, h37_1, Nat.le_refl _⟩ (by kernel_rfl) (by kernel_rfl) (by kernel_rfl) (by kernel_rfl) (A := ?A40) ?hA40 ?howe40 ?hfin40
      case hA40 =>
       intro vs
       simp only [putAll, Act.put, List.setIfInBounds_toArray, List.set_cons_zero, List.set_cons_succ, Nat.zero_add, Nat.reduceAdd]
       exact rfl
      case howe40 =>
       clear E0 h36_5 p36_8 h36_1 h37_5 p37_8 h37_1
       intro hf
       refine ⟨owesE 0 [] hf rfl (by kernel_rfl) ?_, owesE 1 [] hf rfl (by kernel_rfl) ?_, owesE 2 [] hf rfl (by kernel_rfl) ?_, owesE 3 [0, 1, 2] hf rfl (by kernel_rfl) ?_, owesE 4 [3] hf rfl (by kernel_rfl) ?_, owesE 5 [4] hf rfl (by kernel_rfl) ?_, owesE 6 [4] hf rfl (by kernel_rfl) ?_, owesE 7 [5] hf rfl (by kernel_rfl) ?_, owesE 8 [6] hf rfl (by kernel_rfl) ?_, trivial⟩
       all_goals intro vs W hS hp hx KO hKO
       all_goals simp only [Act.put, List.setIfInBounds_toArray, List.set_cons_zero, List.set_cons_succ] at hKO
       ·go_simp
        exact hKO _ W (Ext.refl W) rfl
       ·go_simp
        exact hKO _ W (Ext.refl W) rfl
       ·go_simp
        exact hKO _ W (Ext.refl W) rfl
       ·have e0 := isOf hp.1
        have e1 := isOf hp.2.1
        have e2 := isOf hp.2.2.1
        simp only [e0, e1, e2] at hKO
        go_simp
        refine (Try.fixDivV a b K HK.out.1 _ HB.out.1.1 HB.out.1.2 HB.out.2.1 HB.out.2.2 HB0.out.1 HVD.out HED.out).mono ?_
        rintro e W1 ⟨rfl, hE⟩
        exact hKO _ W1 hE rfl
       ·have e3 := isOf hp.1
        simp only [e3] at hKO
        go_simp
        exact hKO _ W (Ext.refl W) rfl
       ·have e4 := isOf hp.1
        simp only [e4] at hKO
        go_simp
        exact hKO _ W (Ext.refl W) rfl
       ·have e4 := isOf hp.1
        simp only [e4] at hKO
        go_simp
        exact hKO _ W (Ext.refl W) rfl
       ·have e5 := isOf hp.1
        simp only [e5] at hKO
        go_simp
        exact hKO _ W (Ext.refl W) rfl
       ·have e6 := isOf hp.1
        simp only [e6] at hKO
        go_simp
        exact hKO _ W (Ext.refl W) rfl
      intro vs W40 hS hp
      clear szw40 E0 h36_5 p36_8 h36_1 h37_5 p37_8 h37_1
      obtain ⟨E0, h36_5, p36_8, h36_1, h37_5, p37_8, h37_1, sz40⟩ := hS
      obtain ⟨h40_0, h40_1, h40_2, h40_3, h40_4, h40_5, h40_6, h40_7, h40_8, -⟩ := hp
      replace h40_0 : vs 0 = .int .i64 a := h40_0
      replace h40_1 : vs 1 = .int .i64 b := h40_1
      replace h40_2 : vs 2 = .int .i64 (K : Int) := h40_2
      replace h40_3 : vs 3 = .tuple #[.int .i64 0, .int .i64 2] := h40_3
      replace h40_4 : vs 4 = .tuple #[.int .i64 0, .int .i64 2] := h40_4
      replace h40_5 : vs 5 = .int .i64 0 := h40_5
      replace h40_6 : vs 6 = .int .i64 2 := h40_6
      replace h40_7 : vs 7 = .int .i64 0 := h40_7
      replace h40_8 : vs 8 = .int .i64 2 := h40_8
      simp only [h40_0, h40_1, h40_2, h40_3, h40_4, h40_5, h40_6, h40_7, h40_8]
      clear h40_0 h40_1 h40_2 h40_3 h40_4 h40_5 h40_6 h40_7 h40_8
      have kp36_8_0 := p36_8.cell0
      have kp36_8_1 := p36_8.cell1
      have kp36_8_2 := p36_8.cell2
      have kp37_8_0 := p37_8.cell0
      have kp37_8_1 := p37_8.cell1
      have kp37_8_2 := p37_8.cell2
      go_upto_region 13 with (fail)
      clear kp36_8_0 kp36_8_1 kp36_8_2 kp37_8_0 kp37_8_1 kp37_8_2
      have szw41 := Ext.size E0
      refine region_go [.one fun v _ => v = .agg #[.bool b36_8, .slice a36_8 n36_8 c36_8, .slice d36_8 m36_8 o36_8],
        .one fun v _ => v = .agg #[.bool b37_8, .slice a37_8 n37_8 c37_8, .slice d37_8 m37_8 o37_8],
        .one fun v W => ∃ v', v = .tuple #[v', .int .i64 0] ∧ (fun v W => Rw W v ((a : Rat) / P2 K / ((b : Rat) / P2 K))) v' W,
        .one fun v W => ∃ v', v = .tuple #[v', .int .i64 0] ∧ (fun v W => Rw W v ((a : Rat) / P2 K / ((b : Rat) / P2 K))) v' W,
        .one fun v W => Rw W v ((a : Rat) / P2 K / ((b : Rat) / P2 K)),
        .one fun v _ => v = .int .i64 0,
        .one fun v W => ∃ g, v = .pointer (some ⟨g, 0, none⟩) ∧ W40.heap.size ≤ g ∧ Form W g 35 3,
        .three 6 4 (fun p r _ W => Put3 W40.heap.size 35 p r W),
        .one fun v _ => v = .int .i64 0]
       (fun W => Ext w W ∧ Rw W (.agg #[.bool b36_8, .slice a36_8 n36_8 c36_8, .slice d36_8 m36_8 o36_8]) ((a : Rat) / P2 K) ∧ Bx3 W g36_8 35 (.bool b36_8) (.slice a36_8 n36_8 c36_8) (.slice d36_8 m36_8 o36_8) ∧ Zw W u36_1 a ∧ Rw W (.agg #[.bool b37_8, .slice a37_8 n37_8 c37_8, .slice d37_8 m37_8 o37_8]) ((b : Rat) / P2 K) ∧ Bx3 W g37_8 35 (.bool b37_8) (.slice a37_8 n37_8 c37_8) (.slice d37_8 m37_8 o37_8) ∧ Zw W u37_1 b ∧ W40.heap.size ≤ W.heap.size) ⟨Good.is _, Good.is _, (Good.rat _).tup _, (Good.rat _).tup _, Good.rat _, Good.is _, Good.box _ _ _, cert_put3, Good.is _, trivial⟩
       (fun W W1 hS hE => ⟨(Ext.trans hS.1 hE), (hS.2.1.ext hE), (hS.2.2.1.ext hE), (hS.2.2.2.1.ext hE), (hS.2.2.2.2.1.ext hE), (hS.2.2.2.2.2.1.ext hE), (hS.2.2.2.2.2.2.1.ext hE), (Nat.le_trans hS.2.2.2.2.2.2.2 (Ext.size hE))⟩) ⟨E0, h36_5, p36_8, h36_1, h37_5, p37_8, h37_1, Nat.le_refl _⟩ (by kernel_rfl) (by kernel_rfl) (by kernel_rfl) (by kernel_rfl) (A := ?A41) ?hA41 ?howe41 ?hfin41
      case hA41 =>
       intro vs
       simp only [putAll, Act.put, List.setIfInBounds_toArray, List.set_cons_zero, List.set_cons_succ, Nat.zero_add, Nat.reduceAdd]
       exact rfl
      case howe41 =>
       clear E0 h36_5 p36_8 h36_1 h37_5 p37_8 h37_1
       intro hf
       refine ⟨owesE 0 [] hf rfl (by kernel_rfl) ?_, owesE 1 [] hf rfl (by kernel_rfl) ?_, owesE 2 [0, 1] hf rfl (by kernel_rfl) ?_, owesE 3 [2] hf rfl (by kernel_rfl) ?_, owesE 4 [3] hf rfl (by kernel_rfl) ?_, owesE 5 [3] hf rfl (by kernel_rfl) ?_, owesE 6 [] hf rfl (by kernel_rfl) ?_, owesW 7 [6, 4] hf rfl (by kernel_rfl) (by kernel_rfl) ?_, owesE 8 [5] hf rfl (by kernel_rfl) ?_, trivial⟩
       all_goals intro vs W hS hp hx KO hKO
       all_goals simp only [Act.put, List.setIfInBounds_toArray, List.set_cons_zero, List.set_cons_succ] at hKO
       ·have fc0 := hS.2.2.1.cell0
        have fc1 := hS.2.2.1.cell1
        have fc2 := hS.2.2.1.cell2
        go_simp
        exact hKO _ W (Ext.refl W) rfl
       ·have fc0 := hS.2.2.2.2.2.1.cell0
        have fc1 := hS.2.2.2.2.2.1.cell1
        have fc2 := hS.2.2.2.2.2.1.cell2
        go_simp
        exact hKO _ W (Ext.refl W) rfl
       ·have e0 := isOf hp.1
        have e1 := isOf hp.2.1
        simp only [e0, e1] at hKO
        go_simp
        refine (Try.refRDiv (hS.2.1) (hS.2.2.2.2.1) SX.out SY.out (by omega) HY0.out).mono ?_
        rintro e W1 ⟨v, rfl, hv, hE⟩
        exact hKO _ W1 hE ⟨_, rfl, hv⟩
       ·have q2 := hp.1
        obtain ⟨u, ev, hu⟩ := q2
        replace ev : vs 2 = _ := ev
        simp only [ev] at hKO
        go_simp
        exact hKO _ W (Ext.refl W) ⟨u, rfl, hu⟩
       ·have q3 := hp.1
        obtain ⟨u, ev, hu⟩ := q3
        replace ev : vs 3 = _ := ev
        simp only [ev] at hKO
        go_simp
        exact hKO _ W (Ext.refl W) hu
       ·have q3 := hp.1
        obtain ⟨u, ev, hu⟩ := q3
        replace ev : vs 3 = _ := ev
        simp only [ev] at hKO
        go_simp
        exact hKO _ W (Ext.refl W) rfl
       ·have hn := Bx3.new W 35 (.bool false) (.slice none 0 0) (.slice none 0 0)
        have hE := Ext.alloc1 W (.cells #[.bool false, .slice none 0 0, .slice none 0 0] 35)
        have hsz := hS.2.2.2.2.2.2.2
        go_simp
        exact hKO _ _ hE ⟨_, rfl, hsz, hn.form⟩
       ·have q6 := hp.1
        have q4 := hp.2.1
        obtain ⟨g, ev, hg, hf⟩ := q6
        replace ev : vs 6 = _ := ev
        obtain ⟨x0, y0, z0, hx, hno⟩ := hf.bx3
        have qr := q4
        obtain ⟨b3, a3, n3, c3, d3, m3, o3, er, -, -, -⟩ := qr
        replace er : vs 4 = _ := er
        have r0 := hx.froz0
        have t0 := hx.cell0
        have r1 := hx.froz1
        have t1 := hx.cell1
        have r2 := hx.froz2
        have t2 := hx.cell2
        have hw := Wr.set3 hx hno b3 a3 n3 c3 d3 m3 o3
        have hq := hx.set (.bool b3) (.slice a3 n3 c3) (.slice d3 m3 o3)
        simp only [ev, er] at hKO
        go_simp
        exact hKO _ _ hw ⟨(Ext.wr hS.1 hw (by omega)), (hS.2.1.wr hw), (hS.2.2.1.wr hw (by omega)), (hS.2.2.2.1.wr hw), (hS.2.2.2.2.1.wr hw), (hS.2.2.2.2.2.1.wr hw (by omega)), (hS.2.2.2.2.2.2.1.wr hw), (Nat.le_trans hS.2.2.2.2.2.2.2 hw.apart.size)⟩ ⟨g, b3, a3, n3, c3, d3, m3, o3, ev, er, hg, hq⟩
       ·have e5 := isOf hp.1
        simp only [e5] at hKO
        go_simp
        exact hKO _ W (Ext.refl W) rfl
      intro vs W41 hS hp
      clear szw41 E0 h36_5 p36_8 h36_1 h37_5 p37_8 h37_1
      obtain ⟨E0, h36_5, p36_8, h36_1, h37_5, p37_8, h37_1, sz41⟩ := hS
      obtain ⟨h41_0, h41_1, h41_2, h41_3, h41_4, h41_5, h41_6, h41_7, h41_8, -⟩ := hp
      obtain ⟨g41_7, b41_7, a41_7, n41_7, c41_7, d41_7, m41_7, o41_7, ev41_7, er41_7, hg41_7, p41_7⟩ := h41_7
      replace ev41_7 : vs 6 = _ := ev41_7
      replace er41_7 : vs 4 = _ := er41_7
      replace h41_4 := (show Rw W41 (vs 4) ((a : Rat) / P2 K / ((b : Rat) / P2 K)) from h41_4)
      rw [er41_7] at h41_4
      replace h41_0 : vs 0 = .agg #[.bool b36_8, .slice a36_8 n36_8 c36_8, .slice d36_8 m36_8 o36_8] := h41_0
      replace h41_1 : vs 1 = .agg #[.bool b37_8, .slice a37_8 n37_8 c37_8, .slice d37_8 m37_8 o37_8] := h41_1
      replace h41_5 : vs 5 = .int .i64 0 := h41_5
      replace h41_8 : vs 8 = .int .i64 0 := h41_8
      simp only [ev41_7, er41_7, h41_0, h41_1, h41_5, h41_8]
      clear ev41_7 er41_7 h41_0 h41_1 h41_5 h41_8 h41_2 h41_3 h41_6
      have kp36_8_0 := p36_8.cell0
      have kp36_8_1 := p36_8.cell1
      have kp36_8_2 := p36_8.cell2
      have kp37_8_0 := p37_8.cell0
      have kp37_8_1 := p37_8.cell1
      have kp37_8_2 := p37_8.cell2
      have kp41_7_0 := p41_7.cell0
      have kp41_7_1 := p41_7.cell1
      have kp41_7_2 := p41_7.cell2
      go_upto_region 15 with (fail)
      clear kp36_8_0 kp36_8_1 kp36_8_2 kp37_8_0 kp37_8_1 kp37_8_2 kp41_7_0 kp41_7_1 kp41_7_2
      have ltp41_7 := p41_7.lt
      have szw42 := Ext.size E0
      refine region_go [.one fun v W => Zw W v ((9223372036854775807 : Int)),
        .one fun v _ => v = .int .i64 (K : Int),
        .one fun v W => ∃ v', v = .tuple #[v', .int .i64 0] ∧ (fun v W => Rw W v (((9223372036854775807 : Int) : Rat) / P2 K)) v' W,
        .one fun v W => ∃ v', v = .tuple #[v', .int .i64 0] ∧ (fun v W => Rw W v (((9223372036854775807 : Int) : Rat) / P2 K)) v' W,
        .one fun v W => Rw W v (((9223372036854775807 : Int) : Rat) / P2 K),
        .one fun v _ => v = .int .i64 0,
        .one fun v W => ∃ g, v = .pointer (some ⟨g, 0, none⟩) ∧ W41.heap.size ≤ g ∧ Form W g 35 3,
        .three 6 4 (fun p r _ W => Put3 W41.heap.size 35 p r W),
        .one fun v _ => v = .int .i64 0]
       (fun W => Ext w W ∧ Rw W (.agg #[.bool b36_8, .slice a36_8 n36_8 c36_8, .slice d36_8 m36_8 o36_8]) ((a : Rat) / P2 K) ∧ Bx3 W g36_8 35 (.bool b36_8) (.slice a36_8 n36_8 c36_8) (.slice d36_8 m36_8 o36_8) ∧ Zw W u36_1 a ∧ Rw W (.agg #[.bool b37_8, .slice a37_8 n37_8 c37_8, .slice d37_8 m37_8 o37_8]) ((b : Rat) / P2 K) ∧ Bx3 W g37_8 35 (.bool b37_8) (.slice a37_8 n37_8 c37_8) (.slice d37_8 m37_8 o37_8) ∧ Zw W u37_1 b ∧ Rw W (.agg #[.bool b41_7, .slice a41_7 n41_7 c41_7, .slice d41_7 m41_7 o41_7]) ((a : Rat) / P2 K / ((b : Rat) / P2 K)) ∧ Bx3 W g41_7 35 (.bool b41_7) (.slice a41_7 n41_7 c41_7) (.slice d41_7 m41_7 o41_7) ∧ W41.heap.size ≤ W.heap.size) ⟨Good.zed _, Good.is _, (Good.rat _).tup _, (Good.rat _).tup _, Good.rat _, Good.is _, Good.box _ _ _, cert_put3, Good.is _, trivial⟩
       (fun W W1 hS hE => ⟨(Ext.trans hS.1 hE), (hS.2.1.ext hE), (hS.2.2.1.ext hE), (hS.2.2.2.1.ext hE), (hS.2.2.2.2.1.ext hE), (hS.2.2.2.2.2.1.ext hE), (hS.2.2.2.2.2.2.1.ext hE), (hS.2.2.2.2.2.2.2.1.ext hE), (hS.2.2.2.2.2.2.2.2.1.ext hE), (Nat.le_trans hS.2.2.2.2.2.2.2.2.2 (Ext.size hE))⟩) ⟨E0, h36_5, p36_8, h36_1, h37_5, p37_8, h37_1, h41_4, p41_7, Nat.le_refl _⟩ (by kernel_rfl) (by kernel_rfl) (by kernel_rfl) (by kernel_rfl) (A := ?A42) ?hA42 ?howe42 ?hfin42
      case hA42 =>
       intro vs
       simp only [putAll, Act.put, List.setIfInBounds_toArray, List.set_cons_zero, List.set_cons_succ, Nat.zero_add, Nat.reduceAdd]
       exact rfl
      case howe42 =>
       clear E0 h36_5 p36_8 h36_1 h37_5 p37_8 h37_1 h41_4 p41_7
       intro hf
       refine ⟨owesE 0 [] hf rfl (by kernel_rfl) ?_, owesE 1 [] hf rfl (by kernel_rfl) ?_, owesE 2 [0, 1] hf rfl (by kernel_rfl) ?_, owesE 3 [2] hf rfl (by kernel_rfl) ?_, owesE 4 [3] hf rfl (by kernel_rfl) ?_, owesE 5 [3] hf rfl (by kernel_rfl) ?_, owesE 6 [] hf rfl (by kernel_rfl) ?_, owesW 7 [6, 4] hf rfl (by kernel_rfl) (by kernel_rfl) ?_, owesE 8 [5] hf rfl (by kernel_rfl) ?_, trivial⟩
       all_goals intro vs W hS hp hx KO hKO
       all_goals simp only [Act.put, List.setIfInBounds_toArray, List.set_cons_zero, List.set_cons_succ] at hKO
       ·go_simp
        refine (Try.refZOf 9223372036854775807 _ (by omega) (by omega)).mono ?_
        rintro e W1 ⟨v, rfl, hv, hE⟩
        exact hKO _ W1 hE hv
       ·go_simp
        exact hKO _ W (Ext.refl W) rfl
       ·have q0 := hp.1
        have e1 := isOf hp.2.1
        simp only [e1] at hKO
        go_simp
        refine (Try.refBack q0 S3.out (by omega) K HK.out.2).mono ?_
        rintro e W1 ⟨v, rfl, hv, hE⟩
        exact hKO _ W1 hE ⟨_, rfl, hv⟩
       ·have q2 := hp.1
        obtain ⟨u, ev, hu⟩ := q2
        replace ev : vs 2 = _ := ev
        simp only [ev] at hKO
        go_simp
        exact hKO _ W (Ext.refl W) ⟨u, rfl, hu⟩
       ·have q3 := hp.1
        obtain ⟨u, ev, hu⟩ := q3
        replace ev : vs 3 = _ := ev
        simp only [ev] at hKO
        go_simp
        exact hKO _ W (Ext.refl W) hu
       ·have q3 := hp.1
        obtain ⟨u, ev, hu⟩ := q3
        replace ev : vs 3 = _ := ev
        simp only [ev] at hKO
        go_simp
        exact hKO _ W (Ext.refl W) rfl
       ·have hn := Bx3.new W 35 (.bool false) (.slice none 0 0) (.slice none 0 0)
        have hE := Ext.alloc1 W (.cells #[.bool false, .slice none 0 0, .slice none 0 0] 35)
        have hsz := hS.2.2.2.2.2.2.2.2.2
        go_simp
        exact hKO _ _ hE ⟨_, rfl, hsz, hn.form⟩
       ·have q6 := hp.1
        have q4 := hp.2.1
        obtain ⟨g, ev, hg, hf⟩ := q6
        replace ev : vs 6 = _ := ev
        obtain ⟨x0, y0, z0, hx, hno⟩ := hf.bx3
        have qr := q4
        obtain ⟨b3, a3, n3, c3, d3, m3, o3, er, -, -, -⟩ := qr
        replace er : vs 4 = _ := er
        have r0 := hx.froz0
        have t0 := hx.cell0
        have r1 := hx.froz1
        have t1 := hx.cell1
        have r2 := hx.froz2
        have t2 := hx.cell2
        have hw := Wr.set3 hx hno b3 a3 n3 c3 d3 m3 o3
        have hq := hx.set (.bool b3) (.slice a3 n3 c3) (.slice d3 m3 o3)
        simp only [ev, er] at hKO
        go_simp
        exact hKO _ _ hw ⟨(Ext.wr hS.1 hw (by omega)), (hS.2.1.wr hw), (hS.2.2.1.wr hw (by omega)), (hS.2.2.2.1.wr hw), (hS.2.2.2.2.1.wr hw), (hS.2.2.2.2.2.1.wr hw (by omega)), (hS.2.2.2.2.2.2.1.wr hw), (hS.2.2.2.2.2.2.2.1.wr hw), (hS.2.2.2.2.2.2.2.2.1.wr hw (by omega)), (Nat.le_trans hS.2.2.2.2.2.2.2.2.2 hw.apart.size)⟩ ⟨g, b3, a3, n3, c3, d3, m3, o3, ev, er, hg, hq⟩
       ·have e5 := isOf hp.1
        simp only [e5] at hKO
        go_simp
        exact hKO _ W (Ext.refl W) rfl
      intro vs W42 hS hp
      clear szw42 E0 h36_5 p36_8 h36_1 h37_5 p37_8 h37_1 h41_4 p41_7
      obtain ⟨E0, h36_5, p36_8, h36_1, h37_5, p37_8, h37_1, h41_4, p41_7, sz42⟩ := hS
      obtain ⟨h42_0, h42_1, h42_2, h42_3, h42_4, h42_5, h42_6, h42_7, h42_8, -⟩ := hp
      obtain ⟨g42_7, b42_7, a42_7, n42_7, c42_7, d42_7, m42_7, o42_7, ev42_7, er42_7, hg42_7, p42_7⟩ := h42_7
      replace ev42_7 : vs 6 = _ := ev42_7
      replace er42_7 : vs 4 = _ := er42_7
      replace h42_4 := (show Rw W42 (vs 4) (((9223372036854775807 : Int) : Rat) / P2 K) from h42_4)
      rw [er42_7] at h42_4
      replace h42_1 : vs 1 = .int .i64 (K : Int) := h42_1
      replace h42_5 : vs 5 = .int .i64 0 := h42_5
      replace h42_8 : vs 8 = .int .i64 0 := h42_8
      simp only [ev42_7, er42_7, h42_1, h42_5, h42_8]
      replace h42_0 : Zw W42 (vs 0) ((9223372036854775807 : Int)) := h42_0
      generalize vs 0 = u42_0 at h42_0 ⊢
      clear ev42_7 er42_7 h42_1 h42_5 h42_8 h42_2 h42_3 h42_6
      have kp36_8_0 := p36_8.cell0
      have kp36_8_1 := p36_8.cell1
      have kp36_8_2 := p36_8.cell2
      have kp37_8_0 := p37_8.cell0
      have kp37_8_1 := p37_8.cell1
      have kp37_8_2 := p37_8.cell2
      have kp41_7_0 := p41_7.cell0
      have kp41_7_1 := p41_7.cell1
      have kp41_7_2 := p41_7.cell2
      have kp42_7_0 := p42_7.cell0
      have kp42_7_1 := p42_7.cell1
      have kp42_7_2 := p42_7.cell2
      go_upto_region 16 with (fail)
      clear kp36_8_0 kp36_8_1 kp36_8_2 kp37_8_0 kp37_8_1 kp37_8_2 kp41_7_0 kp41_7_1 kp41_7_2 kp42_7_0 kp42_7_1 kp42_7_2
      have ltp42_7 := p42_7.lt
      have szw43 := Ext.size E0
      refine region_go [.one fun v _ => v = .bool true,
        .one fun v _ => v = .bool true,
        .one fun v _ => v = .int .i64 2,
        .one fun v _ => v = .bool true,
        .one fun v _ => v = .bool true,
        .one fun v _ => v = .bool true,
        .one fun v _ => v = .int .i64 0,
        .one fun v _ => v = .bool true,
        .one fun v _ => v = .bool true,
        .one fun v _ => v = .bool true,
        .one fun v _ => v = .agg #[.bool b41_7, .slice a41_7 n41_7 c41_7, .slice d41_7 m41_7 o41_7],
        .one fun v W => Rw W v (Rat.abs ((a : Rat) / P2 K / ((b : Rat) / P2 K))),
        .one fun v _ => v = .agg #[.bool b42_7, .slice a42_7 n42_7 c42_7, .slice d42_7 m42_7 o42_7],
        .one fun v _ => v = .int .i64 1,
        .one fun v _ => v = .bool true,
        .one fun v _ => v = .bool true,
        .one fun v _ => v = .bool true]
       (fun W => Ext w W ∧ Rw W (.agg #[.bool b36_8, .slice a36_8 n36_8 c36_8, .slice d36_8 m36_8 o36_8]) ((a : Rat) / P2 K) ∧ Bx3 W g36_8 35 (.bool b36_8) (.slice a36_8 n36_8 c36_8) (.slice d36_8 m36_8 o36_8) ∧ Zw W u36_1 a ∧ Rw W (.agg #[.bool b37_8, .slice a37_8 n37_8 c37_8, .slice d37_8 m37_8 o37_8]) ((b : Rat) / P2 K) ∧ Bx3 W g37_8 35 (.bool b37_8) (.slice a37_8 n37_8 c37_8) (.slice d37_8 m37_8 o37_8) ∧ Zw W u37_1 b ∧ Rw W (.agg #[.bool b41_7, .slice a41_7 n41_7 c41_7, .slice d41_7 m41_7 o41_7]) ((a : Rat) / P2 K / ((b : Rat) / P2 K)) ∧ Bx3 W g41_7 35 (.bool b41_7) (.slice a41_7 n41_7 c41_7) (.slice d41_7 m41_7 o41_7) ∧ Rw W (.agg #[.bool b42_7, .slice a42_7 n42_7 c42_7, .slice d42_7 m42_7 o42_7]) (((9223372036854775807 : Int) : Rat) / P2 K) ∧ Bx3 W g42_7 35 (.bool b42_7) (.slice a42_7 n42_7 c42_7) (.slice d42_7 m42_7 o42_7) ∧ Zw W u42_0 ((9223372036854775807 : Int)) ∧ W42.heap.size ≤ W.heap.size) ⟨Good.is _, Good.is _, Good.is _, Good.is _, Good.is _, Good.is _, Good.is _, Good.is _, Good.is _, Good.is _, Good.is _, Good.rat _, Good.is _, Good.is _, Good.is _, Good.is _, Good.is _, trivial⟩
       (fun W W1 hS hE => ⟨(Ext.trans hS.1 hE), (hS.2.1.ext hE), (hS.2.2.1.ext hE), (hS.2.2.2.1.ext hE), (hS.2.2.2.2.1.ext hE), (hS.2.2.2.2.2.1.ext hE), (hS.2.2.2.2.2.2.1.ext hE), (hS.2.2.2.2.2.2.2.1.ext hE), (hS.2.2.2.2.2.2.2.2.1.ext hE), (hS.2.2.2.2.2.2.2.2.2.1.ext hE), (hS.2.2.2.2.2.2.2.2.2.2.1.ext hE), (hS.2.2.2.2.2.2.2.2.2.2.2.1.ext hE), (Nat.le_trans hS.2.2.2.2.2.2.2.2.2.2.2.2 (Ext.size hE))⟩) ⟨E0, h36_5, p36_8, h36_1, h37_5, p37_8, h37_1, h41_4, p41_7, h42_4, p42_7, h42_0, Nat.le_refl _⟩ (by kernel_rfl) (by kernel_rfl) (by kernel_rfl) (by kernel_rfl) (A := ?A43) ?hA43 ?howe43 ?hfin43
      case hA43 =>
       intro vs
       simp only [putAll, Act.put, List.setIfInBounds_toArray, List.set_cons_zero, List.set_cons_succ, Nat.zero_add, Nat.reduceAdd]
       exact rfl
      case howe43 =>
       clear E0 h36_5 p36_8 h36_1 h37_5 p37_8 h37_1 h41_4 p41_7 h42_4 p42_7 h42_0
       intro hf
       refine ⟨owesE 0 [] hf rfl (by kernel_rfl) ?_, owesE 1 [0] hf rfl (by kernel_rfl) ?_, owesE 2 [1] hf rfl (by kernel_rfl) ?_, owesE 3 [1, 2] hf rfl (by kernel_rfl) ?_, owesE 4 [1, 3] hf rfl (by kernel_rfl) ?_, owesE 5 [4] hf rfl (by kernel_rfl) ?_, owesE 6 [5] hf rfl (by kernel_rfl) ?_, owesE 7 [5, 6] hf rfl (by kernel_rfl) ?_, owesE 8 [5, 7] hf rfl (by kernel_rfl) ?_, owesE 9 [8] hf rfl (by kernel_rfl) ?_, owesE 10 [9] hf rfl (by kernel_rfl) ?_, owesE 11 [9, 10] hf rfl (by kernel_rfl) ?_, owesE 12 [9] hf rfl (by kernel_rfl) ?_, owesE 13 [9, 11, 12] hf rfl (by kernel_rfl) ?_, owesE 14 [9, 13] hf rfl (by kernel_rfl) ?_, owesE 15 [9, 14] hf rfl (by kernel_rfl) ?_, owesE 16 [15] hf rfl (by kernel_rfl) ?_, trivial⟩
       all_goals intro vs W hS hp hx KO hKO
       all_goals simp only [Act.put, List.setIfInBounds_toArray, List.set_cons_zero, List.set_cons_succ] at hKO
       ·go_simp
        refine (Try.alive08 _).mono ?_
        rintro e W1 ⟨rfl, hE⟩
        exact hKO _ W1 hE rfl
       ·have e0 := isOf hp.1
        simp only [e0] at hKO
        go_simp
        exact hKO _ W (Ext.refl W) rfl
       ·have e1 := isOf hp.1
        simp only [e1] at hKO
        go_simp
        exact hKO _ W (Ext.refl W) rfl
       ·have e1 := isOf hp.1
        have e2 := isOf hp.2.1
        simp only [e1, e2] at hKO
        go_simp
        exact hKO _ W (Ext.refl W) rfl
       ·have e1 := isOf hp.1
        have e3 := isOf hp.2.1
        simp only [e1, e3] at hKO
        go_simp
        exact hKO _ W (Ext.refl W) rfl
       ·have e4 := isOf hp.1
        simp only [e4] at hKO
        go_simp
        exact hKO _ W (Ext.refl W) rfl
       ·have e5 := isOf hp.1
        simp only [e5] at hKO
        go_simp
        exact hKO _ W (Ext.refl W) rfl
       ·have e5 := isOf hp.1
        have e6 := isOf hp.2.1
        simp only [e5, e6] at hKO
        go_simp
        exact hKO _ W (Ext.refl W) rfl
       ·have e5 := isOf hp.1
        have e7 := isOf hp.2.1
        simp only [e5, e7] at hKO
        go_simp
        exact hKO _ W (Ext.refl W) rfl
       ·have e8 := isOf hp.1
        simp only [e8] at hKO
        go_simp
        exact hKO _ W (Ext.refl W) rfl
       ·have e9 := isOf hp.1
        simp only [e9] at hKO
        have fc0 := hS.2.2.2.2.2.2.2.2.1.cell0
        have fc1 := hS.2.2.2.2.2.2.2.2.1.cell1
        have fc2 := hS.2.2.2.2.2.2.2.2.1.cell2
        go_simp
        exact hKO _ W (Ext.refl W) rfl
       ·have e9 := isOf hp.1
        have e10 := isOf hp.2.1
        simp only [e9, e10] at hKO
        go_simp
        refine (Try.refRAbs (hS.2.2.2.2.2.2.2.1)).mono ?_
        rintro e W1 ⟨v, rfl, hv, hE⟩
        exact hKO _ W1 hE hv
       ·have e9 := isOf hp.1
        simp only [e9] at hKO
        have fc0 := hS.2.2.2.2.2.2.2.2.2.2.1.cell0
        have fc1 := hS.2.2.2.2.2.2.2.2.2.2.1.cell1
        have fc2 := hS.2.2.2.2.2.2.2.2.2.2.1.cell2
        go_simp
        exact hKO _ W (Ext.refl W) rfl
       ·have e9 := isOf hp.1
        have q11 := hp.2.1
        have e12 := isOf hp.2.2.1
        simp only [e9, e12] at hKO
        go_simp
        refine (Try.refRCmpR q11 (hS.2.2.2.2.2.2.2.2.2.1) SQA.out SMO.out (by omega) HFO.out).mono ?_
        rintro e W1 ⟨rfl, hE⟩
        exact hKO _ W1 hE rfl
       ·have e9 := isOf hp.1
        have e13 := isOf hp.2.1
        simp only [e9, e13] at hKO
        go_simp
        exact hKO _ W (Ext.refl W) rfl
       ·have e9 := isOf hp.1
        have e14 := isOf hp.2.1
        simp only [e9, e14] at hKO
        go_simp
        exact hKO _ W (Ext.refl W) rfl
       ·have e15 := isOf hp.1
        simp only [e15] at hKO
        go_simp
        exact hKO _ W (Ext.refl W) rfl
      intro vs W43 hS hp
      clear szw43 E0 h36_5 p36_8 h36_1 h37_5 p37_8 h37_1 h41_4 p41_7 h42_4 p42_7 h42_0
      obtain ⟨E0, h36_5, p36_8, h36_1, h37_5, p37_8, h37_1, h41_4, p41_7, h42_4, p42_7, h42_0, sz43⟩ := hS
      obtain ⟨h43_0, h43_1, h43_2, h43_3, h43_4, h43_5, h43_6, h43_7, h43_8, h43_9, h43_10, h43_11, h43_12, h43_13, h43_14, h43_15, h43_16, -⟩ := hp
      replace h43_0 : vs 0 = .bool true := h43_0
      replace h43_1 : vs 1 = .bool true := h43_1
      replace h43_2 : vs 2 = .int .i64 2 := h43_2
      replace h43_3 : vs 3 = .bool true := h43_3
      replace h43_4 : vs 4 = .bool true := h43_4
      replace h43_5 : vs 5 = .bool true := h43_5
      replace h43_6 : vs 6 = .int .i64 0 := h43_6
      replace h43_7 : vs 7 = .bool true := h43_7
      replace h43_8 : vs 8 = .bool true := h43_8
      replace h43_9 : vs 9 = .bool true := h43_9
      replace h43_10 : vs 10 = .agg #[.bool b41_7, .slice a41_7 n41_7 c41_7, .slice d41_7 m41_7 o41_7] := h43_10
      replace h43_12 : vs 12 = .agg #[.bool b42_7, .slice a42_7 n42_7 c42_7, .slice d42_7 m42_7 o42_7] := h43_12
      replace h43_13 : vs 13 = .int .i64 1 := h43_13
      replace h43_14 : vs 14 = .bool true := h43_14
      replace h43_15 : vs 15 = .bool true := h43_15
      replace h43_16 : vs 16 = .bool true := h43_16
      simp only [h43_0, h43_1, h43_2, h43_3, h43_4, h43_5, h43_6, h43_7, h43_8, h43_9, h43_10, h43_12, h43_13, h43_14, h43_15, h43_16]
      replace h43_11 : Rw W43 (vs 11) (Rat.abs ((a : Rat) / P2 K / ((b : Rat) / P2 K))) := h43_11
      generalize vs 11 = u43_11 at h43_11 ⊢
      clear h43_0 h43_1 h43_2 h43_3 h43_4 h43_5 h43_6 h43_7 h43_8 h43_9 h43_10 h43_12 h43_13 h43_14 h43_15 h43_16
      have kp36_8_0 := p36_8.cell0
      have kp36_8_1 := p36_8.cell1
      have kp36_8_2 := p36_8.cell2
      have kp37_8_0 := p37_8.cell0
      have kp37_8_1 := p37_8.cell1
      have kp37_8_2 := p37_8.cell2
      have kp41_7_0 := p41_7.cell0
      have kp41_7_1 := p41_7.cell1
      have kp41_7_2 := p41_7.cell2
      have kp42_7_0 := p42_7.cell0
      have kp42_7_1 := p42_7.cell1
      have kp42_7_2 := p42_7.cell2
      go_wp2
      go_ret
      exact ⟨rfl, E0⟩

end Go.Rt
