/-
 The program's dyads: down, up, a multiple's number; what a grid too fine answers; the reference's likewise.
-/
import Derived.Test.YthmncdhibcoiaaaGreatSqz
import Derived.Test.YthmncdhibcoiaaaGreatDyadP
import Derived.Test.YthmncdhibcoiaaaGreatGL
import Derived.Test.YthmncdhibcoiaaaGreatDyadM

namespace Go.Rt

open Go Go.RowKit Go.Proofs

theorem Zw.nought (W : World) : Zw W (.agg #[.bool false, .slice none 0 0]) 0 := ⟨false, none, 0, 0, rfl, Lib.hid rfl, Nw.nil W⟩

/-- is it rounded away from nought, on its way down, up? -/
def awayF (z : Int) (R : Nat) : Bool := decide (z < 0) && decide (0 < R)

def awayC (z : Int) (R : Nat) : Bool := !decide (z < 0) && decide (0 < R)

theorem floor_away (x : Rat) (K : Nat) : (x * P2 K).floor = sgn (decide (x.num < 0)) (if awayF x.num (x.num.natAbs * 2 ^ K % x.den) = true then x.num.natAbs * 2 ^ K / x.den + 1 else x.num.natAbs * 2 ^ K / x.den) := floor_sgn x K

theorem ceil_away (x : Rat) (K : Nat) : (x * P2 K).ceil = sgn (decide (x.num < 0)) (if awayC x.num (x.num.natAbs * 2 ^ K % x.den) = true then x.num.natAbs * 2 ^ K / x.den + 1 else x.num.natAbs * 2 ^ K / x.den) := ceil_sgn x K

set_option maxRecDepth 100000 in
set_option maxHeartbeats 1000000 in
theorem Tryz.dyadFloor1 {v1 v2 v3 : Value} {b X : Bool} {a : Option Addr} {n c : Nat} {d : Option Addr} {m o g : Nat} {w : World} (hb : Bx3 w g 27 (.bool b) (.slice a n c) (.slice d m o)) (hX : b = X) :
  Calls Tryz.prog 122 #[v1, v2, v3, .pointer (some ⟨g, 0, none⟩)] w fun e w' => e = .returned (.bool X) ∧ Ext w w' := by
 subst hX
 obtain ⟨W0, hW0⟩ : ∃ W0, W0 = w := ⟨_, rfl⟩
 have E0 : Ext w W0 := by rw [hW0]; exact Ext.refl w
 replace hb : Bx3 W0 g 27 (.bool b) (.slice a n c) (.slice d m o) := hb.ext E0
 go_enter Tryz.func122, Tryz.ntmps122
 obtain ⟨khb_0, khb_1, khb_2⟩ := hb.c3
 go_upto_region 1 with (fail)
 rw [← hW0]
 clear hW0; clear khb_0 khb_1 khb_2
 obtain ⟨khb_0, khb_1, khb_2⟩ := hb.c3
 go_wp2; go_ret
 exact ⟨rfl, E0⟩

set_option maxRecDepth 100000 in
set_option maxHeartbeats 1000000 in
theorem Tryz.dyadCeil1 {v1 v2 v3 : Value} {b X : Bool} {a : Option Addr} {n c : Nat} {d : Option Addr} {m o g : Nat} {w : World} (hb : Bx3 w g 27 (.bool b) (.slice a n c) (.slice d m o)) (hX : (!b) = X) :
  Calls Tryz.prog 123 #[v1, v2, v3, .pointer (some ⟨g, 0, none⟩)] w fun e w' => e = .returned (.bool X) ∧ Ext w w' := by
 subst hX
 obtain ⟨W0, hW0⟩ : ∃ W0, W0 = w := ⟨_, rfl⟩
 have E0 : Ext w W0 := by rw [hW0]; exact Ext.refl w
 replace hb : Bx3 W0 g 27 (.bool b) (.slice a n c) (.slice d m o) := hb.ext E0
 go_enter Tryz.func123, Tryz.ntmps123
 obtain ⟨khb_0, khb_1, khb_2⟩ := hb.c3
 go_upto_region 1 with (fail)
 rw [← hW0]
 clear hW0; clear khb_0 khb_1 khb_2
 obtain ⟨khb_0, khb_1, khb_2⟩ := hb.c3
 go_wp2; go_ret
 exact ⟨rfl, E0⟩

set_option maxRecDepth 100000 in
set_option maxHeartbeats 4000000 in
theorem Tryz.dyadRoundF {b1 : Bool} {a1 : Option Addr} {n1 c1 : Nat} {d1 : Option Addr} {m1 o1 g : Nat} {x : Rat} {L : Nat} {w : World} (h1 : Rw w (.agg #[.bool b1, .slice a1 n1 c1, .slice d1 m1 o1]) x) (hb : Bx3 w g 27 (.bool b1) (.slice a1 n1 c1) (.slice d1 m1 o1)) (s1 : SmR L x) (hL : L ≤ 20000) (K : Nat) (hK : K ≤ 2000) :
  Calls Tryz.prog 121 #[.agg #[.bool b1, .slice a1 n1 c1, .slice d1 m1 o1], .int .i64 (K : Int), .func (.func 122) #[] #[.pointer (some ⟨g, 0, none⟩)]] w fun e w' => ∃ v', e = .returned (.tuple #[v', .int .i64 0]) ∧ Zw w' v' ((x * P2 K).floor) ∧ Ext w w' := by
 have B1 : Hid (1 < B64) := Lib.hid (by rw [B64_eq]; omega)
 have hk0 : ¬ ((K : Int) < 0) := by omega
 have hk0d : decide ((K : Int) < 0) = false := decide_eq_false hk0
 have hk1 : ¬ ((2000 : Int) < (K : Int)) := by omega
 have hk1d : decide ((2000 : Int) < (K : Int)) = false := decide_eq_false hk1
 obtain ⟨N, hN⟩ : ∃ N, N = x.num.natAbs * 2 ^ K := ⟨_, rfl⟩
 obtain ⟨D, hD⟩ : ∃ D, D = x.den := ⟨_, rfl⟩
 have HN := Lib.hid hN
 have HD := Lib.hid hD
 have SP : Hid (Sm L x.num.natAbs) := Lib.hid s1.1
 have SN : Hid (Sm (L + 33) N) := Lib.hid (by rw [hN]; exact (Sm.scale s1 K).mono (by omega))
 have SR : Hid (Sm (L + 33) (N % D)) := Lib.hid (SN.out.le (Nat.mod_le _ _))
 have SQ : Hid (Sm (L + 33) (N / D)) := Lib.hid (SN.out.le (Nat.div_le_self _ _))
 have HQ0 : Hid (D ≠ 0) := Lib.hid (by rw [hD]; exact x.den_nz)
 have S1 : Hid (Sm (L + 33) 1) := Lib.hid ((Sm.one B1.out).mono (by omega))
 have HB := h1.top.neg
 have HV : Hid ((x * P2 K).floor = sgn (decide (x.num < 0)) (if awayF x.num (N % D) = true then N / D + 1 else N / D)) := Lib.hid (by rw [floor_away, hN, hD])
 rw [HV.out]; clear hN hD hk0d hk1d
 obtain ⟨W0, hW0⟩ : ∃ W0, W0 = ((w.alloc (.cells #[.bool b1, .slice a1 n1 c1, .slice d1 m1 o1] 27)).alloc (.cells #[.bool false, .slice none 0 0] 25)) := ⟨_, rfl⟩
 have E0 : Ext w W0 := by rw [hW0]; exact ((Ext.alloc1 w (.cells #[.bool b1, .slice a1 n1 c1, .slice d1 m1 o1] 27)).alloc (.cells #[.bool false, .slice none 0 0] 25))
 replace h1 : Rw W0 (.agg #[.bool b1, .slice a1 n1 c1, .slice d1 m1 o1]) x := h1.ext E0
 replace hb : Bx3 W0 g 27 (.bool b1) (.slice a1 n1 c1) (.slice d1 m1 o1) := hb.ext E0
 have p3 : Bx3 W0 w.heap.size 27 (.bool b1) (.slice a1 n1 c1) (.slice d1 m1 o1) := by rw [hW0]; exact (Bx3.new w 27 (.bool b1) (.slice a1 n1 c1) (.slice d1 m1 o1)).ext (Ext.alloc1 (w.alloc (.cells #[.bool b1, .slice a1 n1 c1, .slice d1 m1 o1] 27)) (.cells #[.bool false, .slice none 0 0] 25))
 have p6 : Bx2 W0 (w.heap.size + 1) 25 (.bool false) (.slice none 0 0) := by rw [hW0]; simpa using (Bx2.new (w.alloc (.cells #[.bool b1, .slice a1 n1 c1, .slice d1 m1 o1] 27)) 25 (.bool false) (.slice none 0 0))
 go_enter Tryz.func121, Tryz.ntmps121
 obtain ⟨khb_0, khb_1, khb_2⟩ := hb.c3
 obtain ⟨kp3_0, kp3_1, kp3_2⟩ := p3.c3
 obtain ⟨kp6_0, kp6_1⟩ := p6.c2
 go_wp2_with fail
 rw [← hW0]
 clear hW0; clear khb_0 khb_1 khb_2 kp3_0 kp3_1 kp3_2 kp6_0 kp6_1
 refine (Tryz.divShlK h1.top.num SP.out (by omega) K (by omega)).mono ?_
 rintro e Wa ⟨vu, rfl, hu, hE⟩
 rw [← HN.out] at hu
 replace E0 := (Ext.trans E0 hE); replace h1 := (h1.ext hE); replace hb := (hb.ext hE); replace p3 := (p3.ext hE); replace p6 := (p6.ext hE); clear hE
 obtain ⟨khb_0, khb_1, khb_2⟩ := hb.c3
 obtain ⟨kp3_0, kp3_1, kp3_2⟩ := p3.c3
 obtain ⟨kp6_0, kp6_1⟩ := p6.c2
 go_wp2_with fail
 clear khb_0 khb_1 khb_2 kp3_0 kp3_1 kp3_2 kp6_0 kp6_1
 refine (Tryz.divDivModK hu (HD.out ▸ h1.den) SN.out (by omega) HQ0.out).mono ?_
 rintro e Wb ⟨vq, vr, rfl, hq, hr, hE⟩
 replace E0 := (Ext.trans E0 hE); replace h1 := (h1.ext hE); replace hb := (hb.ext hE); replace p3 := (p3.ext hE); replace p6 := (p6.ext hE); replace hu := (hu.ext hE); clear hE; clear hu
 obtain ⟨aq, nq, cq, ezq, zq, -⟩ := hq.len
 rw [ezq] at hq ⊢
 clear ezq
 obtain ⟨ar, nr, cr, ezr, zr, -⟩ := hr.len
 rw [ezr] at hr ⊢
 clear ezr
 by_cases hr0 : 0 < nr
 ·have hrI : (0 : Int) < (nr : Int) := by omega
  have HC : Hid ((b1) = awayF x.num (N % D)) := Lib.hid (by
   have h0 : N % D ≠ 0 := fun h => by have := zr.2 h; omega
   unfold awayF
   rw [decide_eq_true (Nat.pos_of_ne_zero h0), Bool.and_true, ← HB.out])
  clear zr
  obtain ⟨khb_0, khb_1, khb_2⟩ := hb.c3
  obtain ⟨kp3_0, kp3_1, kp3_2⟩ := p3.c3
  obtain ⟨kp6_0, kp6_1⟩ := p6.c2
  go_wp2_with fail
  clear khb_0 khb_1 khb_2 kp3_0 kp3_1 kp3_2 kp6_0 kp6_1
  refine (Tryz.dyadFloor1 hb HC.out).mono ?_
  rintro e Wc ⟨rfl, hE⟩
  replace E0 := (Ext.trans E0 hE); replace h1 := (h1.ext hE); replace hb := (hb.ext hE); replace p3 := (p3.ext hE); replace p6 := (p6.ext hE); replace hq := (hq.ext hE); replace hr := (hr.ext hE); clear hE
  cases hA : awayF x.num (N % D)
  ·have HA := Lib.hid hA
   clear hA
   obtain ⟨khb_0, khb_1, khb_2⟩ := hb.c3
   obtain ⟨kp3_0, kp3_1, kp3_2⟩ := p3.c3
   obtain ⟨kp6_0, kp6_1⟩ := p6.c2
   go_upto_region 7 with (fail)
   clear khb_0 khb_1 khb_2 kp3_0 kp3_1 kp3_2 kp6_0 kp6_1; clear hb
   cases b1
   ·have HX : Hid (decide (x.num < 0) = false) := Lib.hid HB.out.symm
    clear zq; have fp6 := p6.form; have ltp3 := p3.lt; have ltfp6 := fp6.lt; have szw19 := Ext.size E0
    refine region_gs [.one fun v _ => v = .pointer (some ⟨w.heap.size, 0, none⟩),
      .one fun v _ => v = .pointer (some ⟨w.heap.size, 0, none⟩),
      .one fun v _ => v = .bool false,
      .one fun v _ => v = .bool false,
      .one fun v _ => v = undef,
      .one fun v _ => v = undef,
      .one fun v _ => v = undef,
      .one fun v _ => v = .bool false,
      .one fun v _ => v = .slice aq nq cq,
      .one fun v _ => v = .agg #[.bool false, .slice aq nq cq],
      .own fun W => Bx2 W (w.heap.size + 1) 25 (.bool false) (.slice aq nq cq),
      .one fun v _ => v = .int .i64 0]
     (fun W => Ext w W ∧ Rw W (.agg #[.bool false, .slice a1 n1 c1, .slice d1 m1 o1]) x ∧ Bx3 W w.heap.size 27 (.bool false) (.slice a1 n1 c1) (.slice d1 m1 o1) ∧ Form W (w.heap.size + 1) 25 2 ∧ Nw W (.slice aq nq cq) (N / D) ∧ Nw W (.slice ar nr cr) (N % D) ∧ Wc.heap.size ≤ W.heap.size) ⟨Good.is _, Good.is _, Good.is _, Good.is _, Good.is _, Good.is _, Good.is _, Good.is _, Good.is _, Good.is _, cert_bx2, Good.is _, trivial⟩
     ⟨E0, h1, p3, fp6, hq, hr, Nat.le_refl _⟩ (A := ?A19) ?hA19 ?howe19 ?hfin19
    case hA19 =>
     intro vs
     simp only [putAll, Act.put, sA, sZ, sS, Nat.zero_add, Nat.reduceAdd]
     exact rfl
    case howe19 =>
     clear E0 h1 p3 fp6 hq hr
     intro hf
     refine ⟨oE 0 [] hf rfl ?_, oE 1 [0] hf rfl ?_, oE 2 [1] hf rfl ?_, oE 3 [2] hf rfl ?_, oE 4 [3] hf rfl ?_, oE 5 [3] hf rfl ?_, oE 6 [3] hf rfl ?_, oE 7 [3, 6] hf rfl ?_, oE 8 [] hf rfl ?_, oE 9 [7, 8] hf rfl ?_, oW 10 [9] hf rfl ?_, oE 11 [] hf rfl ?_, trivial⟩
     all_goals intro vs W hS hp hx KO hKO
     all_goals simp only [Act.put, sA, sZ, sS] at hKO
     ·go_simp; exact hKO _ W (.refl W) rfl
     ·have e0 := isOf hp.1; simp only [e0] at hKO; go_simp; exact hKO _ W (.refl W) rfl
     ·have e1 := isOf hp.1; simp only [e1] at hKO; have fc0 := hS.2.2.1.cell0; go_simp; exact hKO _ W (.refl W) rfl
     ·have e2 := isOf hp.1; simp only [e2] at hKO; go_simp; exact hKO _ W (.refl W) rfl
     ·have e3 := isOf hp.1; simp only [e3] at hKO; go_simp; exact hKO _ W (.refl W) rfl
     ·have e3 := isOf hp.1; simp only [e3] at hKO; go_simp; exact hKO _ W (.refl W) rfl
     ·have e3 := isOf hp.1; simp only [e3] at hKO; go_simp; exact hKO _ W (.refl W) rfl
     ·have e3 := isOf hp.1; have e6 := isOf hp.2.1; simp only [e3, e6] at hKO; go_simp; exact hKO _ W (.refl W) rfl
     ·go_simp; exact hKO _ W (.refl W) rfl
     ·have e7 := isOf hp.1; have e8 := isOf hp.2.1; simp only [e7, e8] at hKO; go_simp; exact hKO _ W (.refl W) rfl
     ·have e9 := isOf hp.1; simp only [e9] at hKO
      have hf := hS.2.2.2.1
      obtain ⟨x0_0, x0_1, hx, hno⟩ := hf.bx2
      have r0 := hx.froz0
      have t0 := hx.cell0
      have r1 := hx.froz1
      have t1 := hx.cell1
      have hw := Wr.set2 hx hno false aq nq cq
      have hq := hx.set (.bool false) (.slice aq nq cq)
      have hg : (w.heap.size + 1) ≤ (w.heap.size + 1) := Nat.le_refl _
      go_simp
      exact hKO _ _ hw ⟨(Ext.wr hS.1 hw (by omega)), (hS.2.1.wr hw), (hS.2.2.1.wr hw (by omega)), (hS.2.2.2.1.wr hw), (hS.2.2.2.2.1.wr hw), (hS.2.2.2.2.2.1.wr hw), (Nat.le_trans hS.2.2.2.2.2.2 hw.apart.size)⟩ hq
     ·go_simp; exact hKO _ W (.refl W) rfl
    intro vs W19 hS hp
    clear szw19 E0 h1 p3 fp6 hq hr
    obtain ⟨E0, h1, p3, fp6, hq, hr, sz19⟩ := hS
    obtain ⟨h19_0, h19_1, h19_2, h19_3, h19_4, h19_5, h19_6, h19_7, h19_8, h19_9, h19_10, h19_11, -⟩ := hp
    have p19_10 : Bx2 W19 (w.heap.size + 1) 25 (.bool false) (.slice aq nq cq) := h19_10
    replace h19_0 : vs 0 = .pointer (some ⟨w.heap.size, 0, none⟩) := h19_0
    replace h19_1 : vs 1 = .pointer (some ⟨w.heap.size, 0, none⟩) := h19_1
    replace h19_2 : vs 2 = .bool false := h19_2
    replace h19_3 : vs 3 = .bool false := h19_3
    replace h19_4 : vs 4 = undef := h19_4
    replace h19_5 : vs 5 = undef := h19_5
    replace h19_6 : vs 6 = undef := h19_6
    replace h19_7 : vs 7 = .bool false := h19_7
    replace h19_8 : vs 8 = .slice aq nq cq := h19_8
    replace h19_9 : vs 9 = .agg #[.bool false, .slice aq nq cq] := h19_9
    replace h19_11 : vs 11 = .int .i64 0 := h19_11
    simp only [h19_0, h19_1, h19_2, h19_3, h19_4, h19_5, h19_6, h19_7, h19_8, h19_9, h19_11]
    clear h19_0 h19_1 h19_2 h19_3 h19_4 h19_5 h19_6 h19_7 h19_8 h19_9 h19_11
    obtain ⟨kp3_0, kp3_1, kp3_2⟩ := p3.c3
    obtain ⟨kp19_10_0, kp19_10_1⟩ := p19_10.c2
    simp only [Exit.then]
    refine ‹∀ (a : Act) (w : World), Code.wp _ _ _ a w → _› _ _ ?_
    refine wp_ret ?_
    exact bodyPost_ret (v := .tuple #[.agg #[.bool false, .slice aq nq cq], .int .i64 0]) (by simp [results, Tryz.results121, go_sem, kp19_10_0, kp19_10_1]) rfl ⟨_, rfl, Zw.put hq (by rw [sgn_neg]; rfl) (by rw [HX.out]; rw [if_neg (by rw [HA.out]; simp)]), E0⟩
   ·have HX : Hid (decide (x.num < 0) = true) := Lib.hid HB.out.symm
    obtain ⟨XB, hXB⟩ : ∃ X, decide (0 < N / D) = X := ⟨_, rfl⟩
    have HXM := Lib.hid hXB
    have HXN : Hid (decide (0 < nq) = XB) := Lib.hid (by rw [← hXB, Bool.eq_iff_iff, decide_eq_true_iff, decide_eq_true_iff]; exact ⟨fun h => Nat.pos_of_ne_zero fun e => Nat.ne_of_gt h (zq.2 e), fun h => Nat.pos_of_ne_zero fun e => Nat.ne_of_gt h (zq.1 e)⟩)
    have HXI : Hid (decide ((0 : Int) < (nq : Int)) = XB) := Lib.hid (by rw [← HXN.out, Bool.eq_iff_iff, decide_eq_true_iff, decide_eq_true_iff]; omega)
    clear zq hXB; have fp6 := p6.form; have ltp3 := p3.lt; have ltfp6 := fp6.lt; have szw20 := Ext.size E0
    refine region_gs [.one fun v _ => v = .pointer (some ⟨w.heap.size, 0, none⟩),
      .one fun v _ => v = .pointer (some ⟨w.heap.size, 0, none⟩),
      .one fun v _ => v = .bool true,
      .one fun v _ => v = .bool true,
      .one fun v _ => v = .slice aq nq cq,
      .one fun v _ => v = .int .i64 (nq : Int),
      .one fun v _ => v = .bool XB,
      .one fun v _ => v = .bool XB,
      .one fun v _ => v = .slice aq nq cq,
      .one fun v _ => v = .agg #[.bool XB, .slice aq nq cq],
      .own fun W => Bx2 W (w.heap.size + 1) 25 (.bool XB) (.slice aq nq cq),
      .one fun v _ => v = .int .i64 0]
     (fun W => Ext w W ∧ Rw W (.agg #[.bool true, .slice a1 n1 c1, .slice d1 m1 o1]) x ∧ Bx3 W w.heap.size 27 (.bool true) (.slice a1 n1 c1) (.slice d1 m1 o1) ∧ Form W (w.heap.size + 1) 25 2 ∧ Nw W (.slice aq nq cq) (N / D) ∧ Nw W (.slice ar nr cr) (N % D) ∧ Wc.heap.size ≤ W.heap.size) ⟨Good.is _, Good.is _, Good.is _, Good.is _, Good.is _, Good.is _, Good.is _, Good.is _, Good.is _, Good.is _, cert_bx2, Good.is _, trivial⟩
     ⟨E0, h1, p3, fp6, hq, hr, Nat.le_refl _⟩ (A := ?A20) ?hA20 ?howe20 ?hfin20
    case hA20 =>
     intro vs
     simp only [putAll, Act.put, sA, sZ, sS, Nat.zero_add, Nat.reduceAdd]
     exact rfl
    case howe20 =>
     clear E0 h1 p3 fp6 hq hr
     intro hf
     refine ⟨oE 0 [] hf rfl ?_, oE 1 [0] hf rfl ?_, oE 2 [1] hf rfl ?_, oE 3 [2] hf rfl ?_, oE 4 [3] hf rfl ?_, oE 5 [3, 4] hf rfl ?_, oE 6 [3, 5] hf rfl ?_, oE 7 [3, 6] hf rfl ?_, oE 8 [] hf rfl ?_, oE 9 [7, 8] hf rfl ?_, oW 10 [9] hf rfl ?_, oE 11 [] hf rfl ?_, trivial⟩
     all_goals intro vs W hS hp hx KO hKO
     all_goals simp only [Act.put, sA, sZ, sS] at hKO
     ·go_simp; exact hKO _ W (.refl W) rfl
     ·have e0 := isOf hp.1; simp only [e0] at hKO; go_simp; exact hKO _ W (.refl W) rfl
     ·have e1 := isOf hp.1; simp only [e1] at hKO; have fc0 := hS.2.2.1.cell0; go_simp; exact hKO _ W (.refl W) rfl
     ·have e2 := isOf hp.1; simp only [e2] at hKO; go_simp; exact hKO _ W (.refl W) rfl
     ·have e3 := isOf hp.1; simp only [e3] at hKO; go_simp; exact hKO _ W (.refl W) rfl
     ·have e3 := isOf hp.1; have e4 := isOf hp.2.1; simp only [e3, e4] at hKO; go_simp; exact hKO _ W (.refl W) rfl
     ·have e3 := isOf hp.1; have e5 := isOf hp.2.1; simp only [e3, e5] at hKO; go_simp; exact hKO _ W (Ext.refl W) (by first | exact congrArg Value.bool HXI.out | exact congrArg Value.bool HXN.out)
     ·have e3 := isOf hp.1; have e6 := isOf hp.2.1; simp only [e3, e6] at hKO; go_simp; exact hKO _ W (.refl W) rfl
     ·go_simp; exact hKO _ W (.refl W) rfl
     ·have e7 := isOf hp.1; have e8 := isOf hp.2.1; simp only [e7, e8] at hKO; go_simp; exact hKO _ W (.refl W) rfl
     ·have e9 := isOf hp.1; simp only [e9] at hKO
      have hf := hS.2.2.2.1
      obtain ⟨x0_0, x0_1, hx, hno⟩ := hf.bx2
      have r0 := hx.froz0
      have t0 := hx.cell0
      have r1 := hx.froz1
      have t1 := hx.cell1
      have hw := Wr.set2 hx hno XB aq nq cq
      have hq := hx.set (.bool XB) (.slice aq nq cq)
      have hg : (w.heap.size + 1) ≤ (w.heap.size + 1) := Nat.le_refl _
      go_simp
      exact hKO _ _ hw ⟨(Ext.wr hS.1 hw (by omega)), (hS.2.1.wr hw), (hS.2.2.1.wr hw (by omega)), (hS.2.2.2.1.wr hw), (hS.2.2.2.2.1.wr hw), (hS.2.2.2.2.2.1.wr hw), (Nat.le_trans hS.2.2.2.2.2.2 hw.apart.size)⟩ hq
     ·go_simp; exact hKO _ W (.refl W) rfl
    intro vs W20 hS hp
    clear szw20 E0 h1 p3 fp6 hq hr
    obtain ⟨E0, h1, p3, fp6, hq, hr, sz20⟩ := hS
    obtain ⟨h20_0, h20_1, h20_2, h20_3, h20_4, h20_5, h20_6, h20_7, h20_8, h20_9, h20_10, h20_11, -⟩ := hp
    have p20_10 : Bx2 W20 (w.heap.size + 1) 25 (.bool XB) (.slice aq nq cq) := h20_10
    replace h20_0 : vs 0 = .pointer (some ⟨w.heap.size, 0, none⟩) := h20_0
    replace h20_1 : vs 1 = .pointer (some ⟨w.heap.size, 0, none⟩) := h20_1
    replace h20_2 : vs 2 = .bool true := h20_2
    replace h20_3 : vs 3 = .bool true := h20_3
    replace h20_4 : vs 4 = .slice aq nq cq := h20_4
    replace h20_5 : vs 5 = .int .i64 (nq : Int) := h20_5
    replace h20_6 : vs 6 = .bool XB := h20_6
    replace h20_7 : vs 7 = .bool XB := h20_7
    replace h20_8 : vs 8 = .slice aq nq cq := h20_8
    replace h20_9 : vs 9 = .agg #[.bool XB, .slice aq nq cq] := h20_9
    replace h20_11 : vs 11 = .int .i64 0 := h20_11
    simp only [h20_0, h20_1, h20_2, h20_3, h20_4, h20_5, h20_6, h20_7, h20_8, h20_9, h20_11]
    clear h20_0 h20_1 h20_2 h20_3 h20_4 h20_5 h20_6 h20_7 h20_8 h20_9 h20_11
    obtain ⟨kp3_0, kp3_1, kp3_2⟩ := p3.c3
    obtain ⟨kp20_10_0, kp20_10_1⟩ := p20_10.c2
    simp only [Exit.then]
    refine ‹∀ (a : Act) (w : World), Code.wp _ _ _ a w → _› _ _ ?_
    refine wp_ret ?_
    exact bodyPost_ret (v := .tuple #[.agg #[.bool XB, .slice aq nq cq], .int .i64 0]) (by simp [results, Tryz.results121, go_sem, kp20_10_0, kp20_10_1]) rfl ⟨_, rfl, Zw.put hq (by rw [sgn_neg, HXM.out]; exact (Bool.and_self XB).symm) (by rw [HX.out]; rw [if_neg (by rw [HA.out]; simp)]; exact sgn_lead HXM.out), E0⟩
  ·have HA := Lib.hid hA
   clear hA
   obtain ⟨khb_0, khb_1, khb_2⟩ := hb.c3
   obtain ⟨kp3_0, kp3_1, kp3_2⟩ := p3.c3
   obtain ⟨kp6_0, kp6_1⟩ := p6.c2
   go_wp2_with fail
   clear khb_0 khb_1 khb_2 kp3_0 kp3_1 kp3_2 kp6_0 kp6_1
   refine (Tryz.natOf 1 _ B1.out).mono ?_
   rintro e Wd ⟨v1, rfl, hone, hE, -⟩
   replace E0 := (Ext.trans E0 hE); replace h1 := (h1.ext hE); replace hb := (hb.ext hE); replace p3 := (p3.ext hE); replace p6 := (p6.ext hE); replace hq := (hq.ext hE); replace hr := (hr.ext hE); clear hE
   obtain ⟨khb_0, khb_1, khb_2⟩ := hb.c3
   obtain ⟨kp3_0, kp3_1, kp3_2⟩ := p3.c3
   obtain ⟨kp6_0, kp6_1⟩ := p6.c2
   go_wp2_with fail
   clear khb_0 khb_1 khb_2 kp3_0 kp3_1 kp3_2 kp6_0 kp6_1
   refine (Tryz.natAdd hq hone SQ.out S1.out (by omega)).mono ?_
   rintro e We ⟨vy, rfl, hy, hE, -⟩
   replace E0 := (Ext.trans E0 hE); replace h1 := (h1.ext hE); replace hb := (hb.ext hE); replace p3 := (p3.ext hE); replace p6 := (p6.ext hE); replace hq := (hq.ext hE); replace hr := (hr.ext hE); replace hone := (hone.ext hE); clear hE; clear hq hone; clear zq
   obtain ⟨ay, ny, cy, ezy, zy, -⟩ := hy.len
   rw [ezy] at hy ⊢
   clear ezy
   obtain ⟨khb_0, khb_1, khb_2⟩ := hb.c3
   obtain ⟨kp3_0, kp3_1, kp3_2⟩ := p3.c3
   obtain ⟨kp6_0, kp6_1⟩ := p6.c2
   go_upto_region 7 with (fail)
   clear khb_0 khb_1 khb_2 kp3_0 kp3_1 kp3_2 kp6_0 kp6_1; clear hb
   cases b1
   ·have HX : Hid (decide (x.num < 0) = false) := Lib.hid HB.out.symm
    clear zy; have fp6 := p6.form; have ltp3 := p3.lt; have ltfp6 := fp6.lt; have szw21 := Ext.size E0
    refine region_gs [.one fun v _ => v = .pointer (some ⟨w.heap.size, 0, none⟩),
      .one fun v _ => v = .pointer (some ⟨w.heap.size, 0, none⟩),
      .one fun v _ => v = .bool false,
      .one fun v _ => v = .bool false,
      .one fun v _ => v = undef,
      .one fun v _ => v = undef,
      .one fun v _ => v = undef,
      .one fun v _ => v = .bool false,
      .one fun v _ => v = .slice ay ny cy,
      .one fun v _ => v = .agg #[.bool false, .slice ay ny cy],
      .own fun W => Bx2 W (w.heap.size + 1) 25 (.bool false) (.slice ay ny cy),
      .one fun v _ => v = .int .i64 0]
     (fun W => Ext w W ∧ Rw W (.agg #[.bool false, .slice a1 n1 c1, .slice d1 m1 o1]) x ∧ Bx3 W w.heap.size 27 (.bool false) (.slice a1 n1 c1) (.slice d1 m1 o1) ∧ Form W (w.heap.size + 1) 25 2 ∧ Nw W (.slice ar nr cr) (N % D) ∧ Nw W (.slice ay ny cy) (N / D + 1) ∧ We.heap.size ≤ W.heap.size) ⟨Good.is _, Good.is _, Good.is _, Good.is _, Good.is _, Good.is _, Good.is _, Good.is _, Good.is _, Good.is _, cert_bx2, Good.is _, trivial⟩
     ⟨E0, h1, p3, fp6, hr, hy, Nat.le_refl _⟩ (A := ?A21) ?hA21 ?howe21 ?hfin21
    case hA21 =>
     intro vs
     simp only [putAll, Act.put, sA, sZ, sS, Nat.zero_add, Nat.reduceAdd]
     exact rfl
    case howe21 =>
     clear E0 h1 p3 fp6 hr hy
     intro hf
     refine ⟨oE 0 [] hf rfl ?_, oE 1 [0] hf rfl ?_, oE 2 [1] hf rfl ?_, oE 3 [2] hf rfl ?_, oE 4 [3] hf rfl ?_, oE 5 [3] hf rfl ?_, oE 6 [3] hf rfl ?_, oE 7 [3, 6] hf rfl ?_, oE 8 [] hf rfl ?_, oE 9 [7, 8] hf rfl ?_, oW 10 [9] hf rfl ?_, oE 11 [] hf rfl ?_, trivial⟩
     all_goals intro vs W hS hp hx KO hKO
     all_goals simp only [Act.put, sA, sZ, sS] at hKO
     ·go_simp; exact hKO _ W (.refl W) rfl
     ·have e0 := isOf hp.1; simp only [e0] at hKO; go_simp; exact hKO _ W (.refl W) rfl
     ·have e1 := isOf hp.1; simp only [e1] at hKO; have fc0 := hS.2.2.1.cell0; go_simp; exact hKO _ W (.refl W) rfl
     ·have e2 := isOf hp.1; simp only [e2] at hKO; go_simp; exact hKO _ W (.refl W) rfl
     ·have e3 := isOf hp.1; simp only [e3] at hKO; go_simp; exact hKO _ W (.refl W) rfl
     ·have e3 := isOf hp.1; simp only [e3] at hKO; go_simp; exact hKO _ W (.refl W) rfl
     ·have e3 := isOf hp.1; simp only [e3] at hKO; go_simp; exact hKO _ W (.refl W) rfl
     ·have e3 := isOf hp.1; have e6 := isOf hp.2.1; simp only [e3, e6] at hKO; go_simp; exact hKO _ W (.refl W) rfl
     ·go_simp; exact hKO _ W (.refl W) rfl
     ·have e7 := isOf hp.1; have e8 := isOf hp.2.1; simp only [e7, e8] at hKO; go_simp; exact hKO _ W (.refl W) rfl
     ·have e9 := isOf hp.1; simp only [e9] at hKO
      have hf := hS.2.2.2.1
      obtain ⟨x0_0, x0_1, hx, hno⟩ := hf.bx2
      have r0 := hx.froz0
      have t0 := hx.cell0
      have r1 := hx.froz1
      have t1 := hx.cell1
      have hw := Wr.set2 hx hno false ay ny cy
      have hq := hx.set (.bool false) (.slice ay ny cy)
      have hg : (w.heap.size + 1) ≤ (w.heap.size + 1) := Nat.le_refl _
      go_simp
      exact hKO _ _ hw ⟨(Ext.wr hS.1 hw (by omega)), (hS.2.1.wr hw), (hS.2.2.1.wr hw (by omega)), (hS.2.2.2.1.wr hw), (hS.2.2.2.2.1.wr hw), (hS.2.2.2.2.2.1.wr hw), (Nat.le_trans hS.2.2.2.2.2.2 hw.apart.size)⟩ hq
     ·go_simp; exact hKO _ W (.refl W) rfl
    intro vs W21 hS hp
    clear szw21 E0 h1 p3 fp6 hr hy
    obtain ⟨E0, h1, p3, fp6, hr, hy, sz21⟩ := hS
    obtain ⟨h21_0, h21_1, h21_2, h21_3, h21_4, h21_5, h21_6, h21_7, h21_8, h21_9, h21_10, h21_11, -⟩ := hp
    have p21_10 : Bx2 W21 (w.heap.size + 1) 25 (.bool false) (.slice ay ny cy) := h21_10
    replace h21_0 : vs 0 = .pointer (some ⟨w.heap.size, 0, none⟩) := h21_0
    replace h21_1 : vs 1 = .pointer (some ⟨w.heap.size, 0, none⟩) := h21_1
    replace h21_2 : vs 2 = .bool false := h21_2
    replace h21_3 : vs 3 = .bool false := h21_3
    replace h21_4 : vs 4 = undef := h21_4
    replace h21_5 : vs 5 = undef := h21_5
    replace h21_6 : vs 6 = undef := h21_6
    replace h21_7 : vs 7 = .bool false := h21_7
    replace h21_8 : vs 8 = .slice ay ny cy := h21_8
    replace h21_9 : vs 9 = .agg #[.bool false, .slice ay ny cy] := h21_9
    replace h21_11 : vs 11 = .int .i64 0 := h21_11
    simp only [h21_0, h21_1, h21_2, h21_3, h21_4, h21_5, h21_6, h21_7, h21_8, h21_9, h21_11]
    clear h21_0 h21_1 h21_2 h21_3 h21_4 h21_5 h21_6 h21_7 h21_8 h21_9 h21_11
    obtain ⟨kp3_0, kp3_1, kp3_2⟩ := p3.c3
    obtain ⟨kp21_10_0, kp21_10_1⟩ := p21_10.c2
    simp only [Exit.then]
    refine ‹∀ (a : Act) (w : World), Code.wp _ _ _ a w → _› _ _ ?_
    refine wp_ret ?_
    exact bodyPost_ret (v := .tuple #[.agg #[.bool false, .slice ay ny cy], .int .i64 0]) (by simp [results, Tryz.results121, go_sem, kp21_10_0, kp21_10_1]) rfl ⟨_, rfl, Zw.put hy (by rw [sgn_neg]; rfl) (by rw [HX.out]; rw [if_pos HA.out]), E0⟩
   ·have HX : Hid (decide (x.num < 0) = true) := Lib.hid HB.out.symm
    obtain ⟨XB, hXB⟩ : ∃ X, decide (0 < (N / D + 1)) = X := ⟨_, rfl⟩
    have HXM := Lib.hid hXB
    have HXN : Hid (decide (0 < ny) = XB) := Lib.hid (by rw [← hXB, Bool.eq_iff_iff, decide_eq_true_iff, decide_eq_true_iff]; exact ⟨fun h => Nat.pos_of_ne_zero fun e => Nat.ne_of_gt h (zy.2 e), fun h => Nat.pos_of_ne_zero fun e => Nat.ne_of_gt h (zy.1 e)⟩)
    have HXI : Hid (decide ((0 : Int) < (ny : Int)) = XB) := Lib.hid (by rw [← HXN.out, Bool.eq_iff_iff, decide_eq_true_iff, decide_eq_true_iff]; omega)
    clear zy hXB; have fp6 := p6.form; have ltp3 := p3.lt; have ltfp6 := fp6.lt; have szw22 := Ext.size E0
    refine region_gs [.one fun v _ => v = .pointer (some ⟨w.heap.size, 0, none⟩),
      .one fun v _ => v = .pointer (some ⟨w.heap.size, 0, none⟩),
      .one fun v _ => v = .bool true,
      .one fun v _ => v = .bool true,
      .one fun v _ => v = .slice ay ny cy,
      .one fun v _ => v = .int .i64 (ny : Int),
      .one fun v _ => v = .bool XB,
      .one fun v _ => v = .bool XB,
      .one fun v _ => v = .slice ay ny cy,
      .one fun v _ => v = .agg #[.bool XB, .slice ay ny cy],
      .own fun W => Bx2 W (w.heap.size + 1) 25 (.bool XB) (.slice ay ny cy),
      .one fun v _ => v = .int .i64 0]
     (fun W => Ext w W ∧ Rw W (.agg #[.bool true, .slice a1 n1 c1, .slice d1 m1 o1]) x ∧ Bx3 W w.heap.size 27 (.bool true) (.slice a1 n1 c1) (.slice d1 m1 o1) ∧ Form W (w.heap.size + 1) 25 2 ∧ Nw W (.slice ar nr cr) (N % D) ∧ Nw W (.slice ay ny cy) (N / D + 1) ∧ We.heap.size ≤ W.heap.size) ⟨Good.is _, Good.is _, Good.is _, Good.is _, Good.is _, Good.is _, Good.is _, Good.is _, Good.is _, Good.is _, cert_bx2, Good.is _, trivial⟩
     ⟨E0, h1, p3, fp6, hr, hy, Nat.le_refl _⟩ (A := ?A22) ?hA22 ?howe22 ?hfin22
    case hA22 =>
     intro vs
     simp only [putAll, Act.put, sA, sZ, sS, Nat.zero_add, Nat.reduceAdd]
     exact rfl
    case howe22 =>
     clear E0 h1 p3 fp6 hr hy
     intro hf
     refine ⟨oE 0 [] hf rfl ?_, oE 1 [0] hf rfl ?_, oE 2 [1] hf rfl ?_, oE 3 [2] hf rfl ?_, oE 4 [3] hf rfl ?_, oE 5 [3, 4] hf rfl ?_, oE 6 [3, 5] hf rfl ?_, oE 7 [3, 6] hf rfl ?_, oE 8 [] hf rfl ?_, oE 9 [7, 8] hf rfl ?_, oW 10 [9] hf rfl ?_, oE 11 [] hf rfl ?_, trivial⟩
     all_goals intro vs W hS hp hx KO hKO
     all_goals simp only [Act.put, sA, sZ, sS] at hKO
     ·go_simp; exact hKO _ W (.refl W) rfl
     ·have e0 := isOf hp.1; simp only [e0] at hKO; go_simp; exact hKO _ W (.refl W) rfl
     ·have e1 := isOf hp.1; simp only [e1] at hKO; have fc0 := hS.2.2.1.cell0; go_simp; exact hKO _ W (.refl W) rfl
     ·have e2 := isOf hp.1; simp only [e2] at hKO; go_simp; exact hKO _ W (.refl W) rfl
     ·have e3 := isOf hp.1; simp only [e3] at hKO; go_simp; exact hKO _ W (.refl W) rfl
     ·have e3 := isOf hp.1; have e4 := isOf hp.2.1; simp only [e3, e4] at hKO; go_simp; exact hKO _ W (.refl W) rfl
     ·have e3 := isOf hp.1; have e5 := isOf hp.2.1; simp only [e3, e5] at hKO; go_simp; exact hKO _ W (Ext.refl W) (by first | exact congrArg Value.bool HXI.out | exact congrArg Value.bool HXN.out)
     ·have e3 := isOf hp.1; have e6 := isOf hp.2.1; simp only [e3, e6] at hKO; go_simp; exact hKO _ W (.refl W) rfl
     ·go_simp; exact hKO _ W (.refl W) rfl
     ·have e7 := isOf hp.1; have e8 := isOf hp.2.1; simp only [e7, e8] at hKO; go_simp; exact hKO _ W (.refl W) rfl
     ·have e9 := isOf hp.1; simp only [e9] at hKO
      have hf := hS.2.2.2.1
      obtain ⟨x0_0, x0_1, hx, hno⟩ := hf.bx2
      have r0 := hx.froz0
      have t0 := hx.cell0
      have r1 := hx.froz1
      have t1 := hx.cell1
      have hw := Wr.set2 hx hno XB ay ny cy
      have hq := hx.set (.bool XB) (.slice ay ny cy)
      have hg : (w.heap.size + 1) ≤ (w.heap.size + 1) := Nat.le_refl _
      go_simp
      exact hKO _ _ hw ⟨(Ext.wr hS.1 hw (by omega)), (hS.2.1.wr hw), (hS.2.2.1.wr hw (by omega)), (hS.2.2.2.1.wr hw), (hS.2.2.2.2.1.wr hw), (hS.2.2.2.2.2.1.wr hw), (Nat.le_trans hS.2.2.2.2.2.2 hw.apart.size)⟩ hq
     ·go_simp; exact hKO _ W (.refl W) rfl
    intro vs W22 hS hp
    clear szw22 E0 h1 p3 fp6 hr hy
    obtain ⟨E0, h1, p3, fp6, hr, hy, sz22⟩ := hS
    obtain ⟨h22_0, h22_1, h22_2, h22_3, h22_4, h22_5, h22_6, h22_7, h22_8, h22_9, h22_10, h22_11, -⟩ := hp
    have p22_10 : Bx2 W22 (w.heap.size + 1) 25 (.bool XB) (.slice ay ny cy) := h22_10
    replace h22_0 : vs 0 = .pointer (some ⟨w.heap.size, 0, none⟩) := h22_0
    replace h22_1 : vs 1 = .pointer (some ⟨w.heap.size, 0, none⟩) := h22_1
    replace h22_2 : vs 2 = .bool true := h22_2
    replace h22_3 : vs 3 = .bool true := h22_3
    replace h22_4 : vs 4 = .slice ay ny cy := h22_4
    replace h22_5 : vs 5 = .int .i64 (ny : Int) := h22_5
    replace h22_6 : vs 6 = .bool XB := h22_6
    replace h22_7 : vs 7 = .bool XB := h22_7
    replace h22_8 : vs 8 = .slice ay ny cy := h22_8
    replace h22_9 : vs 9 = .agg #[.bool XB, .slice ay ny cy] := h22_9
    replace h22_11 : vs 11 = .int .i64 0 := h22_11
    simp only [h22_0, h22_1, h22_2, h22_3, h22_4, h22_5, h22_6, h22_7, h22_8, h22_9, h22_11]
    clear h22_0 h22_1 h22_2 h22_3 h22_4 h22_5 h22_6 h22_7 h22_8 h22_9 h22_11
    obtain ⟨kp3_0, kp3_1, kp3_2⟩ := p3.c3
    obtain ⟨kp22_10_0, kp22_10_1⟩ := p22_10.c2
    simp only [Exit.then]
    refine ‹∀ (a : Act) (w : World), Code.wp _ _ _ a w → _› _ _ ?_
    refine wp_ret ?_
    exact bodyPost_ret (v := .tuple #[.agg #[.bool XB, .slice ay ny cy], .int .i64 0]) (by simp [results, Tryz.results121, go_sem, kp22_10_0, kp22_10_1]) rfl ⟨_, rfl, Zw.put hy (by rw [sgn_neg, HXM.out]; exact (Bool.and_self XB).symm) (by rw [HX.out]; rw [if_pos HA.out]; exact sgn_lead HXM.out), E0⟩
 ·have hrI : ¬ (0 : Int) < (nr : Int) := by omega
  have HR0 : Hid (N % D = 0) := Lib.hid (zr.1 (by omega))
  clear zr
  obtain ⟨khb_0, khb_1, khb_2⟩ := hb.c3
  obtain ⟨kp3_0, kp3_1, kp3_2⟩ := p3.c3
  obtain ⟨kp6_0, kp6_1⟩ := p6.c2
  go_upto_region 7 with (fail)
  clear khb_0 khb_1 khb_2 kp3_0 kp3_1 kp3_2 kp6_0 kp6_1
  have HA : Hid (awayF x.num (N % D) = false) := Lib.hid (by have h0 := HR0.out; rw [h0]; unfold awayF; simp)
  clear hb
  cases b1
  ·have HX : Hid (decide (x.num < 0) = false) := Lib.hid HB.out.symm
   clear zq; have fp6 := p6.form; have ltp3 := p3.lt; have ltfp6 := fp6.lt; have szw23 := Ext.size E0
   refine region_gs [.one fun v _ => v = .pointer (some ⟨w.heap.size, 0, none⟩),
     .one fun v _ => v = .pointer (some ⟨w.heap.size, 0, none⟩),
     .one fun v _ => v = .bool false,
     .one fun v _ => v = .bool false,
     .one fun v _ => v = undef,
     .one fun v _ => v = undef,
     .one fun v _ => v = undef,
     .one fun v _ => v = .bool false,
     .one fun v _ => v = .slice aq nq cq,
     .one fun v _ => v = .agg #[.bool false, .slice aq nq cq],
     .own fun W => Bx2 W (w.heap.size + 1) 25 (.bool false) (.slice aq nq cq),
     .one fun v _ => v = .int .i64 0]
    (fun W => Ext w W ∧ Rw W (.agg #[.bool false, .slice a1 n1 c1, .slice d1 m1 o1]) x ∧ Bx3 W w.heap.size 27 (.bool false) (.slice a1 n1 c1) (.slice d1 m1 o1) ∧ Form W (w.heap.size + 1) 25 2 ∧ Nw W (.slice aq nq cq) (N / D) ∧ Nw W (.slice ar nr cr) (N % D) ∧ Wb.heap.size ≤ W.heap.size) ⟨Good.is _, Good.is _, Good.is _, Good.is _, Good.is _, Good.is _, Good.is _, Good.is _, Good.is _, Good.is _, cert_bx2, Good.is _, trivial⟩
    ⟨E0, h1, p3, fp6, hq, hr, Nat.le_refl _⟩ (A := ?A23) ?hA23 ?howe23 ?hfin23
   case hA23 =>
    intro vs
    simp only [putAll, Act.put, sA, sZ, sS, Nat.zero_add, Nat.reduceAdd]
    exact rfl
   case howe23 =>
    clear E0 h1 p3 fp6 hq hr
    intro hf
    refine ⟨oE 0 [] hf rfl ?_, oE 1 [0] hf rfl ?_, oE 2 [1] hf rfl ?_, oE 3 [2] hf rfl ?_, oE 4 [3] hf rfl ?_, oE 5 [3] hf rfl ?_, oE 6 [3] hf rfl ?_, oE 7 [3, 6] hf rfl ?_, oE 8 [] hf rfl ?_, oE 9 [7, 8] hf rfl ?_, oW 10 [9] hf rfl ?_, oE 11 [] hf rfl ?_, trivial⟩
    all_goals intro vs W hS hp hx KO hKO
    all_goals simp only [Act.put, sA, sZ, sS] at hKO
    ·go_simp; exact hKO _ W (.refl W) rfl
    ·have e0 := isOf hp.1; simp only [e0] at hKO; go_simp; exact hKO _ W (.refl W) rfl
    ·have e1 := isOf hp.1; simp only [e1] at hKO; have fc0 := hS.2.2.1.cell0; go_simp; exact hKO _ W (.refl W) rfl
    ·have e2 := isOf hp.1; simp only [e2] at hKO; go_simp; exact hKO _ W (.refl W) rfl
    ·have e3 := isOf hp.1; simp only [e3] at hKO; go_simp; exact hKO _ W (.refl W) rfl
    ·have e3 := isOf hp.1; simp only [e3] at hKO; go_simp; exact hKO _ W (.refl W) rfl
    ·have e3 := isOf hp.1; simp only [e3] at hKO; go_simp; exact hKO _ W (.refl W) rfl
    ·have e3 := isOf hp.1; have e6 := isOf hp.2.1; simp only [e3, e6] at hKO; go_simp; exact hKO _ W (.refl W) rfl
    ·go_simp; exact hKO _ W (.refl W) rfl
    ·have e7 := isOf hp.1; have e8 := isOf hp.2.1; simp only [e7, e8] at hKO; go_simp; exact hKO _ W (.refl W) rfl
    ·have e9 := isOf hp.1; simp only [e9] at hKO
     have hf := hS.2.2.2.1
     obtain ⟨x0_0, x0_1, hx, hno⟩ := hf.bx2
     have r0 := hx.froz0
     have t0 := hx.cell0
     have r1 := hx.froz1
     have t1 := hx.cell1
     have hw := Wr.set2 hx hno false aq nq cq
     have hq := hx.set (.bool false) (.slice aq nq cq)
     have hg : (w.heap.size + 1) ≤ (w.heap.size + 1) := Nat.le_refl _
     go_simp
     exact hKO _ _ hw ⟨(Ext.wr hS.1 hw (by omega)), (hS.2.1.wr hw), (hS.2.2.1.wr hw (by omega)), (hS.2.2.2.1.wr hw), (hS.2.2.2.2.1.wr hw), (hS.2.2.2.2.2.1.wr hw), (Nat.le_trans hS.2.2.2.2.2.2 hw.apart.size)⟩ hq
    ·go_simp; exact hKO _ W (.refl W) rfl
   intro vs W23 hS hp
   clear szw23 E0 h1 p3 fp6 hq hr
   obtain ⟨E0, h1, p3, fp6, hq, hr, sz23⟩ := hS
   obtain ⟨h23_0, h23_1, h23_2, h23_3, h23_4, h23_5, h23_6, h23_7, h23_8, h23_9, h23_10, h23_11, -⟩ := hp
   have p23_10 : Bx2 W23 (w.heap.size + 1) 25 (.bool false) (.slice aq nq cq) := h23_10
   replace h23_0 : vs 0 = .pointer (some ⟨w.heap.size, 0, none⟩) := h23_0
   replace h23_1 : vs 1 = .pointer (some ⟨w.heap.size, 0, none⟩) := h23_1
   replace h23_2 : vs 2 = .bool false := h23_2
   replace h23_3 : vs 3 = .bool false := h23_3
   replace h23_4 : vs 4 = undef := h23_4
   replace h23_5 : vs 5 = undef := h23_5
   replace h23_6 : vs 6 = undef := h23_6
   replace h23_7 : vs 7 = .bool false := h23_7
   replace h23_8 : vs 8 = .slice aq nq cq := h23_8
   replace h23_9 : vs 9 = .agg #[.bool false, .slice aq nq cq] := h23_9
   replace h23_11 : vs 11 = .int .i64 0 := h23_11
   simp only [h23_0, h23_1, h23_2, h23_3, h23_4, h23_5, h23_6, h23_7, h23_8, h23_9, h23_11]
   clear h23_0 h23_1 h23_2 h23_3 h23_4 h23_5 h23_6 h23_7 h23_8 h23_9 h23_11
   obtain ⟨kp3_0, kp3_1, kp3_2⟩ := p3.c3
   obtain ⟨kp23_10_0, kp23_10_1⟩ := p23_10.c2
   simp only [Exit.then]
   refine ‹∀ (a : Act) (w : World), Code.wp _ _ _ a w → _› _ _ ?_
   refine wp_ret ?_
   exact bodyPost_ret (v := .tuple #[.agg #[.bool false, .slice aq nq cq], .int .i64 0]) (by simp [results, Tryz.results121, go_sem, kp23_10_0, kp23_10_1]) rfl ⟨_, rfl, Zw.put hq (by rw [sgn_neg]; rfl) (by rw [HX.out]; rw [if_neg (by rw [HA.out]; simp)]), E0⟩
  ·have HX : Hid (decide (x.num < 0) = true) := Lib.hid HB.out.symm
   obtain ⟨XB, hXB⟩ : ∃ X, decide (0 < N / D) = X := ⟨_, rfl⟩
   have HXM := Lib.hid hXB
   have HXN : Hid (decide (0 < nq) = XB) := Lib.hid (by rw [← hXB, Bool.eq_iff_iff, decide_eq_true_iff, decide_eq_true_iff]; exact ⟨fun h => Nat.pos_of_ne_zero fun e => Nat.ne_of_gt h (zq.2 e), fun h => Nat.pos_of_ne_zero fun e => Nat.ne_of_gt h (zq.1 e)⟩)
   have HXI : Hid (decide ((0 : Int) < (nq : Int)) = XB) := Lib.hid (by rw [← HXN.out, Bool.eq_iff_iff, decide_eq_true_iff, decide_eq_true_iff]; omega)
   clear zq hXB; have fp6 := p6.form; have ltp3 := p3.lt; have ltfp6 := fp6.lt; have szw24 := Ext.size E0
   refine region_gs [.one fun v _ => v = .pointer (some ⟨w.heap.size, 0, none⟩),
     .one fun v _ => v = .pointer (some ⟨w.heap.size, 0, none⟩),
     .one fun v _ => v = .bool true,
     .one fun v _ => v = .bool true,
     .one fun v _ => v = .slice aq nq cq,
     .one fun v _ => v = .int .i64 (nq : Int),
     .one fun v _ => v = .bool XB,
     .one fun v _ => v = .bool XB,
     .one fun v _ => v = .slice aq nq cq,
     .one fun v _ => v = .agg #[.bool XB, .slice aq nq cq],
     .own fun W => Bx2 W (w.heap.size + 1) 25 (.bool XB) (.slice aq nq cq),
     .one fun v _ => v = .int .i64 0]
    (fun W => Ext w W ∧ Rw W (.agg #[.bool true, .slice a1 n1 c1, .slice d1 m1 o1]) x ∧ Bx3 W w.heap.size 27 (.bool true) (.slice a1 n1 c1) (.slice d1 m1 o1) ∧ Form W (w.heap.size + 1) 25 2 ∧ Nw W (.slice aq nq cq) (N / D) ∧ Nw W (.slice ar nr cr) (N % D) ∧ Wb.heap.size ≤ W.heap.size) ⟨Good.is _, Good.is _, Good.is _, Good.is _, Good.is _, Good.is _, Good.is _, Good.is _, Good.is _, Good.is _, cert_bx2, Good.is _, trivial⟩
    ⟨E0, h1, p3, fp6, hq, hr, Nat.le_refl _⟩ (A := ?A24) ?hA24 ?howe24 ?hfin24
   case hA24 =>
    intro vs
    simp only [putAll, Act.put, sA, sZ, sS, Nat.zero_add, Nat.reduceAdd]
    exact rfl
   case howe24 =>
    clear E0 h1 p3 fp6 hq hr
    intro hf
    refine ⟨oE 0 [] hf rfl ?_, oE 1 [0] hf rfl ?_, oE 2 [1] hf rfl ?_, oE 3 [2] hf rfl ?_, oE 4 [3] hf rfl ?_, oE 5 [3, 4] hf rfl ?_, oE 6 [3, 5] hf rfl ?_, oE 7 [3, 6] hf rfl ?_, oE 8 [] hf rfl ?_, oE 9 [7, 8] hf rfl ?_, oW 10 [9] hf rfl ?_, oE 11 [] hf rfl ?_, trivial⟩
    all_goals intro vs W hS hp hx KO hKO
    all_goals simp only [Act.put, sA, sZ, sS] at hKO
    ·go_simp; exact hKO _ W (.refl W) rfl
    ·have e0 := isOf hp.1; simp only [e0] at hKO; go_simp; exact hKO _ W (.refl W) rfl
    ·have e1 := isOf hp.1; simp only [e1] at hKO; have fc0 := hS.2.2.1.cell0; go_simp; exact hKO _ W (.refl W) rfl
    ·have e2 := isOf hp.1; simp only [e2] at hKO; go_simp; exact hKO _ W (.refl W) rfl
    ·have e3 := isOf hp.1; simp only [e3] at hKO; go_simp; exact hKO _ W (.refl W) rfl
    ·have e3 := isOf hp.1; have e4 := isOf hp.2.1; simp only [e3, e4] at hKO; go_simp; exact hKO _ W (.refl W) rfl
    ·have e3 := isOf hp.1; have e5 := isOf hp.2.1; simp only [e3, e5] at hKO; go_simp; exact hKO _ W (Ext.refl W) (by first | exact congrArg Value.bool HXI.out | exact congrArg Value.bool HXN.out)
    ·have e3 := isOf hp.1; have e6 := isOf hp.2.1; simp only [e3, e6] at hKO; go_simp; exact hKO _ W (.refl W) rfl
    ·go_simp; exact hKO _ W (.refl W) rfl
    ·have e7 := isOf hp.1; have e8 := isOf hp.2.1; simp only [e7, e8] at hKO; go_simp; exact hKO _ W (.refl W) rfl
    ·have e9 := isOf hp.1; simp only [e9] at hKO
     have hf := hS.2.2.2.1
     obtain ⟨x0_0, x0_1, hx, hno⟩ := hf.bx2
     have r0 := hx.froz0
     have t0 := hx.cell0
     have r1 := hx.froz1
     have t1 := hx.cell1
     have hw := Wr.set2 hx hno XB aq nq cq
     have hq := hx.set (.bool XB) (.slice aq nq cq)
     have hg : (w.heap.size + 1) ≤ (w.heap.size + 1) := Nat.le_refl _
     go_simp
     exact hKO _ _ hw ⟨(Ext.wr hS.1 hw (by omega)), (hS.2.1.wr hw), (hS.2.2.1.wr hw (by omega)), (hS.2.2.2.1.wr hw), (hS.2.2.2.2.1.wr hw), (hS.2.2.2.2.2.1.wr hw), (Nat.le_trans hS.2.2.2.2.2.2 hw.apart.size)⟩ hq
    ·go_simp; exact hKO _ W (.refl W) rfl
   intro vs W24 hS hp
   clear szw24 E0 h1 p3 fp6 hq hr
   obtain ⟨E0, h1, p3, fp6, hq, hr, sz24⟩ := hS
   obtain ⟨h24_0, h24_1, h24_2, h24_3, h24_4, h24_5, h24_6, h24_7, h24_8, h24_9, h24_10, h24_11, -⟩ := hp
   have p24_10 : Bx2 W24 (w.heap.size + 1) 25 (.bool XB) (.slice aq nq cq) := h24_10
   replace h24_0 : vs 0 = .pointer (some ⟨w.heap.size, 0, none⟩) := h24_0
   replace h24_1 : vs 1 = .pointer (some ⟨w.heap.size, 0, none⟩) := h24_1
   replace h24_2 : vs 2 = .bool true := h24_2
   replace h24_3 : vs 3 = .bool true := h24_3
   replace h24_4 : vs 4 = .slice aq nq cq := h24_4
   replace h24_5 : vs 5 = .int .i64 (nq : Int) := h24_5
   replace h24_6 : vs 6 = .bool XB := h24_6
   replace h24_7 : vs 7 = .bool XB := h24_7
   replace h24_8 : vs 8 = .slice aq nq cq := h24_8
   replace h24_9 : vs 9 = .agg #[.bool XB, .slice aq nq cq] := h24_9
   replace h24_11 : vs 11 = .int .i64 0 := h24_11
   simp only [h24_0, h24_1, h24_2, h24_3, h24_4, h24_5, h24_6, h24_7, h24_8, h24_9, h24_11]
   clear h24_0 h24_1 h24_2 h24_3 h24_4 h24_5 h24_6 h24_7 h24_8 h24_9 h24_11
   obtain ⟨kp3_0, kp3_1, kp3_2⟩ := p3.c3
   obtain ⟨kp24_10_0, kp24_10_1⟩ := p24_10.c2
   simp only [Exit.then]
   refine ‹∀ (a : Act) (w : World), Code.wp _ _ _ a w → _› _ _ ?_
   refine wp_ret ?_
   exact bodyPost_ret (v := .tuple #[.agg #[.bool XB, .slice aq nq cq], .int .i64 0]) (by simp [results, Tryz.results121, go_sem, kp24_10_0, kp24_10_1]) rfl ⟨_, rfl, Zw.put hq (by rw [sgn_neg, HXM.out]; exact (Bool.and_self XB).symm) (by rw [HX.out]; rw [if_neg (by rw [HA.out]; simp)]; exact sgn_lead HXM.out), E0⟩

set_option maxRecDepth 100000 in
set_option maxHeartbeats 1000000 in
theorem Tryz.dyadFloor {v1 : Value} {x : Rat} {L : Nat} {w : World} (h1 : Rw w v1 x) (s1 : SmR L x) (hL : L ≤ 20000) (K : Nat) (hK : K ≤ 2000) :
  Calls Tryz.prog 70 #[v1, .int .i64 (K : Int)] w fun e w' => ∃ v', e = .returned (.tuple #[v', .int .i64 0]) ∧ Zw w' v' ((x * P2 K).floor) ∧ Ext w w' := by
 obtain ⟨b1, a1, n1, c1, d1, m1, o1, rfl, q1⟩ : ∃ b a n c d m o, v1 = .agg #[.bool b, .slice a n c, .slice d m o] ∧ True := let ⟨b, a, n, c, d, m, o, e, _⟩ := h1; ⟨b, a, n, c, d, m, o, e, trivial⟩
 clear q1
 obtain ⟨W0, hW0⟩ : ∃ W0, W0 = ((w.alloc (.cells #[.bool b1, .slice a1 n1 c1, .slice d1 m1 o1] 27)).alloc (.cells #[.bool false, .slice none 0 0] 25)) := ⟨_, rfl⟩
 have E0 : Ext w W0 := by rw [hW0]; exact ((Ext.alloc1 w (.cells #[.bool b1, .slice a1 n1 c1, .slice d1 m1 o1] 27)).alloc (.cells #[.bool false, .slice none 0 0] 25))
 replace h1 : Rw W0 (.agg #[.bool b1, .slice a1 n1 c1, .slice d1 m1 o1]) x := h1.ext E0
 have p2 : Bx3 W0 w.heap.size 27 (.bool b1) (.slice a1 n1 c1) (.slice d1 m1 o1) := by rw [hW0]; exact (Bx3.new w 27 (.bool b1) (.slice a1 n1 c1) (.slice d1 m1 o1)).ext (Ext.alloc1 (w.alloc (.cells #[.bool b1, .slice a1 n1 c1, .slice d1 m1 o1] 27)) (.cells #[.bool false, .slice none 0 0] 25))
 have p4 : Bx2 W0 (w.heap.size + 1) 25 (.bool false) (.slice none 0 0) := by rw [hW0]; simpa using (Bx2.new (w.alloc (.cells #[.bool b1, .slice a1 n1 c1, .slice d1 m1 o1] 27)) 25 (.bool false) (.slice none 0 0))
 go_enter Tryz.func70, Tryz.ntmps70
 obtain ⟨kp2_0, kp2_1, kp2_2⟩ := p2.c3
 obtain ⟨kp4_0, kp4_1⟩ := p4.c2
 go_upto_region 1 with (fail)
 rw [← hW0]
 clear hW0; clear kp2_0 kp2_1 kp2_2 kp4_0 kp4_1; have fp4 := p4.form; have ltp2 := p2.lt; have ltfp4 := fp4.lt; have szw25 := Ext.size E0
 refine region_gs [.one fun v _ => v = .agg #[.bool b1, .slice a1 n1 c1, .slice d1 m1 o1],
   .one fun v _ => v = .int .i64 (K : Int),
   .one fun v _ => v = .func (.func 122) #[] #[.pointer (some ⟨w.heap.size, 0, none⟩)],
   .one fun v W => ∃ v', v = .tuple #[v', .int .i64 0] ∧ (fun v W => Zw W v ((x * P2 K).floor)) v' W,
   .one fun v W => Zw W v ((x * P2 K).floor),
   .one fun v _ => v = .int .i64 0,
   .two 4 (fun r _ W => At2 (w.heap.size + 1) 25 r W),
   .one fun v _ => v = .int .i64 0]
  (fun W => Ext w W ∧ Rw W (.agg #[.bool b1, .slice a1 n1 c1, .slice d1 m1 o1]) x ∧ Bx3 W w.heap.size 27 (.bool b1) (.slice a1 n1 c1) (.slice d1 m1 o1) ∧ Form W (w.heap.size + 1) 25 2 ∧ W0.heap.size ≤ W.heap.size) ⟨Good.is _, Good.is _, Good.is _, (Good.zed _).tup _, Good.zed _, Good.is _, cert_at2, Good.is _, trivial⟩
  ⟨E0, h1, p2, fp4, Nat.le_refl _⟩ (A := ?A25) ?hA25 ?howe25 ?hfin25
 case hA25 =>
  intro vs
  simp only [putAll, Act.put, sA, sZ, sS, Nat.zero_add, Nat.reduceAdd]
  exact rfl
 case howe25 =>
  clear E0 h1 p2 fp4
  intro hf
  refine ⟨oE 0 [] hf rfl ?_, oE 1 [] hf rfl ?_, oE 2 [] hf rfl ?_, oE 3 [0, 1, 2] hf rfl ?_, oE 4 [3] hf rfl ?_, oE 5 [3] hf rfl ?_, oW 6 [4] hf rfl ?_, oE 7 [5] hf rfl ?_, trivial⟩
  all_goals intro vs W hS hp hx KO hKO
  all_goals simp only [Act.put, sA, sZ, sS] at hKO
  ·have fc0 := hS.2.2.1.cell0; have fc1 := hS.2.2.1.cell1; have fc2 := hS.2.2.1.cell2; go_simp; exact hKO _ W (.refl W) rfl
  ·go_simp; exact hKO _ W (.refl W) rfl
  ·go_simp; exact hKO _ W (.refl W) rfl
  ·have e0 := isOf hp.1; have e1 := isOf hp.2.1; have e2 := isOf hp.2.2.1; simp only [e0, e1, e2] at hKO; go_simp
   refine (Tryz.dyadRoundF (hS.2.1) hS.2.2.1 s1 hL K hK).mono ?_
   rintro e W1 ⟨v, rfl, hv, hE⟩
   exact hKO _ W1 hE ⟨_, rfl, hv⟩
  ·have q3 := hp.1
   obtain ⟨u, ev, hu⟩ := q3
   replace ev : vs 3 = _ := ev; simp only [ev] at hKO; go_simp; exact hKO _ W (Ext.refl W) hu
  ·have q3 := hp.1
   obtain ⟨u, ev, hu⟩ := q3
   replace ev : vs 3 = _ := ev; simp only [ev] at hKO; go_simp; exact hKO _ W (.refl W) rfl
  ·have q4 := hp.1
   have hf := hS.2.2.2.1
   obtain ⟨x0_0, x0_1, hx, hno⟩ := hf.bx2
   have qr := q4
   obtain ⟨b3, a3, n3, c3, er, -, -⟩ := qr
   replace er : vs 4 = _ := er
   have r0 := hx.froz0
   have t0 := hx.cell0
   have r1 := hx.froz1
   have t1 := hx.cell1
   have hw := Wr.set2 hx hno b3 a3 n3 c3
   have hq := hx.set (.bool b3) (.slice a3 n3 c3)
   have hg : (w.heap.size + 1) ≤ (w.heap.size + 1) := Nat.le_refl _
   simp only [er] at hKO; go_simp
   exact hKO _ _ hw ⟨(Ext.wr hS.1 hw (by omega)), (hS.2.1.wr hw), (hS.2.2.1.wr hw (by omega)), (hS.2.2.2.1.wr hw), (Nat.le_trans hS.2.2.2.2 hw.apart.size)⟩ ⟨b3, a3, n3, c3, er, hq⟩
  ·have e5 := isOf hp.1; simp only [e5] at hKO; go_simp; exact hKO _ W (.refl W) rfl
 intro vs W25 hS hp
 clear szw25 E0 h1 p2 fp4
 obtain ⟨E0, h1, p2, fp4, sz25⟩ := hS
 obtain ⟨h25_0, h25_1, h25_2, h25_3, h25_4, h25_5, h25_6, h25_7, -⟩ := hp
 obtain ⟨b25_6, a25_6, n25_6, c25_6, er25_6, p25_6⟩ := h25_6
 replace er25_6 : vs 4 = _ := er25_6; replace h25_4 := (show Zw W25 (vs 4) ((x * P2 K).floor) from h25_4)
 rw [er25_6] at h25_4
 replace h25_0 : vs 0 = .agg #[.bool b1, .slice a1 n1 c1, .slice d1 m1 o1] := h25_0
 replace h25_1 : vs 1 = .int .i64 (K : Int) := h25_1
 replace h25_2 : vs 2 = .func (.func 122) #[] #[.pointer (some ⟨w.heap.size, 0, none⟩)] := h25_2
 replace h25_5 : vs 5 = .int .i64 0 := h25_5
 replace h25_7 : vs 7 = .int .i64 0 := h25_7
 simp only [er25_6, h25_0, h25_1, h25_2, h25_5, h25_7]
 clear er25_6 h25_0 h25_1 h25_2 h25_5 h25_7 h25_3
 obtain ⟨kp2_0, kp2_1, kp2_2⟩ := p2.c3
 obtain ⟨kp25_6_0, kp25_6_1⟩ := p25_6.c2
 go_wp2
 exact bodyPost_ret (v := .tuple #[.agg #[.bool b25_6, .slice a25_6 n25_6 c25_6], .int .i64 0]) (by simp [results, Tryz.results70, go_sem, kp25_6_0, kp25_6_1]) rfl ⟨_, rfl, h25_4, E0⟩

set_option maxRecDepth 100000 in
set_option maxHeartbeats 4000000 in
theorem Tryz.dyadRoundC {b1 : Bool} {a1 : Option Addr} {n1 c1 : Nat} {d1 : Option Addr} {m1 o1 g : Nat} {x : Rat} {L : Nat} {w : World} (h1 : Rw w (.agg #[.bool b1, .slice a1 n1 c1, .slice d1 m1 o1]) x) (hb : Bx3 w g 27 (.bool b1) (.slice a1 n1 c1) (.slice d1 m1 o1)) (s1 : SmR L x) (hL : L ≤ 20000) (K : Nat) (hK : K ≤ 2000) :
  Calls Tryz.prog 121 #[.agg #[.bool b1, .slice a1 n1 c1, .slice d1 m1 o1], .int .i64 (K : Int), .func (.func 123) #[] #[.pointer (some ⟨g, 0, none⟩)]] w fun e w' => ∃ v', e = .returned (.tuple #[v', .int .i64 0]) ∧ Zw w' v' ((x * P2 K).ceil) ∧ Ext w w' := by
 have B1 : Hid (1 < B64) := Lib.hid (by rw [B64_eq]; omega)
 have hk0 : ¬ ((K : Int) < 0) := by omega
 have hk0d : decide ((K : Int) < 0) = false := decide_eq_false hk0
 have hk1 : ¬ ((2000 : Int) < (K : Int)) := by omega
 have hk1d : decide ((2000 : Int) < (K : Int)) = false := decide_eq_false hk1
 obtain ⟨N, hN⟩ : ∃ N, N = x.num.natAbs * 2 ^ K := ⟨_, rfl⟩
 obtain ⟨D, hD⟩ : ∃ D, D = x.den := ⟨_, rfl⟩
 have HN := Lib.hid hN
 have HD := Lib.hid hD
 have SP : Hid (Sm L x.num.natAbs) := Lib.hid s1.1
 have SN : Hid (Sm (L + 33) N) := Lib.hid (by rw [hN]; exact (Sm.scale s1 K).mono (by omega))
 have SR : Hid (Sm (L + 33) (N % D)) := Lib.hid (SN.out.le (Nat.mod_le _ _))
 have SQ : Hid (Sm (L + 33) (N / D)) := Lib.hid (SN.out.le (Nat.div_le_self _ _))
 have HQ0 : Hid (D ≠ 0) := Lib.hid (by rw [hD]; exact x.den_nz)
 have S1 : Hid (Sm (L + 33) 1) := Lib.hid ((Sm.one B1.out).mono (by omega))
 have HB := h1.top.neg
 have HV : Hid ((x * P2 K).ceil = sgn (decide (x.num < 0)) (if awayC x.num (N % D) = true then N / D + 1 else N / D)) := Lib.hid (by rw [ceil_away, hN, hD])
 rw [HV.out]; clear hN hD hk0d hk1d
 obtain ⟨W0, hW0⟩ : ∃ W0, W0 = ((w.alloc (.cells #[.bool b1, .slice a1 n1 c1, .slice d1 m1 o1] 27)).alloc (.cells #[.bool false, .slice none 0 0] 25)) := ⟨_, rfl⟩
 have E0 : Ext w W0 := by rw [hW0]; exact ((Ext.alloc1 w (.cells #[.bool b1, .slice a1 n1 c1, .slice d1 m1 o1] 27)).alloc (.cells #[.bool false, .slice none 0 0] 25))
 replace h1 : Rw W0 (.agg #[.bool b1, .slice a1 n1 c1, .slice d1 m1 o1]) x := h1.ext E0
 replace hb : Bx3 W0 g 27 (.bool b1) (.slice a1 n1 c1) (.slice d1 m1 o1) := hb.ext E0
 have p3 : Bx3 W0 w.heap.size 27 (.bool b1) (.slice a1 n1 c1) (.slice d1 m1 o1) := by rw [hW0]; exact (Bx3.new w 27 (.bool b1) (.slice a1 n1 c1) (.slice d1 m1 o1)).ext (Ext.alloc1 (w.alloc (.cells #[.bool b1, .slice a1 n1 c1, .slice d1 m1 o1] 27)) (.cells #[.bool false, .slice none 0 0] 25))
 have p6 : Bx2 W0 (w.heap.size + 1) 25 (.bool false) (.slice none 0 0) := by rw [hW0]; simpa using (Bx2.new (w.alloc (.cells #[.bool b1, .slice a1 n1 c1, .slice d1 m1 o1] 27)) 25 (.bool false) (.slice none 0 0))
 go_enter Tryz.func121, Tryz.ntmps121
 obtain ⟨khb_0, khb_1, khb_2⟩ := hb.c3
 obtain ⟨kp3_0, kp3_1, kp3_2⟩ := p3.c3
 obtain ⟨kp6_0, kp6_1⟩ := p6.c2
 go_wp2_with fail
 rw [← hW0]
 clear hW0; clear khb_0 khb_1 khb_2 kp3_0 kp3_1 kp3_2 kp6_0 kp6_1
 refine (Tryz.divShlK h1.top.num SP.out (by omega) K (by omega)).mono ?_
 rintro e Wa ⟨vu, rfl, hu, hE⟩
 rw [← HN.out] at hu
 replace E0 := (Ext.trans E0 hE); replace h1 := (h1.ext hE); replace hb := (hb.ext hE); replace p3 := (p3.ext hE); replace p6 := (p6.ext hE); clear hE
 obtain ⟨khb_0, khb_1, khb_2⟩ := hb.c3
 obtain ⟨kp3_0, kp3_1, kp3_2⟩ := p3.c3
 obtain ⟨kp6_0, kp6_1⟩ := p6.c2
 go_wp2_with fail
 clear khb_0 khb_1 khb_2 kp3_0 kp3_1 kp3_2 kp6_0 kp6_1
 refine (Tryz.divDivModK hu (HD.out ▸ h1.den) SN.out (by omega) HQ0.out).mono ?_
 rintro e Wb ⟨vq, vr, rfl, hq, hr, hE⟩
 replace E0 := (Ext.trans E0 hE); replace h1 := (h1.ext hE); replace hb := (hb.ext hE); replace p3 := (p3.ext hE); replace p6 := (p6.ext hE); replace hu := (hu.ext hE); clear hE; clear hu
 obtain ⟨aq, nq, cq, ezq, zq, -⟩ := hq.len
 rw [ezq] at hq ⊢
 clear ezq
 obtain ⟨ar, nr, cr, ezr, zr, -⟩ := hr.len
 rw [ezr] at hr ⊢
 clear ezr
 by_cases hr0 : 0 < nr
 ·have hrI : (0 : Int) < (nr : Int) := by omega
  have HC : Hid ((!b1) = awayC x.num (N % D)) := Lib.hid (by
   have h0 : N % D ≠ 0 := fun h => by have := zr.2 h; omega
   unfold awayC
   rw [decide_eq_true (Nat.pos_of_ne_zero h0), Bool.and_true, ← HB.out])
  clear zr
  obtain ⟨khb_0, khb_1, khb_2⟩ := hb.c3
  obtain ⟨kp3_0, kp3_1, kp3_2⟩ := p3.c3
  obtain ⟨kp6_0, kp6_1⟩ := p6.c2
  go_wp2_with fail
  clear khb_0 khb_1 khb_2 kp3_0 kp3_1 kp3_2 kp6_0 kp6_1
  refine (Tryz.dyadCeil1 hb HC.out).mono ?_
  rintro e Wc ⟨rfl, hE⟩
  replace E0 := (Ext.trans E0 hE); replace h1 := (h1.ext hE); replace hb := (hb.ext hE); replace p3 := (p3.ext hE); replace p6 := (p6.ext hE); replace hq := (hq.ext hE); replace hr := (hr.ext hE); clear hE
  cases hA : awayC x.num (N % D)
  ·have HA := Lib.hid hA
   clear hA
   obtain ⟨khb_0, khb_1, khb_2⟩ := hb.c3
   obtain ⟨kp3_0, kp3_1, kp3_2⟩ := p3.c3
   obtain ⟨kp6_0, kp6_1⟩ := p6.c2
   go_upto_region 7 with (fail)
   clear khb_0 khb_1 khb_2 kp3_0 kp3_1 kp3_2 kp6_0 kp6_1; clear hb
   cases b1
   ·have HX : Hid (decide (x.num < 0) = false) := Lib.hid HB.out.symm
    clear zq; have fp6 := p6.form; have ltp3 := p3.lt; have ltfp6 := fp6.lt; have szw26 := Ext.size E0
    refine region_gs [.one fun v _ => v = .pointer (some ⟨w.heap.size, 0, none⟩),
      .one fun v _ => v = .pointer (some ⟨w.heap.size, 0, none⟩),
      .one fun v _ => v = .bool false,
      .one fun v _ => v = .bool false,
      .one fun v _ => v = undef,
      .one fun v _ => v = undef,
      .one fun v _ => v = undef,
      .one fun v _ => v = .bool false,
      .one fun v _ => v = .slice aq nq cq,
      .one fun v _ => v = .agg #[.bool false, .slice aq nq cq],
      .own fun W => Bx2 W (w.heap.size + 1) 25 (.bool false) (.slice aq nq cq),
      .one fun v _ => v = .int .i64 0]
     (fun W => Ext w W ∧ Rw W (.agg #[.bool false, .slice a1 n1 c1, .slice d1 m1 o1]) x ∧ Bx3 W w.heap.size 27 (.bool false) (.slice a1 n1 c1) (.slice d1 m1 o1) ∧ Form W (w.heap.size + 1) 25 2 ∧ Nw W (.slice aq nq cq) (N / D) ∧ Nw W (.slice ar nr cr) (N % D) ∧ Wc.heap.size ≤ W.heap.size) ⟨Good.is _, Good.is _, Good.is _, Good.is _, Good.is _, Good.is _, Good.is _, Good.is _, Good.is _, Good.is _, cert_bx2, Good.is _, trivial⟩
     ⟨E0, h1, p3, fp6, hq, hr, Nat.le_refl _⟩ (A := ?A26) ?hA26 ?howe26 ?hfin26
    case hA26 =>
     intro vs
     simp only [putAll, Act.put, sA, sZ, sS, Nat.zero_add, Nat.reduceAdd]
     exact rfl
    case howe26 =>
     clear E0 h1 p3 fp6 hq hr
     intro hf
     refine ⟨oE 0 [] hf rfl ?_, oE 1 [0] hf rfl ?_, oE 2 [1] hf rfl ?_, oE 3 [2] hf rfl ?_, oE 4 [3] hf rfl ?_, oE 5 [3] hf rfl ?_, oE 6 [3] hf rfl ?_, oE 7 [3, 6] hf rfl ?_, oE 8 [] hf rfl ?_, oE 9 [7, 8] hf rfl ?_, oW 10 [9] hf rfl ?_, oE 11 [] hf rfl ?_, trivial⟩
     all_goals intro vs W hS hp hx KO hKO
     all_goals simp only [Act.put, sA, sZ, sS] at hKO
     ·go_simp; exact hKO _ W (.refl W) rfl
     ·have e0 := isOf hp.1; simp only [e0] at hKO; go_simp; exact hKO _ W (.refl W) rfl
     ·have e1 := isOf hp.1; simp only [e1] at hKO; have fc0 := hS.2.2.1.cell0; go_simp; exact hKO _ W (.refl W) rfl
     ·have e2 := isOf hp.1; simp only [e2] at hKO; go_simp; exact hKO _ W (.refl W) rfl
     ·have e3 := isOf hp.1; simp only [e3] at hKO; go_simp; exact hKO _ W (.refl W) rfl
     ·have e3 := isOf hp.1; simp only [e3] at hKO; go_simp; exact hKO _ W (.refl W) rfl
     ·have e3 := isOf hp.1; simp only [e3] at hKO; go_simp; exact hKO _ W (.refl W) rfl
     ·have e3 := isOf hp.1; have e6 := isOf hp.2.1; simp only [e3, e6] at hKO; go_simp; exact hKO _ W (.refl W) rfl
     ·go_simp; exact hKO _ W (.refl W) rfl
     ·have e7 := isOf hp.1; have e8 := isOf hp.2.1; simp only [e7, e8] at hKO; go_simp; exact hKO _ W (.refl W) rfl
     ·have e9 := isOf hp.1; simp only [e9] at hKO
      have hf := hS.2.2.2.1
      obtain ⟨x0_0, x0_1, hx, hno⟩ := hf.bx2
      have r0 := hx.froz0
      have t0 := hx.cell0
      have r1 := hx.froz1
      have t1 := hx.cell1
      have hw := Wr.set2 hx hno false aq nq cq
      have hq := hx.set (.bool false) (.slice aq nq cq)
      have hg : (w.heap.size + 1) ≤ (w.heap.size + 1) := Nat.le_refl _
      go_simp
      exact hKO _ _ hw ⟨(Ext.wr hS.1 hw (by omega)), (hS.2.1.wr hw), (hS.2.2.1.wr hw (by omega)), (hS.2.2.2.1.wr hw), (hS.2.2.2.2.1.wr hw), (hS.2.2.2.2.2.1.wr hw), (Nat.le_trans hS.2.2.2.2.2.2 hw.apart.size)⟩ hq
     ·go_simp; exact hKO _ W (.refl W) rfl
    intro vs W26 hS hp
    clear szw26 E0 h1 p3 fp6 hq hr
    obtain ⟨E0, h1, p3, fp6, hq, hr, sz26⟩ := hS
    obtain ⟨h26_0, h26_1, h26_2, h26_3, h26_4, h26_5, h26_6, h26_7, h26_8, h26_9, h26_10, h26_11, -⟩ := hp
    have p26_10 : Bx2 W26 (w.heap.size + 1) 25 (.bool false) (.slice aq nq cq) := h26_10
    replace h26_0 : vs 0 = .pointer (some ⟨w.heap.size, 0, none⟩) := h26_0
    replace h26_1 : vs 1 = .pointer (some ⟨w.heap.size, 0, none⟩) := h26_1
    replace h26_2 : vs 2 = .bool false := h26_2
    replace h26_3 : vs 3 = .bool false := h26_3
    replace h26_4 : vs 4 = undef := h26_4
    replace h26_5 : vs 5 = undef := h26_5
    replace h26_6 : vs 6 = undef := h26_6
    replace h26_7 : vs 7 = .bool false := h26_7
    replace h26_8 : vs 8 = .slice aq nq cq := h26_8
    replace h26_9 : vs 9 = .agg #[.bool false, .slice aq nq cq] := h26_9
    replace h26_11 : vs 11 = .int .i64 0 := h26_11
    simp only [h26_0, h26_1, h26_2, h26_3, h26_4, h26_5, h26_6, h26_7, h26_8, h26_9, h26_11]
    clear h26_0 h26_1 h26_2 h26_3 h26_4 h26_5 h26_6 h26_7 h26_8 h26_9 h26_11
    obtain ⟨kp3_0, kp3_1, kp3_2⟩ := p3.c3
    obtain ⟨kp26_10_0, kp26_10_1⟩ := p26_10.c2
    simp only [Exit.then]
    refine ‹∀ (a : Act) (w : World), Code.wp _ _ _ a w → _› _ _ ?_
    refine wp_ret ?_
    exact bodyPost_ret (v := .tuple #[.agg #[.bool false, .slice aq nq cq], .int .i64 0]) (by simp [results, Tryz.results121, go_sem, kp26_10_0, kp26_10_1]) rfl ⟨_, rfl, Zw.put hq (by rw [sgn_neg]; rfl) (by rw [HX.out]; rw [if_neg (by rw [HA.out]; simp)]), E0⟩
   ·have HX : Hid (decide (x.num < 0) = true) := Lib.hid HB.out.symm
    obtain ⟨XB, hXB⟩ : ∃ X, decide (0 < N / D) = X := ⟨_, rfl⟩
    have HXM := Lib.hid hXB
    have HXN : Hid (decide (0 < nq) = XB) := Lib.hid (by rw [← hXB, Bool.eq_iff_iff, decide_eq_true_iff, decide_eq_true_iff]; exact ⟨fun h => Nat.pos_of_ne_zero fun e => Nat.ne_of_gt h (zq.2 e), fun h => Nat.pos_of_ne_zero fun e => Nat.ne_of_gt h (zq.1 e)⟩)
    have HXI : Hid (decide ((0 : Int) < (nq : Int)) = XB) := Lib.hid (by rw [← HXN.out, Bool.eq_iff_iff, decide_eq_true_iff, decide_eq_true_iff]; omega)
    clear zq hXB; have fp6 := p6.form; have ltp3 := p3.lt; have ltfp6 := fp6.lt; have szw27 := Ext.size E0
    refine region_gs [.one fun v _ => v = .pointer (some ⟨w.heap.size, 0, none⟩),
      .one fun v _ => v = .pointer (some ⟨w.heap.size, 0, none⟩),
      .one fun v _ => v = .bool true,
      .one fun v _ => v = .bool true,
      .one fun v _ => v = .slice aq nq cq,
      .one fun v _ => v = .int .i64 (nq : Int),
      .one fun v _ => v = .bool XB,
      .one fun v _ => v = .bool XB,
      .one fun v _ => v = .slice aq nq cq,
      .one fun v _ => v = .agg #[.bool XB, .slice aq nq cq],
      .own fun W => Bx2 W (w.heap.size + 1) 25 (.bool XB) (.slice aq nq cq),
      .one fun v _ => v = .int .i64 0]
     (fun W => Ext w W ∧ Rw W (.agg #[.bool true, .slice a1 n1 c1, .slice d1 m1 o1]) x ∧ Bx3 W w.heap.size 27 (.bool true) (.slice a1 n1 c1) (.slice d1 m1 o1) ∧ Form W (w.heap.size + 1) 25 2 ∧ Nw W (.slice aq nq cq) (N / D) ∧ Nw W (.slice ar nr cr) (N % D) ∧ Wc.heap.size ≤ W.heap.size) ⟨Good.is _, Good.is _, Good.is _, Good.is _, Good.is _, Good.is _, Good.is _, Good.is _, Good.is _, Good.is _, cert_bx2, Good.is _, trivial⟩
     ⟨E0, h1, p3, fp6, hq, hr, Nat.le_refl _⟩ (A := ?A27) ?hA27 ?howe27 ?hfin27
    case hA27 =>
     intro vs
     simp only [putAll, Act.put, sA, sZ, sS, Nat.zero_add, Nat.reduceAdd]
     exact rfl
    case howe27 =>
     clear E0 h1 p3 fp6 hq hr
     intro hf
     refine ⟨oE 0 [] hf rfl ?_, oE 1 [0] hf rfl ?_, oE 2 [1] hf rfl ?_, oE 3 [2] hf rfl ?_, oE 4 [3] hf rfl ?_, oE 5 [3, 4] hf rfl ?_, oE 6 [3, 5] hf rfl ?_, oE 7 [3, 6] hf rfl ?_, oE 8 [] hf rfl ?_, oE 9 [7, 8] hf rfl ?_, oW 10 [9] hf rfl ?_, oE 11 [] hf rfl ?_, trivial⟩
     all_goals intro vs W hS hp hx KO hKO
     all_goals simp only [Act.put, sA, sZ, sS] at hKO
     ·go_simp; exact hKO _ W (.refl W) rfl
     ·have e0 := isOf hp.1; simp only [e0] at hKO; go_simp; exact hKO _ W (.refl W) rfl
     ·have e1 := isOf hp.1; simp only [e1] at hKO; have fc0 := hS.2.2.1.cell0; go_simp; exact hKO _ W (.refl W) rfl
     ·have e2 := isOf hp.1; simp only [e2] at hKO; go_simp; exact hKO _ W (.refl W) rfl
     ·have e3 := isOf hp.1; simp only [e3] at hKO; go_simp; exact hKO _ W (.refl W) rfl
     ·have e3 := isOf hp.1; have e4 := isOf hp.2.1; simp only [e3, e4] at hKO; go_simp; exact hKO _ W (.refl W) rfl
     ·have e3 := isOf hp.1; have e5 := isOf hp.2.1; simp only [e3, e5] at hKO; go_simp; exact hKO _ W (Ext.refl W) (by first | exact congrArg Value.bool HXI.out | exact congrArg Value.bool HXN.out)
     ·have e3 := isOf hp.1; have e6 := isOf hp.2.1; simp only [e3, e6] at hKO; go_simp; exact hKO _ W (.refl W) rfl
     ·go_simp; exact hKO _ W (.refl W) rfl
     ·have e7 := isOf hp.1; have e8 := isOf hp.2.1; simp only [e7, e8] at hKO; go_simp; exact hKO _ W (.refl W) rfl
     ·have e9 := isOf hp.1; simp only [e9] at hKO
      have hf := hS.2.2.2.1
      obtain ⟨x0_0, x0_1, hx, hno⟩ := hf.bx2
      have r0 := hx.froz0
      have t0 := hx.cell0
      have r1 := hx.froz1
      have t1 := hx.cell1
      have hw := Wr.set2 hx hno XB aq nq cq
      have hq := hx.set (.bool XB) (.slice aq nq cq)
      have hg : (w.heap.size + 1) ≤ (w.heap.size + 1) := Nat.le_refl _
      go_simp
      exact hKO _ _ hw ⟨(Ext.wr hS.1 hw (by omega)), (hS.2.1.wr hw), (hS.2.2.1.wr hw (by omega)), (hS.2.2.2.1.wr hw), (hS.2.2.2.2.1.wr hw), (hS.2.2.2.2.2.1.wr hw), (Nat.le_trans hS.2.2.2.2.2.2 hw.apart.size)⟩ hq
     ·go_simp; exact hKO _ W (.refl W) rfl
    intro vs W27 hS hp
    clear szw27 E0 h1 p3 fp6 hq hr
    obtain ⟨E0, h1, p3, fp6, hq, hr, sz27⟩ := hS
    obtain ⟨h27_0, h27_1, h27_2, h27_3, h27_4, h27_5, h27_6, h27_7, h27_8, h27_9, h27_10, h27_11, -⟩ := hp
    have p27_10 : Bx2 W27 (w.heap.size + 1) 25 (.bool XB) (.slice aq nq cq) := h27_10
    replace h27_0 : vs 0 = .pointer (some ⟨w.heap.size, 0, none⟩) := h27_0
    replace h27_1 : vs 1 = .pointer (some ⟨w.heap.size, 0, none⟩) := h27_1
    replace h27_2 : vs 2 = .bool true := h27_2
    replace h27_3 : vs 3 = .bool true := h27_3
    replace h27_4 : vs 4 = .slice aq nq cq := h27_4
    replace h27_5 : vs 5 = .int .i64 (nq : Int) := h27_5
    replace h27_6 : vs 6 = .bool XB := h27_6
    replace h27_7 : vs 7 = .bool XB := h27_7
    replace h27_8 : vs 8 = .slice aq nq cq := h27_8
    replace h27_9 : vs 9 = .agg #[.bool XB, .slice aq nq cq] := h27_9
    replace h27_11 : vs 11 = .int .i64 0 := h27_11
    simp only [h27_0, h27_1, h27_2, h27_3, h27_4, h27_5, h27_6, h27_7, h27_8, h27_9, h27_11]
    clear h27_0 h27_1 h27_2 h27_3 h27_4 h27_5 h27_6 h27_7 h27_8 h27_9 h27_11
    obtain ⟨kp3_0, kp3_1, kp3_2⟩ := p3.c3
    obtain ⟨kp27_10_0, kp27_10_1⟩ := p27_10.c2
    simp only [Exit.then]
    refine ‹∀ (a : Act) (w : World), Code.wp _ _ _ a w → _› _ _ ?_
    refine wp_ret ?_
    exact bodyPost_ret (v := .tuple #[.agg #[.bool XB, .slice aq nq cq], .int .i64 0]) (by simp [results, Tryz.results121, go_sem, kp27_10_0, kp27_10_1]) rfl ⟨_, rfl, Zw.put hq (by rw [sgn_neg, HXM.out]; exact (Bool.and_self XB).symm) (by rw [HX.out]; rw [if_neg (by rw [HA.out]; simp)]; exact sgn_lead HXM.out), E0⟩
  ·have HA := Lib.hid hA
   clear hA
   obtain ⟨khb_0, khb_1, khb_2⟩ := hb.c3
   obtain ⟨kp3_0, kp3_1, kp3_2⟩ := p3.c3
   obtain ⟨kp6_0, kp6_1⟩ := p6.c2
   go_wp2_with fail
   clear khb_0 khb_1 khb_2 kp3_0 kp3_1 kp3_2 kp6_0 kp6_1
   refine (Tryz.natOf 1 _ B1.out).mono ?_
   rintro e Wd ⟨v1, rfl, hone, hE, -⟩
   replace E0 := (Ext.trans E0 hE); replace h1 := (h1.ext hE); replace hb := (hb.ext hE); replace p3 := (p3.ext hE); replace p6 := (p6.ext hE); replace hq := (hq.ext hE); replace hr := (hr.ext hE); clear hE
   obtain ⟨khb_0, khb_1, khb_2⟩ := hb.c3
   obtain ⟨kp3_0, kp3_1, kp3_2⟩ := p3.c3
   obtain ⟨kp6_0, kp6_1⟩ := p6.c2
   go_wp2_with fail
   clear khb_0 khb_1 khb_2 kp3_0 kp3_1 kp3_2 kp6_0 kp6_1
   refine (Tryz.natAdd hq hone SQ.out S1.out (by omega)).mono ?_
   rintro e We ⟨vy, rfl, hy, hE, -⟩
   replace E0 := (Ext.trans E0 hE); replace h1 := (h1.ext hE); replace hb := (hb.ext hE); replace p3 := (p3.ext hE); replace p6 := (p6.ext hE); replace hq := (hq.ext hE); replace hr := (hr.ext hE); replace hone := (hone.ext hE); clear hE; clear hq hone; clear zq
   obtain ⟨ay, ny, cy, ezy, zy, -⟩ := hy.len
   rw [ezy] at hy ⊢
   clear ezy
   obtain ⟨khb_0, khb_1, khb_2⟩ := hb.c3
   obtain ⟨kp3_0, kp3_1, kp3_2⟩ := p3.c3
   obtain ⟨kp6_0, kp6_1⟩ := p6.c2
   go_upto_region 7 with (fail)
   clear khb_0 khb_1 khb_2 kp3_0 kp3_1 kp3_2 kp6_0 kp6_1; clear hb
   cases b1
   ·have HX : Hid (decide (x.num < 0) = false) := Lib.hid HB.out.symm
    clear zy; have fp6 := p6.form; have ltp3 := p3.lt; have ltfp6 := fp6.lt; have szw28 := Ext.size E0
    refine region_gs [.one fun v _ => v = .pointer (some ⟨w.heap.size, 0, none⟩),
      .one fun v _ => v = .pointer (some ⟨w.heap.size, 0, none⟩),
      .one fun v _ => v = .bool false,
      .one fun v _ => v = .bool false,
      .one fun v _ => v = undef,
      .one fun v _ => v = undef,
      .one fun v _ => v = undef,
      .one fun v _ => v = .bool false,
      .one fun v _ => v = .slice ay ny cy,
      .one fun v _ => v = .agg #[.bool false, .slice ay ny cy],
      .own fun W => Bx2 W (w.heap.size + 1) 25 (.bool false) (.slice ay ny cy),
      .one fun v _ => v = .int .i64 0]
     (fun W => Ext w W ∧ Rw W (.agg #[.bool false, .slice a1 n1 c1, .slice d1 m1 o1]) x ∧ Bx3 W w.heap.size 27 (.bool false) (.slice a1 n1 c1) (.slice d1 m1 o1) ∧ Form W (w.heap.size + 1) 25 2 ∧ Nw W (.slice ar nr cr) (N % D) ∧ Nw W (.slice ay ny cy) (N / D + 1) ∧ We.heap.size ≤ W.heap.size) ⟨Good.is _, Good.is _, Good.is _, Good.is _, Good.is _, Good.is _, Good.is _, Good.is _, Good.is _, Good.is _, cert_bx2, Good.is _, trivial⟩
     ⟨E0, h1, p3, fp6, hr, hy, Nat.le_refl _⟩ (A := ?A28) ?hA28 ?howe28 ?hfin28
    case hA28 =>
     intro vs
     simp only [putAll, Act.put, sA, sZ, sS, Nat.zero_add, Nat.reduceAdd]
     exact rfl
    case howe28 =>
     clear E0 h1 p3 fp6 hr hy
     intro hf
     refine ⟨oE 0 [] hf rfl ?_, oE 1 [0] hf rfl ?_, oE 2 [1] hf rfl ?_, oE 3 [2] hf rfl ?_, oE 4 [3] hf rfl ?_, oE 5 [3] hf rfl ?_, oE 6 [3] hf rfl ?_, oE 7 [3, 6] hf rfl ?_, oE 8 [] hf rfl ?_, oE 9 [7, 8] hf rfl ?_, oW 10 [9] hf rfl ?_, oE 11 [] hf rfl ?_, trivial⟩
     all_goals intro vs W hS hp hx KO hKO
     all_goals simp only [Act.put, sA, sZ, sS] at hKO
     ·go_simp; exact hKO _ W (.refl W) rfl
     ·have e0 := isOf hp.1; simp only [e0] at hKO; go_simp; exact hKO _ W (.refl W) rfl
     ·have e1 := isOf hp.1; simp only [e1] at hKO; have fc0 := hS.2.2.1.cell0; go_simp; exact hKO _ W (.refl W) rfl
     ·have e2 := isOf hp.1; simp only [e2] at hKO; go_simp; exact hKO _ W (.refl W) rfl
     ·have e3 := isOf hp.1; simp only [e3] at hKO; go_simp; exact hKO _ W (.refl W) rfl
     ·have e3 := isOf hp.1; simp only [e3] at hKO; go_simp; exact hKO _ W (.refl W) rfl
     ·have e3 := isOf hp.1; simp only [e3] at hKO; go_simp; exact hKO _ W (.refl W) rfl
     ·have e3 := isOf hp.1; have e6 := isOf hp.2.1; simp only [e3, e6] at hKO; go_simp; exact hKO _ W (.refl W) rfl
     ·go_simp; exact hKO _ W (.refl W) rfl
     ·have e7 := isOf hp.1; have e8 := isOf hp.2.1; simp only [e7, e8] at hKO; go_simp; exact hKO _ W (.refl W) rfl
     ·have e9 := isOf hp.1; simp only [e9] at hKO
      have hf := hS.2.2.2.1
      obtain ⟨x0_0, x0_1, hx, hno⟩ := hf.bx2
      have r0 := hx.froz0
      have t0 := hx.cell0
      have r1 := hx.froz1
      have t1 := hx.cell1
      have hw := Wr.set2 hx hno false ay ny cy
      have hq := hx.set (.bool false) (.slice ay ny cy)
      have hg : (w.heap.size + 1) ≤ (w.heap.size + 1) := Nat.le_refl _
      go_simp
      exact hKO _ _ hw ⟨(Ext.wr hS.1 hw (by omega)), (hS.2.1.wr hw), (hS.2.2.1.wr hw (by omega)), (hS.2.2.2.1.wr hw), (hS.2.2.2.2.1.wr hw), (hS.2.2.2.2.2.1.wr hw), (Nat.le_trans hS.2.2.2.2.2.2 hw.apart.size)⟩ hq
     ·go_simp; exact hKO _ W (.refl W) rfl
    intro vs W28 hS hp
    clear szw28 E0 h1 p3 fp6 hr hy
    obtain ⟨E0, h1, p3, fp6, hr, hy, sz28⟩ := hS
    obtain ⟨h28_0, h28_1, h28_2, h28_3, h28_4, h28_5, h28_6, h28_7, h28_8, h28_9, h28_10, h28_11, -⟩ := hp
    have p28_10 : Bx2 W28 (w.heap.size + 1) 25 (.bool false) (.slice ay ny cy) := h28_10
    replace h28_0 : vs 0 = .pointer (some ⟨w.heap.size, 0, none⟩) := h28_0
    replace h28_1 : vs 1 = .pointer (some ⟨w.heap.size, 0, none⟩) := h28_1
    replace h28_2 : vs 2 = .bool false := h28_2
    replace h28_3 : vs 3 = .bool false := h28_3
    replace h28_4 : vs 4 = undef := h28_4
    replace h28_5 : vs 5 = undef := h28_5
    replace h28_6 : vs 6 = undef := h28_6
    replace h28_7 : vs 7 = .bool false := h28_7
    replace h28_8 : vs 8 = .slice ay ny cy := h28_8
    replace h28_9 : vs 9 = .agg #[.bool false, .slice ay ny cy] := h28_9
    replace h28_11 : vs 11 = .int .i64 0 := h28_11
    simp only [h28_0, h28_1, h28_2, h28_3, h28_4, h28_5, h28_6, h28_7, h28_8, h28_9, h28_11]
    clear h28_0 h28_1 h28_2 h28_3 h28_4 h28_5 h28_6 h28_7 h28_8 h28_9 h28_11
    obtain ⟨kp3_0, kp3_1, kp3_2⟩ := p3.c3
    obtain ⟨kp28_10_0, kp28_10_1⟩ := p28_10.c2
    simp only [Exit.then]
    refine ‹∀ (a : Act) (w : World), Code.wp _ _ _ a w → _› _ _ ?_
    refine wp_ret ?_
    exact bodyPost_ret (v := .tuple #[.agg #[.bool false, .slice ay ny cy], .int .i64 0]) (by simp [results, Tryz.results121, go_sem, kp28_10_0, kp28_10_1]) rfl ⟨_, rfl, Zw.put hy (by rw [sgn_neg]; rfl) (by rw [HX.out]; rw [if_pos HA.out]), E0⟩
   ·have HX : Hid (decide (x.num < 0) = true) := Lib.hid HB.out.symm
    obtain ⟨XB, hXB⟩ : ∃ X, decide (0 < (N / D + 1)) = X := ⟨_, rfl⟩
    have HXM := Lib.hid hXB
    have HXN : Hid (decide (0 < ny) = XB) := Lib.hid (by rw [← hXB, Bool.eq_iff_iff, decide_eq_true_iff, decide_eq_true_iff]; exact ⟨fun h => Nat.pos_of_ne_zero fun e => Nat.ne_of_gt h (zy.2 e), fun h => Nat.pos_of_ne_zero fun e => Nat.ne_of_gt h (zy.1 e)⟩)
    have HXI : Hid (decide ((0 : Int) < (ny : Int)) = XB) := Lib.hid (by rw [← HXN.out, Bool.eq_iff_iff, decide_eq_true_iff, decide_eq_true_iff]; omega)
    clear zy hXB; have fp6 := p6.form; have ltp3 := p3.lt; have ltfp6 := fp6.lt; have szw29 := Ext.size E0
    refine region_gs [.one fun v _ => v = .pointer (some ⟨w.heap.size, 0, none⟩),
      .one fun v _ => v = .pointer (some ⟨w.heap.size, 0, none⟩),
      .one fun v _ => v = .bool true,
      .one fun v _ => v = .bool true,
      .one fun v _ => v = .slice ay ny cy,
      .one fun v _ => v = .int .i64 (ny : Int),
      .one fun v _ => v = .bool XB,
      .one fun v _ => v = .bool XB,
      .one fun v _ => v = .slice ay ny cy,
      .one fun v _ => v = .agg #[.bool XB, .slice ay ny cy],
      .own fun W => Bx2 W (w.heap.size + 1) 25 (.bool XB) (.slice ay ny cy),
      .one fun v _ => v = .int .i64 0]
     (fun W => Ext w W ∧ Rw W (.agg #[.bool true, .slice a1 n1 c1, .slice d1 m1 o1]) x ∧ Bx3 W w.heap.size 27 (.bool true) (.slice a1 n1 c1) (.slice d1 m1 o1) ∧ Form W (w.heap.size + 1) 25 2 ∧ Nw W (.slice ar nr cr) (N % D) ∧ Nw W (.slice ay ny cy) (N / D + 1) ∧ We.heap.size ≤ W.heap.size) ⟨Good.is _, Good.is _, Good.is _, Good.is _, Good.is _, Good.is _, Good.is _, Good.is _, Good.is _, Good.is _, cert_bx2, Good.is _, trivial⟩
     ⟨E0, h1, p3, fp6, hr, hy, Nat.le_refl _⟩ (A := ?A29) ?hA29 ?howe29 ?hfin29
    case hA29 =>
     intro vs
     simp only [putAll, Act.put, sA, sZ, sS, Nat.zero_add, Nat.reduceAdd]
     exact rfl
    case howe29 =>
     clear E0 h1 p3 fp6 hr hy
     intro hf
     refine ⟨oE 0 [] hf rfl ?_, oE 1 [0] hf rfl ?_, oE 2 [1] hf rfl ?_, oE 3 [2] hf rfl ?_, oE 4 [3] hf rfl ?_, oE 5 [3, 4] hf rfl ?_, oE 6 [3, 5] hf rfl ?_, oE 7 [3, 6] hf rfl ?_, oE 8 [] hf rfl ?_, oE 9 [7, 8] hf rfl ?_, oW 10 [9] hf rfl ?_, oE 11 [] hf rfl ?_, trivial⟩
     all_goals intro vs W hS hp hx KO hKO
     all_goals simp only [Act.put, sA, sZ, sS] at hKO
     ·go_simp; exact hKO _ W (.refl W) rfl
     ·have e0 := isOf hp.1; simp only [e0] at hKO; go_simp; exact hKO _ W (.refl W) rfl
     ·have e1 := isOf hp.1; simp only [e1] at hKO; have fc0 := hS.2.2.1.cell0; go_simp; exact hKO _ W (.refl W) rfl
     ·have e2 := isOf hp.1; simp only [e2] at hKO; go_simp; exact hKO _ W (.refl W) rfl
     ·have e3 := isOf hp.1; simp only [e3] at hKO; go_simp; exact hKO _ W (.refl W) rfl
     ·have e3 := isOf hp.1; have e4 := isOf hp.2.1; simp only [e3, e4] at hKO; go_simp; exact hKO _ W (.refl W) rfl
     ·have e3 := isOf hp.1; have e5 := isOf hp.2.1; simp only [e3, e5] at hKO; go_simp; exact hKO _ W (Ext.refl W) (by first | exact congrArg Value.bool HXI.out | exact congrArg Value.bool HXN.out)
     ·have e3 := isOf hp.1; have e6 := isOf hp.2.1; simp only [e3, e6] at hKO; go_simp; exact hKO _ W (.refl W) rfl
     ·go_simp; exact hKO _ W (.refl W) rfl
     ·have e7 := isOf hp.1; have e8 := isOf hp.2.1; simp only [e7, e8] at hKO; go_simp; exact hKO _ W (.refl W) rfl
     ·have e9 := isOf hp.1; simp only [e9] at hKO
      have hf := hS.2.2.2.1
      obtain ⟨x0_0, x0_1, hx, hno⟩ := hf.bx2
      have r0 := hx.froz0
      have t0 := hx.cell0
      have r1 := hx.froz1
      have t1 := hx.cell1
      have hw := Wr.set2 hx hno XB ay ny cy
      have hq := hx.set (.bool XB) (.slice ay ny cy)
      have hg : (w.heap.size + 1) ≤ (w.heap.size + 1) := Nat.le_refl _
      go_simp
      exact hKO _ _ hw ⟨(Ext.wr hS.1 hw (by omega)), (hS.2.1.wr hw), (hS.2.2.1.wr hw (by omega)), (hS.2.2.2.1.wr hw), (hS.2.2.2.2.1.wr hw), (hS.2.2.2.2.2.1.wr hw), (Nat.le_trans hS.2.2.2.2.2.2 hw.apart.size)⟩ hq
     ·go_simp; exact hKO _ W (.refl W) rfl
    intro vs W29 hS hp
    clear szw29 E0 h1 p3 fp6 hr hy
    obtain ⟨E0, h1, p3, fp6, hr, hy, sz29⟩ := hS
    obtain ⟨h29_0, h29_1, h29_2, h29_3, h29_4, h29_5, h29_6, h29_7, h29_8, h29_9, h29_10, h29_11, -⟩ := hp
    have p29_10 : Bx2 W29 (w.heap.size + 1) 25 (.bool XB) (.slice ay ny cy) := h29_10
    replace h29_0 : vs 0 = .pointer (some ⟨w.heap.size, 0, none⟩) := h29_0
    replace h29_1 : vs 1 = .pointer (some ⟨w.heap.size, 0, none⟩) := h29_1
    replace h29_2 : vs 2 = .bool true := h29_2
    replace h29_3 : vs 3 = .bool true := h29_3
    replace h29_4 : vs 4 = .slice ay ny cy := h29_4
    replace h29_5 : vs 5 = .int .i64 (ny : Int) := h29_5
    replace h29_6 : vs 6 = .bool XB := h29_6
    replace h29_7 : vs 7 = .bool XB := h29_7
    replace h29_8 : vs 8 = .slice ay ny cy := h29_8
    replace h29_9 : vs 9 = .agg #[.bool XB, .slice ay ny cy] := h29_9
    replace h29_11 : vs 11 = .int .i64 0 := h29_11
    simp only [h29_0, h29_1, h29_2, h29_3, h29_4, h29_5, h29_6, h29_7, h29_8, h29_9, h29_11]
    clear h29_0 h29_1 h29_2 h29_3 h29_4 h29_5 h29_6 h29_7 h29_8 h29_9 h29_11
    obtain ⟨kp3_0, kp3_1, kp3_2⟩ := p3.c3
    obtain ⟨kp29_10_0, kp29_10_1⟩ := p29_10.c2
    simp only [Exit.then]
    refine ‹∀ (a : Act) (w : World), Code.wp _ _ _ a w → _› _ _ ?_
    refine wp_ret ?_
    exact bodyPost_ret (v := .tuple #[.agg #[.bool XB, .slice ay ny cy], .int .i64 0]) (by simp [results, Tryz.results121, go_sem, kp29_10_0, kp29_10_1]) rfl ⟨_, rfl, Zw.put hy (by rw [sgn_neg, HXM.out]; exact (Bool.and_self XB).symm) (by rw [HX.out]; rw [if_pos HA.out]; exact sgn_lead HXM.out), E0⟩
 ·have hrI : ¬ (0 : Int) < (nr : Int) := by omega
  have HR0 : Hid (N % D = 0) := Lib.hid (zr.1 (by omega))
  clear zr
  obtain ⟨khb_0, khb_1, khb_2⟩ := hb.c3
  obtain ⟨kp3_0, kp3_1, kp3_2⟩ := p3.c3
  obtain ⟨kp6_0, kp6_1⟩ := p6.c2
  go_upto_region 7 with (fail)
  clear khb_0 khb_1 khb_2 kp3_0 kp3_1 kp3_2 kp6_0 kp6_1
  have HA : Hid (awayC x.num (N % D) = false) := Lib.hid (by have h0 := HR0.out; rw [h0]; unfold awayC; simp)
  clear hb
  cases b1
  ·have HX : Hid (decide (x.num < 0) = false) := Lib.hid HB.out.symm
   clear zq; have fp6 := p6.form; have ltp3 := p3.lt; have ltfp6 := fp6.lt; have szw30 := Ext.size E0
   refine region_gs [.one fun v _ => v = .pointer (some ⟨w.heap.size, 0, none⟩),
     .one fun v _ => v = .pointer (some ⟨w.heap.size, 0, none⟩),
     .one fun v _ => v = .bool false,
     .one fun v _ => v = .bool false,
     .one fun v _ => v = undef,
     .one fun v _ => v = undef,
     .one fun v _ => v = undef,
     .one fun v _ => v = .bool false,
     .one fun v _ => v = .slice aq nq cq,
     .one fun v _ => v = .agg #[.bool false, .slice aq nq cq],
     .own fun W => Bx2 W (w.heap.size + 1) 25 (.bool false) (.slice aq nq cq),
     .one fun v _ => v = .int .i64 0]
    (fun W => Ext w W ∧ Rw W (.agg #[.bool false, .slice a1 n1 c1, .slice d1 m1 o1]) x ∧ Bx3 W w.heap.size 27 (.bool false) (.slice a1 n1 c1) (.slice d1 m1 o1) ∧ Form W (w.heap.size + 1) 25 2 ∧ Nw W (.slice aq nq cq) (N / D) ∧ Nw W (.slice ar nr cr) (N % D) ∧ Wb.heap.size ≤ W.heap.size) ⟨Good.is _, Good.is _, Good.is _, Good.is _, Good.is _, Good.is _, Good.is _, Good.is _, Good.is _, Good.is _, cert_bx2, Good.is _, trivial⟩
    ⟨E0, h1, p3, fp6, hq, hr, Nat.le_refl _⟩ (A := ?A30) ?hA30 ?howe30 ?hfin30
   case hA30 =>
    intro vs
    simp only [putAll, Act.put, sA, sZ, sS, Nat.zero_add, Nat.reduceAdd]
    exact rfl
   case howe30 =>
    clear E0 h1 p3 fp6 hq hr
    intro hf
    refine ⟨oE 0 [] hf rfl ?_, oE 1 [0] hf rfl ?_, oE 2 [1] hf rfl ?_, oE 3 [2] hf rfl ?_, oE 4 [3] hf rfl ?_, oE 5 [3] hf rfl ?_, oE 6 [3] hf rfl ?_, oE 7 [3, 6] hf rfl ?_, oE 8 [] hf rfl ?_, oE 9 [7, 8] hf rfl ?_, oW 10 [9] hf rfl ?_, oE 11 [] hf rfl ?_, trivial⟩
    all_goals intro vs W hS hp hx KO hKO
    all_goals simp only [Act.put, sA, sZ, sS] at hKO
    ·go_simp; exact hKO _ W (.refl W) rfl
    ·have e0 := isOf hp.1; simp only [e0] at hKO; go_simp; exact hKO _ W (.refl W) rfl
    ·have e1 := isOf hp.1; simp only [e1] at hKO; have fc0 := hS.2.2.1.cell0; go_simp; exact hKO _ W (.refl W) rfl
    ·have e2 := isOf hp.1; simp only [e2] at hKO; go_simp; exact hKO _ W (.refl W) rfl
    ·have e3 := isOf hp.1; simp only [e3] at hKO; go_simp; exact hKO _ W (.refl W) rfl
    ·have e3 := isOf hp.1; simp only [e3] at hKO; go_simp; exact hKO _ W (.refl W) rfl
    ·have e3 := isOf hp.1; simp only [e3] at hKO; go_simp; exact hKO _ W (.refl W) rfl
    ·have e3 := isOf hp.1; have e6 := isOf hp.2.1; simp only [e3, e6] at hKO; go_simp; exact hKO _ W (.refl W) rfl
    ·go_simp; exact hKO _ W (.refl W) rfl
    ·have e7 := isOf hp.1; have e8 := isOf hp.2.1; simp only [e7, e8] at hKO; go_simp; exact hKO _ W (.refl W) rfl
    ·have e9 := isOf hp.1; simp only [e9] at hKO
     have hf := hS.2.2.2.1
     obtain ⟨x0_0, x0_1, hx, hno⟩ := hf.bx2
     have r0 := hx.froz0
     have t0 := hx.cell0
     have r1 := hx.froz1
     have t1 := hx.cell1
     have hw := Wr.set2 hx hno false aq nq cq
     have hq := hx.set (.bool false) (.slice aq nq cq)
     have hg : (w.heap.size + 1) ≤ (w.heap.size + 1) := Nat.le_refl _
     go_simp
     exact hKO _ _ hw ⟨(Ext.wr hS.1 hw (by omega)), (hS.2.1.wr hw), (hS.2.2.1.wr hw (by omega)), (hS.2.2.2.1.wr hw), (hS.2.2.2.2.1.wr hw), (hS.2.2.2.2.2.1.wr hw), (Nat.le_trans hS.2.2.2.2.2.2 hw.apart.size)⟩ hq
    ·go_simp; exact hKO _ W (.refl W) rfl
   intro vs W30 hS hp
   clear szw30 E0 h1 p3 fp6 hq hr
   obtain ⟨E0, h1, p3, fp6, hq, hr, sz30⟩ := hS
   obtain ⟨h30_0, h30_1, h30_2, h30_3, h30_4, h30_5, h30_6, h30_7, h30_8, h30_9, h30_10, h30_11, -⟩ := hp
   have p30_10 : Bx2 W30 (w.heap.size + 1) 25 (.bool false) (.slice aq nq cq) := h30_10
   replace h30_0 : vs 0 = .pointer (some ⟨w.heap.size, 0, none⟩) := h30_0
   replace h30_1 : vs 1 = .pointer (some ⟨w.heap.size, 0, none⟩) := h30_1
   replace h30_2 : vs 2 = .bool false := h30_2
   replace h30_3 : vs 3 = .bool false := h30_3
   replace h30_4 : vs 4 = undef := h30_4
   replace h30_5 : vs 5 = undef := h30_5
   replace h30_6 : vs 6 = undef := h30_6
   replace h30_7 : vs 7 = .bool false := h30_7
   replace h30_8 : vs 8 = .slice aq nq cq := h30_8
   replace h30_9 : vs 9 = .agg #[.bool false, .slice aq nq cq] := h30_9
   replace h30_11 : vs 11 = .int .i64 0 := h30_11
   simp only [h30_0, h30_1, h30_2, h30_3, h30_4, h30_5, h30_6, h30_7, h30_8, h30_9, h30_11]
   clear h30_0 h30_1 h30_2 h30_3 h30_4 h30_5 h30_6 h30_7 h30_8 h30_9 h30_11
   obtain ⟨kp3_0, kp3_1, kp3_2⟩ := p3.c3
   obtain ⟨kp30_10_0, kp30_10_1⟩ := p30_10.c2
   simp only [Exit.then]
   refine ‹∀ (a : Act) (w : World), Code.wp _ _ _ a w → _› _ _ ?_
   refine wp_ret ?_
   exact bodyPost_ret (v := .tuple #[.agg #[.bool false, .slice aq nq cq], .int .i64 0]) (by simp [results, Tryz.results121, go_sem, kp30_10_0, kp30_10_1]) rfl ⟨_, rfl, Zw.put hq (by rw [sgn_neg]; rfl) (by rw [HX.out]; rw [if_neg (by rw [HA.out]; simp)]), E0⟩
  ·have HX : Hid (decide (x.num < 0) = true) := Lib.hid HB.out.symm
   obtain ⟨XB, hXB⟩ : ∃ X, decide (0 < N / D) = X := ⟨_, rfl⟩
   have HXM := Lib.hid hXB
   have HXN : Hid (decide (0 < nq) = XB) := Lib.hid (by rw [← hXB, Bool.eq_iff_iff, decide_eq_true_iff, decide_eq_true_iff]; exact ⟨fun h => Nat.pos_of_ne_zero fun e => Nat.ne_of_gt h (zq.2 e), fun h => Nat.pos_of_ne_zero fun e => Nat.ne_of_gt h (zq.1 e)⟩)
   have HXI : Hid (decide ((0 : Int) < (nq : Int)) = XB) := Lib.hid (by rw [← HXN.out, Bool.eq_iff_iff, decide_eq_true_iff, decide_eq_true_iff]; omega)
   clear zq hXB; have fp6 := p6.form; have ltp3 := p3.lt; have ltfp6 := fp6.lt; have szw31 := Ext.size E0
   refine region_gs [.one fun v _ => v = .pointer (some ⟨w.heap.size, 0, none⟩),
     .one fun v _ => v = .pointer (some ⟨w.heap.size, 0, none⟩),
     .one fun v _ => v = .bool true,
     .one fun v _ => v = .bool true,
     .one fun v _ => v = .slice aq nq cq,
     .one fun v _ => v = .int .i64 (nq : Int),
     .one fun v _ => v = .bool XB,
     .one fun v _ => v = .bool XB,
     .one fun v _ => v = .slice aq nq cq,
     .one fun v _ => v = .agg #[.bool XB, .slice aq nq cq],
     .own fun W => Bx2 W (w.heap.size + 1) 25 (.bool XB) (.slice aq nq cq),
     .one fun v _ => v = .int .i64 0]
    (fun W => Ext w W ∧ Rw W (.agg #[.bool true, .slice a1 n1 c1, .slice d1 m1 o1]) x ∧ Bx3 W w.heap.size 27 (.bool true) (.slice a1 n1 c1) (.slice d1 m1 o1) ∧ Form W (w.heap.size + 1) 25 2 ∧ Nw W (.slice aq nq cq) (N / D) ∧ Nw W (.slice ar nr cr) (N % D) ∧ Wb.heap.size ≤ W.heap.size) ⟨Good.is _, Good.is _, Good.is _, Good.is _, Good.is _, Good.is _, Good.is _, Good.is _, Good.is _, Good.is _, cert_bx2, Good.is _, trivial⟩
    ⟨E0, h1, p3, fp6, hq, hr, Nat.le_refl _⟩ (A := ?A31) ?hA31 ?howe31 ?hfin31
   case hA31 =>
    intro vs
    simp only [putAll, Act.put, sA, sZ, sS, Nat.zero_add, Nat.reduceAdd]
    exact rfl
   case howe31 =>
    clear E0 h1 p3 fp6 hq hr
    intro hf
    refine ⟨oE 0 [] hf rfl ?_, oE 1 [0] hf rfl ?_, oE 2 [1] hf rfl ?_, oE 3 [2] hf rfl ?_, oE 4 [3] hf rfl ?_, oE 5 [3, 4] hf rfl ?_, oE 6 [3, 5] hf rfl ?_, oE 7 [3, 6] hf rfl ?_, oE 8 [] hf rfl ?_, oE 9 [7, 8] hf rfl ?_, oW 10 [9] hf rfl ?_, oE 11 [] hf rfl ?_, trivial⟩
    all_goals intro vs W hS hp hx KO hKO
    all_goals simp only [Act.put, sA, sZ, sS] at hKO
    ·go_simp; exact hKO _ W (.refl W) rfl
    ·have e0 := isOf hp.1; simp only [e0] at hKO; go_simp; exact hKO _ W (.refl W) rfl
    ·have e1 := isOf hp.1; simp only [e1] at hKO; have fc0 := hS.2.2.1.cell0; go_simp; exact hKO _ W (.refl W) rfl
    ·have e2 := isOf hp.1; simp only [e2] at hKO; go_simp; exact hKO _ W (.refl W) rfl
    ·have e3 := isOf hp.1; simp only [e3] at hKO; go_simp; exact hKO _ W (.refl W) rfl
    ·have e3 := isOf hp.1; have e4 := isOf hp.2.1; simp only [e3, e4] at hKO; go_simp; exact hKO _ W (.refl W) rfl
    ·have e3 := isOf hp.1; have e5 := isOf hp.2.1; simp only [e3, e5] at hKO; go_simp; exact hKO _ W (Ext.refl W) (by first | exact congrArg Value.bool HXI.out | exact congrArg Value.bool HXN.out)
    ·have e3 := isOf hp.1; have e6 := isOf hp.2.1; simp only [e3, e6] at hKO; go_simp; exact hKO _ W (.refl W) rfl
    ·go_simp; exact hKO _ W (.refl W) rfl
    ·have e7 := isOf hp.1; have e8 := isOf hp.2.1; simp only [e7, e8] at hKO; go_simp; exact hKO _ W (.refl W) rfl
    ·have e9 := isOf hp.1; simp only [e9] at hKO
     have hf := hS.2.2.2.1
     obtain ⟨x0_0, x0_1, hx, hno⟩ := hf.bx2
     have r0 := hx.froz0
     have t0 := hx.cell0
     have r1 := hx.froz1
     have t1 := hx.cell1
     have hw := Wr.set2 hx hno XB aq nq cq
     have hq := hx.set (.bool XB) (.slice aq nq cq)
     have hg : (w.heap.size + 1) ≤ (w.heap.size + 1) := Nat.le_refl _
     go_simp
     exact hKO _ _ hw ⟨(Ext.wr hS.1 hw (by omega)), (hS.2.1.wr hw), (hS.2.2.1.wr hw (by omega)), (hS.2.2.2.1.wr hw), (hS.2.2.2.2.1.wr hw), (hS.2.2.2.2.2.1.wr hw), (Nat.le_trans hS.2.2.2.2.2.2 hw.apart.size)⟩ hq
    ·go_simp; exact hKO _ W (.refl W) rfl
   intro vs W31 hS hp
   clear szw31 E0 h1 p3 fp6 hq hr
   obtain ⟨E0, h1, p3, fp6, hq, hr, sz31⟩ := hS
   obtain ⟨h31_0, h31_1, h31_2, h31_3, h31_4, h31_5, h31_6, h31_7, h31_8, h31_9, h31_10, h31_11, -⟩ := hp
   have p31_10 : Bx2 W31 (w.heap.size + 1) 25 (.bool XB) (.slice aq nq cq) := h31_10
   replace h31_0 : vs 0 = .pointer (some ⟨w.heap.size, 0, none⟩) := h31_0
   replace h31_1 : vs 1 = .pointer (some ⟨w.heap.size, 0, none⟩) := h31_1
   replace h31_2 : vs 2 = .bool true := h31_2
   replace h31_3 : vs 3 = .bool true := h31_3
   replace h31_4 : vs 4 = .slice aq nq cq := h31_4
   replace h31_5 : vs 5 = .int .i64 (nq : Int) := h31_5
   replace h31_6 : vs 6 = .bool XB := h31_6
   replace h31_7 : vs 7 = .bool XB := h31_7
   replace h31_8 : vs 8 = .slice aq nq cq := h31_8
   replace h31_9 : vs 9 = .agg #[.bool XB, .slice aq nq cq] := h31_9
   replace h31_11 : vs 11 = .int .i64 0 := h31_11
   simp only [h31_0, h31_1, h31_2, h31_3, h31_4, h31_5, h31_6, h31_7, h31_8, h31_9, h31_11]
   clear h31_0 h31_1 h31_2 h31_3 h31_4 h31_5 h31_6 h31_7 h31_8 h31_9 h31_11
   obtain ⟨kp3_0, kp3_1, kp3_2⟩ := p3.c3
   obtain ⟨kp31_10_0, kp31_10_1⟩ := p31_10.c2
   simp only [Exit.then]
   refine ‹∀ (a : Act) (w : World), Code.wp _ _ _ a w → _› _ _ ?_
   refine wp_ret ?_
   exact bodyPost_ret (v := .tuple #[.agg #[.bool XB, .slice aq nq cq], .int .i64 0]) (by simp [results, Tryz.results121, go_sem, kp31_10_0, kp31_10_1]) rfl ⟨_, rfl, Zw.put hq (by rw [sgn_neg, HXM.out]; exact (Bool.and_self XB).symm) (by rw [HX.out]; rw [if_neg (by rw [HA.out]; simp)]; exact sgn_lead HXM.out), E0⟩

set_option maxRecDepth 100000 in
set_option maxHeartbeats 1000000 in
theorem Tryz.dyadCeil {v1 : Value} {x : Rat} {L : Nat} {w : World} (h1 : Rw w v1 x) (s1 : SmR L x) (hL : L ≤ 20000) (K : Nat) (hK : K ≤ 2000) :
  Calls Tryz.prog 71 #[v1, .int .i64 (K : Int)] w fun e w' => ∃ v', e = .returned (.tuple #[v', .int .i64 0]) ∧ Zw w' v' ((x * P2 K).ceil) ∧ Ext w w' := by
 obtain ⟨b1, a1, n1, c1, d1, m1, o1, rfl, q1⟩ : ∃ b a n c d m o, v1 = .agg #[.bool b, .slice a n c, .slice d m o] ∧ True := let ⟨b, a, n, c, d, m, o, e, _⟩ := h1; ⟨b, a, n, c, d, m, o, e, trivial⟩
 clear q1
 obtain ⟨W0, hW0⟩ : ∃ W0, W0 = ((w.alloc (.cells #[.bool b1, .slice a1 n1 c1, .slice d1 m1 o1] 27)).alloc (.cells #[.bool false, .slice none 0 0] 25)) := ⟨_, rfl⟩
 have E0 : Ext w W0 := by rw [hW0]; exact ((Ext.alloc1 w (.cells #[.bool b1, .slice a1 n1 c1, .slice d1 m1 o1] 27)).alloc (.cells #[.bool false, .slice none 0 0] 25))
 replace h1 : Rw W0 (.agg #[.bool b1, .slice a1 n1 c1, .slice d1 m1 o1]) x := h1.ext E0
 have p2 : Bx3 W0 w.heap.size 27 (.bool b1) (.slice a1 n1 c1) (.slice d1 m1 o1) := by rw [hW0]; exact (Bx3.new w 27 (.bool b1) (.slice a1 n1 c1) (.slice d1 m1 o1)).ext (Ext.alloc1 (w.alloc (.cells #[.bool b1, .slice a1 n1 c1, .slice d1 m1 o1] 27)) (.cells #[.bool false, .slice none 0 0] 25))
 have p4 : Bx2 W0 (w.heap.size + 1) 25 (.bool false) (.slice none 0 0) := by rw [hW0]; simpa using (Bx2.new (w.alloc (.cells #[.bool b1, .slice a1 n1 c1, .slice d1 m1 o1] 27)) 25 (.bool false) (.slice none 0 0))
 go_enter Tryz.func71, Tryz.ntmps71
 obtain ⟨kp2_0, kp2_1, kp2_2⟩ := p2.c3
 obtain ⟨kp4_0, kp4_1⟩ := p4.c2
 go_upto_region 1 with (fail)
 rw [← hW0]
 clear hW0; clear kp2_0 kp2_1 kp2_2 kp4_0 kp4_1; have fp4 := p4.form; have ltp2 := p2.lt; have ltfp4 := fp4.lt; have szw32 := Ext.size E0
 refine region_gs [.one fun v _ => v = .agg #[.bool b1, .slice a1 n1 c1, .slice d1 m1 o1],
   .one fun v _ => v = .int .i64 (K : Int),
   .one fun v _ => v = .func (.func 123) #[] #[.pointer (some ⟨w.heap.size, 0, none⟩)],
   .one fun v W => ∃ v', v = .tuple #[v', .int .i64 0] ∧ (fun v W => Zw W v ((x * P2 K).ceil)) v' W,
   .one fun v W => Zw W v ((x * P2 K).ceil),
   .one fun v _ => v = .int .i64 0,
   .two 4 (fun r _ W => At2 (w.heap.size + 1) 25 r W),
   .one fun v _ => v = .int .i64 0]
  (fun W => Ext w W ∧ Rw W (.agg #[.bool b1, .slice a1 n1 c1, .slice d1 m1 o1]) x ∧ Bx3 W w.heap.size 27 (.bool b1) (.slice a1 n1 c1) (.slice d1 m1 o1) ∧ Form W (w.heap.size + 1) 25 2 ∧ W0.heap.size ≤ W.heap.size) ⟨Good.is _, Good.is _, Good.is _, (Good.zed _).tup _, Good.zed _, Good.is _, cert_at2, Good.is _, trivial⟩
  ⟨E0, h1, p2, fp4, Nat.le_refl _⟩ (A := ?A32) ?hA32 ?howe32 ?hfin32
 case hA32 =>
  intro vs
  simp only [putAll, Act.put, sA, sZ, sS, Nat.zero_add, Nat.reduceAdd]
  exact rfl
 case howe32 =>
  clear E0 h1 p2 fp4
  intro hf
  refine ⟨oE 0 [] hf rfl ?_, oE 1 [] hf rfl ?_, oE 2 [] hf rfl ?_, oE 3 [0, 1, 2] hf rfl ?_, oE 4 [3] hf rfl ?_, oE 5 [3] hf rfl ?_, oW 6 [4] hf rfl ?_, oE 7 [5] hf rfl ?_, trivial⟩
  all_goals intro vs W hS hp hx KO hKO
  all_goals simp only [Act.put, sA, sZ, sS] at hKO
  ·have fc0 := hS.2.2.1.cell0; have fc1 := hS.2.2.1.cell1; have fc2 := hS.2.2.1.cell2; go_simp; exact hKO _ W (.refl W) rfl
  ·go_simp; exact hKO _ W (.refl W) rfl
  ·go_simp; exact hKO _ W (.refl W) rfl
  ·have e0 := isOf hp.1; have e1 := isOf hp.2.1; have e2 := isOf hp.2.2.1; simp only [e0, e1, e2] at hKO; go_simp
   refine (Tryz.dyadRoundC (hS.2.1) hS.2.2.1 s1 hL K hK).mono ?_
   rintro e W1 ⟨v, rfl, hv, hE⟩
   exact hKO _ W1 hE ⟨_, rfl, hv⟩
  ·have q3 := hp.1
   obtain ⟨u, ev, hu⟩ := q3
   replace ev : vs 3 = _ := ev; simp only [ev] at hKO; go_simp; exact hKO _ W (Ext.refl W) hu
  ·have q3 := hp.1
   obtain ⟨u, ev, hu⟩ := q3
   replace ev : vs 3 = _ := ev; simp only [ev] at hKO; go_simp; exact hKO _ W (.refl W) rfl
  ·have q4 := hp.1
   have hf := hS.2.2.2.1
   obtain ⟨x0_0, x0_1, hx, hno⟩ := hf.bx2
   have qr := q4
   obtain ⟨b3, a3, n3, c3, er, -, -⟩ := qr
   replace er : vs 4 = _ := er
   have r0 := hx.froz0
   have t0 := hx.cell0
   have r1 := hx.froz1
   have t1 := hx.cell1
   have hw := Wr.set2 hx hno b3 a3 n3 c3
   have hq := hx.set (.bool b3) (.slice a3 n3 c3)
   have hg : (w.heap.size + 1) ≤ (w.heap.size + 1) := Nat.le_refl _
   simp only [er] at hKO; go_simp
   exact hKO _ _ hw ⟨(Ext.wr hS.1 hw (by omega)), (hS.2.1.wr hw), (hS.2.2.1.wr hw (by omega)), (hS.2.2.2.1.wr hw), (Nat.le_trans hS.2.2.2.2 hw.apart.size)⟩ ⟨b3, a3, n3, c3, er, hq⟩
  ·have e5 := isOf hp.1; simp only [e5] at hKO; go_simp; exact hKO _ W (.refl W) rfl
 intro vs W32 hS hp
 clear szw32 E0 h1 p2 fp4
 obtain ⟨E0, h1, p2, fp4, sz32⟩ := hS
 obtain ⟨h32_0, h32_1, h32_2, h32_3, h32_4, h32_5, h32_6, h32_7, -⟩ := hp
 obtain ⟨b32_6, a32_6, n32_6, c32_6, er32_6, p32_6⟩ := h32_6
 replace er32_6 : vs 4 = _ := er32_6; replace h32_4 := (show Zw W32 (vs 4) ((x * P2 K).ceil) from h32_4)
 rw [er32_6] at h32_4
 replace h32_0 : vs 0 = .agg #[.bool b1, .slice a1 n1 c1, .slice d1 m1 o1] := h32_0
 replace h32_1 : vs 1 = .int .i64 (K : Int) := h32_1
 replace h32_2 : vs 2 = .func (.func 123) #[] #[.pointer (some ⟨w.heap.size, 0, none⟩)] := h32_2
 replace h32_5 : vs 5 = .int .i64 0 := h32_5
 replace h32_7 : vs 7 = .int .i64 0 := h32_7
 simp only [er32_6, h32_0, h32_1, h32_2, h32_5, h32_7]
 clear er32_6 h32_0 h32_1 h32_2 h32_5 h32_7 h32_3
 obtain ⟨kp2_0, kp2_1, kp2_2⟩ := p2.c3
 obtain ⟨kp32_6_0, kp32_6_1⟩ := p32_6.c2
 go_wp2
 exact bodyPost_ret (v := .tuple #[.agg #[.bool b32_6, .slice a32_6 n32_6 c32_6], .int .i64 0]) (by simp [results, Tryz.results71, go_sem, kp32_6_0, kp32_6_1]) rfl ⟨_, rfl, h32_4, E0⟩

set_option maxRecDepth 100000 in
set_option maxHeartbeats 400000 in
theorem Tryz.dyadBack {v1 : Value} {z : Int} {L : Nat} {w : World} (h1 : Zw w v1 z) (s1 : Sm L z.natAbs) (hL : L ≤ 200) (K : Nat) (hK : K ≤ 2000) :
  Calls Tryz.prog 104 #[v1, .int .i64 (K : Int)] w fun e w' => ∃ v', e = .returned (.tuple #[v', .int .i64 0]) ∧ Rw w' v' ((z : Rat) / P2 K) ∧ Ext w w' := by
 obtain ⟨b1, a1, n1, c1, rfl, q1⟩ : ∃ b a n c, v1 = .agg #[.bool b, .slice a n c] ∧ True := let ⟨b, a, n, c, e, _⟩ := h1; ⟨b, a, n, c, e, trivial⟩
 clear q1
 have B1 : Hid (1 < B64) := Lib.hid (by rw [B64_eq]; omega)
 have hk0 : ¬ ((K : Int) < 0) := by omega
 have hk1 : ¬ ((2000 : Int) < (K : Int)) := by omega
 obtain ⟨D, hD⟩ : ∃ D, D = 2 ^ K := ⟨_, rfl⟩
 have SX : Hid (Sm (L + 32) z.natAbs) := Lib.hid (s1.mono (by omega))
 have SD : Hid (Sm (L + 32) D) := Lib.hid (by rw [hD]; exact (Sm.pow2 K).mono (by omega))
 have HD0 : Hid (D ≠ 0) := Lib.hid (by rw [hD]; exact Nat.pos_iff_ne_zero.1 (Nat.pow_pos (by omega)))
 have HR : Hid (mkRat z D = (z : Rat) / P2 K) := Lib.hid (by rw [hD]; exact back_eq z K)
 have HD : Hid (1 * 2 ^ K = D) := Lib.hid (by rw [hD, Nat.one_mul])
 have S1 : Hid (Sm 1 1) := Lib.hid (Sm.one B1.out)
 rw [← HR.out]
 clear hD
 obtain ⟨W0, hW0⟩ : ∃ W0, W0 = ((w.alloc (.cells #[.bool b1, .slice a1 n1 c1] 25)).alloc (.cells #[.bool false, .slice none 0 0, .slice none 0 0] 27)) := ⟨_, rfl⟩
 have E0 : Ext w W0 := by rw [hW0]; exact ((Ext.alloc1 w (.cells #[.bool b1, .slice a1 n1 c1] 25)).alloc (.cells #[.bool false, .slice none 0 0, .slice none 0 0] 27))
 replace h1 : Zw W0 (.agg #[.bool b1, .slice a1 n1 c1]) z := h1.ext E0
 have p2 : Bx2 W0 w.heap.size 25 (.bool b1) (.slice a1 n1 c1) := by rw [hW0]; exact (Bx2.new w 25 (.bool b1) (.slice a1 n1 c1)).ext (Ext.alloc1 (w.alloc (.cells #[.bool b1, .slice a1 n1 c1] 25)) (.cells #[.bool false, .slice none 0 0, .slice none 0 0] 27))
 have p4 : Bx3 W0 (w.heap.size + 1) 27 (.bool false) (.slice none 0 0) (.slice none 0 0) := by rw [hW0]; simpa using (Bx3.new (w.alloc (.cells #[.bool b1, .slice a1 n1 c1] 25)) 27 (.bool false) (.slice none 0 0) (.slice none 0 0))
 go_enter Tryz.func104, Tryz.ntmps104
 obtain ⟨kp2_0, kp2_1⟩ := p2.c2
 obtain ⟨kp4_0, kp4_1, kp4_2⟩ := p4.c3
 go_upto_region 3 with (fail)
 rw [← hW0]
 clear hW0; clear kp2_0 kp2_1 kp4_0 kp4_1 kp4_2; have ltp2 := p2.lt; have ltp4 := p4.lt; have szw33 := Ext.size E0
 refine region_gs [.one fun v W => Nw W v 1,
   .one fun v _ => v = .int .i64 (K : Int),
   .one fun v W => ∃ v', v = .tuple #[v', .int .i64 0] ∧ (fun v W => Nw W v D) v' W,
   .one fun v W => ∃ v', v = .tuple #[v', .int .i64 0] ∧ (fun v W => Nw W v D) v' W,
   .one fun v W => Nw W v D,
   .one fun v _ => v = .int .i64 0,
   .one fun v W => Nw W v D,
   .one fun v _ => v = .int .i64 0]
  (fun W => Ext w W ∧ Zw W (.agg #[.bool b1, .slice a1 n1 c1]) z ∧ Bx2 W w.heap.size 25 (.bool b1) (.slice a1 n1 c1) ∧ Bx3 W (w.heap.size + 1) 27 (.bool false) (.slice none 0 0) (.slice none 0 0) ∧ W0.heap.size ≤ W.heap.size) ⟨Good.num _, Good.is _, (Good.num _).tup _, (Good.num _).tup _, Good.num _, Good.is _, Good.num _, Good.is _, trivial⟩
  ⟨E0, h1, p2, p4, Nat.le_refl _⟩ (A := ?A33) ?hA33 ?howe33 ?hfin33
 case hA33 =>
  intro vs
  simp only [putAll, Act.put, sA, sZ, sS, Nat.zero_add, Nat.reduceAdd]
  exact rfl
 case howe33 =>
  clear E0 h1 p2 p4
  intro hf
  refine ⟨oE 0 [] hf rfl ?_, oE 1 [] hf rfl ?_, oE 2 [0, 1] hf rfl ?_, oE 3 [2] hf rfl ?_, oE 4 [3] hf rfl ?_, oE 5 [3] hf rfl ?_, oE 6 [4] hf rfl ?_, oE 7 [5] hf rfl ?_, trivial⟩
  all_goals intro vs W hS hp hx KO hKO
  all_goals simp only [Act.put, sA, sZ, sS] at hKO
  ·go_simp
   refine (Tryz.natOf 1 _ B1.out).mono ?_
   rintro e W1 ⟨v, rfl, hv, hE, -⟩
   exact hKO _ W1 hE hv
  ·go_simp; exact hKO _ W (.refl W) rfl
  ·have q0 := hp.1; have e1 := isOf hp.2.1; simp only [e1] at hKO; go_simp
   refine (Tryz.divShlK q0 S1.out (by omega) K (by omega)).mono ?_
   rintro e W1 ⟨v, rfl, hv, hE⟩
   rw [HD.out] at hv
   exact hKO _ W1 hE ⟨_, rfl, hv⟩
  ·have q2 := hp.1
   obtain ⟨u, ev, hu⟩ := q2
   replace ev : vs 2 = _ := ev; simp only [ev] at hKO; go_simp; exact hKO _ W (Ext.refl W) ⟨u, rfl, hu⟩
  ·have q3 := hp.1
   obtain ⟨u, ev, hu⟩ := q3
   replace ev : vs 3 = _ := ev; simp only [ev] at hKO; go_simp; exact hKO _ W (Ext.refl W) hu
  ·have q3 := hp.1
   obtain ⟨u, ev, hu⟩ := q3
   replace ev : vs 3 = _ := ev; simp only [ev] at hKO; go_simp; exact hKO _ W (.refl W) rfl
  ·have q4 := hp.1; go_simp; exact hKO _ W (Ext.refl W) q4
  ·have e5 := isOf hp.1; simp only [e5] at hKO; go_simp; exact hKO _ W (.refl W) rfl
 intro vs W33 hS hp
 clear szw33 E0 h1 p2 p4
 obtain ⟨E0, h1, p2, p4, sz33⟩ := hS
 obtain ⟨h33_0, h33_1, h33_2, h33_3, h33_4, h33_5, h33_6, h33_7, -⟩ := hp
 replace h33_1 : vs 1 = .int .i64 (K : Int) := h33_1
 replace h33_5 : vs 5 = .int .i64 0 := h33_5
 replace h33_7 : vs 7 = .int .i64 0 := h33_7
 simp only [h33_1, h33_5, h33_7]
 replace h33_0 : Nw W33 (vs 0) 1 := h33_0
 generalize vs 0 = u33_0 at h33_0 ⊢
 replace h33_4 : Nw W33 (vs 4) D := h33_4
 generalize vs 4 = u33_4 at h33_4 ⊢
 replace h33_6 : Nw W33 (vs 6) D := h33_6
 generalize vs 6 = u33_6 at h33_6 ⊢
 clear h33_1 h33_5 h33_7 h33_2 h33_3
 obtain ⟨kp2_0, kp2_1⟩ := p2.c2
 obtain ⟨kp4_0, kp4_1, kp4_2⟩ := p4.c3
 go_upto_region 4 with (fail)
 clear kp2_0 kp2_1 kp4_0 kp4_1 kp4_2; have fp4 := p4.form; have szw34 := Ext.size E0
 refine region_gs [.one fun v _ => v = .agg #[.bool b1, .slice a1 n1 c1],
   .one fun v _ => v = u33_6,
   .one fun v W => ∃ v', v = .tuple #[v', .int .i64 0] ∧ (fun v W => Rw W v (mkRat z D)) v' W,
   .one fun v W => Rw W v (mkRat z D),
   .one fun v _ => v = .int .i64 0,
   .two 3 (fun r _ W => At3 (w.heap.size + 1) 27 r W),
   .one fun v _ => v = .int .i64 0]
  (fun W => Ext w W ∧ Zw W (.agg #[.bool b1, .slice a1 n1 c1]) z ∧ Bx2 W w.heap.size 25 (.bool b1) (.slice a1 n1 c1) ∧ Form W (w.heap.size + 1) 27 3 ∧ Nw W u33_0 1 ∧ Nw W u33_4 D ∧ Nw W u33_6 D ∧ W33.heap.size ≤ W.heap.size) ⟨Good.is _, Good.is _, (Good.rat _).tup _, Good.rat _, Good.is _, cert_at3, Good.is _, trivial⟩
  ⟨E0, h1, p2, fp4, h33_0, h33_4, h33_6, Nat.le_refl _⟩ (A := ?A34) ?hA34 ?howe34 ?hfin34
 case hA34 =>
  intro vs
  simp only [putAll, Act.put, sA, sZ, sS, Nat.zero_add, Nat.reduceAdd]
  exact rfl
 case howe34 =>
  clear E0 h1 p2 fp4 h33_0 h33_4 h33_6
  intro hf
  refine ⟨oE 0 [] hf rfl ?_, oE 1 [] hf rfl ?_, oE 2 [0, 1] hf rfl ?_, oE 3 [2] hf rfl ?_, oE 4 [2] hf rfl ?_, oW 5 [3] hf rfl ?_, oE 6 [4] hf rfl ?_, trivial⟩
  all_goals intro vs W hS hp hx KO hKO
  all_goals simp only [Act.put, sA, sZ, sS] at hKO
  ·have fc0 := hS.2.2.1.cell0; have fc1 := hS.2.2.1.cell1; go_simp; exact hKO _ W (.refl W) rfl
  ·go_simp; exact hKO _ W (.refl W) rfl
  ·have e0 := isOf hp.1; have e1 := isOf hp.2.1; simp only [e0, e1] at hKO; go_simp
   refine (Tryz.ratMake (hS.2.1) (hS.2.2.2.2.2.2.1) SX.out SD.out (by omega) HD0.out).mono ?_
   rintro e W1 ⟨v, rfl, hv, hE⟩
   exact hKO _ W1 hE ⟨_, rfl, hv⟩
  ·have q2 := hp.1
   obtain ⟨u, ev, hu⟩ := q2
   replace ev : vs 2 = _ := ev; simp only [ev] at hKO; go_simp; exact hKO _ W (Ext.refl W) hu
  ·have q2 := hp.1
   obtain ⟨u, ev, hu⟩ := q2
   replace ev : vs 2 = _ := ev; simp only [ev] at hKO; go_simp; exact hKO _ W (.refl W) rfl
  ·have q3 := hp.1
   have hf := hS.2.2.2.1
   obtain ⟨x0_0, x0_1, x0_2, hx, hno⟩ := hf.bx3
   have qr := q3
   obtain ⟨b3, a3, n3, c3, d3, m3, o3, er, -, -, -⟩ := qr
   replace er : vs 3 = _ := er
   have r0 := hx.froz0
   have t0 := hx.cell0
   have r1 := hx.froz1
   have t1 := hx.cell1
   have r2 := hx.froz2
   have t2 := hx.cell2
   have hw := Wr.set3 hx hno b3 a3 n3 c3 d3 m3 o3
   have hq := hx.set (.bool b3) (.slice a3 n3 c3) (.slice d3 m3 o3)
   have hg : (w.heap.size + 1) ≤ (w.heap.size + 1) := Nat.le_refl _
   simp only [er] at hKO; go_simp
   exact hKO _ _ hw ⟨(Ext.wr hS.1 hw (by omega)), (hS.2.1.wr hw), (hS.2.2.1.wr hw (by omega)), (hS.2.2.2.1.wr hw), (hS.2.2.2.2.1.wr hw), (hS.2.2.2.2.2.1.wr hw), (hS.2.2.2.2.2.2.1.wr hw), (Nat.le_trans hS.2.2.2.2.2.2.2 hw.apart.size)⟩ ⟨b3, a3, n3, c3, d3, m3, o3, er, hq⟩
  ·have e4 := isOf hp.1; simp only [e4] at hKO; go_simp; exact hKO _ W (.refl W) rfl
 intro vs W34 hS hp
 clear szw34 E0 h1 p2 fp4 h33_0 h33_4 h33_6
 obtain ⟨E0, h1, p2, fp4, h33_0, h33_4, h33_6, sz34⟩ := hS
 obtain ⟨h34_0, h34_1, h34_2, h34_3, h34_4, h34_5, h34_6, -⟩ := hp
 obtain ⟨b34_5, a34_5, n34_5, c34_5, d34_5, m34_5, o34_5, er34_5, p34_5⟩ := h34_5
 replace er34_5 : vs 3 = _ := er34_5; replace h34_3 := (show Rw W34 (vs 3) (mkRat z D) from h34_3)
 rw [er34_5] at h34_3
 replace h34_0 : vs 0 = .agg #[.bool b1, .slice a1 n1 c1] := h34_0
 replace h34_1 : vs 1 = u33_6 := h34_1
 replace h34_4 : vs 4 = .int .i64 0 := h34_4
 replace h34_6 : vs 6 = .int .i64 0 := h34_6
 simp only [er34_5, h34_0, h34_1, h34_4, h34_6]
 clear er34_5 h34_0 h34_1 h34_4 h34_6 h34_2
 obtain ⟨kp2_0, kp2_1⟩ := p2.c2
 obtain ⟨kp34_5_0, kp34_5_1, kp34_5_2⟩ := p34_5.c3
 go_wp2
 exact bodyPost_ret (v := .tuple #[.agg #[.bool b34_5, .slice a34_5 n34_5 c34_5, .slice d34_5 m34_5 o34_5], .int .i64 0]) (by simp [results, Tryz.results104, go_sem, kp34_5_0, kp34_5_1, kp34_5_2]) rfl ⟨_, rfl, h34_3, E0⟩

end Go.Rt
