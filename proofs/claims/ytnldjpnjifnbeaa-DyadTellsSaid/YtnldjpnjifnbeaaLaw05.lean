/-
 The laws of chapter 05 (fractions): their walks.
-/
import Derived.Test.YtnldjpnjifnbeaaSqz
import Derived.Test.YtnldjpnjifnbeaaZCmp
namespace Go.Rt
open Go.RowKit Go.Proofs

theorem Try.refRSameT {v1 v2 : Value} {x y : Rat} {w : World} (h1 : Rw w v1 x) (h2 : Rw w v2 y) (e : x = y) : Calls Try.prog 26 #[v1, v2] w fun e w' => e = .returned (.bool true) ∧ Ext w w' := by
 have := Try.refRSame h1 h2
 rwa [decide_eq_true e] at this

/-- which is greater -/
def cmpR (x y : Rat) : Int := if x < y then -1 else if y < x then 1 else 0

theorem Try.ratCmpR {v1 v2 : Value} {x y : Rat} {L : Nat} {w : World} (h1 : Rw w v1 x) (h2 : Rw w v2 y) (s1 : SmR L x) (s2 : SmR L y) (hL : L ≤ 1000) {c : Int} (hc : cmpR x y = c) :
  Calls Try.prog 75 #[v1, v2] w fun e w' => e = .returned (.int .i64 c) ∧ Ext w w' := by subst hc; exact Try.ratCmp h1 h2 s1 s2 (by omega)

theorem Try.refRCmpR {v1 v2 : Value} {x y : Rat} {L : Nat} {w : World} (h1 : Rw w v1 x) (h2 : Rw w v2 y) (s1 : SmR L x) (s2 : SmR L y) (hL : L ≤ 1000) {c : Int} (hc : cmpR x y = c) :
  Calls Try.prog 28 #[v1, v2] w fun e w' => e = .returned (.int .i64 c) ∧ Ext w w' := by subst hc; exact Try.refRCmp h1 h2 s1.1 s1.2 s2.1 s2.2 (by omega)

theorem rw_right {W : World} {b : Bool} {a : Option Addr} {n c : Nat} {a' : Option Addr} {n' c' L : Nat} {x : Rat} (h : Rw W (.agg #[.bool b, .slice a n c, .slice a' n' c']) x) (s : SmR L x) :
  ∃ xs ys, Nt W (.slice a n c) xs ∧ Nt W (.slice a' n' c') ys ∧ n ≤ L ∧ n' ≤ L ∧ rightR b xs ys = true := by
 obtain ⟨xs, h1, h2, h3, l1⟩ := h.top.num.lens s.1
 obtain ⟨ys, k1, k2, k3, l2⟩ := h.den.lens s.2
 have e1 := h1.slice
 have e2 := k1.slice
 refine ⟨xs, ys, h1, k1, by omega, by omega, ?_⟩
 have hb := h.top.neg.out
 have hy : 0 < ys.length := by
  have := (Norm.zero_iff B64_pos k2)
  have := x.den_nz
  omega
 have hg : Nat.gcd (ev B64 xs) (ev B64 ys) = 1 := by rw [h3, k3]; exact x.reduced
 unfold rightR rightZ
 rw [normB_iff.2 h2, normB_iff.2 k2, decide_eq_true hy, decide_eq_true hg, hb]
 have hz := Norm.zero_iff B64_pos h2
 by_cases hx : x.num < 0
 ·rw [decide_eq_true hx, decide_eq_true (by omega)]; rfl
 ·rw [decide_eq_false hx]; simp

theorem Try.ratRightT {v : Value} {L : Nat} {x : Rat} {w : World} (h : Rw w v x) (s : SmR L x) (hL : L ≤ 300) : Calls Try.prog 43 #[v] w fun e w' => e = .returned (.bool true) ∧ Ext w w' := by
 have h' := h
 obtain ⟨b, a, n, c, a', n', c', rfl, -⟩ := h
 obtain ⟨xs, ys, h1, h2, l1, l2, hr⟩ := rw_right h' s
 have := Try.ratRight (b1 := b) h1 h2 l1 l2 hL
 rwa [hr] at this

theorem Try.refRRightT {v : Value} {L : Nat} {x : Rat} {w : World} (h : Rw w v x) (s : SmR L x) (hL : L ≤ 300) : Calls Try.prog 35 #[v] w fun e w' => e = .returned (.bool true) ∧ Ext w w' := by
 have h' := h
 obtain ⟨b, a, n, c, a', n', c', rfl, -⟩ := h
 obtain ⟨xs, ys, h1, h2, l1, l2, hr⟩ := rw_right h' s
 have := Try.refRRight (b1 := b) h1 h2 l1 l2 hL
 rwa [hr] at this

theorem Rw.zero0 (W : World) : Zw W (.agg #[.bool false, .slice none 0 0]) 0 := ⟨false, none, 0, 0, rfl, Lib.hid rfl, Nw.nil W⟩

set_option maxRecDepth 100000 in
set_option maxHeartbeats 400000 in
theorem Try.refRSame0 (w : World) : Calls Try.prog 26 #[.agg #[.bool false, .slice none 0 0, .slice none 0 0], .agg #[.bool false, .slice none 0 0, .slice none 0 0]] w fun e w' => e = .returned (.bool true) ∧ Ext w w' := by
 have hz := Rw.zero0 w
 have hn := Nw.nil w
 obtain ⟨W0, hW0⟩ : ∃ W0, W0 = ((w.alloc (.cells #[.bool false, .slice none 0 0, .slice none 0 0] 27)).alloc (.cells #[.bool false, .slice none 0 0, .slice none 0 0] 27)) := ⟨_, rfl⟩
 have E0 : Ext w W0 := by rw [hW0]; exact ((Ext.alloc1 w (.cells #[.bool false, .slice none 0 0, .slice none 0 0] 27)).alloc (.cells #[.bool false, .slice none 0 0, .slice none 0 0] 27))
 replace hz : Zw W0 (.agg #[.bool false, .slice none 0 0]) 0 := hz.ext E0
 replace hn : Nw W0 (.slice none 0 0) 0 := hn.ext E0
 have p2 : Bx3 W0 w.heap.size 27 (.bool false) (.slice none 0 0) (.slice none 0 0) := by rw [hW0]; exact (Bx3.new w 27 (.bool false) (.slice none 0 0) (.slice none 0 0)).ext (Ext.alloc1 (w.alloc (.cells #[.bool false, .slice none 0 0, .slice none 0 0] 27)) (.cells #[.bool false, .slice none 0 0, .slice none 0 0] 27))
 have p3 : Bx3 W0 (w.heap.size + 1) 27 (.bool false) (.slice none 0 0) (.slice none 0 0) := by rw [hW0]; simpa using (Bx3.new (w.alloc (.cells #[.bool false, .slice none 0 0, .slice none 0 0] 27)) 27 (.bool false) (.slice none 0 0) (.slice none 0 0))
 go_enter Try.func26, Try.ntmps26
 obtain ⟨kp2_0, kp2_1, kp2_2⟩ := p2.c3
 obtain ⟨kp3_0, kp3_1, kp3_2⟩ := p3.c3
 go_wp2_with fail
 rw [← hW0]
 clear hW0; clear kp2_0 kp2_1 kp2_2 kp3_0 kp3_1 kp3_2
 refine (Try.refZSame hz hz).mono ?_
 rintro e Wa ⟨rfl, hE⟩
 rw [show decide ((0 : Int) = 0) = true from rfl]
 replace E0 : Ext w Wa := (Ext.trans E0 hE)
 replace hz : Zw Wa (.agg #[.bool false, .slice none 0 0]) 0 := (hz.ext hE)
 replace hn : Nw Wa (.slice none 0 0) 0 := (hn.ext hE)
 replace p2 : Bx3 Wa w.heap.size 27 (.bool false) (.slice none 0 0) (.slice none 0 0) := (p2.ext hE)
 replace p3 : Bx3 Wa (w.heap.size + 1) 27 (.bool false) (.slice none 0 0) (.slice none 0 0) := (p3.ext hE)
 clear hE
 obtain ⟨kp2_0, kp2_1, kp2_2⟩ := p2.c3
 obtain ⟨kp3_0, kp3_1, kp3_2⟩ := p3.c3
 go_wp2_with fail
 clear kp2_0 kp2_1 kp2_2 kp3_0 kp3_1 kp3_2
 refine (Try.refSame hn hn).mono ?_
 rintro e Wb ⟨rfl, hE⟩
 rw [show decide ((0 : Nat) = 0) = true from rfl]
 replace E0 : Ext w Wb := (Ext.trans E0 hE)
 replace hz : Zw Wb (.agg #[.bool false, .slice none 0 0]) 0 := (hz.ext hE)
 replace hn : Nw Wb (.slice none 0 0) 0 := (hn.ext hE)
 replace p2 : Bx3 Wb w.heap.size 27 (.bool false) (.slice none 0 0) (.slice none 0 0) := (p2.ext hE)
 replace p3 : Bx3 Wb (w.heap.size + 1) 27 (.bool false) (.slice none 0 0) (.slice none 0 0) := (p3.ext hE)
 clear hE
 obtain ⟨kp2_0, kp2_1, kp2_2⟩ := p2.c3
 obtain ⟨kp3_0, kp3_1, kp3_2⟩ := p3.c3
 go_wp2; go_ret
 exact ⟨rfl, E0⟩

set_option maxRecDepth 100000 in
set_option maxHeartbeats 1000000 in
theorem Try.alive05 (w : World) : Calls Try.prog 39 #[] w fun e w' => e = .returned (.bool true) ∧ Ext w w' := by
 obtain ⟨A, hA⟩ : ∃ A : Rat, A = mkRat (-6) 4 := ⟨_, rfl⟩
 have HA := Lib.hid hA
 have SA : Hid (SmR 1 A) := Lib.hid (by rw [hA]; exact SmR.mk (Sm.small (by omega)) (Sm.small (by omega)) (by omega))
 have S6 : Hid (Sm 1 ((-6 : Int).natAbs)) := Lib.hid (Sm.small (by omega))
 have S4 : Hid (Sm 1 4) := Lib.hid (Sm.small (by omega))
 have S2 : Hid (SmR 1 ((2 : Int) : Rat)) := Lib.hid (SmR.int (by omega))
 have SB : Hid (SmR 3 (A + ((2 : Int) : Rat))) := Lib.hid (SA.out.add S2.out)
 have HC : Hid (cmpR A (A + ((2 : Int) : Rat)) = -1) := Lib.hid (by unfold cmpR; rw [if_pos (by rw [show ((2 : Int) : Rat) = 2 from rfl]; grind)])
 have HF1 : Hid (A = mkRat (-3) (2 : Int).natAbs) := Lib.hid (by rw [hA, Rat.mkRat_eq_div, Rat.mkRat_eq_div]; rw [show ((2 : Int).natAbs) = 2 from rfl]; decide +kernel)
 have HF2 : Hid (A + ((2 : Int) : Rat) = mkRat 1 (2 : Int).natAbs) := Lib.hid (by rw [hA]; decide +kernel)
 clear hA
 obtain ⟨W0, hW0⟩ : ∃ W0, W0 = w := ⟨_, rfl⟩
 have E0 : Ext w W0 := by rw [hW0]; exact Ext.refl w
 go_enter Try.func39, Try.ntmps39
 go_upto_region 1 with (fail)
 rw [← hW0]
 clear hW0; have szw1 := Ext.size E0
 refine region_gs [.one fun v W => Nw W v 6,
   .one fun v W => Zw W v ((-6)),
   .one fun v W => Nw W v 4,
   .one fun v W => ∃ v', v = .tuple #[v', .int .i64 0] ∧ (fun v W => Rw W v A) v' W,
   .one fun v W => ∃ v', v = .tuple #[v', .int .i64 0] ∧ (fun v W => Rw W v A) v' W,
   .one fun v W => Rw W v A,
   .one fun v _ => v = .int .i64 0,
   .one fun v W => ∃ g, v = .pointer (some ⟨g, 0, none⟩) ∧ W0.heap.size ≤ g ∧ Form W g 27 3,
   .three 7 5 (fun p r _ W => Put3 W0.heap.size 27 p r W),
   .one fun v _ => v = .int .i64 0]
  (fun W => Ext w W ∧ W0.heap.size ≤ W.heap.size) ⟨Good.num _, Good.zed _, Good.num _, (Good.rat _).tup _, (Good.rat _).tup _, Good.rat _, Good.is _, Good.box _ _ _, cert_put3, Good.is _, trivial⟩
  ⟨E0, Nat.le_refl _⟩ (A := ?A1) ?hA1 ?howe1 ?hfin1
 case hA1 =>
  intro vs
  simp only [putAll, Act.put, sA, sZ, sS, Nat.zero_add, Nat.reduceAdd]
  exact rfl
 case howe1 =>
  clear E0
  intro hf
  refine ⟨oE 0 [] hf rfl ?_, oE 1 [0] hf rfl ?_, oE 2 [] hf rfl ?_, oE 3 [1, 2] hf rfl ?_, oE 4 [3] hf rfl ?_, oE 5 [4] hf rfl ?_, oE 6 [4] hf rfl ?_, oE 7 [] hf rfl ?_, oW 8 [7, 5] hf rfl ?_, oE 9 [6] hf rfl ?_, trivial⟩
  all_goals intro vs W hS hp hx KO hKO
  all_goals simp only [Act.put, sA, sZ, sS] at hKO
  ·have hE := Ext.alloc1 W (.cells #[.int .u64 6] 43)
   have hn := Nw.lit1 W 6 43 (by rw [B64_eq]; omega) (by omega)
   go_simp
   exact hKO _ _ hE hn
  ·have q0 := hp.1
   have ev0 := q0
   obtain ⟨a0, n0, c0, ev0⟩ := Nw.slice (show Nw W (vs 0) 6 from q0)
   replace q0 : Nw W (vs 0) 6 := q0
   rw [ev0] at q0
   replace ev0 : vs 0 = _ := ev0; simp only [ev0] at hKO; go_simp; exact hKO _ W (Ext.refl W) ⟨true, a0, n0, c0, rfl, Lib.hid rfl, q0⟩
  ·have hE := Ext.alloc1 W (.cells #[.int .u64 4] 43)
   have hn := Nw.lit1 W 4 43 (by rw [B64_eq]; omega) (by omega)
   go_simp
   exact hKO _ _ hE hn
  ·have q1 := hp.1; have q2 := hp.2.1; go_simp
   refine (Try.ratMake q1 q2 S6.out S4.out (by omega) (by omega)).mono ?_
   rintro e W1 ⟨v, rfl, hv, hE⟩
   rw [← HA.out] at hv
   exact hKO _ W1 hE ⟨_, rfl, hv⟩
  ·have q3 := hp.1
   obtain ⟨u, ev, hu⟩ := q3
   replace ev : vs 3 = _ := ev; simp only [ev] at hKO; go_simp; exact hKO _ W (Ext.refl W) ⟨u, rfl, hu⟩
  ·have q4 := hp.1
   obtain ⟨u, ev, hu⟩ := q4
   replace ev : vs 4 = _ := ev; simp only [ev] at hKO; go_simp; exact hKO _ W (Ext.refl W) hu
  ·have q4 := hp.1
   obtain ⟨u, ev, hu⟩ := q4
   replace ev : vs 4 = _ := ev; simp only [ev] at hKO; go_simp; exact hKO _ W (.refl W) rfl
  ·have hn := Bx3.new W 27 (.bool false) (.slice none 0 0) (.slice none 0 0)
   have hE := Ext.alloc1 W (.cells #[.bool false, .slice none 0 0, .slice none 0 0] 27)
   have hsz := hS.2
   go_simp
   exact hKO _ _ hE ⟨_, rfl, hsz, hn.form⟩
  ·have q7 := hp.1; have q5 := hp.2.1
   obtain ⟨g, ev, hg, hf⟩ := q7
   replace ev : vs 7 = _ := ev
   obtain ⟨x0, y0, z0, hx, hno⟩ := hf.bx3
   have qr := q5
   obtain ⟨b3, a3, n3, c3, d3, m3, o3, er, -, -, -⟩ := qr
   replace er : vs 5 = _ := er
   have r0 := hx.froz0
   have t0 := hx.cell0
   have r1 := hx.froz1
   have t1 := hx.cell1
   have r2 := hx.froz2
   have t2 := hx.cell2
   have hw := Wr.set3 hx hno b3 a3 n3 c3 d3 m3 o3
   have hq := hx.set (.bool b3) (.slice a3 n3 c3) (.slice d3 m3 o3)
   simp only [ev, er] at hKO; go_simp
   exact hKO _ _ hw ⟨(Ext.wr hS.1 hw (by omega)), (Nat.le_trans hS.2 hw.apart.size)⟩ ⟨g, b3, a3, n3, c3, d3, m3, o3, ev, er, hg, hq⟩
  ·have e6 := isOf hp.1; simp only [e6] at hKO; go_simp; exact hKO _ W (.refl W) rfl
 intro vs W1 hS hp
 clear szw1 E0
 obtain ⟨E0, sz1⟩ := hS
 obtain ⟨h1_0, h1_1, h1_2, h1_3, h1_4, h1_5, h1_6, h1_7, h1_8, h1_9, -⟩ := hp
 obtain ⟨g1_8, b1_8, a1_8, n1_8, c1_8, d1_8, m1_8, o1_8, ev1_8, er1_8, hg1_8, p1_8⟩ := h1_8
 replace ev1_8 : vs 7 = _ := ev1_8; replace er1_8 : vs 5 = _ := er1_8; replace h1_5 := (show Rw W1 (vs 5) A from h1_5)
 rw [er1_8] at h1_5
 replace h1_6 : vs 6 = .int .i64 0 := h1_6
 replace h1_9 : vs 9 = .int .i64 0 := h1_9
 simp only [ev1_8, er1_8, h1_6, h1_9]
 replace h1_0 : Nw W1 (vs 0) 6 := h1_0
 generalize vs 0 = u1_0 at h1_0 ⊢
 replace h1_1 : Zw W1 (vs 1) ((-6)) := h1_1
 generalize vs 1 = u1_1 at h1_1 ⊢
 replace h1_2 : Nw W1 (vs 2) 4 := h1_2
 generalize vs 2 = u1_2 at h1_2 ⊢
 clear ev1_8 er1_8 h1_6 h1_9 h1_3 h1_4 h1_7
 have hz0 := Rw.zero0 W1
 have hn0 := Nw.nil W1
 obtain ⟨kp1_8_0, kp1_8_1, kp1_8_2⟩ := p1_8.c3
 go_upto_region 2 with (fail)
 clear kp1_8_0 kp1_8_1 kp1_8_2; have ltp1_8 := p1_8.lt; have szw2 := Ext.size E0
 refine region_gs [.one fun v _ => v = .agg #[.bool false, .slice none 0 0],
   .one fun v _ => v = .tuple #[.agg #[.bool false, .slice none 0 0, .slice none 0 0], .int .i64 4],
   .one fun v _ => v = .tuple #[.agg #[.bool false, .slice none 0 0, .slice none 0 0], .int .i64 4],
   .one fun v _ => v = .agg #[.bool false, .slice none 0 0, .slice none 0 0],
   .one fun v _ => v = .int .i64 4,
   .one fun v W => ∃ g, v = .pointer (some ⟨g, 0, none⟩) ∧ W1.heap.size ≤ g ∧ Form W g 27 3,
   .two 5 (fun p _ W => New3 W1.heap.size 27 (.bool false) (.slice none 0 0) (.slice none 0 0) p W),
   .one fun v _ => v = .int .i64 4]
  (fun W => Ext w W ∧ Rw W (.agg #[.bool b1_8, .slice a1_8 n1_8 c1_8, .slice d1_8 m1_8 o1_8]) A ∧ Bx3 W g1_8 27 (.bool b1_8) (.slice a1_8 n1_8 c1_8) (.slice d1_8 m1_8 o1_8) ∧ Nw W u1_0 6 ∧ Zw W u1_1 ((-6)) ∧ Nw W u1_2 4 ∧ Zw W (.agg #[.bool false, .slice none 0 0]) 0 ∧ Nw W (.slice none 0 0) 0 ∧ W1.heap.size ≤ W.heap.size) ⟨Good.is _, Good.is _, Good.is _, Good.is _, Good.is _, Good.box _ _ _, cert_new3, Good.is _, trivial⟩
  ⟨E0, h1_5, p1_8, h1_0, h1_1, h1_2, hz0, hn0, Nat.le_refl _⟩ (A := ?A2) ?hA2 ?howe2 ?hfin2
 case hA2 =>
  intro vs
  simp only [putAll, Act.put, sA, sZ, sS, Nat.zero_add, Nat.reduceAdd]
  exact rfl
 case howe2 =>
  clear E0 h1_5 p1_8 h1_0 h1_1 h1_2 hz0 hn0
  intro hf
  refine ⟨oE 0 [] hf rfl ?_, oE 1 [0] hf rfl ?_, oE 2 [1] hf rfl ?_, oE 3 [2] hf rfl ?_, oE 4 [2] hf rfl ?_, oE 5 [] hf rfl ?_, oW 6 [5, 3] hf rfl ?_, oE 7 [4] hf rfl ?_, trivial⟩
  all_goals intro vs W hS hp hx KO hKO
  all_goals simp only [Act.put, sA, sZ, sS] at hKO
  ·go_simp; exact hKO _ W (.refl W) rfl
  ·have e0 := isOf hp.1; simp only [e0] at hKO; go_simp
   refine (Try.ratMake0 (hS.2.2.2.2.2.2.1) (hS.2.2.2.2.2.2.2.1)).mono ?_
   rintro e W1 ⟨rfl, hE⟩
   exact hKO _ W1 hE rfl
  ·have e1 := isOf hp.1; simp only [e1] at hKO; go_simp; exact hKO _ W (.refl W) rfl
  ·have e2 := isOf hp.1; simp only [e2] at hKO; go_simp; exact hKO _ W (.refl W) rfl
  ·have e2 := isOf hp.1; simp only [e2] at hKO; go_simp; exact hKO _ W (.refl W) rfl
  ·have hn := Bx3.new W 27 (.bool false) (.slice none 0 0) (.slice none 0 0)
   have hE := Ext.alloc1 W (.cells #[.bool false, .slice none 0 0, .slice none 0 0] 27)
   have hsz := hS.2.2.2.2.2.2.2.2
   go_simp
   exact hKO _ _ hE ⟨_, rfl, hsz, hn.form⟩
  ·have q5 := hp.1; have e3 := isOf hp.2.1; simp only [e3] at hKO
   obtain ⟨g, ev, hg, hf⟩ := q5
   replace ev : vs 5 = _ := ev
   obtain ⟨x0, y0, z0, hx, hno⟩ := hf.bx3
   have r0 := hx.froz0
   have t0 := hx.cell0
   have r1 := hx.froz1
   have t1 := hx.cell1
   have r2 := hx.froz2
   have t2 := hx.cell2
   have hw := Wr.set3 hx hno false none 0 0 none 0 0
   have hq := hx.set (.bool false) (.slice none 0 0) (.slice none 0 0)
   simp only [ev] at hKO; go_simp
   exact hKO _ _ hw ⟨(Ext.wr hS.1 hw (by omega)), (hS.2.1.wr hw), (hS.2.2.1.wr hw (by omega)), (hS.2.2.2.1.wr hw), (hS.2.2.2.2.1.wr hw), (hS.2.2.2.2.2.1.wr hw), (hS.2.2.2.2.2.2.1.wr hw), (hS.2.2.2.2.2.2.2.1.wr hw), (Nat.le_trans hS.2.2.2.2.2.2.2.2 hw.apart.size)⟩ ⟨g, ev, hg, hq⟩
  ·have e4 := isOf hp.1; simp only [e4] at hKO; go_simp; exact hKO _ W (.refl W) rfl
 intro vs W2 hS hp
 clear szw2 E0 h1_5 p1_8 h1_0 h1_1 h1_2 hz0 hn0
 obtain ⟨E0, h1_5, p1_8, h1_0, h1_1, h1_2, hz0, hn0, sz2⟩ := hS
 obtain ⟨h2_0, h2_1, h2_2, h2_3, h2_4, h2_5, h2_6, h2_7, -⟩ := hp
 obtain ⟨g2_6, ev2_6, hg2_6, p2_6⟩ := h2_6
 replace ev2_6 : vs 5 = _ := ev2_6
 replace h2_0 : vs 0 = .agg #[.bool false, .slice none 0 0] := h2_0
 replace h2_1 : vs 1 = .tuple #[.agg #[.bool false, .slice none 0 0, .slice none 0 0], .int .i64 4] := h2_1
 replace h2_2 : vs 2 = .tuple #[.agg #[.bool false, .slice none 0 0, .slice none 0 0], .int .i64 4] := h2_2
 replace h2_3 : vs 3 = .agg #[.bool false, .slice none 0 0, .slice none 0 0] := h2_3
 replace h2_4 : vs 4 = .int .i64 4 := h2_4
 replace h2_7 : vs 7 = .int .i64 4 := h2_7
 simp only [ev2_6, h2_0, h2_1, h2_2, h2_3, h2_4, h2_7]
 clear ev2_6 h2_0 h2_1 h2_2 h2_3 h2_4 h2_7 h2_5
 obtain ⟨kp1_8_0, kp1_8_1, kp1_8_2⟩ := p1_8.c3
 obtain ⟨kp2_6_0, kp2_6_1, kp2_6_2⟩ := p2_6.c3
 go_upto_region 3 with (fail)
 clear kp1_8_0 kp1_8_1 kp1_8_2 kp2_6_0 kp2_6_1 kp2_6_2; have ltp2_6 := p2_6.lt; have szw3 := Ext.size E0
 refine region_gs [.one fun v _ => v = .agg #[.bool b1_8, .slice a1_8 n1_8 c1_8, .slice d1_8 m1_8 o1_8],
   .one fun v W => Rw W v (((2 : Int) : Rat)),
   .one fun v W => Rw W v (A + ((2 : Int) : Rat)),
   .one fun v W => ∃ g, v = .pointer (some ⟨g, 0, none⟩) ∧ W2.heap.size ≤ g ∧ Form W g 27 3,
   .three 3 2 (fun p r _ W => Put3 W2.heap.size 27 p r W)]
  (fun W => Ext w W ∧ Rw W (.agg #[.bool b1_8, .slice a1_8 n1_8 c1_8, .slice d1_8 m1_8 o1_8]) A ∧ Bx3 W g1_8 27 (.bool b1_8) (.slice a1_8 n1_8 c1_8) (.slice d1_8 m1_8 o1_8) ∧ Nw W u1_0 6 ∧ Zw W u1_1 ((-6)) ∧ Nw W u1_2 4 ∧ Zw W (.agg #[.bool false, .slice none 0 0]) 0 ∧ Nw W (.slice none 0 0) 0 ∧ Bx3 W g2_6 27 (.bool false) (.slice none 0 0) (.slice none 0 0) ∧ W2.heap.size ≤ W.heap.size) ⟨Good.is _, Good.rat _, Good.rat _, Good.box _ _ _, cert_put3, trivial⟩
  ⟨E0, h1_5, p1_8, h1_0, h1_1, h1_2, hz0, hn0, p2_6, Nat.le_refl _⟩ (A := ?A3) ?hA3 ?howe3 ?hfin3
 case hA3 =>
  intro vs
  simp only [putAll, Act.put, sA, sZ, sS, Nat.zero_add, Nat.reduceAdd]
  exact rfl
 case howe3 =>
  clear E0 h1_5 p1_8 h1_0 h1_1 h1_2 hz0 hn0 p2_6
  intro hf
  refine ⟨oE 0 [] hf rfl ?_, oE 1 [] hf rfl ?_, oE 2 [0, 1] hf rfl ?_, oE 3 [] hf rfl ?_, oW 4 [3, 2] hf rfl ?_, trivial⟩
  all_goals intro vs W hS hp hx KO hKO
  all_goals simp only [Act.put, sA, sZ, sS] at hKO
  ·have fc0 := hS.2.2.1.cell0; have fc1 := hS.2.2.1.cell1; have fc2 := hS.2.2.1.cell2; go_simp; exact hKO _ W (.refl W) rfl
  ·go_simp
   refine (Try.ratOf 2 _ (by omega) (by omega)).mono ?_
   rintro e W1 ⟨v, rfl, hv, hE⟩
   exact hKO _ W1 hE hv
  ·have e0 := isOf hp.1; have q1 := hp.2.1; simp only [e0] at hKO; go_simp
   refine (Try.ratAdd (hS.2.1) q1 SA.out S2.out (by omega)).mono ?_
   rintro e W1 ⟨v, rfl, hv, hE⟩
   exact hKO _ W1 hE hv
  ·have hn := Bx3.new W 27 (.bool false) (.slice none 0 0) (.slice none 0 0)
   have hE := Ext.alloc1 W (.cells #[.bool false, .slice none 0 0, .slice none 0 0] 27)
   have hsz := hS.2.2.2.2.2.2.2.2.2
   go_simp
   exact hKO _ _ hE ⟨_, rfl, hsz, hn.form⟩
  ·have q3 := hp.1; have q2 := hp.2.1
   obtain ⟨g, ev, hg, hf⟩ := q3
   replace ev : vs 3 = _ := ev
   obtain ⟨x0, y0, z0, hx, hno⟩ := hf.bx3
   have qr := q2
   obtain ⟨b3, a3, n3, c3, d3, m3, o3, er, -, -, -⟩ := qr
   replace er : vs 2 = _ := er
   have r0 := hx.froz0
   have t0 := hx.cell0
   have r1 := hx.froz1
   have t1 := hx.cell1
   have r2 := hx.froz2
   have t2 := hx.cell2
   have hw := Wr.set3 hx hno b3 a3 n3 c3 d3 m3 o3
   have hq := hx.set (.bool b3) (.slice a3 n3 c3) (.slice d3 m3 o3)
   simp only [ev, er] at hKO; go_simp
   exact hKO _ _ hw ⟨(Ext.wr hS.1 hw (by omega)), (hS.2.1.wr hw), (hS.2.2.1.wr hw (by omega)), (hS.2.2.2.1.wr hw), (hS.2.2.2.2.1.wr hw), (hS.2.2.2.2.2.1.wr hw), (hS.2.2.2.2.2.2.1.wr hw), (hS.2.2.2.2.2.2.2.1.wr hw), (hS.2.2.2.2.2.2.2.2.1.wr hw (by omega)), (Nat.le_trans hS.2.2.2.2.2.2.2.2.2 hw.apart.size)⟩ ⟨g, b3, a3, n3, c3, d3, m3, o3, ev, er, hg, hq⟩
 intro vs W3 hS hp
 clear szw3 E0 h1_5 p1_8 h1_0 h1_1 h1_2 hz0 hn0 p2_6
 obtain ⟨E0, h1_5, p1_8, h1_0, h1_1, h1_2, hz0, hn0, p2_6, sz3⟩ := hS
 obtain ⟨h3_0, h3_1, h3_2, h3_3, h3_4, -⟩ := hp
 obtain ⟨g3_4, b3_4, a3_4, n3_4, c3_4, d3_4, m3_4, o3_4, ev3_4, er3_4, hg3_4, p3_4⟩ := h3_4
 replace ev3_4 : vs 3 = _ := ev3_4; replace er3_4 : vs 2 = _ := er3_4; replace h3_2 := (show Rw W3 (vs 2) (A + ((2 : Int) : Rat)) from h3_2)
 rw [er3_4] at h3_2
 replace h3_0 : vs 0 = .agg #[.bool b1_8, .slice a1_8 n1_8 c1_8, .slice d1_8 m1_8 o1_8] := h3_0
 simp only [ev3_4, er3_4, h3_0]
 replace h3_1 : Rw W3 (vs 1) (((2 : Int) : Rat)) := h3_1
 generalize vs 1 = u3_1 at h3_1 ⊢
 clear ev3_4 er3_4 h3_0 h3_3
 obtain ⟨kp1_8_0, kp1_8_1, kp1_8_2⟩ := p1_8.c3
 obtain ⟨kp2_6_0, kp2_6_1, kp2_6_2⟩ := p2_6.c3
 obtain ⟨kp3_4_0, kp3_4_1, kp3_4_2⟩ := p3_4.c3
 go_upto_region 4 with (fail)
 clear kp1_8_0 kp1_8_1 kp1_8_2 kp2_6_0 kp2_6_1 kp2_6_2 kp3_4_0 kp3_4_1 kp3_4_2; have ltp3_4 := p3_4.lt; have szw4 := Ext.size E0
 refine region_gs [.one fun v _ => v = .int .i64 0,
   .one fun v _ => v = .bool true,
   .one fun v _ => v = .bool true,
   .one fun v _ => v = .int .i64 4,
   .one fun v _ => v = .bool true,
   .one fun v _ => v = .bool true,
   .one fun v _ => v = .bool true,
   .one fun v _ => v = .agg #[.bool b1_8, .slice a1_8 n1_8 c1_8, .slice d1_8 m1_8 o1_8],
   .one fun v _ => v = .bool true,
   .one fun v _ => v = .bool true,
   .one fun v _ => v = .bool true,
   .one fun v _ => v = .agg #[.bool b1_8, .slice a1_8 n1_8 c1_8, .slice d1_8 m1_8 o1_8],
   .one fun v W => Rw W v (mkRat (-3) (2 : Int).natAbs),
   .one fun v _ => v = .bool true,
   .one fun v _ => v = .bool true,
   .one fun v _ => v = .bool true,
   .one fun v _ => v = .agg #[.bool b3_4, .slice a3_4 n3_4 c3_4, .slice d3_4 m3_4 o3_4],
   .one fun v W => Rw W v (mkRat 1 (2 : Int).natAbs),
   .one fun v _ => v = .bool true,
   .one fun v _ => v = .bool true,
   .one fun v _ => v = .bool true,
   .one fun v _ => v = .agg #[.bool b1_8, .slice a1_8 n1_8 c1_8, .slice d1_8 m1_8 o1_8],
   .one fun v _ => v = .agg #[.bool b3_4, .slice a3_4 n3_4 c3_4, .slice d3_4 m3_4 o3_4],
   .one fun v _ => v = .int .i64 (-1),
   .one fun v _ => v = .bool true,
   .one fun v _ => v = .bool true,
   .one fun v _ => v = .bool true]
  (fun W => Ext w W ∧ Rw W (.agg #[.bool b1_8, .slice a1_8 n1_8 c1_8, .slice d1_8 m1_8 o1_8]) A ∧ Bx3 W g1_8 27 (.bool b1_8) (.slice a1_8 n1_8 c1_8) (.slice d1_8 m1_8 o1_8) ∧ Nw W u1_0 6 ∧ Zw W u1_1 ((-6)) ∧ Nw W u1_2 4 ∧ Zw W (.agg #[.bool false, .slice none 0 0]) 0 ∧ Nw W (.slice none 0 0) 0 ∧ Bx3 W g2_6 27 (.bool false) (.slice none 0 0) (.slice none 0 0) ∧ Rw W (.agg #[.bool b3_4, .slice a3_4 n3_4 c3_4, .slice d3_4 m3_4 o3_4]) (A + ((2 : Int) : Rat)) ∧ Bx3 W g3_4 27 (.bool b3_4) (.slice a3_4 n3_4 c3_4) (.slice d3_4 m3_4 o3_4) ∧ Rw W u3_1 (((2 : Int) : Rat)) ∧ W3.heap.size ≤ W.heap.size) ⟨Good.is _, Good.is _, Good.is _, Good.is _, Good.is _, Good.is _, Good.is _, Good.is _, Good.is _, Good.is _, Good.is _, Good.is _, Good.rat _, Good.is _, Good.is _, Good.is _, Good.is _, Good.rat _, Good.is _, Good.is _, Good.is _, Good.is _, Good.is _, Good.is _, Good.is _, Good.is _, Good.is _, trivial⟩
  ⟨E0, h1_5, p1_8, h1_0, h1_1, h1_2, hz0, hn0, p2_6, h3_2, p3_4, h3_1, Nat.le_refl _⟩ (A := ?A4) ?hA4 ?howe4 ?hfin4
 case hA4 =>
  intro vs
  simp only [putAll, Act.put, sA, sZ, sS, Nat.zero_add, Nat.reduceAdd]
  exact rfl
 case howe4 =>
  clear E0 h1_5 p1_8 h1_0 h1_1 h1_2 hz0 hn0 p2_6 h3_2 p3_4 h3_1
  intro hf
  refine ⟨oE 0 [] hf rfl ?_, oE 1 [0] hf rfl ?_, oE 2 [1] hf rfl ?_, oE 3 [2] hf rfl ?_, oE 4 [2, 3] hf rfl ?_, oE 5 [2, 4] hf rfl ?_, oE 6 [5] hf rfl ?_, oE 7 [6] hf rfl ?_, oE 8 [6, 7] hf rfl ?_, oE 9 [6, 8] hf rfl ?_, oE 10 [9] hf rfl ?_, oE 11 [10] hf rfl ?_, oE 12 [10] hf rfl ?_, oE 13 [10, 11, 12] hf rfl ?_, oE 14 [10, 13] hf rfl ?_, oE 15 [14] hf rfl ?_, oE 16 [15] hf rfl ?_, oE 17 [15] hf rfl ?_, oE 18 [15, 16, 17] hf rfl ?_, oE 19 [15, 18] hf rfl ?_, oE 20 [19] hf rfl ?_, oE 21 [20] hf rfl ?_, oE 22 [20] hf rfl ?_, oE 23 [20, 21, 22] hf rfl ?_, oE 24 [20, 23] hf rfl ?_, oE 25 [20, 24] hf rfl ?_, oE 26 [25] hf rfl ?_, trivial⟩
  all_goals intro vs W hS hp hx KO hKO
  all_goals simp only [Act.put, sA, sZ, sS] at hKO
  ·go_simp; exact hKO _ W (.refl W) rfl
  ·have e0 := isOf hp.1; simp only [e0] at hKO; go_simp; exact hKO _ W (.refl W) rfl
  ·have e1 := isOf hp.1; simp only [e1] at hKO; go_simp; exact hKO _ W (.refl W) rfl
  ·have e2 := isOf hp.1; simp only [e2] at hKO; go_simp; exact hKO _ W (.refl W) rfl
  ·have e2 := isOf hp.1; have e3 := isOf hp.2.1; simp only [e2, e3] at hKO; go_simp; exact hKO _ W (.refl W) rfl
  ·have e2 := isOf hp.1; have e4 := isOf hp.2.1; simp only [e2, e4] at hKO; go_simp; exact hKO _ W (.refl W) rfl
  ·have e5 := isOf hp.1; simp only [e5] at hKO; go_simp; exact hKO _ W (.refl W) rfl
  ·have e6 := isOf hp.1; simp only [e6] at hKO; have fc0 := hS.2.2.1.cell0; have fc1 := hS.2.2.1.cell1; have fc2 := hS.2.2.1.cell2; go_simp; exact hKO _ W (.refl W) rfl
  ·have e6 := isOf hp.1; have e7 := isOf hp.2.1; simp only [e6, e7] at hKO; go_simp
   refine (Try.ratRightT (hS.2.1) SA.out (by omega)).mono ?_
   rintro e W1 ⟨rfl, hE⟩
   exact hKO _ W1 hE rfl
  ·have e6 := isOf hp.1; have e8 := isOf hp.2.1; simp only [e6, e8] at hKO; go_simp; exact hKO _ W (.refl W) rfl
  ·have e9 := isOf hp.1; simp only [e9] at hKO; go_simp; exact hKO _ W (.refl W) rfl
  ·have e10 := isOf hp.1; simp only [e10] at hKO; have fc0 := hS.2.2.1.cell0; have fc1 := hS.2.2.1.cell1; have fc2 := hS.2.2.1.cell2; go_simp; exact hKO _ W (.refl W) rfl
  ·have e10 := isOf hp.1; simp only [e10] at hKO; go_simp
   refine (Try.refRFrac (-3) 2 _ (by omega) (by omega) (by omega) (by omega)).mono ?_
   rintro e W1 ⟨v, rfl, hv, hE⟩
   exact hKO _ W1 hE hv
  ·have e10 := isOf hp.1; have e11 := isOf hp.2.1; have q12 := hp.2.2.1; simp only [e10, e11] at hKO; go_simp
   refine (Try.refRSameT (hS.2.1) q12 HF1.out).mono ?_
   rintro e W1 ⟨rfl, hE⟩
   exact hKO _ W1 hE rfl
  ·have e10 := isOf hp.1; have e13 := isOf hp.2.1; simp only [e10, e13] at hKO; go_simp; exact hKO _ W (.refl W) rfl
  ·have e14 := isOf hp.1; simp only [e14] at hKO; go_simp; exact hKO _ W (.refl W) rfl
  ·have e15 := isOf hp.1; simp only [e15] at hKO; have fc0 := hS.2.2.2.2.2.2.2.2.2.2.1.cell0; have fc1 := hS.2.2.2.2.2.2.2.2.2.2.1.cell1; have fc2 := hS.2.2.2.2.2.2.2.2.2.2.1.cell2; go_simp; exact hKO _ W (.refl W) rfl
  ·have e15 := isOf hp.1; simp only [e15] at hKO; go_simp
   refine (Try.refRFrac 1 2 _ (by omega) (by omega) (by omega) (by omega)).mono ?_
   rintro e W1 ⟨v, rfl, hv, hE⟩
   exact hKO _ W1 hE hv
  ·have e15 := isOf hp.1; have e16 := isOf hp.2.1; have q17 := hp.2.2.1; simp only [e15, e16] at hKO; go_simp
   refine (Try.refRSameT (hS.2.2.2.2.2.2.2.2.2.1) q17 HF2.out).mono ?_
   rintro e W1 ⟨rfl, hE⟩
   exact hKO _ W1 hE rfl
  ·have e15 := isOf hp.1; have e18 := isOf hp.2.1; simp only [e15, e18] at hKO; go_simp; exact hKO _ W (.refl W) rfl
  ·have e19 := isOf hp.1; simp only [e19] at hKO; go_simp; exact hKO _ W (.refl W) rfl
  ·have e20 := isOf hp.1; simp only [e20] at hKO; have fc0 := hS.2.2.1.cell0; have fc1 := hS.2.2.1.cell1; have fc2 := hS.2.2.1.cell2; go_simp; exact hKO _ W (.refl W) rfl
  ·have e20 := isOf hp.1; simp only [e20] at hKO; have fc0 := hS.2.2.2.2.2.2.2.2.2.2.1.cell0; have fc1 := hS.2.2.2.2.2.2.2.2.2.2.1.cell1; have fc2 := hS.2.2.2.2.2.2.2.2.2.2.1.cell2; go_simp; exact hKO _ W (.refl W) rfl
  ·have e20 := isOf hp.1; have e21 := isOf hp.2.1; have e22 := isOf hp.2.2.1; simp only [e20, e21, e22] at hKO; go_simp
   refine (Try.ratCmpR (hS.2.1) (hS.2.2.2.2.2.2.2.2.2.1) (SA.out.mono (by omega)) SB.out (by omega) HC.out).mono ?_
   rintro e W1 ⟨rfl, hE⟩
   exact hKO _ W1 hE rfl
  ·have e20 := isOf hp.1; have e23 := isOf hp.2.1; simp only [e20, e23] at hKO; go_simp; exact hKO _ W (.refl W) rfl
  ·have e20 := isOf hp.1; have e24 := isOf hp.2.1; simp only [e20, e24] at hKO; go_simp; exact hKO _ W (.refl W) rfl
  ·have e25 := isOf hp.1; simp only [e25] at hKO; go_simp; exact hKO _ W (.refl W) rfl
 intro vs W4 hS hp
 clear szw4 E0 h1_5 p1_8 h1_0 h1_1 h1_2 hz0 hn0 p2_6 h3_2 p3_4 h3_1
 obtain ⟨E0, h1_5, p1_8, h1_0, h1_1, h1_2, hz0, hn0, p2_6, h3_2, p3_4, h3_1, sz4⟩ := hS
 obtain ⟨h4_0, h4_1, h4_2, h4_3, h4_4, h4_5, h4_6, h4_7, h4_8, h4_9, h4_10, h4_11, h4_12, h4_13, h4_14, h4_15, h4_16, h4_17, h4_18, h4_19, h4_20, h4_21, h4_22, h4_23, h4_24, h4_25, h4_26, -⟩ := hp
 replace h4_0 : vs 0 = .int .i64 0 := h4_0
 replace h4_1 : vs 1 = .bool true := h4_1
 replace h4_2 : vs 2 = .bool true := h4_2
 replace h4_3 : vs 3 = .int .i64 4 := h4_3
 replace h4_4 : vs 4 = .bool true := h4_4
 replace h4_5 : vs 5 = .bool true := h4_5
 replace h4_6 : vs 6 = .bool true := h4_6
 replace h4_7 : vs 7 = .agg #[.bool b1_8, .slice a1_8 n1_8 c1_8, .slice d1_8 m1_8 o1_8] := h4_7
 replace h4_8 : vs 8 = .bool true := h4_8
 replace h4_9 : vs 9 = .bool true := h4_9
 replace h4_10 : vs 10 = .bool true := h4_10
 replace h4_11 : vs 11 = .agg #[.bool b1_8, .slice a1_8 n1_8 c1_8, .slice d1_8 m1_8 o1_8] := h4_11
 replace h4_13 : vs 13 = .bool true := h4_13
 replace h4_14 : vs 14 = .bool true := h4_14
 replace h4_15 : vs 15 = .bool true := h4_15
 replace h4_16 : vs 16 = .agg #[.bool b3_4, .slice a3_4 n3_4 c3_4, .slice d3_4 m3_4 o3_4] := h4_16
 replace h4_18 : vs 18 = .bool true := h4_18
 replace h4_19 : vs 19 = .bool true := h4_19
 replace h4_20 : vs 20 = .bool true := h4_20
 replace h4_21 : vs 21 = .agg #[.bool b1_8, .slice a1_8 n1_8 c1_8, .slice d1_8 m1_8 o1_8] := h4_21
 replace h4_22 : vs 22 = .agg #[.bool b3_4, .slice a3_4 n3_4 c3_4, .slice d3_4 m3_4 o3_4] := h4_22
 replace h4_23 : vs 23 = .int .i64 (-1) := h4_23
 replace h4_24 : vs 24 = .bool true := h4_24
 replace h4_25 : vs 25 = .bool true := h4_25
 replace h4_26 : vs 26 = .bool true := h4_26
 simp only [h4_0, h4_1, h4_2, h4_3, h4_4, h4_5, h4_6, h4_7, h4_8, h4_9, h4_10, h4_11, h4_13, h4_14, h4_15, h4_16, h4_18, h4_19, h4_20, h4_21, h4_22, h4_23, h4_24, h4_25, h4_26]
 replace h4_12 : Rw W4 (vs 12) (mkRat (-3) (2 : Int).natAbs) := h4_12
 generalize vs 12 = u4_12 at h4_12 ⊢
 replace h4_17 : Rw W4 (vs 17) (mkRat 1 (2 : Int).natAbs) := h4_17
 generalize vs 17 = u4_17 at h4_17 ⊢
 clear h4_0 h4_1 h4_2 h4_3 h4_4 h4_5 h4_6 h4_7 h4_8 h4_9 h4_10 h4_11 h4_13 h4_14 h4_15 h4_16 h4_18 h4_19 h4_20 h4_21 h4_22 h4_23 h4_24 h4_25 h4_26
 obtain ⟨kp1_8_0, kp1_8_1, kp1_8_2⟩ := p1_8.c3
 obtain ⟨kp2_6_0, kp2_6_1, kp2_6_2⟩ := p2_6.c3
 obtain ⟨kp3_4_0, kp3_4_1, kp3_4_2⟩ := p3_4.c3
 go_wp2; go_ret
 exact ⟨rfl, E0⟩

end Go.Rt
