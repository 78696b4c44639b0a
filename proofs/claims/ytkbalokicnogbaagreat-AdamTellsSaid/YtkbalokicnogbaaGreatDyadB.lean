/-
 The reference's dyads: odd, Near.
-/
import Derived.Test.YtkbalokicnogbaaGreatGY
import Derived.Test.YtkbalokicnogbaaGreatDyadA
namespace Go.Rt
open Go.RowKit Go.Proofs

/-- the lowest limb -/
theorem Nw.limb0 {W : World} {a : Option Addr} {n c N : Nat} (h : Nw W (.slice a n c) N) (hn : 0 < n) :
  ∃ b o l, a = some ⟨b, o, none⟩ ∧ W.cell? ⟨b, o, none⟩ = some (.int .u64 ((l : Nat) : Int)) ∧ l < B64 ∧ l % 2 = N % 2 := by
 obtain ⟨xs, ⟨a', b, o, cap, e, hs, hl⟩, -, he⟩ := h
 cases e
 obtain rfl := hs.addr hn
 refine ⟨b, o, lg xs 0, rfl, ?_, lg_lt hl 0, ?_⟩
 ·have := hs.cell (i := 0) hn
  simpa using this
 ·rw [← he]
  match xs, hn with
  | x :: r, _ =>
   show lg (x :: r) 0 % 2 = (x + B64 * ev B64 r) % 2
   rw [show lg (x :: r) 0 = x from rfl, B64_eq]
   omega

/-- is it odd? -/
def oddB (z : Int) : Bool := decide (z % 2 ≠ 0)

theorem near_lo {y : Rat} (h : y - y.floor < y.ceil - y ∨ (y - y.floor = y.ceil - y ∧ y.floor % 2 = 0)) : nearR y = y.floor := by
 have h1 := floor_le' y
 have h3 : (y.ceil : Rat) ≤ y.floor + 1 := by
  have : y.ceil ≤ y.floor + 1 := Rat.ceil_le_iff.2 (by rw [Rat.intCast_add]; exact Rat.le_of_lt (by have := lt_floor' y; simpa using this))
  have := Rat.intCast_le_intCast.2 this
  rw [Rat.intCast_add] at this
  simpa using this
 refine near_eq ⟨by grind, by grind, ?_⟩
 rcases h with h | h
 ·right; constructor <;> grind
 ·left; exact h.2

theorem near_hi {y : Rat} (h : y.ceil - y < y - y.floor ∨ (y - y.floor = y.ceil - y ∧ y.floor % 2 ≠ 0)) : nearR y = y.ceil := by
 have h1 := floor_le' y
 have h2 := lt_floor' y
 have h4 : y ≤ (y.ceil : Rat) := Rat.le_ceil
 have h5 : y.floor ≤ y.ceil := by
  have : (y.floor : Rat) ≤ (y.ceil : Rat) := by grind
  exact Rat.intCast_le_intCast.1 this
 have h3 : y.ceil ≤ y.floor + 1 := Rat.ceil_le_iff.2 (by rw [Rat.intCast_add]; exact Rat.le_of_lt (by simpa using h2))
 by_cases e : y.ceil = y.floor
 ·have : y = (y.floor : Rat) := by rw [e] at h4; grind
  rw [e]
  conv => lhs; rw [this]
  exact near_int _
 ·have e2 : y.ceil = y.floor + 1 := by omega
  rw [e2] at h ⊢
  rw [Rat.intCast_add] at h
  have e3 : ((1 : Int) : Rat) = 1 := rfl
  rw [e3] at h
  refine near_eq ⟨by rw [Rat.intCast_add, e3]; grind, by rw [Rat.intCast_add, e3]; grind, ?_⟩
  rcases h with h | h
  ·right; rw [Rat.intCast_add, e3]; constructor <;> grind
  ·left; omega

theorem part_lt {x y : Rat} {F C : Int} (K : Nat) (hy : y = x * P2 K) : (x - (F : Rat) / P2 K < (C : Rat) / P2 K - x ↔ y - F < C - y) ∧ ((C : Rat) / P2 K - x < x - (F : Rat) / P2 K ↔ C - y < y - F) := by
 have hp := P2_pos K
 have e1 : (x - (F : Rat) / P2 K) * P2 K = y - F := by rw [hy]; grind
 have e2 : ((C : Rat) / P2 K - x) * P2 K = C - y := by rw [hy]; grind
 rw [← e1, ← e2, Rat.mul_lt_mul_right hp, Rat.mul_lt_mul_right hp]
 exact ⟨Iff.rfl, Iff.rfl⟩

set_option maxHeartbeats 400000 in
theorem Tryz.refOdd {v : Value} {z : Int} {w : World} (h : Zw w v z) :
  Calls Tryz.prog 163 #[v] w fun e w' => e = .returned (.bool (oddB z)) ∧ Ext w w' := by
 obtain ⟨b, a, n, c, rfl, -, hn⟩ := h
 have p := Bx2.new w 59 (.bool b) (.slice a n c)
 have E0 := Ext.alloc1 w (.cells #[.bool b, .slice a n c] 59)
 obtain ⟨a', n', c', ez, hz, -⟩ := hn.len
 cases ez
 have k0 := p.cell0
 have k1 := p.cell1
 by_cases h0 : 0 < n
 ·obtain ⟨B, o, l, rfl, hc, hl, hp⟩ := hn.limb0 h0
  replace hc := E0.cell hc
  have h0I : (0 : Int) < (n : Int) := by omega
  have hR : Hid ((((l : Int) % 2 == 1) = oddB z)) := Lib.hid (by
   unfold oddB
   rw [Bool.eq_iff_iff]
   simp
   omega)
  have hl2 : (l : Int) < 18446744073709551616 := by rw [B64_eq] at hl; omega
  clear hn hz hp hl p
  go_enter Tryz.func163, Tryz.ntmps163
  go_wp2; go_ret
  exact ⟨ret_b hR.out, E0⟩
 ·have h0I : ¬ (0 : Int) < (n : Int) := by omega
  have hR : Hid (false = oddB z) := Lib.hid (by
   have := hz.1 (by omega)
   unfold oddB
   symm
   apply decide_eq_false
   omega)
  clear hn hz p
  go_enter Tryz.func163, Tryz.ntmps163
  go_wp2; go_ret
  exact ⟨ret_b hR.out, E0⟩

set_option maxRecDepth 100000 in
set_option maxHeartbeats 1000000 in
theorem Tryz.refNear {v1 : Value} {x : Rat} {L : Nat} {w : World} (h1 : Rw w v1 x) (s1 : SmR L x) (hL : L ≤ 60) (K : Nat) (hK : K ≤ 2000) :
  Calls Tryz.prog 153 #[v1, .int .i64 (K : Int)] w fun e w' => ∃ v', e = .returned (.tuple #[v', .int .i64 0]) ∧ Zw w' v' (nearR (x * P2 K)) ∧ Ext w w' := by
 obtain ⟨b1, a1, n1, c1, d1, m1, o1, rfl, q1⟩ : ∃ b a n c d m o, v1 = .agg #[.bool b, .slice a n c, .slice d m o] ∧ True := let ⟨b, a, n, c, d, m, o, e, _⟩ := h1; ⟨b, a, n, c, d, m, o, e, trivial⟩
 clear q1
 obtain ⟨F, hF⟩ : ∃ F, F = (x * P2 K).floor := ⟨_, rfl⟩
 obtain ⟨C, hC⟩ : ∃ C, C = (x * P2 K).ceil := ⟨_, rfl⟩
 obtain ⟨X, hX⟩ : ∃ X, X = (F : Rat) / P2 K := ⟨_, rfl⟩
 obtain ⟨Y, hY⟩ : ∃ Y, Y = (C : Rat) / P2 K := ⟨_, rfl⟩
 obtain ⟨nn, hn⟩ : ∃ nn : Int, nn = (if x - X < Y - x then -1 else if Y - x < x - X then 1 else 0) := ⟨_, rfl⟩
 have HF := Lib.hid hF
 have HC := Lib.hid hC
 have HX := Lib.hid hX
 have HY := Lib.hid hY
 have HN := Lib.hid hn
 have SF : Hid (Sm (L + 34) F.natAbs) := Lib.hid (by rw [hF]; exact (Sm.floor s1 K).mono (by omega))
 have SC : Hid (Sm (L + 34) C.natAbs) := Lib.hid (by rw [hC]; exact (Sm.ceil s1 K).mono (by omega))
 have SX : Hid (SmR (L + 66) X) := Lib.hid (by rw [hX, ← back_eq]; exact (SmR.back SF.out K).mono (by omega))
 have SY : Hid (SmR (L + 66) Y) := Lib.hid (by rw [hY, ← back_eq]; exact (SmR.back SC.out K).mono (by omega))
 have Sx : Hid (SmR (L + 66) x) := Lib.hid (s1.mono (by omega))
 have SB := Lib.hid (Sx.out.sub SX.out)
 have SA := Lib.hid (SY.out.sub Sx.out)
 clear hF hC hX hY hn
 obtain ⟨W0, hW0, E0, p2, p4⟩ := boxed2 w 61 #[.bool b1, .slice a1 n1 c1, .slice d1 m1 o1] 59 #[.bool false, .slice none 0 0]
 replace p2 := p2.b3
 replace p4 := p4.b2
 replace h1 : Rw W0 (.agg #[.bool b1, .slice a1 n1 c1, .slice d1 m1 o1]) x := h1.ext E0
 go_enter Tryz.func153, Tryz.ntmps153
 obtain ⟨k2a, k2b, k2c⟩ := p2.c3
 obtain ⟨k4a, k4b⟩ := p4.c2
 go_upto_region 1 with (fail)
 rw [← hW0]
 clear hW0; clear k2a k2b k2c k4a k4b; have ltp2 := p2.lt; have ltp4 := p4.lt; have szw1 := Ext.size E0
 refine region_gs [isV (.agg #[.bool b1, .slice a1 n1 c1, .slice d1 m1 o1]), isV (.int .i64 (K : Int)),
   .one fun v W => ∃ v', v = .tuple #[v', .int .i64 0] ∧ (fun v W => Zw W v F) v' W,
   .one fun v W => ∃ v', v = .tuple #[v', .int .i64 0] ∧ (fun v W => Zw W v F) v' W,
   .one fun v W => Zw W v F,
   isV (.int .i64 0),
   .one fun v W => ∃ g, v = .pointer (some ⟨g, 0, none⟩) ∧ W0.heap.size ≤ g ∧ Form W g 59 2,
   .three 6 4 (fun p r _ W => Put2 W0.heap.size 59 p r W),
   isV (.int .i64 0)]
  (fun W => Ext w W ∧ Rw W (.agg #[.bool b1, .slice a1 n1 c1, .slice d1 m1 o1]) x ∧ Bx3 W w.heap.size 61 (.bool b1) (.slice a1 n1 c1) (.slice d1 m1 o1) ∧ Bx2 W (w.heap.size + 1) 59 (.bool false) (.slice none 0 0) ∧ W0.heap.size ≤ W.heap.size) ⟨Good.is _, Good.is _, (Good.zed _).tup _, (Good.zed _).tup _, Good.zed _, Good.is _, Good.box _ _ _, cert_put2, Good.is _, trivial⟩
  ⟨E0, h1, p2, p4, Nat.le_refl _⟩ (A := ?A1) ?hA1 ?howe1 ?hfin1
 case hA1 =>
  intro vs
  simp only [putAll, Act.put, sA, sZ, sS, Nat.zero_add, Nat.reduceAdd]
  exact rfl
 case howe1 =>
  clear E0 h1 p2 p4
  intro hf
  refine ⟨oE 0 [] hf rfl ?_, oP0 1 [] hf rfl, oE 2 [0, 1] hf rfl ?_, oE 3 [2] hf rfl ?_, oE 4 [3] hf rfl ?_, oE 5 [3] hf rfl ?_, oE 6 [] hf rfl ?_, oW 7 [6, 4] hf rfl ?_, oP1 8 [5] hf rfl, trivial⟩
  all_goals intro vs W hS hp hx KO hKO
  all_goals simp only [Act.put, sA, sZ, sS] at hKO
  ·have fc0 := hS.2.2.1.cell0; have fc1 := hS.2.2.1.cell1; have fc2 := hS.2.2.1.cell2; go_simp; exact hKO _ W (.refl W) rfl
  ·have e0 := isOf hp.1; have e1 := isOf hp.2.1; simp only [e0, e1] at hKO; go_simp
   refine (Tryz.refFloor (hS.2.1) s1 (by omega) K hK).mono ?_
   rintro e W1 ⟨v, rfl, hv, hE⟩
   rw [← HF.out] at hv
   exact hKO _ W1 hE ⟨_, rfl, hv⟩
  ·have q2 := hp.1
   obtain ⟨u, ev, hu⟩ := q2
   replace ev : vs 2 = _ := ev; simp only [ev] at hKO; go_simp; exact hKO _ W (Ext.refl W) ⟨u, rfl, hu⟩
  ·have q3 := hp.1
   obtain ⟨u, ev, hu⟩ := q3
   replace ev : vs 3 = _ := ev; simp only [ev] at hKO; go_simp; exact hKO _ W (Ext.refl W) hu
  ·have q3 := hp.1
   obtain ⟨u, ev, hu⟩ := q3
   replace ev : vs 3 = _ := ev; simp only [ev] at hKO; go_simp; exact hKO _ W (.refl W) rfl
  ·have hn := Bx2.new W 59 (.bool false) (.slice none 0 0)
   have hE := Ext.alloc1 W (.cells #[.bool false, .slice none 0 0] 59)
   have hsz := hS.2.2.2.2
   go_simp
   exact hKO _ _ hE ⟨_, rfl, hsz, hn.form⟩
  ·have q6 := hp.1; have q4 := hp.2.1
   obtain ⟨g, ev, hg, hf⟩ := q6
   replace ev : vs 6 = _ := ev
   obtain ⟨x0, y0, hx, hno⟩ := hf.bx2
   have qr := q4
   obtain ⟨b3, a3, n3, c3, er, -, -⟩ := qr
   replace er : vs 4 = _ := er
   have r0 := hx.froz0
   have t0 := hx.cell0
   have r1 := hx.froz1
   have t1 := hx.cell1
   have hw := Wr.set2 hx hno b3 a3 n3 c3
   have hq := hx.set (.bool b3) (.slice a3 n3 c3)
   simp only [ev, er] at hKO; go_simp
   exact hKO _ _ hw ⟨(Ext.wr hS.1 hw (by omega)), (hS.2.1.wr hw), (hS.2.2.1.wr hw (by omega)), (hS.2.2.2.1.wr hw (by omega)), (Nat.le_trans hS.2.2.2.2 hw.apart.size)⟩ ⟨g, b3, a3, n3, c3, ev, er, hg, hq⟩
 intro vs W1 hS hp
 clear szw1 E0 h1 p2 p4
 obtain ⟨E0, h1, p2, p4, sz1⟩ := hS
 obtain ⟨h1_0, h1_1, h1_2, h1_3, h1_4, h1_5, h1_6, h1_7, h1_8, -⟩ := hp
 obtain ⟨g1_7, b1_7, a1_7, n1_7, c1_7, ev1_7, er1_7, hg1_7, p1_7⟩ := h1_7
 replace ev1_7 : vs 6 = _ := ev1_7; replace er1_7 : vs 4 = _ := er1_7; replace h1_4 := (show Zw W1 (vs 4) F from h1_4)
 rw [er1_7] at h1_4
 simp only [ev1_7, er1_7, isOf h1_0, isOf h1_1, isOf h1_5, isOf h1_8]
 clear ev1_7 er1_7 h1_0 h1_1 h1_5 h1_8 h1_2 h1_3 h1_6
 obtain ⟨k2a, k2b, k2c⟩ := p2.c3
 obtain ⟨k4a, k4b⟩ := p4.c2
 obtain ⟨k1_7a, k1_7b⟩ := p1_7.c2
 go_upto_region 4 with (fail)
 clear k2a k2b k2c k4a k4b k1_7a k1_7b; have ltp1_7 := p1_7.lt; have szw2 := Ext.size E0
 refine region_gs [isV (.agg #[.bool b1, .slice a1 n1 c1, .slice d1 m1 o1]), isV (.int .i64 (K : Int)),
   .one fun v W => ∃ v', v = .tuple #[v', .int .i64 0] ∧ (fun v W => Zw W v C) v' W,
   .one fun v W => ∃ v', v = .tuple #[v', .int .i64 0] ∧ (fun v W => Zw W v C) v' W,
   .one fun v W => Zw W v C,
   isV (.int .i64 0),
   .one fun v W => ∃ g, v = .pointer (some ⟨g, 0, none⟩) ∧ W1.heap.size ≤ g ∧ Form W g 59 2,
   .three 6 4 (fun p r _ W => Put2 W1.heap.size 59 p r W),
   isV (.int .i64 0)]
  (fun W => Ext w W ∧ Rw W (.agg #[.bool b1, .slice a1 n1 c1, .slice d1 m1 o1]) x ∧ Bx3 W w.heap.size 61 (.bool b1) (.slice a1 n1 c1) (.slice d1 m1 o1) ∧ Bx2 W (w.heap.size + 1) 59 (.bool false) (.slice none 0 0) ∧ Zw W (.agg #[.bool b1_7, .slice a1_7 n1_7 c1_7]) F ∧ Bx2 W g1_7 59 (.bool b1_7) (.slice a1_7 n1_7 c1_7) ∧ W1.heap.size ≤ W.heap.size) ⟨Good.is _, Good.is _, (Good.zed _).tup _, (Good.zed _).tup _, Good.zed _, Good.is _, Good.box _ _ _, cert_put2, Good.is _, trivial⟩
  ⟨E0, h1, p2, p4, h1_4, p1_7, Nat.le_refl _⟩ (A := ?A2) ?hA2 ?howe2 ?hfin2
 case hA2 =>
  intro vs
  simp only [putAll, Act.put, sA, sZ, sS, Nat.zero_add, Nat.reduceAdd]
  exact rfl
 case howe2 =>
  clear E0 h1 p2 p4 h1_4 p1_7
  intro hf
  refine ⟨oE 0 [] hf rfl ?_, oP0 1 [] hf rfl, oE 2 [0, 1] hf rfl ?_, oE 3 [2] hf rfl ?_, oE 4 [3] hf rfl ?_, oE 5 [3] hf rfl ?_, oE 6 [] hf rfl ?_, oW 7 [6, 4] hf rfl ?_, oP1 8 [5] hf rfl, trivial⟩
  all_goals intro vs W hS hp hx KO hKO
  all_goals simp only [Act.put, sA, sZ, sS] at hKO
  ·have fc0 := hS.2.2.1.cell0; have fc1 := hS.2.2.1.cell1; have fc2 := hS.2.2.1.cell2; go_simp; exact hKO _ W (.refl W) rfl
  ·have e0 := isOf hp.1; have e1 := isOf hp.2.1; simp only [e0, e1] at hKO; go_simp
   refine (Tryz.refCeil (hS.2.1) s1 (by omega) K hK).mono ?_
   rintro e W1 ⟨v, rfl, hv, hE⟩
   rw [← HC.out] at hv
   exact hKO _ W1 hE ⟨_, rfl, hv⟩
  ·have q2 := hp.1
   obtain ⟨u, ev, hu⟩ := q2
   replace ev : vs 2 = _ := ev; simp only [ev] at hKO; go_simp; exact hKO _ W (Ext.refl W) ⟨u, rfl, hu⟩
  ·have q3 := hp.1
   obtain ⟨u, ev, hu⟩ := q3
   replace ev : vs 3 = _ := ev; simp only [ev] at hKO; go_simp; exact hKO _ W (Ext.refl W) hu
  ·have q3 := hp.1
   obtain ⟨u, ev, hu⟩ := q3
   replace ev : vs 3 = _ := ev; simp only [ev] at hKO; go_simp; exact hKO _ W (.refl W) rfl
  ·have hn := Bx2.new W 59 (.bool false) (.slice none 0 0)
   have hE := Ext.alloc1 W (.cells #[.bool false, .slice none 0 0] 59)
   have hsz := hS.2.2.2.2.2.2
   go_simp
   exact hKO _ _ hE ⟨_, rfl, hsz, hn.form⟩
  ·have q6 := hp.1; have q4 := hp.2.1
   obtain ⟨g, ev, hg, hf⟩ := q6
   replace ev : vs 6 = _ := ev
   obtain ⟨x0, y0, hx, hno⟩ := hf.bx2
   have qr := q4
   obtain ⟨b3, a3, n3, c3, er, -, -⟩ := qr
   replace er : vs 4 = _ := er
   have r0 := hx.froz0
   have t0 := hx.cell0
   have r1 := hx.froz1
   have t1 := hx.cell1
   have hw := Wr.set2 hx hno b3 a3 n3 c3
   have hq := hx.set (.bool b3) (.slice a3 n3 c3)
   simp only [ev, er] at hKO; go_simp
   exact hKO _ _ hw ⟨(Ext.wr hS.1 hw (by omega)), (hS.2.1.wr hw), (hS.2.2.1.wr hw (by omega)), (hS.2.2.2.1.wr hw (by omega)), (hS.2.2.2.2.1.wr hw), (hS.2.2.2.2.2.1.wr hw (by omega)), (Nat.le_trans hS.2.2.2.2.2.2 hw.apart.size)⟩ ⟨g, b3, a3, n3, c3, ev, er, hg, hq⟩
 intro vs W2 hS hp
 clear szw2 E0 h1 p2 p4 h1_4 p1_7
 obtain ⟨E0, h1, p2, p4, h1_4, p1_7, sz2⟩ := hS
 obtain ⟨h2_0, h2_1, h2_2, h2_3, h2_4, h2_5, h2_6, h2_7, h2_8, -⟩ := hp
 obtain ⟨g2_7, b2_7, a2_7, n2_7, c2_7, ev2_7, er2_7, hg2_7, p2_7⟩ := h2_7
 replace ev2_7 : vs 6 = _ := ev2_7; replace er2_7 : vs 4 = _ := er2_7; replace h2_4 := (show Zw W2 (vs 4) C from h2_4)
 rw [er2_7] at h2_4
 simp only [ev2_7, er2_7, isOf h2_0, isOf h2_1, isOf h2_5, isOf h2_8]
 clear ev2_7 er2_7 h2_0 h2_1 h2_5 h2_8 h2_2 h2_3 h2_6
 obtain ⟨k2a, k2b, k2c⟩ := p2.c3
 obtain ⟨k4a, k4b⟩ := p4.c2
 obtain ⟨k1_7a, k1_7b⟩ := p1_7.c2
 obtain ⟨k2_7a, k2_7b⟩ := p2_7.c2
 go_upto_region 5 with (fail)
 clear k2a k2b k2c k4a k4b k1_7a k1_7b k2_7a k2_7b; have ltp2_7 := p2_7.lt; have szw3 := Ext.size E0
 refine region_gs [isV (.agg #[.bool b1_7, .slice a1_7 n1_7 c1_7]), isV (.int .i64 (K : Int)),
   .one fun v W => ∃ v', v = .tuple #[v', .int .i64 0] ∧ (fun v W => Rw W v X) v' W,
   .one fun v W => ∃ v', v = .tuple #[v', .int .i64 0] ∧ (fun v W => Rw W v X) v' W,
   .one fun v W => Rw W v X,
   isV (.int .i64 0),
   .one fun v W => ∃ g, v = .pointer (some ⟨g, 0, none⟩) ∧ W2.heap.size ≤ g ∧ Form W g 61 3,
   .three 6 4 (fun p r _ W => Put3 W2.heap.size 61 p r W),
   isV (.int .i64 0)]
  (fun W => Ext w W ∧ Rw W (.agg #[.bool b1, .slice a1 n1 c1, .slice d1 m1 o1]) x ∧ Bx3 W w.heap.size 61 (.bool b1) (.slice a1 n1 c1) (.slice d1 m1 o1) ∧ Bx2 W (w.heap.size + 1) 59 (.bool false) (.slice none 0 0) ∧ Zw W (.agg #[.bool b1_7, .slice a1_7 n1_7 c1_7]) F ∧ Bx2 W g1_7 59 (.bool b1_7) (.slice a1_7 n1_7 c1_7) ∧ Zw W (.agg #[.bool b2_7, .slice a2_7 n2_7 c2_7]) C ∧ Bx2 W g2_7 59 (.bool b2_7) (.slice a2_7 n2_7 c2_7) ∧ W2.heap.size ≤ W.heap.size) ⟨Good.is _, Good.is _, (Good.rat _).tup _, (Good.rat _).tup _, Good.rat _, Good.is _, Good.box _ _ _, cert_put3, Good.is _, trivial⟩
  ⟨E0, h1, p2, p4, h1_4, p1_7, h2_4, p2_7, Nat.le_refl _⟩ (A := ?A3) ?hA3 ?howe3 ?hfin3
 case hA3 =>
  intro vs
  simp only [putAll, Act.put, sA, sZ, sS, Nat.zero_add, Nat.reduceAdd]
  exact rfl
 case howe3 =>
  clear E0 h1 p2 p4 h1_4 p1_7 h2_4 p2_7
  intro hf
  refine ⟨oE 0 [] hf rfl ?_, oP0 1 [] hf rfl, oE 2 [0, 1] hf rfl ?_, oE 3 [2] hf rfl ?_, oE 4 [3] hf rfl ?_, oE 5 [3] hf rfl ?_, oE 6 [] hf rfl ?_, oW 7 [6, 4] hf rfl ?_, oP1 8 [5] hf rfl, trivial⟩
  all_goals intro vs W hS hp hx KO hKO
  all_goals simp only [Act.put, sA, sZ, sS] at hKO
  ·have fc0 := hS.2.2.2.2.2.1.cell0; have fc1 := hS.2.2.2.2.2.1.cell1; go_simp; exact hKO _ W (.refl W) rfl
  ·have e0 := isOf hp.1; have e1 := isOf hp.2.1; simp only [e0, e1] at hKO; go_simp
   refine (Tryz.refBack (hS.2.2.2.2.1) SF.out (by omega) K hK).mono ?_
   rintro e W1 ⟨v, rfl, hv, hE⟩
   rw [← HX.out] at hv
   exact hKO _ W1 hE ⟨_, rfl, hv⟩
  ·have q2 := hp.1
   obtain ⟨u, ev, hu⟩ := q2
   replace ev : vs 2 = _ := ev; simp only [ev] at hKO; go_simp; exact hKO _ W (Ext.refl W) ⟨u, rfl, hu⟩
  ·have q3 := hp.1
   obtain ⟨u, ev, hu⟩ := q3
   replace ev : vs 3 = _ := ev; simp only [ev] at hKO; go_simp; exact hKO _ W (Ext.refl W) hu
  ·have q3 := hp.1
   obtain ⟨u, ev, hu⟩ := q3
   replace ev : vs 3 = _ := ev; simp only [ev] at hKO; go_simp; exact hKO _ W (.refl W) rfl
  ·have hn := Bx3.new W 61 (.bool false) (.slice none 0 0) (.slice none 0 0)
   have hE := Ext.alloc1 W (.cells #[.bool false, .slice none 0 0, .slice none 0 0] 61)
   have hsz := hS.2.2.2.2.2.2.2.2
   go_simp
   exact hKO _ _ hE ⟨_, rfl, hsz, hn.form⟩
  ·have q6 := hp.1; have q4 := hp.2.1
   obtain ⟨g, ev, hg, hf⟩ := q6
   replace ev : vs 6 = _ := ev
   obtain ⟨x0, y0, z0, hx, hno⟩ := hf.bx3
   have qr := q4
   obtain ⟨b3, a3, n3, c3, d3, m3, o3, er, -, -, -⟩ := qr
   replace er : vs 4 = _ := er
   have r0 := hx.froz0
   have t0 := hx.cell0
   have r1 := hx.froz1
   have t1 := hx.cell1
   have r2 := hx.froz2
   have t2 := hx.cell2
   have hw := Wr.set3 hx hno b3 a3 n3 c3 d3 m3 o3
   have hq := hx.set (.bool b3) (.slice a3 n3 c3) (.slice d3 m3 o3)
   simp only [ev, er] at hKO; go_simp
   exact hKO _ _ hw ⟨(Ext.wr hS.1 hw (by omega)), (hS.2.1.wr hw), (hS.2.2.1.wr hw (by omega)), (hS.2.2.2.1.wr hw (by omega)), (hS.2.2.2.2.1.wr hw), (hS.2.2.2.2.2.1.wr hw (by omega)), (hS.2.2.2.2.2.2.1.wr hw), (hS.2.2.2.2.2.2.2.1.wr hw (by omega)), (Nat.le_trans hS.2.2.2.2.2.2.2.2 hw.apart.size)⟩ ⟨g, b3, a3, n3, c3, d3, m3, o3, ev, er, hg, hq⟩
 intro vs W3 hS hp
 clear szw3 E0 h1 p2 p4 h1_4 p1_7 h2_4 p2_7
 obtain ⟨E0, h1, p2, p4, h1_4, p1_7, h2_4, p2_7, sz3⟩ := hS
 obtain ⟨h3_0, h3_1, h3_2, h3_3, h3_4, h3_5, h3_6, h3_7, h3_8, -⟩ := hp
 obtain ⟨g3_7, b3_7, a3_7, n3_7, c3_7, d3_7, m3_7, o3_7, ev3_7, er3_7, hg3_7, p3_7⟩ := h3_7
 replace ev3_7 : vs 6 = _ := ev3_7; replace er3_7 : vs 4 = _ := er3_7; replace h3_4 := (show Rw W3 (vs 4) X from h3_4)
 rw [er3_7] at h3_4
 simp only [ev3_7, er3_7, isOf h3_0, isOf h3_1, isOf h3_5, isOf h3_8]
 clear ev3_7 er3_7 h3_0 h3_1 h3_5 h3_8 h3_2 h3_3 h3_6
 obtain ⟨k2a, k2b, k2c⟩ := p2.c3
 obtain ⟨k4a, k4b⟩ := p4.c2
 obtain ⟨k1_7a, k1_7b⟩ := p1_7.c2
 obtain ⟨k2_7a, k2_7b⟩ := p2_7.c2
 obtain ⟨k3_7a, k3_7b, k3_7c⟩ := p3_7.c3
 go_upto_region 6 with (fail)
 clear k2a k2b k2c k4a k4b k1_7a k1_7b k2_7a k2_7b k3_7a k3_7b k3_7c; have ltp3_7 := p3_7.lt; have szw4 := Ext.size E0
 refine region_gs [isV (.agg #[.bool b2_7, .slice a2_7 n2_7 c2_7]), isV (.int .i64 (K : Int)),
   .one fun v W => ∃ v', v = .tuple #[v', .int .i64 0] ∧ (fun v W => Rw W v Y) v' W,
   .one fun v W => ∃ v', v = .tuple #[v', .int .i64 0] ∧ (fun v W => Rw W v Y) v' W,
   .one fun v W => Rw W v Y,
   isV (.int .i64 0),
   .one fun v W => ∃ g, v = .pointer (some ⟨g, 0, none⟩) ∧ W3.heap.size ≤ g ∧ Form W g 61 3,
   .three 6 4 (fun p r _ W => Put3 W3.heap.size 61 p r W),
   isV (.int .i64 0)]
  (fun W => Ext w W ∧ Rw W (.agg #[.bool b1, .slice a1 n1 c1, .slice d1 m1 o1]) x ∧ Bx3 W w.heap.size 61 (.bool b1) (.slice a1 n1 c1) (.slice d1 m1 o1) ∧ Bx2 W (w.heap.size + 1) 59 (.bool false) (.slice none 0 0) ∧ Zw W (.agg #[.bool b1_7, .slice a1_7 n1_7 c1_7]) F ∧ Bx2 W g1_7 59 (.bool b1_7) (.slice a1_7 n1_7 c1_7) ∧ Zw W (.agg #[.bool b2_7, .slice a2_7 n2_7 c2_7]) C ∧ Bx2 W g2_7 59 (.bool b2_7) (.slice a2_7 n2_7 c2_7) ∧ Rw W (.agg #[.bool b3_7, .slice a3_7 n3_7 c3_7, .slice d3_7 m3_7 o3_7]) X ∧ Bx3 W g3_7 61 (.bool b3_7) (.slice a3_7 n3_7 c3_7) (.slice d3_7 m3_7 o3_7) ∧ W3.heap.size ≤ W.heap.size) ⟨Good.is _, Good.is _, (Good.rat _).tup _, (Good.rat _).tup _, Good.rat _, Good.is _, Good.box _ _ _, cert_put3, Good.is _, trivial⟩
  ⟨E0, h1, p2, p4, h1_4, p1_7, h2_4, p2_7, h3_4, p3_7, Nat.le_refl _⟩ (A := ?A4) ?hA4 ?howe4 ?hfin4
 case hA4 =>
  intro vs
  simp only [putAll, Act.put, sA, sZ, sS, Nat.zero_add, Nat.reduceAdd]
  exact rfl
 case howe4 =>
  clear E0 h1 p2 p4 h1_4 p1_7 h2_4 p2_7 h3_4 p3_7
  intro hf
  refine ⟨oE 0 [] hf rfl ?_, oP0 1 [] hf rfl, oE 2 [0, 1] hf rfl ?_, oE 3 [2] hf rfl ?_, oE 4 [3] hf rfl ?_, oE 5 [3] hf rfl ?_, oE 6 [] hf rfl ?_, oW 7 [6, 4] hf rfl ?_, oP1 8 [5] hf rfl, trivial⟩
  all_goals intro vs W hS hp hx KO hKO
  all_goals simp only [Act.put, sA, sZ, sS] at hKO
  ·have fc0 := hS.2.2.2.2.2.2.2.1.cell0; have fc1 := hS.2.2.2.2.2.2.2.1.cell1; go_simp; exact hKO _ W (.refl W) rfl
  ·have e0 := isOf hp.1; have e1 := isOf hp.2.1; simp only [e0, e1] at hKO; go_simp
   refine (Tryz.refBack (hS.2.2.2.2.2.2.1) SC.out (by omega) K hK).mono ?_
   rintro e W1 ⟨v, rfl, hv, hE⟩
   rw [← HY.out] at hv
   exact hKO _ W1 hE ⟨_, rfl, hv⟩
  ·have q2 := hp.1
   obtain ⟨u, ev, hu⟩ := q2
   replace ev : vs 2 = _ := ev; simp only [ev] at hKO; go_simp; exact hKO _ W (Ext.refl W) ⟨u, rfl, hu⟩
  ·have q3 := hp.1
   obtain ⟨u, ev, hu⟩ := q3
   replace ev : vs 3 = _ := ev; simp only [ev] at hKO; go_simp; exact hKO _ W (Ext.refl W) hu
  ·have q3 := hp.1
   obtain ⟨u, ev, hu⟩ := q3
   replace ev : vs 3 = _ := ev; simp only [ev] at hKO; go_simp; exact hKO _ W (.refl W) rfl
  ·have hn := Bx3.new W 61 (.bool false) (.slice none 0 0) (.slice none 0 0)
   have hE := Ext.alloc1 W (.cells #[.bool false, .slice none 0 0, .slice none 0 0] 61)
   have hsz := hS.2.2.2.2.2.2.2.2.2.2
   go_simp
   exact hKO _ _ hE ⟨_, rfl, hsz, hn.form⟩
  ·have q6 := hp.1; have q4 := hp.2.1
   obtain ⟨g, ev, hg, hf⟩ := q6
   replace ev : vs 6 = _ := ev
   obtain ⟨x0, y0, z0, hx, hno⟩ := hf.bx3
   have qr := q4
   obtain ⟨b3, a3, n3, c3, d3, m3, o3, er, -, -, -⟩ := qr
   replace er : vs 4 = _ := er
   have r0 := hx.froz0
   have t0 := hx.cell0
   have r1 := hx.froz1
   have t1 := hx.cell1
   have r2 := hx.froz2
   have t2 := hx.cell2
   have hw := Wr.set3 hx hno b3 a3 n3 c3 d3 m3 o3
   have hq := hx.set (.bool b3) (.slice a3 n3 c3) (.slice d3 m3 o3)
   simp only [ev, er] at hKO; go_simp
   exact hKO _ _ hw ⟨(Ext.wr hS.1 hw (by omega)), (hS.2.1.wr hw), (hS.2.2.1.wr hw (by omega)), (hS.2.2.2.1.wr hw (by omega)), (hS.2.2.2.2.1.wr hw), (hS.2.2.2.2.2.1.wr hw (by omega)), (hS.2.2.2.2.2.2.1.wr hw), (hS.2.2.2.2.2.2.2.1.wr hw (by omega)), (hS.2.2.2.2.2.2.2.2.1.wr hw), (hS.2.2.2.2.2.2.2.2.2.1.wr hw (by omega)), (Nat.le_trans hS.2.2.2.2.2.2.2.2.2.2 hw.apart.size)⟩ ⟨g, b3, a3, n3, c3, d3, m3, o3, ev, er, hg, hq⟩
 intro vs W4 hS hp
 clear szw4 E0 h1 p2 p4 h1_4 p1_7 h2_4 p2_7 h3_4 p3_7
 obtain ⟨E0, h1, p2, p4, h1_4, p1_7, h2_4, p2_7, h3_4, p3_7, sz4⟩ := hS
 obtain ⟨h4_0, h4_1, h4_2, h4_3, h4_4, h4_5, h4_6, h4_7, h4_8, -⟩ := hp
 obtain ⟨g4_7, b4_7, a4_7, n4_7, c4_7, d4_7, m4_7, o4_7, ev4_7, er4_7, hg4_7, p4_7⟩ := h4_7
 replace ev4_7 : vs 6 = _ := ev4_7; replace er4_7 : vs 4 = _ := er4_7; replace h4_4 := (show Rw W4 (vs 4) Y from h4_4)
 rw [er4_7] at h4_4
 simp only [ev4_7, er4_7, isOf h4_0, isOf h4_1, isOf h4_5, isOf h4_8]
 clear ev4_7 er4_7 h4_0 h4_1 h4_5 h4_8 h4_2 h4_3 h4_6
 obtain ⟨k2a, k2b, k2c⟩ := p2.c3
 obtain ⟨k4a, k4b⟩ := p4.c2
 obtain ⟨k1_7a, k1_7b⟩ := p1_7.c2
 obtain ⟨k2_7a, k2_7b⟩ := p2_7.c2
 obtain ⟨k3_7a, k3_7b, k3_7c⟩ := p3_7.c3
 obtain ⟨k4_7a, k4_7b, k4_7c⟩ := p4_7.c3
 go_upto_region 7 with (fail)
 clear k2a k2b k2c k4a k4b k1_7a k1_7b k2_7a k2_7b k3_7a k3_7b k3_7c k4_7a k4_7b k4_7c; have ltp4_7 := p4_7.lt; have szw5 := Ext.size E0
 refine region_gs [isV (.agg #[.bool b1, .slice a1 n1 c1, .slice d1 m1 o1]), isV (.agg #[.bool b3_7, .slice a3_7 n3_7 c3_7, .slice d3_7 m3_7 o3_7]),
   .one fun v W => Rw W v (x - X),
   .one fun v W => ∃ g, v = .pointer (some ⟨g, 0, none⟩) ∧ W4.heap.size ≤ g ∧ Form W g 61 3,
   .three 3 2 (fun p r _ W => Put3 W4.heap.size 61 p r W)]
  (fun W => Ext w W ∧ Rw W (.agg #[.bool b1, .slice a1 n1 c1, .slice d1 m1 o1]) x ∧ Bx3 W w.heap.size 61 (.bool b1) (.slice a1 n1 c1) (.slice d1 m1 o1) ∧ Bx2 W (w.heap.size + 1) 59 (.bool false) (.slice none 0 0) ∧ Zw W (.agg #[.bool b1_7, .slice a1_7 n1_7 c1_7]) F ∧ Bx2 W g1_7 59 (.bool b1_7) (.slice a1_7 n1_7 c1_7) ∧ Zw W (.agg #[.bool b2_7, .slice a2_7 n2_7 c2_7]) C ∧ Bx2 W g2_7 59 (.bool b2_7) (.slice a2_7 n2_7 c2_7) ∧ Rw W (.agg #[.bool b3_7, .slice a3_7 n3_7 c3_7, .slice d3_7 m3_7 o3_7]) X ∧ Bx3 W g3_7 61 (.bool b3_7) (.slice a3_7 n3_7 c3_7) (.slice d3_7 m3_7 o3_7) ∧ Rw W (.agg #[.bool b4_7, .slice a4_7 n4_7 c4_7, .slice d4_7 m4_7 o4_7]) Y ∧ Bx3 W g4_7 61 (.bool b4_7) (.slice a4_7 n4_7 c4_7) (.slice d4_7 m4_7 o4_7) ∧ W4.heap.size ≤ W.heap.size) ⟨Good.is _, Good.is _, Good.rat _, Good.box _ _ _, cert_put3, trivial⟩
  ⟨E0, h1, p2, p4, h1_4, p1_7, h2_4, p2_7, h3_4, p3_7, h4_4, p4_7, Nat.le_refl _⟩ (A := ?A5) ?hA5 ?howe5 ?hfin5
 case hA5 =>
  intro vs
  simp only [putAll, Act.put, sA, sZ, sS, Nat.zero_add, Nat.reduceAdd]
  exact rfl
 case howe5 =>
  clear E0 h1 p2 p4 h1_4 p1_7 h2_4 p2_7 h3_4 p3_7 h4_4 p4_7
  intro hf
  refine ⟨oE 0 [] hf rfl ?_, oE 1 [] hf rfl ?_, oE 2 [0, 1] hf rfl ?_, oE 3 [] hf rfl ?_, oW 4 [3, 2] hf rfl ?_, trivial⟩
  all_goals intro vs W hS hp hx KO hKO
  all_goals simp only [Act.put, sA, sZ, sS] at hKO
  ·have fc0 := hS.2.2.1.cell0; have fc1 := hS.2.2.1.cell1; have fc2 := hS.2.2.1.cell2; go_simp; exact hKO _ W (.refl W) rfl
  ·have fc0 := hS.2.2.2.2.2.2.2.2.2.1.cell0; have fc1 := hS.2.2.2.2.2.2.2.2.2.1.cell1; have fc2 := hS.2.2.2.2.2.2.2.2.2.1.cell2; go_simp; exact hKO _ W (.refl W) rfl
  ·have e0 := isOf hp.1; have e1 := isOf hp.2.1; simp only [e0, e1] at hKO; go_simp
   refine (Tryz.refRSub (hS.2.1) (hS.2.2.2.2.2.2.2.2.1) Sx.out SX.out (by omega)).mono ?_
   rintro e W1 ⟨v, rfl, hv, hE⟩
   exact hKO _ W1 hE hv
  ·have hn := Bx3.new W 61 (.bool false) (.slice none 0 0) (.slice none 0 0)
   have hE := Ext.alloc1 W (.cells #[.bool false, .slice none 0 0, .slice none 0 0] 61)
   have hsz := hS.2.2.2.2.2.2.2.2.2.2.2.2
   go_simp
   exact hKO _ _ hE ⟨_, rfl, hsz, hn.form⟩
  ·have q3 := hp.1; have q2 := hp.2.1
   obtain ⟨g, ev, hg, hf⟩ := q3
   replace ev : vs 3 = _ := ev
   obtain ⟨x0, y0, z0, hx, hno⟩ := hf.bx3
   have qr := q2
   obtain ⟨b3, a3, n3, c3, d3, m3, o3, er, -, -, -⟩ := qr
   replace er : vs 2 = _ := er
   have r0 := hx.froz0
   have t0 := hx.cell0
   have r1 := hx.froz1
   have t1 := hx.cell1
   have r2 := hx.froz2
   have t2 := hx.cell2
   have hw := Wr.set3 hx hno b3 a3 n3 c3 d3 m3 o3
   have hq := hx.set (.bool b3) (.slice a3 n3 c3) (.slice d3 m3 o3)
   simp only [ev, er] at hKO; go_simp
   exact hKO _ _ hw ⟨(Ext.wr hS.1 hw (by omega)), (hS.2.1.wr hw), (hS.2.2.1.wr hw (by omega)), (hS.2.2.2.1.wr hw (by omega)), (hS.2.2.2.2.1.wr hw), (hS.2.2.2.2.2.1.wr hw (by omega)), (hS.2.2.2.2.2.2.1.wr hw), (hS.2.2.2.2.2.2.2.1.wr hw (by omega)), (hS.2.2.2.2.2.2.2.2.1.wr hw), (hS.2.2.2.2.2.2.2.2.2.1.wr hw (by omega)), (hS.2.2.2.2.2.2.2.2.2.2.1.wr hw), (hS.2.2.2.2.2.2.2.2.2.2.2.1.wr hw (by omega)), (Nat.le_trans hS.2.2.2.2.2.2.2.2.2.2.2.2 hw.apart.size)⟩ ⟨g, b3, a3, n3, c3, d3, m3, o3, ev, er, hg, hq⟩
 intro vs W5 hS hp
 clear szw5 E0 h1 p2 p4 h1_4 p1_7 h2_4 p2_7 h3_4 p3_7 h4_4 p4_7
 obtain ⟨E0, h1, p2, p4, h1_4, p1_7, h2_4, p2_7, h3_4, p3_7, h4_4, p4_7, sz5⟩ := hS
 obtain ⟨h5_0, h5_1, h5_2, h5_3, h5_4, -⟩ := hp
 obtain ⟨g5_4, b5_4, a5_4, n5_4, c5_4, d5_4, m5_4, o5_4, ev5_4, er5_4, hg5_4, p5_4⟩ := h5_4
 replace ev5_4 : vs 3 = _ := ev5_4; replace er5_4 : vs 2 = _ := er5_4; replace h5_2 := (show Rw W5 (vs 2) (x - X) from h5_2)
 rw [er5_4] at h5_2
 simp only [ev5_4, er5_4, isOf h5_0, isOf h5_1]
 clear ev5_4 er5_4 h5_0 h5_1 h5_3
 obtain ⟨k2a, k2b, k2c⟩ := p2.c3
 obtain ⟨k4a, k4b⟩ := p4.c2
 obtain ⟨k1_7a, k1_7b⟩ := p1_7.c2
 obtain ⟨k2_7a, k2_7b⟩ := p2_7.c2
 obtain ⟨k3_7a, k3_7b, k3_7c⟩ := p3_7.c3
 obtain ⟨k4_7a, k4_7b, k4_7c⟩ := p4_7.c3
 obtain ⟨k5_4a, k5_4b, k5_4c⟩ := p5_4.c3
 go_upto_region 8 with (fail)
 clear k2a k2b k2c k4a k4b k1_7a k1_7b k2_7a k2_7b k3_7a k3_7b k3_7c k4_7a k4_7b k4_7c k5_4a k5_4b k5_4c; have ltp5_4 := p5_4.lt; have szw6 := Ext.size E0
 refine region_gs [isV (.agg #[.bool b4_7, .slice a4_7 n4_7 c4_7, .slice d4_7 m4_7 o4_7]), isV (.agg #[.bool b1, .slice a1 n1 c1, .slice d1 m1 o1]),
   .one fun v W => Rw W v (Y - x),
   .one fun v W => ∃ g, v = .pointer (some ⟨g, 0, none⟩) ∧ W5.heap.size ≤ g ∧ Form W g 61 3,
   .three 3 2 (fun p r _ W => Put3 W5.heap.size 61 p r W)]
  (fun W => Ext w W ∧ Rw W (.agg #[.bool b1, .slice a1 n1 c1, .slice d1 m1 o1]) x ∧ Bx3 W w.heap.size 61 (.bool b1) (.slice a1 n1 c1) (.slice d1 m1 o1) ∧ Bx2 W (w.heap.size + 1) 59 (.bool false) (.slice none 0 0) ∧ Zw W (.agg #[.bool b1_7, .slice a1_7 n1_7 c1_7]) F ∧ Bx2 W g1_7 59 (.bool b1_7) (.slice a1_7 n1_7 c1_7) ∧ Zw W (.agg #[.bool b2_7, .slice a2_7 n2_7 c2_7]) C ∧ Bx2 W g2_7 59 (.bool b2_7) (.slice a2_7 n2_7 c2_7) ∧ Rw W (.agg #[.bool b3_7, .slice a3_7 n3_7 c3_7, .slice d3_7 m3_7 o3_7]) X ∧ Bx3 W g3_7 61 (.bool b3_7) (.slice a3_7 n3_7 c3_7) (.slice d3_7 m3_7 o3_7) ∧ Rw W (.agg #[.bool b4_7, .slice a4_7 n4_7 c4_7, .slice d4_7 m4_7 o4_7]) Y ∧ Bx3 W g4_7 61 (.bool b4_7) (.slice a4_7 n4_7 c4_7) (.slice d4_7 m4_7 o4_7) ∧ Rw W (.agg #[.bool b5_4, .slice a5_4 n5_4 c5_4, .slice d5_4 m5_4 o5_4]) (x - X) ∧ Bx3 W g5_4 61 (.bool b5_4) (.slice a5_4 n5_4 c5_4) (.slice d5_4 m5_4 o5_4) ∧ W5.heap.size ≤ W.heap.size) ⟨Good.is _, Good.is _, Good.rat _, Good.box _ _ _, cert_put3, trivial⟩
  ⟨E0, h1, p2, p4, h1_4, p1_7, h2_4, p2_7, h3_4, p3_7, h4_4, p4_7, h5_2, p5_4, Nat.le_refl _⟩ (A := ?A6) ?hA6 ?howe6 ?hfin6
 case hA6 =>
  intro vs
  simp only [putAll, Act.put, sA, sZ, sS, Nat.zero_add, Nat.reduceAdd]
  exact rfl
 case howe6 =>
  clear E0 h1 p2 p4 h1_4 p1_7 h2_4 p2_7 h3_4 p3_7 h4_4 p4_7 h5_2 p5_4
  intro hf
  refine ⟨oE 0 [] hf rfl ?_, oE 1 [] hf rfl ?_, oE 2 [0, 1] hf rfl ?_, oE 3 [] hf rfl ?_, oW 4 [3, 2] hf rfl ?_, trivial⟩
  all_goals intro vs W hS hp hx KO hKO
  all_goals simp only [Act.put, sA, sZ, sS] at hKO
  ·have fc0 := hS.2.2.2.2.2.2.2.2.2.2.2.1.cell0; have fc1 := hS.2.2.2.2.2.2.2.2.2.2.2.1.cell1; have fc2 := hS.2.2.2.2.2.2.2.2.2.2.2.1.cell2; go_simp; exact hKO _ W (.refl W) rfl
  ·have fc0 := hS.2.2.1.cell0; have fc1 := hS.2.2.1.cell1; have fc2 := hS.2.2.1.cell2; go_simp; exact hKO _ W (.refl W) rfl
  ·have e0 := isOf hp.1; have e1 := isOf hp.2.1; simp only [e0, e1] at hKO; go_simp
   refine (Tryz.refRSub (hS.2.2.2.2.2.2.2.2.2.2.1) (hS.2.1) SY.out Sx.out (by omega)).mono ?_
   rintro e W1 ⟨v, rfl, hv, hE⟩
   exact hKO _ W1 hE hv
  ·have hn := Bx3.new W 61 (.bool false) (.slice none 0 0) (.slice none 0 0)
   have hE := Ext.alloc1 W (.cells #[.bool false, .slice none 0 0, .slice none 0 0] 61)
   have hsz := hS.2.2.2.2.2.2.2.2.2.2.2.2.2.2
   go_simp
   exact hKO _ _ hE ⟨_, rfl, hsz, hn.form⟩
  ·have q3 := hp.1; have q2 := hp.2.1
   obtain ⟨g, ev, hg, hf⟩ := q3
   replace ev : vs 3 = _ := ev
   obtain ⟨x0, y0, z0, hx, hno⟩ := hf.bx3
   have qr := q2
   obtain ⟨b3, a3, n3, c3, d3, m3, o3, er, -, -, -⟩ := qr
   replace er : vs 2 = _ := er
   have r0 := hx.froz0
   have t0 := hx.cell0
   have r1 := hx.froz1
   have t1 := hx.cell1
   have r2 := hx.froz2
   have t2 := hx.cell2
   have hw := Wr.set3 hx hno b3 a3 n3 c3 d3 m3 o3
   have hq := hx.set (.bool b3) (.slice a3 n3 c3) (.slice d3 m3 o3)
   simp only [ev, er] at hKO; go_simp
   exact hKO _ _ hw ⟨(Ext.wr hS.1 hw (by omega)), (hS.2.1.wr hw), (hS.2.2.1.wr hw (by omega)), (hS.2.2.2.1.wr hw (by omega)), (hS.2.2.2.2.1.wr hw), (hS.2.2.2.2.2.1.wr hw (by omega)), (hS.2.2.2.2.2.2.1.wr hw), (hS.2.2.2.2.2.2.2.1.wr hw (by omega)), (hS.2.2.2.2.2.2.2.2.1.wr hw), (hS.2.2.2.2.2.2.2.2.2.1.wr hw (by omega)), (hS.2.2.2.2.2.2.2.2.2.2.1.wr hw), (hS.2.2.2.2.2.2.2.2.2.2.2.1.wr hw (by omega)), (hS.2.2.2.2.2.2.2.2.2.2.2.2.1.wr hw), (hS.2.2.2.2.2.2.2.2.2.2.2.2.2.1.wr hw (by omega)), (Nat.le_trans hS.2.2.2.2.2.2.2.2.2.2.2.2.2.2 hw.apart.size)⟩ ⟨g, b3, a3, n3, c3, d3, m3, o3, ev, er, hg, hq⟩
 intro vs W6 hS hp
 clear szw6 E0 h1 p2 p4 h1_4 p1_7 h2_4 p2_7 h3_4 p3_7 h4_4 p4_7 h5_2 p5_4
 obtain ⟨E0, h1, p2, p4, h1_4, p1_7, h2_4, p2_7, h3_4, p3_7, h4_4, p4_7, h5_2, p5_4, sz6⟩ := hS
 obtain ⟨h6_0, h6_1, h6_2, h6_3, h6_4, -⟩ := hp
 obtain ⟨g6_4, b6_4, a6_4, n6_4, c6_4, d6_4, m6_4, o6_4, ev6_4, er6_4, hg6_4, p6_4⟩ := h6_4
 replace ev6_4 : vs 3 = _ := ev6_4; replace er6_4 : vs 2 = _ := er6_4; replace h6_2 := (show Rw W6 (vs 2) (Y - x) from h6_2)
 rw [er6_4] at h6_2
 simp only [ev6_4, er6_4, isOf h6_0, isOf h6_1]
 clear ev6_4 er6_4 h6_0 h6_1 h6_3
 obtain ⟨k2a, k2b, k2c⟩ := p2.c3
 obtain ⟨k4a, k4b⟩ := p4.c2
 obtain ⟨k1_7a, k1_7b⟩ := p1_7.c2
 obtain ⟨k2_7a, k2_7b⟩ := p2_7.c2
 obtain ⟨k3_7a, k3_7b, k3_7c⟩ := p3_7.c3
 obtain ⟨k4_7a, k4_7b, k4_7c⟩ := p4_7.c3
 obtain ⟨k5_4a, k5_4b, k5_4c⟩ := p5_4.c3
 obtain ⟨k6_4a, k6_4b, k6_4c⟩ := p6_4.c3
 go_upto_region 9 with (fail)
 clear k2a k2b k2c k4a k4b k1_7a k1_7b k2_7a k2_7b k3_7a k3_7b k3_7c k4_7a k4_7b k4_7c k5_4a k5_4b k5_4c k6_4a k6_4b k6_4c; have ltp6_4 := p6_4.lt; have szw7 := Ext.size E0
 refine region_gk [isV (.agg #[.bool b5_4, .slice a5_4 n5_4 c5_4, .slice d5_4 m5_4 o5_4]), isV (.agg #[.bool b6_4, .slice a6_4 n6_4 c6_4, .slice d6_4 m6_4 o6_4]), isV (.int .i64 nn),
   .one fun v _ => v = .int .i64 nn] ⟨Good.is _, Good.is _, Good.is _, Good.is _, trivial⟩ (E0.s.k (h1.s.k (p2.s.k (p4.s.k (h1_4.s.k (p1_7.s.k (h2_4.s.k (p2_7.s.k (h3_4.s.k (p3_7.s.k (h4_4.s.k (p4_7.s.k (h5_2.s.k (p5_4.s.k (h6_2.s.k (p6_4.s)))))))))))))))) (A := ?A7) ?hA7 ?howe7 ?hfin7
 case hA7 =>
  intro vs
  simp only [putAll, Act.put, sA, sZ, sS, Nat.zero_add, Nat.reduceAdd]
  exact rfl
 case howe7 =>
  clear E0 h1 p2 p4 h1_4 p1_7 h2_4 p2_7 h3_4 p3_7 h4_4 p4_7 h5_2 p5_4 h6_2 p6_4
  intro hf
  refine ⟨oE 0 [] hf rfl ?_, oE 1 [] hf rfl ?_, oE 2 [0, 1] hf rfl ?_, oP1 3 [2] hf rfl, trivial⟩
  all_goals intro vs W hS hp hx KO hKO
  all_goals simp only [Act.put, sA, sZ, sS] at hKO
  ·have fc0 := hS.1.2.2.2.2.2.2.2.2.2.2.2.2.2.1.cell0; have fc1 := hS.1.2.2.2.2.2.2.2.2.2.2.2.2.2.1.cell1; have fc2 := hS.1.2.2.2.2.2.2.2.2.2.2.2.2.2.1.cell2; go_simp; exact hKO _ W (.refl W) rfl
  ·have fc0 := hS.1.2.2.2.2.2.2.2.2.2.2.2.2.2.2.2.cell0; have fc1 := hS.1.2.2.2.2.2.2.2.2.2.2.2.2.2.2.2.cell1; have fc2 := hS.1.2.2.2.2.2.2.2.2.2.2.2.2.2.2.2.cell2; go_simp; exact hKO _ W (.refl W) rfl
  ·have e0 := isOf hp.1; have e1 := isOf hp.2.1; simp only [e0, e1] at hKO; go_simp
   refine (Tryz.refRCmp (hS.1.2.2.2.2.2.2.2.2.2.2.2.2.1) (hS.1.2.2.2.2.2.2.2.2.2.2.2.2.2.2.1) SB.out.1 SB.out.2 SA.out.1 SA.out.2 (by omega)).mono ?_
   rintro e W1 ⟨rfl, hE⟩
   rw [← HN.out]
   exact hKO _ W1 hE rfl
 intro vs W7 hS hp
 clear szw7 E0 h1 p2 p4 h1_4 p1_7 h2_4 p2_7 h3_4 p3_7 h4_4 p4_7 h5_2 p5_4 h6_2 p6_4
 obtain ⟨⟨E0, h1, p2, p4, h1_4, p1_7, h2_4, p2_7, h3_4, p3_7, h4_4, p4_7, h5_2, p5_4, h6_2, p6_4⟩, sz7⟩ := hS
 obtain ⟨h7_0, h7_1, h7_2, h7_3, -⟩ := hp
 simp only [isOf h7_0, isOf h7_1, isOf h7_2, isOf h7_3]
 clear h7_0 h7_1 h7_2 h7_3
 have hcs : nn = -1 ∨ nn = 0 ∨ nn = 1 := by rw [HN.out]; split; exact Or.inl rfl; split; exact Or.inr (Or.inr rfl); exact Or.inr (Or.inl rfl)
 rcases hcs with rfl | rfl | rfl
 ·have HR : Hid (F = nearR (x * P2 K)) := Lib.hid (by
   have h := HN.out
   rw [HX.out, HY.out] at h
   have hp := part_lt (F := F) (C := C) K (rfl : x * P2 K = x * P2 K)
   have h2 : x - (F : Rat) / P2 K < (C : Rat) / P2 K - x := by
    apply Classical.byContradiction
    intro hn
    rw [if_neg hn] at h
    split at h <;> cases h
   rw [HF.out]
   refine (near_lo (Or.inl ?_)).symm
   rw [← HF.out, ← HC.out]
   exact hp.1.1 h2)
  obtain ⟨k2a, k2b, k2c⟩ := p2.c3
  obtain ⟨k4a, k4b⟩ := p4.c2
  obtain ⟨k1_7a, k1_7b⟩ := p1_7.c2
  obtain ⟨k2_7a, k2_7b⟩ := p2_7.c2
  obtain ⟨k3_7a, k3_7b, k3_7c⟩ := p3_7.c3
  obtain ⟨k4_7a, k4_7b, k4_7c⟩ := p4_7.c3
  obtain ⟨k5_4a, k5_4b, k5_4c⟩ := p5_4.c3
  obtain ⟨k6_4a, k6_4b, k6_4c⟩ := p6_4.c3
  go_upto_region 11 with (fail)
  clear k2a k2b k2c k4a k4b k1_7a k1_7b k2_7a k2_7b k3_7a k3_7b k3_7c k4_7a k4_7b k4_7c k5_4a k5_4b k5_4c k6_4a k6_4b k6_4c; have fp4 := p4.form; have szw8 := Ext.size E0
  refine region_gs [isV (.agg #[.bool b1_7, .slice a1_7 n1_7 c1_7]),
    .own fun W => Bx2 W (w.heap.size + 1) 59 (.bool b1_7) (.slice a1_7 n1_7 c1_7),
    isV (.int .i64 0)]
   (fun W => Ext w W ∧ Rw W (.agg #[.bool b1, .slice a1 n1 c1, .slice d1 m1 o1]) x ∧ Bx3 W w.heap.size 61 (.bool b1) (.slice a1 n1 c1) (.slice d1 m1 o1) ∧ Form W (w.heap.size + 1) 59 2 ∧ Zw W (.agg #[.bool b1_7, .slice a1_7 n1_7 c1_7]) F ∧ Bx2 W g1_7 59 (.bool b1_7) (.slice a1_7 n1_7 c1_7) ∧ Zw W (.agg #[.bool b2_7, .slice a2_7 n2_7 c2_7]) C ∧ Bx2 W g2_7 59 (.bool b2_7) (.slice a2_7 n2_7 c2_7) ∧ Rw W (.agg #[.bool b3_7, .slice a3_7 n3_7 c3_7, .slice d3_7 m3_7 o3_7]) X ∧ Bx3 W g3_7 61 (.bool b3_7) (.slice a3_7 n3_7 c3_7) (.slice d3_7 m3_7 o3_7) ∧ Rw W (.agg #[.bool b4_7, .slice a4_7 n4_7 c4_7, .slice d4_7 m4_7 o4_7]) Y ∧ Bx3 W g4_7 61 (.bool b4_7) (.slice a4_7 n4_7 c4_7) (.slice d4_7 m4_7 o4_7) ∧ Rw W (.agg #[.bool b5_4, .slice a5_4 n5_4 c5_4, .slice d5_4 m5_4 o5_4]) (x - X) ∧ Bx3 W g5_4 61 (.bool b5_4) (.slice a5_4 n5_4 c5_4) (.slice d5_4 m5_4 o5_4) ∧ Rw W (.agg #[.bool b6_4, .slice a6_4 n6_4 c6_4, .slice d6_4 m6_4 o6_4]) (Y - x) ∧ Bx3 W g6_4 61 (.bool b6_4) (.slice a6_4 n6_4 c6_4) (.slice d6_4 m6_4 o6_4) ∧ W7.heap.size ≤ W.heap.size) ⟨Good.is _, cert_bx2, Good.is _, trivial⟩
   ⟨E0, h1, p2, fp4, h1_4, p1_7, h2_4, p2_7, h3_4, p3_7, h4_4, p4_7, h5_2, p5_4, h6_2, p6_4, Nat.le_refl _⟩ (A := ?A8) ?hA8 ?howe8 ?hfin8
  case hA8 =>
   intro vs
   simp only [putAll, Act.put, sA, sZ, sS, Nat.zero_add, Nat.reduceAdd]
   exact rfl
  case howe8 =>
   clear E0 h1 p2 fp4 h1_4 p1_7 h2_4 p2_7 h3_4 p3_7 h4_4 p4_7 h5_2 p5_4 h6_2 p6_4
   intro hf
   refine ⟨oE 0 [] hf rfl ?_, oW 1 [0] hf rfl ?_, oP0 2 [] hf rfl, trivial⟩
   all_goals intro vs W hS hp hx KO hKO
   all_goals simp only [Act.put, sA, sZ, sS] at hKO
   ·have fc0 := hS.2.2.2.2.2.1.cell0; have fc1 := hS.2.2.2.2.2.1.cell1; go_simp; exact hKO _ W (.refl W) rfl
   ·have e0 := isOf hp.1; simp only [e0] at hKO
    have hf := hS.2.2.2.1
    obtain ⟨x0, y0, hx, hno⟩ := hf.bx2
    have r0 := hx.froz0
    have t0 := hx.cell0
    have r1 := hx.froz1
    have t1 := hx.cell1
    have hw := Wr.set2 hx hno b1_7 a1_7 n1_7 c1_7
    have hq := hx.set (.bool b1_7) (.slice a1_7 n1_7 c1_7)
    have hg : (w.heap.size + 1) ≤ (w.heap.size + 1) := Nat.le_refl _
    go_simp
    exact hKO _ _ hw ⟨(Ext.wr hS.1 hw (by omega)), (hS.2.1.wr hw), (hS.2.2.1.wr hw (by omega)), (hS.2.2.2.1.wr hw), (hS.2.2.2.2.1.wr hw), (hS.2.2.2.2.2.1.wr hw (by omega)), (hS.2.2.2.2.2.2.1.wr hw), (hS.2.2.2.2.2.2.2.1.wr hw (by omega)), (hS.2.2.2.2.2.2.2.2.1.wr hw), (hS.2.2.2.2.2.2.2.2.2.1.wr hw (by omega)), (hS.2.2.2.2.2.2.2.2.2.2.1.wr hw), (hS.2.2.2.2.2.2.2.2.2.2.2.1.wr hw (by omega)), (hS.2.2.2.2.2.2.2.2.2.2.2.2.1.wr hw), (hS.2.2.2.2.2.2.2.2.2.2.2.2.2.1.wr hw (by omega)), (hS.2.2.2.2.2.2.2.2.2.2.2.2.2.2.1.wr hw), (hS.2.2.2.2.2.2.2.2.2.2.2.2.2.2.2.1.wr hw (by omega)), (Nat.le_trans hS.2.2.2.2.2.2.2.2.2.2.2.2.2.2.2.2 hw.apart.size)⟩ hq
  intro vs W8 hS hp
  clear szw8 E0 h1 p2 fp4 h1_4 p1_7 h2_4 p2_7 h3_4 p3_7 h4_4 p4_7 h5_2 p5_4 h6_2 p6_4
  obtain ⟨E0, h1, p2, fp4, h1_4, p1_7, h2_4, p2_7, h3_4, p3_7, h4_4, p4_7, h5_2, p5_4, h6_2, p6_4, sz8⟩ := hS
  obtain ⟨h8_0, h8_1, h8_2, -⟩ := hp
  have p8_1 : Bx2 W8 (w.heap.size + 1) 59 (.bool b1_7) (.slice a1_7 n1_7 c1_7) := h8_1
  simp only [isOf h8_0, isOf h8_2]
  clear h8_0 h8_2
  obtain ⟨k2a, k2b, k2c⟩ := p2.c3
  obtain ⟨k1_7a, k1_7b⟩ := p1_7.c2
  obtain ⟨k2_7a, k2_7b⟩ := p2_7.c2
  obtain ⟨k3_7a, k3_7b, k3_7c⟩ := p3_7.c3
  obtain ⟨k4_7a, k4_7b, k4_7c⟩ := p4_7.c3
  obtain ⟨k5_4a, k5_4b, k5_4c⟩ := p5_4.c3
  obtain ⟨k6_4a, k6_4b, k6_4c⟩ := p6_4.c3
  obtain ⟨k8_1a, k8_1b⟩ := p8_1.c2
  go_wp2
  exact bodyPost_ret (v := .tuple #[.agg #[.bool b1_7, .slice a1_7 n1_7 c1_7], .int .i64 0]) (by simp [results, Tryz.results153, go_sem, k8_1a, k8_1b]) rfl ⟨_, rfl, (h1_4.eq HR.out), E0⟩
 ·have HE : Hid (x * P2 K - F = C - x * P2 K) := Lib.hid (by
   have h := HN.out
   rw [HX.out, HY.out] at h
   have hp := part_lt (F := F) (C := C) K (rfl : x * P2 K = x * P2 K)
   have h2 : ¬ x - (F : Rat) / P2 K < (C : Rat) / P2 K - x := by
    intro hn
    rw [if_pos hn] at h
    cases h
   have h3 : ¬ (C : Rat) / P2 K - x < x - (F : Rat) / P2 K := by
    intro hn
    rw [if_neg h2, if_pos hn] at h
    cases h
   rw [hp.1] at h2
   rw [hp.2] at h3
   grind)
  by_cases hodd : F % 2 ≠ 0
  ·have hO : oddB F = true := decide_eq_true hodd
   have HR : Hid (C = nearR (x * P2 K)) := Lib.hid (by rw [HC.out]; refine (near_hi (Or.inr ⟨?_, ?_⟩)).symm; rw [← HF.out, ← HC.out]; exact HE.out; rw [← HF.out]; exact hodd)
   clear hodd
   obtain ⟨k2a, k2b, k2c⟩ := p2.c3
   obtain ⟨k4a, k4b⟩ := p4.c2
   obtain ⟨k1_7a, k1_7b⟩ := p1_7.c2
   obtain ⟨k2_7a, k2_7b⟩ := p2_7.c2
   obtain ⟨k3_7a, k3_7b, k3_7c⟩ := p3_7.c3
   obtain ⟨k4_7a, k4_7b, k4_7c⟩ := p4_7.c3
   obtain ⟨k5_4a, k5_4b, k5_4c⟩ := p5_4.c3
   obtain ⟨k6_4a, k6_4b, k6_4c⟩ := p6_4.c3
   go_wp2_with fail
   clear k2a k2b k2c k4a k4b k1_7a k1_7b k2_7a k2_7b k3_7a k3_7b k3_7c k4_7a k4_7b k4_7c k5_4a k5_4b k5_4c k6_4a k6_4b k6_4c
   refine (Tryz.refOdd h1_4).mono ?_
   rintro e Wc ⟨rfl, hE⟩
   rw [hO]
   replace E0 : Ext w Wc := (Ext.trans E0 hE)
   replace h1 : Rw Wc (.agg #[.bool b1, .slice a1 n1 c1, .slice d1 m1 o1]) x := (h1.ext hE)
   replace p2 : Bx3 Wc w.heap.size 61 (.bool b1) (.slice a1 n1 c1) (.slice d1 m1 o1) := (p2.ext hE)
   replace p4 : Bx2 Wc (w.heap.size + 1) 59 (.bool false) (.slice none 0 0) := (p4.ext hE)
   replace h1_4 : Zw Wc (.agg #[.bool b1_7, .slice a1_7 n1_7 c1_7]) F := (h1_4.ext hE)
   replace p1_7 : Bx2 Wc g1_7 59 (.bool b1_7) (.slice a1_7 n1_7 c1_7) := (p1_7.ext hE)
   replace h2_4 : Zw Wc (.agg #[.bool b2_7, .slice a2_7 n2_7 c2_7]) C := (h2_4.ext hE)
   replace p2_7 : Bx2 Wc g2_7 59 (.bool b2_7) (.slice a2_7 n2_7 c2_7) := (p2_7.ext hE)
   replace h3_4 : Rw Wc (.agg #[.bool b3_7, .slice a3_7 n3_7 c3_7, .slice d3_7 m3_7 o3_7]) X := (h3_4.ext hE)
   replace p3_7 : Bx3 Wc g3_7 61 (.bool b3_7) (.slice a3_7 n3_7 c3_7) (.slice d3_7 m3_7 o3_7) := (p3_7.ext hE)
   replace h4_4 : Rw Wc (.agg #[.bool b4_7, .slice a4_7 n4_7 c4_7, .slice d4_7 m4_7 o4_7]) Y := (h4_4.ext hE)
   replace p4_7 : Bx3 Wc g4_7 61 (.bool b4_7) (.slice a4_7 n4_7 c4_7) (.slice d4_7 m4_7 o4_7) := (p4_7.ext hE)
   replace h5_2 : Rw Wc (.agg #[.bool b5_4, .slice a5_4 n5_4 c5_4, .slice d5_4 m5_4 o5_4]) (x - X) := (h5_2.ext hE)
   replace p5_4 : Bx3 Wc g5_4 61 (.bool b5_4) (.slice a5_4 n5_4 c5_4) (.slice d5_4 m5_4 o5_4) := (p5_4.ext hE)
   replace h6_2 : Rw Wc (.agg #[.bool b6_4, .slice a6_4 n6_4 c6_4, .slice d6_4 m6_4 o6_4]) (Y - x) := (h6_2.ext hE)
   replace p6_4 : Bx3 Wc g6_4 61 (.bool b6_4) (.slice a6_4 n6_4 c6_4) (.slice d6_4 m6_4 o6_4) := (p6_4.ext hE)
   clear hE
   obtain ⟨k2a, k2b, k2c⟩ := p2.c3
   obtain ⟨k4a, k4b⟩ := p4.c2
   obtain ⟨k1_7a, k1_7b⟩ := p1_7.c2
   obtain ⟨k2_7a, k2_7b⟩ := p2_7.c2
   obtain ⟨k3_7a, k3_7b, k3_7c⟩ := p3_7.c3
   obtain ⟨k4_7a, k4_7b, k4_7c⟩ := p4_7.c3
   obtain ⟨k5_4a, k5_4b, k5_4c⟩ := p5_4.c3
   obtain ⟨k6_4a, k6_4b, k6_4c⟩ := p6_4.c3
   go_upto_region 12 with (fail)
   clear k2a k2b k2c k4a k4b k1_7a k1_7b k2_7a k2_7b k3_7a k3_7b k3_7c k4_7a k4_7b k4_7c k5_4a k5_4b k5_4c k6_4a k6_4b k6_4c; have fp4 := p4.form; have szw9 := Ext.size E0
   refine region_gs [isV (.agg #[.bool b2_7, .slice a2_7 n2_7 c2_7]),
     .own fun W => Bx2 W (w.heap.size + 1) 59 (.bool b2_7) (.slice a2_7 n2_7 c2_7),
     isV (.int .i64 0)]
    (fun W => Ext w W ∧ Rw W (.agg #[.bool b1, .slice a1 n1 c1, .slice d1 m1 o1]) x ∧ Bx3 W w.heap.size 61 (.bool b1) (.slice a1 n1 c1) (.slice d1 m1 o1) ∧ Form W (w.heap.size + 1) 59 2 ∧ Zw W (.agg #[.bool b1_7, .slice a1_7 n1_7 c1_7]) F ∧ Bx2 W g1_7 59 (.bool b1_7) (.slice a1_7 n1_7 c1_7) ∧ Zw W (.agg #[.bool b2_7, .slice a2_7 n2_7 c2_7]) C ∧ Bx2 W g2_7 59 (.bool b2_7) (.slice a2_7 n2_7 c2_7) ∧ Rw W (.agg #[.bool b3_7, .slice a3_7 n3_7 c3_7, .slice d3_7 m3_7 o3_7]) X ∧ Bx3 W g3_7 61 (.bool b3_7) (.slice a3_7 n3_7 c3_7) (.slice d3_7 m3_7 o3_7) ∧ Rw W (.agg #[.bool b4_7, .slice a4_7 n4_7 c4_7, .slice d4_7 m4_7 o4_7]) Y ∧ Bx3 W g4_7 61 (.bool b4_7) (.slice a4_7 n4_7 c4_7) (.slice d4_7 m4_7 o4_7) ∧ Rw W (.agg #[.bool b5_4, .slice a5_4 n5_4 c5_4, .slice d5_4 m5_4 o5_4]) (x - X) ∧ Bx3 W g5_4 61 (.bool b5_4) (.slice a5_4 n5_4 c5_4) (.slice d5_4 m5_4 o5_4) ∧ Rw W (.agg #[.bool b6_4, .slice a6_4 n6_4 c6_4, .slice d6_4 m6_4 o6_4]) (Y - x) ∧ Bx3 W g6_4 61 (.bool b6_4) (.slice a6_4 n6_4 c6_4) (.slice d6_4 m6_4 o6_4) ∧ Wc.heap.size ≤ W.heap.size) ⟨Good.is _, cert_bx2, Good.is _, trivial⟩
    ⟨E0, h1, p2, fp4, h1_4, p1_7, h2_4, p2_7, h3_4, p3_7, h4_4, p4_7, h5_2, p5_4, h6_2, p6_4, Nat.le_refl _⟩ (A := ?A9) ?hA9 ?howe9 ?hfin9
   case hA9 =>
    intro vs
    simp only [putAll, Act.put, sA, sZ, sS, Nat.zero_add, Nat.reduceAdd]
    exact rfl
   case howe9 =>
    clear E0 h1 p2 fp4 h1_4 p1_7 h2_4 p2_7 h3_4 p3_7 h4_4 p4_7 h5_2 p5_4 h6_2 p6_4
    intro hf
    refine ⟨oE 0 [] hf rfl ?_, oW 1 [0] hf rfl ?_, oP0 2 [] hf rfl, trivial⟩
    all_goals intro vs W hS hp hx KO hKO
    all_goals simp only [Act.put, sA, sZ, sS] at hKO
    ·have fc0 := hS.2.2.2.2.2.2.2.1.cell0; have fc1 := hS.2.2.2.2.2.2.2.1.cell1; go_simp; exact hKO _ W (.refl W) rfl
    ·have e0 := isOf hp.1; simp only [e0] at hKO
     have hf := hS.2.2.2.1
     obtain ⟨x0, y0, hx, hno⟩ := hf.bx2
     have r0 := hx.froz0
     have t0 := hx.cell0
     have r1 := hx.froz1
     have t1 := hx.cell1
     have hw := Wr.set2 hx hno b2_7 a2_7 n2_7 c2_7
     have hq := hx.set (.bool b2_7) (.slice a2_7 n2_7 c2_7)
     have hg : (w.heap.size + 1) ≤ (w.heap.size + 1) := Nat.le_refl _
     go_simp
     exact hKO _ _ hw ⟨(Ext.wr hS.1 hw (by omega)), (hS.2.1.wr hw), (hS.2.2.1.wr hw (by omega)), (hS.2.2.2.1.wr hw), (hS.2.2.2.2.1.wr hw), (hS.2.2.2.2.2.1.wr hw (by omega)), (hS.2.2.2.2.2.2.1.wr hw), (hS.2.2.2.2.2.2.2.1.wr hw (by omega)), (hS.2.2.2.2.2.2.2.2.1.wr hw), (hS.2.2.2.2.2.2.2.2.2.1.wr hw (by omega)), (hS.2.2.2.2.2.2.2.2.2.2.1.wr hw), (hS.2.2.2.2.2.2.2.2.2.2.2.1.wr hw (by omega)), (hS.2.2.2.2.2.2.2.2.2.2.2.2.1.wr hw), (hS.2.2.2.2.2.2.2.2.2.2.2.2.2.1.wr hw (by omega)), (hS.2.2.2.2.2.2.2.2.2.2.2.2.2.2.1.wr hw), (hS.2.2.2.2.2.2.2.2.2.2.2.2.2.2.2.1.wr hw (by omega)), (Nat.le_trans hS.2.2.2.2.2.2.2.2.2.2.2.2.2.2.2.2 hw.apart.size)⟩ hq
   intro vs W9 hS hp
   clear szw9 E0 h1 p2 fp4 h1_4 p1_7 h2_4 p2_7 h3_4 p3_7 h4_4 p4_7 h5_2 p5_4 h6_2 p6_4
   obtain ⟨E0, h1, p2, fp4, h1_4, p1_7, h2_4, p2_7, h3_4, p3_7, h4_4, p4_7, h5_2, p5_4, h6_2, p6_4, sz9⟩ := hS
   obtain ⟨h9_0, h9_1, h9_2, -⟩ := hp
   have p9_1 : Bx2 W9 (w.heap.size + 1) 59 (.bool b2_7) (.slice a2_7 n2_7 c2_7) := h9_1
   simp only [isOf h9_0, isOf h9_2]
   clear h9_0 h9_2
   obtain ⟨k2a, k2b, k2c⟩ := p2.c3
   obtain ⟨k1_7a, k1_7b⟩ := p1_7.c2
   obtain ⟨k2_7a, k2_7b⟩ := p2_7.c2
   obtain ⟨k3_7a, k3_7b, k3_7c⟩ := p3_7.c3
   obtain ⟨k4_7a, k4_7b, k4_7c⟩ := p4_7.c3
   obtain ⟨k5_4a, k5_4b, k5_4c⟩ := p5_4.c3
   obtain ⟨k6_4a, k6_4b, k6_4c⟩ := p6_4.c3
   obtain ⟨k9_1a, k9_1b⟩ := p9_1.c2
   go_wp2
   exact bodyPost_ret (v := .tuple #[.agg #[.bool b2_7, .slice a2_7 n2_7 c2_7], .int .i64 0]) (by simp [results, Tryz.results153, go_sem, k9_1a, k9_1b]) rfl ⟨_, rfl, (h2_4.eq HR.out), E0⟩
  ·have hO : oddB F = false := decide_eq_false hodd
   have HR : Hid (F = nearR (x * P2 K)) := Lib.hid (by rw [HF.out]; refine (near_lo (Or.inr ⟨?_, ?_⟩)).symm; rw [← HF.out, ← HC.out]; exact HE.out; rw [← HF.out]; omega)
   clear hodd
   obtain ⟨k2a, k2b, k2c⟩ := p2.c3
   obtain ⟨k4a, k4b⟩ := p4.c2
   obtain ⟨k1_7a, k1_7b⟩ := p1_7.c2
   obtain ⟨k2_7a, k2_7b⟩ := p2_7.c2
   obtain ⟨k3_7a, k3_7b, k3_7c⟩ := p3_7.c3
   obtain ⟨k4_7a, k4_7b, k4_7c⟩ := p4_7.c3
   obtain ⟨k5_4a, k5_4b, k5_4c⟩ := p5_4.c3
   obtain ⟨k6_4a, k6_4b, k6_4c⟩ := p6_4.c3
   go_wp2_with fail
   clear k2a k2b k2c k4a k4b k1_7a k1_7b k2_7a k2_7b k3_7a k3_7b k3_7c k4_7a k4_7b k4_7c k5_4a k5_4b k5_4c k6_4a k6_4b k6_4c
   refine (Tryz.refOdd h1_4).mono ?_
   rintro e Wc ⟨rfl, hE⟩
   rw [hO]
   replace E0 : Ext w Wc := (Ext.trans E0 hE)
   replace h1 : Rw Wc (.agg #[.bool b1, .slice a1 n1 c1, .slice d1 m1 o1]) x := (h1.ext hE)
   replace p2 : Bx3 Wc w.heap.size 61 (.bool b1) (.slice a1 n1 c1) (.slice d1 m1 o1) := (p2.ext hE)
   replace p4 : Bx2 Wc (w.heap.size + 1) 59 (.bool false) (.slice none 0 0) := (p4.ext hE)
   replace h1_4 : Zw Wc (.agg #[.bool b1_7, .slice a1_7 n1_7 c1_7]) F := (h1_4.ext hE)
   replace p1_7 : Bx2 Wc g1_7 59 (.bool b1_7) (.slice a1_7 n1_7 c1_7) := (p1_7.ext hE)
   replace h2_4 : Zw Wc (.agg #[.bool b2_7, .slice a2_7 n2_7 c2_7]) C := (h2_4.ext hE)
   replace p2_7 : Bx2 Wc g2_7 59 (.bool b2_7) (.slice a2_7 n2_7 c2_7) := (p2_7.ext hE)
   replace h3_4 : Rw Wc (.agg #[.bool b3_7, .slice a3_7 n3_7 c3_7, .slice d3_7 m3_7 o3_7]) X := (h3_4.ext hE)
   replace p3_7 : Bx3 Wc g3_7 61 (.bool b3_7) (.slice a3_7 n3_7 c3_7) (.slice d3_7 m3_7 o3_7) := (p3_7.ext hE)
   replace h4_4 : Rw Wc (.agg #[.bool b4_7, .slice a4_7 n4_7 c4_7, .slice d4_7 m4_7 o4_7]) Y := (h4_4.ext hE)
   replace p4_7 : Bx3 Wc g4_7 61 (.bool b4_7) (.slice a4_7 n4_7 c4_7) (.slice d4_7 m4_7 o4_7) := (p4_7.ext hE)
   replace h5_2 : Rw Wc (.agg #[.bool b5_4, .slice a5_4 n5_4 c5_4, .slice d5_4 m5_4 o5_4]) (x - X) := (h5_2.ext hE)
   replace p5_4 : Bx3 Wc g5_4 61 (.bool b5_4) (.slice a5_4 n5_4 c5_4) (.slice d5_4 m5_4 o5_4) := (p5_4.ext hE)
   replace h6_2 : Rw Wc (.agg #[.bool b6_4, .slice a6_4 n6_4 c6_4, .slice d6_4 m6_4 o6_4]) (Y - x) := (h6_2.ext hE)
   replace p6_4 : Bx3 Wc g6_4 61 (.bool b6_4) (.slice a6_4 n6_4 c6_4) (.slice d6_4 m6_4 o6_4) := (p6_4.ext hE)
   clear hE
   obtain ⟨k2a, k2b, k2c⟩ := p2.c3
   obtain ⟨k4a, k4b⟩ := p4.c2
   obtain ⟨k1_7a, k1_7b⟩ := p1_7.c2
   obtain ⟨k2_7a, k2_7b⟩ := p2_7.c2
   obtain ⟨k3_7a, k3_7b, k3_7c⟩ := p3_7.c3
   obtain ⟨k4_7a, k4_7b, k4_7c⟩ := p4_7.c3
   obtain ⟨k5_4a, k5_4b, k5_4c⟩ := p5_4.c3
   obtain ⟨k6_4a, k6_4b, k6_4c⟩ := p6_4.c3
   go_upto_region 11 with (fail)
   clear k2a k2b k2c k4a k4b k1_7a k1_7b k2_7a k2_7b k3_7a k3_7b k3_7c k4_7a k4_7b k4_7c k5_4a k5_4b k5_4c k6_4a k6_4b k6_4c; have fp4 := p4.form; have szw10 := Ext.size E0
   refine region_gs [isV (.agg #[.bool b1_7, .slice a1_7 n1_7 c1_7]),
     .own fun W => Bx2 W (w.heap.size + 1) 59 (.bool b1_7) (.slice a1_7 n1_7 c1_7),
     isV (.int .i64 0)]
    (fun W => Ext w W ∧ Rw W (.agg #[.bool b1, .slice a1 n1 c1, .slice d1 m1 o1]) x ∧ Bx3 W w.heap.size 61 (.bool b1) (.slice a1 n1 c1) (.slice d1 m1 o1) ∧ Form W (w.heap.size + 1) 59 2 ∧ Zw W (.agg #[.bool b1_7, .slice a1_7 n1_7 c1_7]) F ∧ Bx2 W g1_7 59 (.bool b1_7) (.slice a1_7 n1_7 c1_7) ∧ Zw W (.agg #[.bool b2_7, .slice a2_7 n2_7 c2_7]) C ∧ Bx2 W g2_7 59 (.bool b2_7) (.slice a2_7 n2_7 c2_7) ∧ Rw W (.agg #[.bool b3_7, .slice a3_7 n3_7 c3_7, .slice d3_7 m3_7 o3_7]) X ∧ Bx3 W g3_7 61 (.bool b3_7) (.slice a3_7 n3_7 c3_7) (.slice d3_7 m3_7 o3_7) ∧ Rw W (.agg #[.bool b4_7, .slice a4_7 n4_7 c4_7, .slice d4_7 m4_7 o4_7]) Y ∧ Bx3 W g4_7 61 (.bool b4_7) (.slice a4_7 n4_7 c4_7) (.slice d4_7 m4_7 o4_7) ∧ Rw W (.agg #[.bool b5_4, .slice a5_4 n5_4 c5_4, .slice d5_4 m5_4 o5_4]) (x - X) ∧ Bx3 W g5_4 61 (.bool b5_4) (.slice a5_4 n5_4 c5_4) (.slice d5_4 m5_4 o5_4) ∧ Rw W (.agg #[.bool b6_4, .slice a6_4 n6_4 c6_4, .slice d6_4 m6_4 o6_4]) (Y - x) ∧ Bx3 W g6_4 61 (.bool b6_4) (.slice a6_4 n6_4 c6_4) (.slice d6_4 m6_4 o6_4) ∧ Wc.heap.size ≤ W.heap.size) ⟨Good.is _, cert_bx2, Good.is _, trivial⟩
    ⟨E0, h1, p2, fp4, h1_4, p1_7, h2_4, p2_7, h3_4, p3_7, h4_4, p4_7, h5_2, p5_4, h6_2, p6_4, Nat.le_refl _⟩ (A := ?A10) ?hA10 ?howe10 ?hfin10
   case hA10 =>
    intro vs
    simp only [putAll, Act.put, sA, sZ, sS, Nat.zero_add, Nat.reduceAdd]
    exact rfl
   case howe10 =>
    clear E0 h1 p2 fp4 h1_4 p1_7 h2_4 p2_7 h3_4 p3_7 h4_4 p4_7 h5_2 p5_4 h6_2 p6_4
    intro hf
    refine ⟨oE 0 [] hf rfl ?_, oW 1 [0] hf rfl ?_, oP0 2 [] hf rfl, trivial⟩
    all_goals intro vs W hS hp hx KO hKO
    all_goals simp only [Act.put, sA, sZ, sS] at hKO
    ·have fc0 := hS.2.2.2.2.2.1.cell0; have fc1 := hS.2.2.2.2.2.1.cell1; go_simp; exact hKO _ W (.refl W) rfl
    ·have e0 := isOf hp.1; simp only [e0] at hKO
     have hf := hS.2.2.2.1
     obtain ⟨x0, y0, hx, hno⟩ := hf.bx2
     have r0 := hx.froz0
     have t0 := hx.cell0
     have r1 := hx.froz1
     have t1 := hx.cell1
     have hw := Wr.set2 hx hno b1_7 a1_7 n1_7 c1_7
     have hq := hx.set (.bool b1_7) (.slice a1_7 n1_7 c1_7)
     have hg : (w.heap.size + 1) ≤ (w.heap.size + 1) := Nat.le_refl _
     go_simp
     exact hKO _ _ hw ⟨(Ext.wr hS.1 hw (by omega)), (hS.2.1.wr hw), (hS.2.2.1.wr hw (by omega)), (hS.2.2.2.1.wr hw), (hS.2.2.2.2.1.wr hw), (hS.2.2.2.2.2.1.wr hw (by omega)), (hS.2.2.2.2.2.2.1.wr hw), (hS.2.2.2.2.2.2.2.1.wr hw (by omega)), (hS.2.2.2.2.2.2.2.2.1.wr hw), (hS.2.2.2.2.2.2.2.2.2.1.wr hw (by omega)), (hS.2.2.2.2.2.2.2.2.2.2.1.wr hw), (hS.2.2.2.2.2.2.2.2.2.2.2.1.wr hw (by omega)), (hS.2.2.2.2.2.2.2.2.2.2.2.2.1.wr hw), (hS.2.2.2.2.2.2.2.2.2.2.2.2.2.1.wr hw (by omega)), (hS.2.2.2.2.2.2.2.2.2.2.2.2.2.2.1.wr hw), (hS.2.2.2.2.2.2.2.2.2.2.2.2.2.2.2.1.wr hw (by omega)), (Nat.le_trans hS.2.2.2.2.2.2.2.2.2.2.2.2.2.2.2.2 hw.apart.size)⟩ hq
   intro vs W10 hS hp
   clear szw10 E0 h1 p2 fp4 h1_4 p1_7 h2_4 p2_7 h3_4 p3_7 h4_4 p4_7 h5_2 p5_4 h6_2 p6_4
   obtain ⟨E0, h1, p2, fp4, h1_4, p1_7, h2_4, p2_7, h3_4, p3_7, h4_4, p4_7, h5_2, p5_4, h6_2, p6_4, sz10⟩ := hS
   obtain ⟨h10_0, h10_1, h10_2, -⟩ := hp
   have p10_1 : Bx2 W10 (w.heap.size + 1) 59 (.bool b1_7) (.slice a1_7 n1_7 c1_7) := h10_1
   simp only [isOf h10_0, isOf h10_2]
   clear h10_0 h10_2
   obtain ⟨k2a, k2b, k2c⟩ := p2.c3
   obtain ⟨k1_7a, k1_7b⟩ := p1_7.c2
   obtain ⟨k2_7a, k2_7b⟩ := p2_7.c2
   obtain ⟨k3_7a, k3_7b, k3_7c⟩ := p3_7.c3
   obtain ⟨k4_7a, k4_7b, k4_7c⟩ := p4_7.c3
   obtain ⟨k5_4a, k5_4b, k5_4c⟩ := p5_4.c3
   obtain ⟨k6_4a, k6_4b, k6_4c⟩ := p6_4.c3
   obtain ⟨k10_1a, k10_1b⟩ := p10_1.c2
   go_wp2
   exact bodyPost_ret (v := .tuple #[.agg #[.bool b1_7, .slice a1_7 n1_7 c1_7], .int .i64 0]) (by simp [results, Tryz.results153, go_sem, k10_1a, k10_1b]) rfl ⟨_, rfl, (h1_4.eq HR.out), E0⟩
 ·have HR : Hid (C = nearR (x * P2 K)) := Lib.hid (by
   have h := HN.out
   rw [HX.out, HY.out] at h
   have hp := part_lt (F := F) (C := C) K (rfl : x * P2 K = x * P2 K)
   have h2 : (C : Rat) / P2 K - x < x - (F : Rat) / P2 K := by
    apply Classical.byContradiction
    intro hn
    rw [if_neg hn] at h
    split at h <;> cases h
   rw [HC.out]
   refine (near_hi (Or.inl ?_)).symm
   rw [← HF.out, ← HC.out]
   exact hp.2.1 h2)
  obtain ⟨k2a, k2b, k2c⟩ := p2.c3
  obtain ⟨k4a, k4b⟩ := p4.c2
  obtain ⟨k1_7a, k1_7b⟩ := p1_7.c2
  obtain ⟨k2_7a, k2_7b⟩ := p2_7.c2
  obtain ⟨k3_7a, k3_7b, k3_7c⟩ := p3_7.c3
  obtain ⟨k4_7a, k4_7b, k4_7c⟩ := p4_7.c3
  obtain ⟨k5_4a, k5_4b, k5_4c⟩ := p5_4.c3
  obtain ⟨k6_4a, k6_4b, k6_4c⟩ := p6_4.c3
  go_upto_region 12 with (fail)
  clear k2a k2b k2c k4a k4b k1_7a k1_7b k2_7a k2_7b k3_7a k3_7b k3_7c k4_7a k4_7b k4_7c k5_4a k5_4b k5_4c k6_4a k6_4b k6_4c; have fp4 := p4.form; have szw11 := Ext.size E0
  refine region_gs [isV (.agg #[.bool b2_7, .slice a2_7 n2_7 c2_7]),
    .own fun W => Bx2 W (w.heap.size + 1) 59 (.bool b2_7) (.slice a2_7 n2_7 c2_7),
    isV (.int .i64 0)]
   (fun W => Ext w W ∧ Rw W (.agg #[.bool b1, .slice a1 n1 c1, .slice d1 m1 o1]) x ∧ Bx3 W w.heap.size 61 (.bool b1) (.slice a1 n1 c1) (.slice d1 m1 o1) ∧ Form W (w.heap.size + 1) 59 2 ∧ Zw W (.agg #[.bool b1_7, .slice a1_7 n1_7 c1_7]) F ∧ Bx2 W g1_7 59 (.bool b1_7) (.slice a1_7 n1_7 c1_7) ∧ Zw W (.agg #[.bool b2_7, .slice a2_7 n2_7 c2_7]) C ∧ Bx2 W g2_7 59 (.bool b2_7) (.slice a2_7 n2_7 c2_7) ∧ Rw W (.agg #[.bool b3_7, .slice a3_7 n3_7 c3_7, .slice d3_7 m3_7 o3_7]) X ∧ Bx3 W g3_7 61 (.bool b3_7) (.slice a3_7 n3_7 c3_7) (.slice d3_7 m3_7 o3_7) ∧ Rw W (.agg #[.bool b4_7, .slice a4_7 n4_7 c4_7, .slice d4_7 m4_7 o4_7]) Y ∧ Bx3 W g4_7 61 (.bool b4_7) (.slice a4_7 n4_7 c4_7) (.slice d4_7 m4_7 o4_7) ∧ Rw W (.agg #[.bool b5_4, .slice a5_4 n5_4 c5_4, .slice d5_4 m5_4 o5_4]) (x - X) ∧ Bx3 W g5_4 61 (.bool b5_4) (.slice a5_4 n5_4 c5_4) (.slice d5_4 m5_4 o5_4) ∧ Rw W (.agg #[.bool b6_4, .slice a6_4 n6_4 c6_4, .slice d6_4 m6_4 o6_4]) (Y - x) ∧ Bx3 W g6_4 61 (.bool b6_4) (.slice a6_4 n6_4 c6_4) (.slice d6_4 m6_4 o6_4) ∧ W7.heap.size ≤ W.heap.size) ⟨Good.is _, cert_bx2, Good.is _, trivial⟩
   ⟨E0, h1, p2, fp4, h1_4, p1_7, h2_4, p2_7, h3_4, p3_7, h4_4, p4_7, h5_2, p5_4, h6_2, p6_4, Nat.le_refl _⟩ (A := ?A11) ?hA11 ?howe11 ?hfin11
  case hA11 =>
   intro vs
   simp only [putAll, Act.put, sA, sZ, sS, Nat.zero_add, Nat.reduceAdd]
   exact rfl
  case howe11 =>
   clear E0 h1 p2 fp4 h1_4 p1_7 h2_4 p2_7 h3_4 p3_7 h4_4 p4_7 h5_2 p5_4 h6_2 p6_4
   intro hf
   refine ⟨oE 0 [] hf rfl ?_, oW 1 [0] hf rfl ?_, oP0 2 [] hf rfl, trivial⟩
   all_goals intro vs W hS hp hx KO hKO
   all_goals simp only [Act.put, sA, sZ, sS] at hKO
   ·have fc0 := hS.2.2.2.2.2.2.2.1.cell0; have fc1 := hS.2.2.2.2.2.2.2.1.cell1; go_simp; exact hKO _ W (.refl W) rfl
   ·have e0 := isOf hp.1; simp only [e0] at hKO
    have hf := hS.2.2.2.1
    obtain ⟨x0, y0, hx, hno⟩ := hf.bx2
    have r0 := hx.froz0
    have t0 := hx.cell0
    have r1 := hx.froz1
    have t1 := hx.cell1
    have hw := Wr.set2 hx hno b2_7 a2_7 n2_7 c2_7
    have hq := hx.set (.bool b2_7) (.slice a2_7 n2_7 c2_7)
    have hg : (w.heap.size + 1) ≤ (w.heap.size + 1) := Nat.le_refl _
    go_simp
    exact hKO _ _ hw ⟨(Ext.wr hS.1 hw (by omega)), (hS.2.1.wr hw), (hS.2.2.1.wr hw (by omega)), (hS.2.2.2.1.wr hw), (hS.2.2.2.2.1.wr hw), (hS.2.2.2.2.2.1.wr hw (by omega)), (hS.2.2.2.2.2.2.1.wr hw), (hS.2.2.2.2.2.2.2.1.wr hw (by omega)), (hS.2.2.2.2.2.2.2.2.1.wr hw), (hS.2.2.2.2.2.2.2.2.2.1.wr hw (by omega)), (hS.2.2.2.2.2.2.2.2.2.2.1.wr hw), (hS.2.2.2.2.2.2.2.2.2.2.2.1.wr hw (by omega)), (hS.2.2.2.2.2.2.2.2.2.2.2.2.1.wr hw), (hS.2.2.2.2.2.2.2.2.2.2.2.2.2.1.wr hw (by omega)), (hS.2.2.2.2.2.2.2.2.2.2.2.2.2.2.1.wr hw), (hS.2.2.2.2.2.2.2.2.2.2.2.2.2.2.2.1.wr hw (by omega)), (Nat.le_trans hS.2.2.2.2.2.2.2.2.2.2.2.2.2.2.2.2 hw.apart.size)⟩ hq
  intro vs W11 hS hp
  clear szw11 E0 h1 p2 fp4 h1_4 p1_7 h2_4 p2_7 h3_4 p3_7 h4_4 p4_7 h5_2 p5_4 h6_2 p6_4
  obtain ⟨E0, h1, p2, fp4, h1_4, p1_7, h2_4, p2_7, h3_4, p3_7, h4_4, p4_7, h5_2, p5_4, h6_2, p6_4, sz11⟩ := hS
  obtain ⟨h11_0, h11_1, h11_2, -⟩ := hp
  have p11_1 : Bx2 W11 (w.heap.size + 1) 59 (.bool b2_7) (.slice a2_7 n2_7 c2_7) := h11_1
  simp only [isOf h11_0, isOf h11_2]
  clear h11_0 h11_2
  obtain ⟨k2a, k2b, k2c⟩ := p2.c3
  obtain ⟨k1_7a, k1_7b⟩ := p1_7.c2
  obtain ⟨k2_7a, k2_7b⟩ := p2_7.c2
  obtain ⟨k3_7a, k3_7b, k3_7c⟩ := p3_7.c3
  obtain ⟨k4_7a, k4_7b, k4_7c⟩ := p4_7.c3
  obtain ⟨k5_4a, k5_4b, k5_4c⟩ := p5_4.c3
  obtain ⟨k6_4a, k6_4b, k6_4c⟩ := p6_4.c3
  obtain ⟨k11_1a, k11_1b⟩ := p11_1.c2
  go_wp2
  exact bodyPost_ret (v := .tuple #[.agg #[.bool b2_7, .slice a2_7 n2_7 c2_7], .int .i64 0]) (by simp [results, Tryz.results153, go_sem, k11_1a, k11_1b]) rfl ⟨_, rfl, (h2_4.eq HR.out), E0⟩

end Go.Rt
