/-
 Intervals: rounded outward; roots, by definition; what is refused.
-/
import Derived.Test.YthmncdhibcoiaaaGreatSqz
import Derived.Test.YthmncdhibcoiaaaGreatIvC
namespace Go.Rt
open Go Go.RowKit Go.Proofs

noncomputable def outS (p : Rat × Rat) (K : Nat) : Rat × Rat := (((p.1 * P2 K).floor : Rat) / P2 K, ((p.2 * P2 K).ceil : Rat) / P2 K)

theorem cmpR_lt0 {x y : Rat} : cmpR x y < 0 ↔ x < y := by
 unfold cmpR
 split
 ·rename_i h; exact ⟨fun _ => h, fun _ => by omega⟩
 ·rename_i h
  split
  ·exact ⟨fun h1 => absurd h1 (by omega), fun h1 => absurd h1 h⟩
  ·exact ⟨fun h1 => absurd h1 (by omega), fun h1 => absurd h1 h⟩

theorem P2_gt (K : Nat) : 0 < P2 K := by unfold P2; exact_mod_cast Nat.pow_pos (by omega)

theorem ceil_sm {L : Nat} {x : Rat} (h : SmR L x) (K : Nat) : Sm (L + (K / 64 + 2)) (x * P2 K).ceil.natAbs := by
 rw [ceil_eq, Int.natAbs_neg]
 exact Sm.floor h.neg K

/-- a number that is so many 2^K ths, squared, compared -/
theorem sq_lt {n A d K : Nat} {x : Rat} (hx : x = (A : Rat) / ((d : Rat) * (P2 K * P2 K))) (hd : 0 < d) : ((((n : Nat) : Int) : Rat) / P2 K * ((((n : Nat) : Int) : Rat) / P2 K) < x) ↔ n * n * d < A := by
 have hp := P2_gt K
 have hd2 : (0 : Rat) < (d : Rat) := by exact_mod_cast hd
 have hpp : (0 : Rat) < P2 K * P2 K := Rat.mul_pos hp hp
 have hq : (0 : Rat) < (d : Rat) * (P2 K * P2 K) := Rat.mul_pos hd2 hpp
 have ne1 : P2 K ≠ 0 := fun e => by rw [e] at hp; exact absurd hp (by decide)
 have ne2 : (d : Rat) * (P2 K * P2 K) ≠ 0 := fun e => by rw [e] at hq; exact absurd hq (by decide)
 rw [Rat.intCast_natCast]
 obtain ⟨y, hy⟩ : ∃ y, y = (n : Rat) / P2 K := ⟨_, rfl⟩
 have ey : y * P2 K = (n : Rat) := by rw [hy]; exact Rat.div_mul_cancel ne1
 have ex : x * ((d : Rat) * (P2 K * P2 K)) = (A : Rat) := by rw [hx]; exact Rat.div_mul_cancel ne2
 rw [← hy]
 have e1 : y * y * ((d : Rat) * (P2 K * P2 K)) = (((n * n * d : Nat)) : Rat) := by
  rw [Rat.natCast_mul, Rat.natCast_mul, ← ey]
  grind
 rw [← Rat.mul_lt_mul_right hq, e1, ex]
 exact_mod_cast Iff.rfl

theorem num_sq {x : Rat} (h : 0 ≤ x) (K : Nat) : x = (((x.num.natAbs * 2 ^ (2 * K) : Nat)) : Rat) / ((x.den : Rat) * (P2 K * P2 K)) := by
 have hp := P2_gt K
 have hpp : (0 : Rat) < P2 K * P2 K := Rat.mul_pos hp hp
 have ne : P2 K * P2 K ≠ 0 := fun e => by rw [e] at hpp; exact absurd hpp (by decide)
 have hd : (x.den : Rat) ≠ 0 := by exact_mod_cast x.den_nz
 have e1 : x = (x.num : Rat) / (x.den : Rat) := (Rat.mkRat_self x).symm.trans (Rat.mkRat_eq_div _ _)
 have e2 : ((x.num.natAbs : Nat) : Rat) = (x.num : Rat) := by
  have := Rat.num_nonneg.2 h
  rw [← Rat.intCast_natCast, show ((x.num.natAbs : Nat) : Int) = x.num by omega]
 have e3 : (((2 ^ (2 * K) : Nat)) : Rat) = P2 K * P2 K := by
  unfold P2
  rw [← Rat.natCast_mul, ← Nat.pow_add, Nat.two_mul]
 rw [Rat.natCast_mul, e2, e3]
 have hd2 : (0 : Rat) < (x.den : Rat) := by exact_mod_cast Nat.pos_of_ne_zero x.den_nz
 have hqp : (0 : Rat) < (x.den : Rat) * (P2 K * P2 K) := Rat.mul_pos hd2 hpp
 have hq : (x.den : Rat) * (P2 K * P2 K) ≠ 0 := fun e => by rw [e] at hqp; exact absurd hqp (by decide)
 have key : (x.num : Rat) / (x.den : Rat) * (x.den : Rat) = (x.num : Rat) := Rat.div_mul_cancel hd
 rw [← e1] at key
 have k2 : x * ((x.den : Rat) * (P2 K * P2 K)) = (x.num : Rat) * (P2 K * P2 K) := by rw [← Rat.mul_assoc, key]
 rw [← k2, Rat.mul_div_cancel hq]

/-- the upper end by definition is that of the program -/
theorem sq_up {x : Rat} (h : 0 ≤ x) (K : Nat) : sqHi x K = if ((((sqLo x K : Nat) : Int) : Rat) / P2 K * ((((sqLo x K : Nat) : Int) : Rat) / P2 K) < x) then sqLo x K + 1 else sqLo x K := by
 have hlt := sq_lt (n := sqLo x K) (num_sq h K) (Nat.pos_of_ne_zero x.den_nz)
 obtain ⟨A, hA⟩ : ∃ A, A = x.num.natAbs * 2 ^ (2 * K) := ⟨_, rfl⟩
 obtain ⟨d, hd⟩ : ∃ d, d = x.den := ⟨_, rfl⟩
 have hd0 : 0 < d := by rw [hd]; exact Nat.pos_of_ne_zero x.den_nz
 rw [← hA, ← hd] at hlt
 have hH : sqHi x K = rtUp (A / d + (if A % d = 0 then 0 else 1)) 2 := by unfold sqHi; rw [← hA, ← hd, rootU_in (by omega)]; rfl
 have hL : sqLo x K = rt (A / d) 2 := by unfold sqLo rootV; rw [← hA, ← hd, if_pos (by omega)]; rfl
 obtain ⟨n, hn⟩ : ∃ n, n = sqLo x K := ⟨_, rfl⟩
 rw [← hn] at hlt hL ⊢
 rw [hH]
 have lo : n * n ≤ A / d := by
  have h1 := (rt_le_iff (a := A / d) (k := 2) (s := n - 1) (by decide))
  rcases Nat.eq_zero_or_pos n with h0 | h0
  ·rw [h0]; exact Nat.zero_le _
  ·rw [← hL] at h1
   have h2 : ¬ A / d < (n - 1 + 1) ^ 2 := fun h3 => by have := h1.2 h3; omega
   rw [show n - 1 + 1 = n by omega, Nat.pow_two] at h2
   omega
 have hi : A / d < (n + 1) * (n + 1) := by
  have h1 := (rt_le_iff (a := A / d) (k := 2) (s := n) (by decide)).1 (by rw [← hL]; exact Nat.le_refl _)
  rw [Nat.pow_two] at h1
  exact h1
 have hdm := Nat.div_add_mod A d
 have hml := Nat.mod_lt A hd0
 obtain ⟨q, hq⟩ : ∃ q, q = A / d := ⟨_, rfl⟩
 obtain ⟨r, hr⟩ : ∃ r, r = A % d := ⟨_, rfl⟩
 rw [← hq, ← hr] at hdm
 rw [← hr] at hml
 rw [← hq] at lo hi
 rw [← hq, ← hr]
 have up : ∀ s, rtUp (q + if r = 0 then 0 else 1) 2 ≤ s ↔ (q + if r = 0 then 0 else 1) ≤ s * s := fun s => by rw [rtUp_le_iff (by decide), Nat.pow_two]
 by_cases hc : n * n * d < A
 ·rw [if_pos (hlt.2 hc)]
  refine Nat.le_antisymm ((up _).2 (by split <;> omega)) ?_
  refine Nat.lt_of_not_le fun h3 => ?_
  have h4 := (up _).1 h3
  have h5 : q = n * n ∧ r = 0 := by split at h4 <;> omega
  rw [← hdm, h5.1, h5.2, Nat.mul_comm d] at hc
  omega
 ·rw [if_neg (fun h3 => hc (hlt.1 h3))]
  have h6 : d * q + r ≤ d * (n * n) := by rw [hdm, Nat.mul_comm d]; omega
  have h7 : d * (n * n) ≤ d * q := Nat.mul_le_mul_left _ lo
  have h8 : r = 0 := by omega
  have h9 : q ≤ n * n := Nat.le_of_mul_le_mul_left (by omega) hd0
  rw [if_pos h8]
  rw [if_pos h8] at up
  refine Nat.le_antisymm ((up _).2 (by omega)) ?_
  rcases Nat.eq_zero_or_pos n with h0 | h0
  ·omega
  ·refine Nat.le_of_not_lt fun h3 => ?_
   have h4 := (up (n - 1)).1 (by omega)
   have h5 : (n - 1) * (n - 1) < n * n := Nat.mul_self_lt_mul_self (by omega)
   omega

theorem Sw.lo_neg {w : World} {v : Value} {p : Rat × Rat} (h : Sw w v p) (hp : p.1 < 0) {b : Bool} {a : Option Addr} {n c : Nat} {d : Option Addr} {m o : Nat} {b2 : Bool} {a2 : Option Addr} {n2 c2 : Nat} {d2 : Option Addr} {m2 o2 : Nat} (e : v = .agg #[.bool b, .slice a n c, .slice d m o, .bool b2, .slice a2 n2 c2, .slice d2 m2 o2]) : b = true := by
 subst e
 rw [h.lo.sign]
 exact decide_eq_true hp

theorem sqLo_sm {L : Nat} {x : Rat} (s : SmR L x) (hL : L ≤ 10) {K : Nat} (hK : K ≤ 1000) : Sm 45 (sqLo x K) := by
 unfold sqLo
 refine rootV_sm ?_
 exact ((s.1.mul (Sm.pow2 (2 * K))).mono (by omega)).le (Nat.div_le_self _ _)

set_option maxRecDepth 100000 in
set_option maxHeartbeats 8000000 in
theorem Tryz.ivOut {v1 : Value} {p : Rat × Rat} {L : Nat} {w : World} (h1 : Sw w v1 p) (s1 : SmS L p) (hL : L ≤ 60) (K : Nat) (hK : K ≤ 1000) :
  Calls Tryz.prog 35 #[v1, .int .i64 (K : Int)] w fun e w' => ∃ v', e = .returned (.tuple #[v', .int .i64 0]) ∧ Sw w' v' (outS p K) ∧ Ext w w' := by
 obtain ⟨b1, a1, n1, c1, d1, m1, o1, bb1, aa1, nn1, cc1, dd1, mm1, oo1, rfl, q1⟩ : ∃ b1 a1 n1 c1 d1 m1 o1 bb1 aa1 nn1 cc1 dd1 mm1 oo1, v1 = .agg #[.bool b1, .slice a1 n1 c1, .slice d1 m1 o1, .bool bb1, .slice aa1 nn1 cc1, .slice dd1 mm1 oo1] ∧ True := let ⟨b1, a1, n1, c1, d1, m1, o1, bb1, aa1, nn1, cc1, dd1, mm1, oo1, e, _⟩ := h1; ⟨b1, a1, n1, c1, d1, m1, o1, bb1, aa1, nn1, cc1, dd1, mm1, oo1, e, trivial⟩
 clear q1
 have HK := Lib.hid hK
 have HG : Hid (gridB (K : Int) = true) := Lib.hid (decide_eq_true ⟨by omega, by omega⟩)
 have hk0 : ¬ (K : Int) < 0 := by omega
 have hk1 : ¬ (K : Int) > 1000 := by omega
 have SF : Hid (Sm 100 (p.1 * P2 K).floor.natAbs ∧ Sm 100 (p.2 * P2 K).ceil.natAbs) := Lib.hid ⟨(Sm.floor s1.lo K).mono (by omega), (ceil_sm s1.hi K).mono (by omega)⟩
 clear hK
 obtain ⟨W0, hW0⟩ : ∃ W0, W0 = ((w.alloc (.cells #[.bool b1, .slice a1 n1 c1, .slice d1 m1 o1, .bool bb1, .slice aa1 nn1 cc1, .slice dd1 mm1 oo1] 29)).alloc (.cells #[.bool false, .slice none 0 0, .slice none 0 0, .bool false, .slice none 0 0, .slice none 0 0] 29)) := ⟨_, rfl⟩
 have E0 : Ext w W0 := by rw [hW0]; exact ((Ext.alloc1 w (.cells #[.bool b1, .slice a1 n1 c1, .slice d1 m1 o1, .bool bb1, .slice aa1 nn1 cc1, .slice dd1 mm1 oo1] 29)).alloc (.cells #[.bool false, .slice none 0 0, .slice none 0 0, .bool false, .slice none 0 0, .slice none 0 0] 29))
 replace h1 : Sw W0 (.agg #[.bool b1, .slice a1 n1 c1, .slice d1 m1 o1, .bool bb1, .slice aa1 nn1 cc1, .slice dd1 mm1 oo1]) p := h1.ext E0
 have p2 : Bx6 W0 w.heap.size 29 (.bool b1) (.slice a1 n1 c1) (.slice d1 m1 o1) (.bool bb1) (.slice aa1 nn1 cc1) (.slice dd1 mm1 oo1) := by rw [hW0]; exact (Bx6.new w 29 (.bool b1) (.slice a1 n1 c1) (.slice d1 m1 o1) (.bool bb1) (.slice aa1 nn1 cc1) (.slice dd1 mm1 oo1)).ext (Ext.alloc1 (w.alloc (.cells #[.bool b1, .slice a1 n1 c1, .slice d1 m1 o1, .bool bb1, .slice aa1 nn1 cc1, .slice dd1 mm1 oo1] 29)) (.cells #[.bool false, .slice none 0 0, .slice none 0 0, .bool false, .slice none 0 0, .slice none 0 0] 29))
 have p4 : Bx6 W0 (w.heap.size + 1) 29 (.bool false) (.slice none 0 0) (.slice none 0 0) (.bool false) (.slice none 0 0) (.slice none 0 0) := by rw [hW0]; simpa using (Bx6.new (w.alloc (.cells #[.bool b1, .slice a1 n1 c1, .slice d1 m1 o1, .bool bb1, .slice aa1 nn1 cc1, .slice dd1 mm1 oo1] 29)) 29 (.bool false) (.slice none 0 0) (.slice none 0 0) (.bool false) (.slice none 0 0) (.slice none 0 0))
 go_enter Tryz.func35, Tryz.ntmps35
 obtain ⟨kp2_0, kp2_1, kp2_2, kp2_3, kp2_4, kp2_5⟩ := p2.c6
 obtain ⟨kp4_0, kp4_1, kp4_2, kp4_3, kp4_4, kp4_5⟩ := p4.c6
 go_wp2_with fail
 rw [← hW0]
 clear hW0; clear kp2_0 kp2_1 kp2_2 kp2_3 kp2_4 kp2_5 kp4_0 kp4_1 kp4_2 kp4_3 kp4_4 kp4_5
 refine (Tryz.ivGrid _ _).mono ?_
 rintro e W ⟨rfl, rfl⟩
 rw [HG.out]
 obtain ⟨kp2_0, kp2_1, kp2_2, kp2_3, kp2_4, kp2_5⟩ := p2.c6
 obtain ⟨kp4_0, kp4_1, kp4_2, kp4_3, kp4_4, kp4_5⟩ := p4.c6
 go_upto_region 3 with (fail)
 clear kp2_0 kp2_1 kp2_2 kp2_3 kp2_4 kp2_5 kp4_0 kp4_1 kp4_2 kp4_3 kp4_4 kp4_5; have ltp2 := p2.lt; have ltp4 := p4.lt; have szw1 := Ext.size E0
 refine region_gs [.one fun v _ => v = .pointer (some ⟨w.heap.size, 0, none⟩),
   .one fun v _ => v = .agg #[.bool b1, .slice a1 n1 c1, .slice d1 m1 o1],
   .one fun v _ => v = .int .i64 (K : Int),
   .one fun v W => ∃ v', v = .tuple #[v', .int .i64 0] ∧ (fun v W => Zw W v ((p.1 * P2 K).floor)) v' W,
   .one fun v W => ∃ v', v = .tuple #[v', .int .i64 0] ∧ (fun v W => Zw W v ((p.1 * P2 K).floor)) v' W,
   .one fun v W => Zw W v ((p.1 * P2 K).floor),
   .one fun v _ => v = .int .i64 0,
   .one fun v W => ∃ g, v = .pointer (some ⟨g, 0, none⟩) ∧ W0.heap.size ≤ g ∧ Form W g 25 2,
   .three 7 5 (fun p r _ W => Put2 W0.heap.size 25 p r W),
   .one fun v _ => v = .int .i64 0]
  (fun W => Ext w W ∧ Sw W (.agg #[.bool b1, .slice a1 n1 c1, .slice d1 m1 o1, .bool bb1, .slice aa1 nn1 cc1, .slice dd1 mm1 oo1]) p ∧ Bx6 W w.heap.size 29 (.bool b1) (.slice a1 n1 c1) (.slice d1 m1 o1) (.bool bb1) (.slice aa1 nn1 cc1) (.slice dd1 mm1 oo1) ∧ Bx6 W (w.heap.size + 1) 29 (.bool false) (.slice none 0 0) (.slice none 0 0) (.bool false) (.slice none 0 0) (.slice none 0 0) ∧ W0.heap.size ≤ W.heap.size) ⟨Good.is _, Good.is _, Good.is _, (Good.zed _).tup _, (Good.zed _).tup _, Good.zed _, Good.is _, Good.box _ _ _, cert_put2, Good.is _, trivial⟩
  ⟨E0, h1, p2, p4, Nat.le_refl _⟩ (A := ?A1) ?hA1 ?howe1 ?hfin1
 case hA1 =>
  intro vs
  simp only [putAll, Act.put, sA, sZ, sS, Nat.zero_add, Nat.reduceAdd]
  exact rfl
 case howe1 =>
  clear E0 h1 p2 p4
  intro hf
  refine ⟨oE 0 [] hf rfl ?_, oE 1 [0] hf rfl ?_, oE 2 [] hf rfl ?_, oE 3 [1, 2] hf rfl ?_, oE 4 [3] hf rfl ?_, oE 5 [4] hf rfl ?_, oE 6 [4] hf rfl ?_, oE 7 [] hf rfl ?_, oW 8 [7, 5] hf rfl ?_, oE 9 [6] hf rfl ?_, trivial⟩
  all_goals intro vs W hS hp hx KO hKO
  all_goals simp only [Act.put, sA, sZ, sS] at hKO
  ·go_simp; exact hKO _ W (.refl W) rfl
  ·have e0 := isOf hp.1; simp only [e0] at hKO; have fc0 := hS.2.2.1.cell0; have fc1 := hS.2.2.1.cell1; have fc2 := hS.2.2.1.cell2; go_simp; exact hKO _ W (.refl W) rfl
  ·go_simp; exact hKO _ W (.refl W) rfl
  ·have e1 := isOf hp.1; have e2 := isOf hp.2.1; simp only [e1, e2] at hKO; go_simp
   refine (Tryz.dyadFloor (hS.2.1.lo) s1.lo (by omega) K (by have := HK.out; omega)).mono ?_
   rintro e W1 ⟨v, rfl, hv, hE⟩
   exact hKO _ W1 hE ⟨_, rfl, hv⟩
  ·have q3 := hp.1
   obtain ⟨u, ev, hu⟩ := q3
   replace ev : vs 3 = _ := ev; simp only [ev] at hKO; go_simp; exact hKO _ W (Ext.refl W) ⟨u, rfl, hu⟩
  ·have q4 := hp.1
   obtain ⟨u, ev, hu⟩ := q4
   replace ev : vs 4 = _ := ev; simp only [ev] at hKO; go_simp; exact hKO _ W (Ext.refl W) hu
  ·have q4 := hp.1
   obtain ⟨u, ev, hu⟩ := q4
   replace ev : vs 4 = _ := ev; simp only [ev] at hKO; go_simp; exact hKO _ W (.refl W) rfl
  ·have hn := Bx2.new W 25 (.bool false) (.slice none 0 0)
   have hE := Ext.alloc1 W (.cells #[.bool false, .slice none 0 0] 25)
   have hsz := hS.2.2.2.2
   go_simp
   exact hKO _ _ hE ⟨_, rfl, hsz, hn.form⟩
  ·have q7 := hp.1; have q5 := hp.2.1
   obtain ⟨g, ev, hg, hf⟩ := q7
   replace ev : vs 7 = _ := ev
   obtain ⟨x0_0, x0_1, hx, hno⟩ := hf.bx2
   have qr := q5
   obtain ⟨b3, a3, n3, c3, er, -, -⟩ := qr
   replace er : vs 5 = _ := er
   have r0 := hx.froz0
   have t0 := hx.cell0
   have r1 := hx.froz1
   have t1 := hx.cell1
   have hw := Wr.set2 hx hno b3 a3 n3 c3
   have hq := hx.set (.bool b3) (.slice a3 n3 c3)
   simp only [ev, er] at hKO; go_simp
   exact hKO _ _ hw ⟨(Ext.wr hS.1 hw (by omega)), (hS.2.1.wr hw), (hS.2.2.1.wr hw (by omega)), (hS.2.2.2.1.wr hw (by omega)), (Nat.le_trans hS.2.2.2.2 hw.apart.size)⟩ ⟨g, b3, a3, n3, c3, ev, er, hg, hq⟩
  ·have e6 := isOf hp.1; simp only [e6] at hKO; go_simp; exact hKO _ W (.refl W) rfl
 intro vs W1 hS hp
 clear szw1 E0 h1 p2 p4
 obtain ⟨E0, h1, p2, p4, sz1⟩ := hS
 obtain ⟨h1_0, h1_1, h1_2, h1_3, h1_4, h1_5, h1_6, h1_7, h1_8, h1_9, -⟩ := hp
 obtain ⟨g1_8, b1_8, a1_8, n1_8, c1_8, ev1_8, er1_8, hg1_8, p1_8⟩ := h1_8
 replace ev1_8 : vs 7 = _ := ev1_8; replace er1_8 : vs 5 = _ := er1_8; replace h1_5 := (show Zw W1 (vs 5) ((p.1 * P2 K).floor) from h1_5)
 rw [er1_8] at h1_5
 replace h1_0 : vs 0 = .pointer (some ⟨w.heap.size, 0, none⟩) := h1_0
 replace h1_1 : vs 1 = .agg #[.bool b1, .slice a1 n1 c1, .slice d1 m1 o1] := h1_1
 replace h1_2 : vs 2 = .int .i64 (K : Int) := h1_2
 replace h1_6 : vs 6 = .int .i64 0 := h1_6
 replace h1_9 : vs 9 = .int .i64 0 := h1_9
 simp only [ev1_8, er1_8, h1_0, h1_1, h1_2, h1_6, h1_9]
 clear ev1_8 er1_8 h1_0 h1_1 h1_2 h1_6 h1_9 h1_3 h1_4 h1_7
 obtain ⟨kp2_0, kp2_1, kp2_2, kp2_3, kp2_4, kp2_5⟩ := p2.c6
 obtain ⟨kp4_0, kp4_1, kp4_2, kp4_3, kp4_4, kp4_5⟩ := p4.c6
 obtain ⟨kp1_8_0, kp1_8_1⟩ := p1_8.c2
 go_upto_region 4 with (fail)
 clear kp2_0 kp2_1 kp2_2 kp2_3 kp2_4 kp2_5 kp4_0 kp4_1 kp4_2 kp4_3 kp4_4 kp4_5 kp1_8_0 kp1_8_1; have ltp1_8 := p1_8.lt; have szw2 := Ext.size E0
 refine region_gs [.one fun v _ => v = .pointer (some ⟨w.heap.size, 3, none⟩),
   .one fun v _ => v = .agg #[.bool bb1, .slice aa1 nn1 cc1, .slice dd1 mm1 oo1],
   .one fun v _ => v = .int .i64 (K : Int),
   .one fun v W => ∃ v', v = .tuple #[v', .int .i64 0] ∧ (fun v W => Zw W v ((p.2 * P2 K).ceil)) v' W,
   .one fun v W => ∃ v', v = .tuple #[v', .int .i64 0] ∧ (fun v W => Zw W v ((p.2 * P2 K).ceil)) v' W,
   .one fun v W => Zw W v ((p.2 * P2 K).ceil),
   .one fun v _ => v = .int .i64 0,
   .one fun v W => ∃ g, v = .pointer (some ⟨g, 0, none⟩) ∧ W1.heap.size ≤ g ∧ Form W g 25 2,
   .three 7 5 (fun p r _ W => Put2 W1.heap.size 25 p r W),
   .one fun v _ => v = .int .i64 0]
  (fun W => Ext w W ∧ Sw W (.agg #[.bool b1, .slice a1 n1 c1, .slice d1 m1 o1, .bool bb1, .slice aa1 nn1 cc1, .slice dd1 mm1 oo1]) p ∧ Bx6 W w.heap.size 29 (.bool b1) (.slice a1 n1 c1) (.slice d1 m1 o1) (.bool bb1) (.slice aa1 nn1 cc1) (.slice dd1 mm1 oo1) ∧ Bx6 W (w.heap.size + 1) 29 (.bool false) (.slice none 0 0) (.slice none 0 0) (.bool false) (.slice none 0 0) (.slice none 0 0) ∧ Zw W (.agg #[.bool b1_8, .slice a1_8 n1_8 c1_8]) ((p.1 * P2 K).floor) ∧ Bx2 W g1_8 25 (.bool b1_8) (.slice a1_8 n1_8 c1_8) ∧ W1.heap.size ≤ W.heap.size) ⟨Good.is _, Good.is _, Good.is _, (Good.zed _).tup _, (Good.zed _).tup _, Good.zed _, Good.is _, Good.box _ _ _, cert_put2, Good.is _, trivial⟩
  ⟨E0, h1, p2, p4, h1_5, p1_8, Nat.le_refl _⟩ (A := ?A2) ?hA2 ?howe2 ?hfin2
 case hA2 =>
  intro vs
  simp only [putAll, Act.put, sA, sZ, sS, Nat.zero_add, Nat.reduceAdd]
  exact rfl
 case howe2 =>
  clear E0 h1 p2 p4 h1_5 p1_8
  intro hf
  refine ⟨oE 0 [] hf rfl ?_, oE 1 [0] hf rfl ?_, oE 2 [] hf rfl ?_, oE 3 [1, 2] hf rfl ?_, oE 4 [3] hf rfl ?_, oE 5 [4] hf rfl ?_, oE 6 [4] hf rfl ?_, oE 7 [] hf rfl ?_, oW 8 [7, 5] hf rfl ?_, oE 9 [6] hf rfl ?_, trivial⟩
  all_goals intro vs W hS hp hx KO hKO
  all_goals simp only [Act.put, sA, sZ, sS] at hKO
  ·go_simp; exact hKO _ W (.refl W) rfl
  ·have e0 := isOf hp.1; simp only [e0] at hKO; have fc3 := hS.2.2.1.cell3; have fc4 := hS.2.2.1.cell4; have fc5 := hS.2.2.1.cell5; go_simp; exact hKO _ W (.refl W) rfl
  ·go_simp; exact hKO _ W (.refl W) rfl
  ·have e1 := isOf hp.1; have e2 := isOf hp.2.1; simp only [e1, e2] at hKO; go_simp
   refine (Tryz.dyadCeil (hS.2.1.hi) s1.hi (by omega) K (by have := HK.out; omega)).mono ?_
   rintro e W1 ⟨v, rfl, hv, hE⟩
   exact hKO _ W1 hE ⟨_, rfl, hv⟩
  ·have q3 := hp.1
   obtain ⟨u, ev, hu⟩ := q3
   replace ev : vs 3 = _ := ev; simp only [ev] at hKO; go_simp; exact hKO _ W (Ext.refl W) ⟨u, rfl, hu⟩
  ·have q4 := hp.1
   obtain ⟨u, ev, hu⟩ := q4
   replace ev : vs 4 = _ := ev; simp only [ev] at hKO; go_simp; exact hKO _ W (Ext.refl W) hu
  ·have q4 := hp.1
   obtain ⟨u, ev, hu⟩ := q4
   replace ev : vs 4 = _ := ev; simp only [ev] at hKO; go_simp; exact hKO _ W (.refl W) rfl
  ·have hn := Bx2.new W 25 (.bool false) (.slice none 0 0)
   have hE := Ext.alloc1 W (.cells #[.bool false, .slice none 0 0] 25)
   have hsz := hS.2.2.2.2.2.2
   go_simp
   exact hKO _ _ hE ⟨_, rfl, hsz, hn.form⟩
  ·have q7 := hp.1; have q5 := hp.2.1
   obtain ⟨g, ev, hg, hf⟩ := q7
   replace ev : vs 7 = _ := ev
   obtain ⟨x0_0, x0_1, hx, hno⟩ := hf.bx2
   have qr := q5
   obtain ⟨b3, a3, n3, c3, er, -, -⟩ := qr
   replace er : vs 5 = _ := er
   have r0 := hx.froz0
   have t0 := hx.cell0
   have r1 := hx.froz1
   have t1 := hx.cell1
   have hw := Wr.set2 hx hno b3 a3 n3 c3
   have hq := hx.set (.bool b3) (.slice a3 n3 c3)
   simp only [ev, er] at hKO; go_simp
   exact hKO _ _ hw ⟨(Ext.wr hS.1 hw (by omega)), (hS.2.1.wr hw), (hS.2.2.1.wr hw (by omega)), (hS.2.2.2.1.wr hw (by omega)), (hS.2.2.2.2.1.wr hw), (hS.2.2.2.2.2.1.wr hw (by omega)), (Nat.le_trans hS.2.2.2.2.2.2 hw.apart.size)⟩ ⟨g, b3, a3, n3, c3, ev, er, hg, hq⟩
  ·have e6 := isOf hp.1; simp only [e6] at hKO; go_simp; exact hKO _ W (.refl W) rfl
 intro vs W2 hS hp
 clear szw2 E0 h1 p2 p4 h1_5 p1_8
 obtain ⟨E0, h1, p2, p4, h1_5, p1_8, sz2⟩ := hS
 obtain ⟨h2_0, h2_1, h2_2, h2_3, h2_4, h2_5, h2_6, h2_7, h2_8, h2_9, -⟩ := hp
 obtain ⟨g2_8, b2_8, a2_8, n2_8, c2_8, ev2_8, er2_8, hg2_8, p2_8⟩ := h2_8
 replace ev2_8 : vs 7 = _ := ev2_8; replace er2_8 : vs 5 = _ := er2_8; replace h2_5 := (show Zw W2 (vs 5) ((p.2 * P2 K).ceil) from h2_5)
 rw [er2_8] at h2_5
 replace h2_0 : vs 0 = .pointer (some ⟨w.heap.size, 3, none⟩) := h2_0
 replace h2_1 : vs 1 = .agg #[.bool bb1, .slice aa1 nn1 cc1, .slice dd1 mm1 oo1] := h2_1
 replace h2_2 : vs 2 = .int .i64 (K : Int) := h2_2
 replace h2_6 : vs 6 = .int .i64 0 := h2_6
 replace h2_9 : vs 9 = .int .i64 0 := h2_9
 simp only [ev2_8, er2_8, h2_0, h2_1, h2_2, h2_6, h2_9]
 clear ev2_8 er2_8 h2_0 h2_1 h2_2 h2_6 h2_9 h2_3 h2_4 h2_7
 obtain ⟨kp2_0, kp2_1, kp2_2, kp2_3, kp2_4, kp2_5⟩ := p2.c6
 obtain ⟨kp4_0, kp4_1, kp4_2, kp4_3, kp4_4, kp4_5⟩ := p4.c6
 obtain ⟨kp1_8_0, kp1_8_1⟩ := p1_8.c2
 obtain ⟨kp2_8_0, kp2_8_1⟩ := p2_8.c2
 go_upto_region 5 with (fail)
 clear kp2_0 kp2_1 kp2_2 kp2_3 kp2_4 kp2_5 kp4_0 kp4_1 kp4_2 kp4_3 kp4_4 kp4_5 kp1_8_0 kp1_8_1 kp2_8_0 kp2_8_1; have fp4 := p4.form; have ltp2_8 := p2_8.lt; have szw3 := Ext.size E0
 refine region_gs [.one fun v _ => v = .agg #[.bool b1_8, .slice a1_8 n1_8 c1_8],
   .one fun v _ => v = .agg #[.bool b2_8, .slice a2_8 n2_8 c2_8],
   .one fun v _ => v = .int .i64 (K : Int),
   .one fun v W => Sw W v ((((p.1 * P2 K).floor : Rat) / P2 K, ((p.2 * P2 K).ceil : Rat) / P2 K)),
   .two 3 (fun r _ W => At6 (w.heap.size + 1) 29 r W),
   .one fun v _ => v = .int .i64 0]
  (fun W => Ext w W ∧ Sw W (.agg #[.bool b1, .slice a1 n1 c1, .slice d1 m1 o1, .bool bb1, .slice aa1 nn1 cc1, .slice dd1 mm1 oo1]) p ∧ Bx6 W w.heap.size 29 (.bool b1) (.slice a1 n1 c1) (.slice d1 m1 o1) (.bool bb1) (.slice aa1 nn1 cc1) (.slice dd1 mm1 oo1) ∧ Form W (w.heap.size + 1) 29 6 ∧ Zw W (.agg #[.bool b1_8, .slice a1_8 n1_8 c1_8]) ((p.1 * P2 K).floor) ∧ Bx2 W g1_8 25 (.bool b1_8) (.slice a1_8 n1_8 c1_8) ∧ Zw W (.agg #[.bool b2_8, .slice a2_8 n2_8 c2_8]) ((p.2 * P2 K).ceil) ∧ Bx2 W g2_8 25 (.bool b2_8) (.slice a2_8 n2_8 c2_8) ∧ W2.heap.size ≤ W.heap.size) ⟨Good.is _, Good.is _, Good.is _, Good.span _, cert_at6, Good.is _, trivial⟩
  ⟨E0, h1, p2, fp4, h1_5, p1_8, h2_5, p2_8, Nat.le_refl _⟩ (A := ?A3) ?hA3 ?howe3 ?hfin3
 case hA3 =>
  intro vs
  simp only [putAll, Act.put, sA, sZ, sS, Nat.zero_add, Nat.reduceAdd]
  exact rfl
 case howe3 =>
  clear E0 h1 p2 fp4 h1_5 p1_8 h2_5 p2_8
  intro hf
  refine ⟨oE 0 [] hf rfl ?_, oE 1 [] hf rfl ?_, oE 2 [] hf rfl ?_, oE 3 [0, 1, 2] hf rfl ?_, oW 4 [3] hf rfl ?_, oE 5 [] hf rfl ?_, trivial⟩
  all_goals intro vs W hS hp hx KO hKO
  all_goals simp only [Act.put, sA, sZ, sS] at hKO
  ·have fc0 := hS.2.2.2.2.2.1.cell0; have fc1 := hS.2.2.2.2.2.1.cell1; go_simp; exact hKO _ W (.refl W) rfl
  ·have fc0 := hS.2.2.2.2.2.2.2.1.cell0; have fc1 := hS.2.2.2.2.2.2.2.1.cell1; go_simp; exact hKO _ W (.refl W) rfl
  ·go_simp; exact hKO _ W (.refl W) rfl
  ·have e0 := isOf hp.1; have e1 := isOf hp.2.1; have e2 := isOf hp.2.2.1; simp only [e0, e1, e2] at hKO; go_simp
   refine (Tryz.ivBetween (hS.2.2.2.2.1) (hS.2.2.2.2.2.2.1) SF.out.1 SF.out.2 (by omega) K (by have := HK.out; omega)).mono ?_
   rintro e W1 ⟨v, rfl, hv, hE⟩
   exact hKO _ W1 hE hv
  ·have q3 := hp.1
   have hf := hS.2.2.2.1
   obtain ⟨x0_0, x0_1, x0_2, x0_3, x0_4, x0_5, hx, hno⟩ := hf.bx6
   have qr := q3
   obtain ⟨b3, a3, n3, c3, d3, m3, o3, bb3, aa3, nn3, cc3, dd3, mm3, oo3, er, -, -⟩ := qr
   replace er : vs 3 = _ := er
   have r0 := hx.froz0
   have t0 := hx.cell0
   have r1 := hx.froz1
   have t1 := hx.cell1
   have r2 := hx.froz2
   have t2 := hx.cell2
   have r3 := hx.froz3
   have t3 := hx.cell3
   have r4 := hx.froz4
   have t4 := hx.cell4
   have r5 := hx.froz5
   have t5 := hx.cell5
   have hw := Wr.set6 hx hno b3 a3 n3 c3 d3 m3 o3 bb3 aa3 nn3 cc3 dd3 mm3 oo3
   have hq := hx.set (.bool b3) (.slice a3 n3 c3) (.slice d3 m3 o3) (.bool bb3) (.slice aa3 nn3 cc3) (.slice dd3 mm3 oo3)
   have hg : (w.heap.size + 1) ≤ (w.heap.size + 1) := Nat.le_refl _
   simp only [er] at hKO; go_simp
   exact hKO _ _ hw ⟨(Ext.wr hS.1 hw (by omega)), (hS.2.1.wr hw), (hS.2.2.1.wr hw (by omega)), (hS.2.2.2.1.wr hw), (hS.2.2.2.2.1.wr hw), (hS.2.2.2.2.2.1.wr hw (by omega)), (hS.2.2.2.2.2.2.1.wr hw), (hS.2.2.2.2.2.2.2.1.wr hw (by omega)), (Nat.le_trans hS.2.2.2.2.2.2.2.2 hw.apart.size)⟩ ⟨b3, a3, n3, c3, d3, m3, o3, bb3, aa3, nn3, cc3, dd3, mm3, oo3, er, hq⟩
  ·go_simp; exact hKO _ W (.refl W) rfl
 intro vs W3 hS hp
 clear szw3 E0 h1 p2 fp4 h1_5 p1_8 h2_5 p2_8
 obtain ⟨E0, h1, p2, fp4, h1_5, p1_8, h2_5, p2_8, sz3⟩ := hS
 obtain ⟨h3_0, h3_1, h3_2, h3_3, h3_4, h3_5, -⟩ := hp
 obtain ⟨b3_4, a3_4, n3_4, c3_4, d3_4, m3_4, o3_4, bb3_4, aa3_4, nn3_4, cc3_4, dd3_4, mm3_4, oo3_4, er3_4, p3_4⟩ := h3_4
 replace er3_4 : vs 3 = _ := er3_4; replace h3_3 := (show Sw W3 (vs 3) ((((p.1 * P2 K).floor : Rat) / P2 K, ((p.2 * P2 K).ceil : Rat) / P2 K)) from h3_3)
 rw [er3_4] at h3_3
 replace h3_0 : vs 0 = .agg #[.bool b1_8, .slice a1_8 n1_8 c1_8] := h3_0
 replace h3_1 : vs 1 = .agg #[.bool b2_8, .slice a2_8 n2_8 c2_8] := h3_1
 replace h3_2 : vs 2 = .int .i64 (K : Int) := h3_2
 replace h3_5 : vs 5 = .int .i64 0 := h3_5
 simp only [er3_4, h3_0, h3_1, h3_2, h3_5]
 clear er3_4 h3_0 h3_1 h3_2 h3_5
 obtain ⟨kp2_0, kp2_1, kp2_2, kp2_3, kp2_4, kp2_5⟩ := p2.c6
 obtain ⟨kp1_8_0, kp1_8_1⟩ := p1_8.c2
 obtain ⟨kp2_8_0, kp2_8_1⟩ := p2_8.c2
 obtain ⟨kp3_4_0, kp3_4_1, kp3_4_2, kp3_4_3, kp3_4_4, kp3_4_5⟩ := p3_4.c6
 go_wp2
 exact bodyPost_ret (v := .tuple #[.agg #[.bool b3_4, .slice a3_4 n3_4 c3_4, .slice d3_4 m3_4 o3_4, .bool bb3_4, .slice aa3_4 nn3_4 cc3_4, .slice dd3_4 mm3_4 oo3_4], .int .i64 0]) (by simp [results, Tryz.results35, go_sem, kp3_4_0, kp3_4_1, kp3_4_2, kp3_4_3, kp3_4_4, kp3_4_5]) rfl ⟨_, rfl, h3_3, E0⟩

set_option maxRecDepth 100000 in
set_option maxHeartbeats 8000000 in
theorem Tryz.rsOut {v1 : Value} {p : Rat × Rat} {L : Nat} {w : World} (h1 : Sw w v1 p) (s1 : SmS L p) (hL : L ≤ 60) (K : Nat) (hK : K ≤ 1000) :
  Calls Tryz.prog 28 #[v1, .int .i64 (K : Int)] w fun e w' => ∃ v', e = .returned (.tuple #[v', .int .i64 0]) ∧ Sw w' v' (outS p K) ∧ Ext w w' := by
 obtain ⟨b1, a1, n1, c1, d1, m1, o1, bb1, aa1, nn1, cc1, dd1, mm1, oo1, rfl, q1⟩ : ∃ b1 a1 n1 c1 d1 m1 o1 bb1 aa1 nn1 cc1 dd1 mm1 oo1, v1 = .agg #[.bool b1, .slice a1 n1 c1, .slice d1 m1 o1, .bool bb1, .slice aa1 nn1 cc1, .slice dd1 mm1 oo1] ∧ True := let ⟨b1, a1, n1, c1, d1, m1, o1, bb1, aa1, nn1, cc1, dd1, mm1, oo1, e, _⟩ := h1; ⟨b1, a1, n1, c1, d1, m1, o1, bb1, aa1, nn1, cc1, dd1, mm1, oo1, e, trivial⟩
 clear q1
 have HK := Lib.hid hK
 have HG : Hid (gridB (K : Int) = true) := Lib.hid (decide_eq_true ⟨by omega, by omega⟩)
 have hk0 : ¬ (K : Int) < 0 := by omega
 have hk1 : ¬ (K : Int) > 1000 := by omega
 have SF : Hid (Sm 100 (p.1 * P2 K).floor.natAbs ∧ Sm 100 (p.2 * P2 K).ceil.natAbs) := Lib.hid ⟨(Sm.floor s1.lo K).mono (by omega), (ceil_sm s1.hi K).mono (by omega)⟩
 clear hK
 obtain ⟨W0, hW0⟩ : ∃ W0, W0 = ((w.alloc (.cells #[.bool b1, .slice a1 n1 c1, .slice d1 m1 o1, .bool bb1, .slice aa1 nn1 cc1, .slice dd1 mm1 oo1] 29)).alloc (.cells #[.bool false, .slice none 0 0, .slice none 0 0, .bool false, .slice none 0 0, .slice none 0 0] 29)) := ⟨_, rfl⟩
 have E0 : Ext w W0 := by rw [hW0]; exact ((Ext.alloc1 w (.cells #[.bool b1, .slice a1 n1 c1, .slice d1 m1 o1, .bool bb1, .slice aa1 nn1 cc1, .slice dd1 mm1 oo1] 29)).alloc (.cells #[.bool false, .slice none 0 0, .slice none 0 0, .bool false, .slice none 0 0, .slice none 0 0] 29))
 replace h1 : Sw W0 (.agg #[.bool b1, .slice a1 n1 c1, .slice d1 m1 o1, .bool bb1, .slice aa1 nn1 cc1, .slice dd1 mm1 oo1]) p := h1.ext E0
 have p2 : Bx6 W0 w.heap.size 29 (.bool b1) (.slice a1 n1 c1) (.slice d1 m1 o1) (.bool bb1) (.slice aa1 nn1 cc1) (.slice dd1 mm1 oo1) := by rw [hW0]; exact (Bx6.new w 29 (.bool b1) (.slice a1 n1 c1) (.slice d1 m1 o1) (.bool bb1) (.slice aa1 nn1 cc1) (.slice dd1 mm1 oo1)).ext (Ext.alloc1 (w.alloc (.cells #[.bool b1, .slice a1 n1 c1, .slice d1 m1 o1, .bool bb1, .slice aa1 nn1 cc1, .slice dd1 mm1 oo1] 29)) (.cells #[.bool false, .slice none 0 0, .slice none 0 0, .bool false, .slice none 0 0, .slice none 0 0] 29))
 have p4 : Bx6 W0 (w.heap.size + 1) 29 (.bool false) (.slice none 0 0) (.slice none 0 0) (.bool false) (.slice none 0 0) (.slice none 0 0) := by rw [hW0]; simpa using (Bx6.new (w.alloc (.cells #[.bool b1, .slice a1 n1 c1, .slice d1 m1 o1, .bool bb1, .slice aa1 nn1 cc1, .slice dd1 mm1 oo1] 29)) 29 (.bool false) (.slice none 0 0) (.slice none 0 0) (.bool false) (.slice none 0 0) (.slice none 0 0))
 go_enter Tryz.func28, Tryz.ntmps28
 obtain ⟨kp2_0, kp2_1, kp2_2, kp2_3, kp2_4, kp2_5⟩ := p2.c6
 obtain ⟨kp4_0, kp4_1, kp4_2, kp4_3, kp4_4, kp4_5⟩ := p4.c6
 go_upto_region 3 with (fail)
 rw [← hW0]
 clear hW0; clear kp2_0 kp2_1 kp2_2 kp2_3 kp2_4 kp2_5 kp4_0 kp4_1 kp4_2 kp4_3 kp4_4 kp4_5; have ltp2 := p2.lt; have ltp4 := p4.lt; have szw4 := Ext.size E0
 refine region_gs [.one fun v _ => v = .pointer (some ⟨w.heap.size, 0, none⟩),
   .one fun v _ => v = .agg #[.bool b1, .slice a1 n1 c1, .slice d1 m1 o1],
   .one fun v _ => v = .int .i64 (K : Int),
   .one fun v W => ∃ v', v = .tuple #[v', .int .i64 0] ∧ (fun v W => Zw W v ((p.1 * P2 K).floor)) v' W,
   .one fun v W => ∃ v', v = .tuple #[v', .int .i64 0] ∧ (fun v W => Zw W v ((p.1 * P2 K).floor)) v' W,
   .one fun v W => Zw W v ((p.1 * P2 K).floor),
   .one fun v _ => v = .int .i64 0,
   .one fun v W => ∃ g, v = .pointer (some ⟨g, 0, none⟩) ∧ W0.heap.size ≤ g ∧ Form W g 25 2,
   .three 7 5 (fun p r _ W => Put2 W0.heap.size 25 p r W),
   .one fun v _ => v = .int .i64 0]
  (fun W => Ext w W ∧ Sw W (.agg #[.bool b1, .slice a1 n1 c1, .slice d1 m1 o1, .bool bb1, .slice aa1 nn1 cc1, .slice dd1 mm1 oo1]) p ∧ Bx6 W w.heap.size 29 (.bool b1) (.slice a1 n1 c1) (.slice d1 m1 o1) (.bool bb1) (.slice aa1 nn1 cc1) (.slice dd1 mm1 oo1) ∧ Bx6 W (w.heap.size + 1) 29 (.bool false) (.slice none 0 0) (.slice none 0 0) (.bool false) (.slice none 0 0) (.slice none 0 0) ∧ W0.heap.size ≤ W.heap.size) ⟨Good.is _, Good.is _, Good.is _, (Good.zed _).tup _, (Good.zed _).tup _, Good.zed _, Good.is _, Good.box _ _ _, cert_put2, Good.is _, trivial⟩
  ⟨E0, h1, p2, p4, Nat.le_refl _⟩ (A := ?A4) ?hA4 ?howe4 ?hfin4
 case hA4 =>
  intro vs
  simp only [putAll, Act.put, sA, sZ, sS, Nat.zero_add, Nat.reduceAdd]
  exact rfl
 case howe4 =>
  clear E0 h1 p2 p4
  intro hf
  refine ⟨oE 0 [] hf rfl ?_, oE 1 [0] hf rfl ?_, oE 2 [] hf rfl ?_, oE 3 [1, 2] hf rfl ?_, oE 4 [3] hf rfl ?_, oE 5 [4] hf rfl ?_, oE 6 [4] hf rfl ?_, oE 7 [] hf rfl ?_, oW 8 [7, 5] hf rfl ?_, oE 9 [6] hf rfl ?_, trivial⟩
  all_goals intro vs W hS hp hx KO hKO
  all_goals simp only [Act.put, sA, sZ, sS] at hKO
  ·go_simp; exact hKO _ W (.refl W) rfl
  ·have e0 := isOf hp.1; simp only [e0] at hKO; have fc0 := hS.2.2.1.cell0; have fc1 := hS.2.2.1.cell1; have fc2 := hS.2.2.1.cell2; go_simp; exact hKO _ W (.refl W) rfl
  ·go_simp; exact hKO _ W (.refl W) rfl
  ·have e1 := isOf hp.1; have e2 := isOf hp.2.1; simp only [e1, e2] at hKO; go_simp
   refine (Tryz.refFloor (hS.2.1.lo) s1.lo (by omega) K (by have := HK.out; omega)).mono ?_
   rintro e W1 ⟨v, rfl, hv, hE⟩
   exact hKO _ W1 hE ⟨_, rfl, hv⟩
  ·have q3 := hp.1
   obtain ⟨u, ev, hu⟩ := q3
   replace ev : vs 3 = _ := ev; simp only [ev] at hKO; go_simp; exact hKO _ W (Ext.refl W) ⟨u, rfl, hu⟩
  ·have q4 := hp.1
   obtain ⟨u, ev, hu⟩ := q4
   replace ev : vs 4 = _ := ev; simp only [ev] at hKO; go_simp; exact hKO _ W (Ext.refl W) hu
  ·have q4 := hp.1
   obtain ⟨u, ev, hu⟩ := q4
   replace ev : vs 4 = _ := ev; simp only [ev] at hKO; go_simp; exact hKO _ W (.refl W) rfl
  ·have hn := Bx2.new W 25 (.bool false) (.slice none 0 0)
   have hE := Ext.alloc1 W (.cells #[.bool false, .slice none 0 0] 25)
   have hsz := hS.2.2.2.2
   go_simp
   exact hKO _ _ hE ⟨_, rfl, hsz, hn.form⟩
  ·have q7 := hp.1; have q5 := hp.2.1
   obtain ⟨g, ev, hg, hf⟩ := q7
   replace ev : vs 7 = _ := ev
   obtain ⟨x0_0, x0_1, hx, hno⟩ := hf.bx2
   have qr := q5
   obtain ⟨b3, a3, n3, c3, er, -, -⟩ := qr
   replace er : vs 5 = _ := er
   have r0 := hx.froz0
   have t0 := hx.cell0
   have r1 := hx.froz1
   have t1 := hx.cell1
   have hw := Wr.set2 hx hno b3 a3 n3 c3
   have hq := hx.set (.bool b3) (.slice a3 n3 c3)
   simp only [ev, er] at hKO; go_simp
   exact hKO _ _ hw ⟨(Ext.wr hS.1 hw (by omega)), (hS.2.1.wr hw), (hS.2.2.1.wr hw (by omega)), (hS.2.2.2.1.wr hw (by omega)), (Nat.le_trans hS.2.2.2.2 hw.apart.size)⟩ ⟨g, b3, a3, n3, c3, ev, er, hg, hq⟩
  ·have e6 := isOf hp.1; simp only [e6] at hKO; go_simp; exact hKO _ W (.refl W) rfl
 intro vs W4 hS hp
 clear szw4 E0 h1 p2 p4
 obtain ⟨E0, h1, p2, p4, sz4⟩ := hS
 obtain ⟨h4_0, h4_1, h4_2, h4_3, h4_4, h4_5, h4_6, h4_7, h4_8, h4_9, -⟩ := hp
 obtain ⟨g4_8, b4_8, a4_8, n4_8, c4_8, ev4_8, er4_8, hg4_8, p4_8⟩ := h4_8
 replace ev4_8 : vs 7 = _ := ev4_8; replace er4_8 : vs 5 = _ := er4_8; replace h4_5 := (show Zw W4 (vs 5) ((p.1 * P2 K).floor) from h4_5)
 rw [er4_8] at h4_5
 replace h4_0 : vs 0 = .pointer (some ⟨w.heap.size, 0, none⟩) := h4_0
 replace h4_1 : vs 1 = .agg #[.bool b1, .slice a1 n1 c1, .slice d1 m1 o1] := h4_1
 replace h4_2 : vs 2 = .int .i64 (K : Int) := h4_2
 replace h4_6 : vs 6 = .int .i64 0 := h4_6
 replace h4_9 : vs 9 = .int .i64 0 := h4_9
 simp only [ev4_8, er4_8, h4_0, h4_1, h4_2, h4_6, h4_9]
 clear ev4_8 er4_8 h4_0 h4_1 h4_2 h4_6 h4_9 h4_3 h4_4 h4_7
 obtain ⟨kp2_0, kp2_1, kp2_2, kp2_3, kp2_4, kp2_5⟩ := p2.c6
 obtain ⟨kp4_0, kp4_1, kp4_2, kp4_3, kp4_4, kp4_5⟩ := p4.c6
 obtain ⟨kp4_8_0, kp4_8_1⟩ := p4_8.c2
 go_upto_region 4 with (fail)
 clear kp2_0 kp2_1 kp2_2 kp2_3 kp2_4 kp2_5 kp4_0 kp4_1 kp4_2 kp4_3 kp4_4 kp4_5 kp4_8_0 kp4_8_1; have ltp4_8 := p4_8.lt; have szw5 := Ext.size E0
 refine region_gs [.one fun v _ => v = .pointer (some ⟨w.heap.size, 3, none⟩),
   .one fun v _ => v = .agg #[.bool bb1, .slice aa1 nn1 cc1, .slice dd1 mm1 oo1],
   .one fun v _ => v = .int .i64 (K : Int),
   .one fun v W => ∃ v', v = .tuple #[v', .int .i64 0] ∧ (fun v W => Zw W v ((p.2 * P2 K).ceil)) v' W,
   .one fun v W => ∃ v', v = .tuple #[v', .int .i64 0] ∧ (fun v W => Zw W v ((p.2 * P2 K).ceil)) v' W,
   .one fun v W => Zw W v ((p.2 * P2 K).ceil),
   .one fun v _ => v = .int .i64 0,
   .one fun v W => ∃ g, v = .pointer (some ⟨g, 0, none⟩) ∧ W4.heap.size ≤ g ∧ Form W g 25 2,
   .three 7 5 (fun p r _ W => Put2 W4.heap.size 25 p r W),
   .one fun v _ => v = .int .i64 0]
  (fun W => Ext w W ∧ Sw W (.agg #[.bool b1, .slice a1 n1 c1, .slice d1 m1 o1, .bool bb1, .slice aa1 nn1 cc1, .slice dd1 mm1 oo1]) p ∧ Bx6 W w.heap.size 29 (.bool b1) (.slice a1 n1 c1) (.slice d1 m1 o1) (.bool bb1) (.slice aa1 nn1 cc1) (.slice dd1 mm1 oo1) ∧ Bx6 W (w.heap.size + 1) 29 (.bool false) (.slice none 0 0) (.slice none 0 0) (.bool false) (.slice none 0 0) (.slice none 0 0) ∧ Zw W (.agg #[.bool b4_8, .slice a4_8 n4_8 c4_8]) ((p.1 * P2 K).floor) ∧ Bx2 W g4_8 25 (.bool b4_8) (.slice a4_8 n4_8 c4_8) ∧ W4.heap.size ≤ W.heap.size) ⟨Good.is _, Good.is _, Good.is _, (Good.zed _).tup _, (Good.zed _).tup _, Good.zed _, Good.is _, Good.box _ _ _, cert_put2, Good.is _, trivial⟩
  ⟨E0, h1, p2, p4, h4_5, p4_8, Nat.le_refl _⟩ (A := ?A5) ?hA5 ?howe5 ?hfin5
 case hA5 =>
  intro vs
  simp only [putAll, Act.put, sA, sZ, sS, Nat.zero_add, Nat.reduceAdd]
  exact rfl
 case howe5 =>
  clear E0 h1 p2 p4 h4_5 p4_8
  intro hf
  refine ⟨oE 0 [] hf rfl ?_, oE 1 [0] hf rfl ?_, oE 2 [] hf rfl ?_, oE 3 [1, 2] hf rfl ?_, oE 4 [3] hf rfl ?_, oE 5 [4] hf rfl ?_, oE 6 [4] hf rfl ?_, oE 7 [] hf rfl ?_, oW 8 [7, 5] hf rfl ?_, oE 9 [6] hf rfl ?_, trivial⟩
  all_goals intro vs W hS hp hx KO hKO
  all_goals simp only [Act.put, sA, sZ, sS] at hKO
  ·go_simp; exact hKO _ W (.refl W) rfl
  ·have e0 := isOf hp.1; simp only [e0] at hKO; have fc3 := hS.2.2.1.cell3; have fc4 := hS.2.2.1.cell4; have fc5 := hS.2.2.1.cell5; go_simp; exact hKO _ W (.refl W) rfl
  ·go_simp; exact hKO _ W (.refl W) rfl
  ·have e1 := isOf hp.1; have e2 := isOf hp.2.1; simp only [e1, e2] at hKO; go_simp
   refine (Tryz.refCeil (hS.2.1.hi) s1.hi (by omega) K (by have := HK.out; omega)).mono ?_
   rintro e W1 ⟨v, rfl, hv, hE⟩
   exact hKO _ W1 hE ⟨_, rfl, hv⟩
  ·have q3 := hp.1
   obtain ⟨u, ev, hu⟩ := q3
   replace ev : vs 3 = _ := ev; simp only [ev] at hKO; go_simp; exact hKO _ W (Ext.refl W) ⟨u, rfl, hu⟩
  ·have q4 := hp.1
   obtain ⟨u, ev, hu⟩ := q4
   replace ev : vs 4 = _ := ev; simp only [ev] at hKO; go_simp; exact hKO _ W (Ext.refl W) hu
  ·have q4 := hp.1
   obtain ⟨u, ev, hu⟩ := q4
   replace ev : vs 4 = _ := ev; simp only [ev] at hKO; go_simp; exact hKO _ W (.refl W) rfl
  ·have hn := Bx2.new W 25 (.bool false) (.slice none 0 0)
   have hE := Ext.alloc1 W (.cells #[.bool false, .slice none 0 0] 25)
   have hsz := hS.2.2.2.2.2.2
   go_simp
   exact hKO _ _ hE ⟨_, rfl, hsz, hn.form⟩
  ·have q7 := hp.1; have q5 := hp.2.1
   obtain ⟨g, ev, hg, hf⟩ := q7
   replace ev : vs 7 = _ := ev
   obtain ⟨x0_0, x0_1, hx, hno⟩ := hf.bx2
   have qr := q5
   obtain ⟨b3, a3, n3, c3, er, -, -⟩ := qr
   replace er : vs 5 = _ := er
   have r0 := hx.froz0
   have t0 := hx.cell0
   have r1 := hx.froz1
   have t1 := hx.cell1
   have hw := Wr.set2 hx hno b3 a3 n3 c3
   have hq := hx.set (.bool b3) (.slice a3 n3 c3)
   simp only [ev, er] at hKO; go_simp
   exact hKO _ _ hw ⟨(Ext.wr hS.1 hw (by omega)), (hS.2.1.wr hw), (hS.2.2.1.wr hw (by omega)), (hS.2.2.2.1.wr hw (by omega)), (hS.2.2.2.2.1.wr hw), (hS.2.2.2.2.2.1.wr hw (by omega)), (Nat.le_trans hS.2.2.2.2.2.2 hw.apart.size)⟩ ⟨g, b3, a3, n3, c3, ev, er, hg, hq⟩
  ·have e6 := isOf hp.1; simp only [e6] at hKO; go_simp; exact hKO _ W (.refl W) rfl
 intro vs W5 hS hp
 clear szw5 E0 h1 p2 p4 h4_5 p4_8
 obtain ⟨E0, h1, p2, p4, h4_5, p4_8, sz5⟩ := hS
 obtain ⟨h5_0, h5_1, h5_2, h5_3, h5_4, h5_5, h5_6, h5_7, h5_8, h5_9, -⟩ := hp
 obtain ⟨g5_8, b5_8, a5_8, n5_8, c5_8, ev5_8, er5_8, hg5_8, p5_8⟩ := h5_8
 replace ev5_8 : vs 7 = _ := ev5_8; replace er5_8 : vs 5 = _ := er5_8; replace h5_5 := (show Zw W5 (vs 5) ((p.2 * P2 K).ceil) from h5_5)
 rw [er5_8] at h5_5
 replace h5_0 : vs 0 = .pointer (some ⟨w.heap.size, 3, none⟩) := h5_0
 replace h5_1 : vs 1 = .agg #[.bool bb1, .slice aa1 nn1 cc1, .slice dd1 mm1 oo1] := h5_1
 replace h5_2 : vs 2 = .int .i64 (K : Int) := h5_2
 replace h5_6 : vs 6 = .int .i64 0 := h5_6
 replace h5_9 : vs 9 = .int .i64 0 := h5_9
 simp only [ev5_8, er5_8, h5_0, h5_1, h5_2, h5_6, h5_9]
 clear ev5_8 er5_8 h5_0 h5_1 h5_2 h5_6 h5_9 h5_3 h5_4 h5_7
 obtain ⟨kp2_0, kp2_1, kp2_2, kp2_3, kp2_4, kp2_5⟩ := p2.c6
 obtain ⟨kp4_0, kp4_1, kp4_2, kp4_3, kp4_4, kp4_5⟩ := p4.c6
 obtain ⟨kp4_8_0, kp4_8_1⟩ := p4_8.c2
 obtain ⟨kp5_8_0, kp5_8_1⟩ := p5_8.c2
 go_upto_region 5 with (fail)
 clear kp2_0 kp2_1 kp2_2 kp2_3 kp2_4 kp2_5 kp4_0 kp4_1 kp4_2 kp4_3 kp4_4 kp4_5 kp4_8_0 kp4_8_1 kp5_8_0 kp5_8_1; have ltp5_8 := p5_8.lt; have szw6 := Ext.size E0
 refine region_gs [.one fun v _ => v = .agg #[.bool b4_8, .slice a4_8 n4_8 c4_8],
   .one fun v _ => v = .int .i64 (K : Int),
   .one fun v W => ∃ v', v = .tuple #[v', .int .i64 0] ∧ (fun v W => Rw W v (((p.1 * P2 K).floor : Rat) / P2 K)) v' W,
   .one fun v W => ∃ v', v = .tuple #[v', .int .i64 0] ∧ (fun v W => Rw W v (((p.1 * P2 K).floor : Rat) / P2 K)) v' W,
   .one fun v W => Rw W v (((p.1 * P2 K).floor : Rat) / P2 K),
   .one fun v _ => v = .int .i64 0,
   .one fun v W => ∃ g, v = .pointer (some ⟨g, 0, none⟩) ∧ W5.heap.size ≤ g ∧ Form W g 27 3,
   .three 6 4 (fun p r _ W => Put3 W5.heap.size 27 p r W),
   .one fun v _ => v = .int .i64 0]
  (fun W => Ext w W ∧ Sw W (.agg #[.bool b1, .slice a1 n1 c1, .slice d1 m1 o1, .bool bb1, .slice aa1 nn1 cc1, .slice dd1 mm1 oo1]) p ∧ Bx6 W w.heap.size 29 (.bool b1) (.slice a1 n1 c1) (.slice d1 m1 o1) (.bool bb1) (.slice aa1 nn1 cc1) (.slice dd1 mm1 oo1) ∧ Bx6 W (w.heap.size + 1) 29 (.bool false) (.slice none 0 0) (.slice none 0 0) (.bool false) (.slice none 0 0) (.slice none 0 0) ∧ Zw W (.agg #[.bool b4_8, .slice a4_8 n4_8 c4_8]) ((p.1 * P2 K).floor) ∧ Bx2 W g4_8 25 (.bool b4_8) (.slice a4_8 n4_8 c4_8) ∧ Zw W (.agg #[.bool b5_8, .slice a5_8 n5_8 c5_8]) ((p.2 * P2 K).ceil) ∧ Bx2 W g5_8 25 (.bool b5_8) (.slice a5_8 n5_8 c5_8) ∧ W5.heap.size ≤ W.heap.size) ⟨Good.is _, Good.is _, (Good.rat _).tup _, (Good.rat _).tup _, Good.rat _, Good.is _, Good.box _ _ _, cert_put3, Good.is _, trivial⟩
  ⟨E0, h1, p2, p4, h4_5, p4_8, h5_5, p5_8, Nat.le_refl _⟩ (A := ?A6) ?hA6 ?howe6 ?hfin6
 case hA6 =>
  intro vs
  simp only [putAll, Act.put, sA, sZ, sS, Nat.zero_add, Nat.reduceAdd]
  exact rfl
 case howe6 =>
  clear E0 h1 p2 p4 h4_5 p4_8 h5_5 p5_8
  intro hf
  refine ⟨oE 0 [] hf rfl ?_, oE 1 [] hf rfl ?_, oE 2 [0, 1] hf rfl ?_, oE 3 [2] hf rfl ?_, oE 4 [3] hf rfl ?_, oE 5 [3] hf rfl ?_, oE 6 [] hf rfl ?_, oW 7 [6, 4] hf rfl ?_, oE 8 [5] hf rfl ?_, trivial⟩
  all_goals intro vs W hS hp hx KO hKO
  all_goals simp only [Act.put, sA, sZ, sS] at hKO
  ·have fc0 := hS.2.2.2.2.2.1.cell0; have fc1 := hS.2.2.2.2.2.1.cell1; go_simp; exact hKO _ W (.refl W) rfl
  ·go_simp; exact hKO _ W (.refl W) rfl
  ·have e0 := isOf hp.1; have e1 := isOf hp.2.1; simp only [e0, e1] at hKO; go_simp
   refine (Tryz.refBack (hS.2.2.2.2.1) SF.out.1 (by omega) K (by have := HK.out; omega)).mono ?_
   rintro e W1 ⟨v, rfl, hv, hE⟩
   exact hKO _ W1 hE ⟨_, rfl, hv⟩
  ·have q2 := hp.1
   obtain ⟨u, ev, hu⟩ := q2
   replace ev : vs 2 = _ := ev; simp only [ev] at hKO; go_simp; exact hKO _ W (Ext.refl W) ⟨u, rfl, hu⟩
  ·have q3 := hp.1
   obtain ⟨u, ev, hu⟩ := q3
   replace ev : vs 3 = _ := ev; simp only [ev] at hKO; go_simp; exact hKO _ W (Ext.refl W) hu
  ·have q3 := hp.1
   obtain ⟨u, ev, hu⟩ := q3
   replace ev : vs 3 = _ := ev; simp only [ev] at hKO; go_simp; exact hKO _ W (.refl W) rfl
  ·have hn := Bx3.new W 27 (.bool false) (.slice none 0 0) (.slice none 0 0)
   have hE := Ext.alloc1 W (.cells #[.bool false, .slice none 0 0, .slice none 0 0] 27)
   have hsz := hS.2.2.2.2.2.2.2.2
   go_simp
   exact hKO _ _ hE ⟨_, rfl, hsz, hn.form⟩
  ·have q6 := hp.1; have q4 := hp.2.1
   obtain ⟨g, ev, hg, hf⟩ := q6
   replace ev : vs 6 = _ := ev
   obtain ⟨x0_0, x0_1, x0_2, hx, hno⟩ := hf.bx3
   have qr := q4
   obtain ⟨b3, a3, n3, c3, d3, m3, o3, er, -, -, -⟩ := qr
   replace er : vs 4 = _ := er
   have r0 := hx.froz0
   have t0 := hx.cell0
   have r1 := hx.froz1
   have t1 := hx.cell1
   have r2 := hx.froz2
   have t2 := hx.cell2
   have hw := Wr.set3 hx hno b3 a3 n3 c3 d3 m3 o3
   have hq := hx.set (.bool b3) (.slice a3 n3 c3) (.slice d3 m3 o3)
   simp only [ev, er] at hKO; go_simp
   exact hKO _ _ hw ⟨(Ext.wr hS.1 hw (by omega)), (hS.2.1.wr hw), (hS.2.2.1.wr hw (by omega)), (hS.2.2.2.1.wr hw (by omega)), (hS.2.2.2.2.1.wr hw), (hS.2.2.2.2.2.1.wr hw (by omega)), (hS.2.2.2.2.2.2.1.wr hw), (hS.2.2.2.2.2.2.2.1.wr hw (by omega)), (Nat.le_trans hS.2.2.2.2.2.2.2.2 hw.apart.size)⟩ ⟨g, b3, a3, n3, c3, d3, m3, o3, ev, er, hg, hq⟩
  ·have e5 := isOf hp.1; simp only [e5] at hKO; go_simp; exact hKO _ W (.refl W) rfl
 intro vs W6 hS hp
 clear szw6 E0 h1 p2 p4 h4_5 p4_8 h5_5 p5_8
 obtain ⟨E0, h1, p2, p4, h4_5, p4_8, h5_5, p5_8, sz6⟩ := hS
 obtain ⟨h6_0, h6_1, h6_2, h6_3, h6_4, h6_5, h6_6, h6_7, h6_8, -⟩ := hp
 obtain ⟨g6_7, b6_7, a6_7, n6_7, c6_7, d6_7, m6_7, o6_7, ev6_7, er6_7, hg6_7, p6_7⟩ := h6_7
 replace ev6_7 : vs 6 = _ := ev6_7; replace er6_7 : vs 4 = _ := er6_7; replace h6_4 := (show Rw W6 (vs 4) (((p.1 * P2 K).floor : Rat) / P2 K) from h6_4)
 rw [er6_7] at h6_4
 replace h6_0 : vs 0 = .agg #[.bool b4_8, .slice a4_8 n4_8 c4_8] := h6_0
 replace h6_1 : vs 1 = .int .i64 (K : Int) := h6_1
 replace h6_5 : vs 5 = .int .i64 0 := h6_5
 replace h6_8 : vs 8 = .int .i64 0 := h6_8
 simp only [ev6_7, er6_7, h6_0, h6_1, h6_5, h6_8]
 clear ev6_7 er6_7 h6_0 h6_1 h6_5 h6_8 h6_2 h6_3 h6_6
 obtain ⟨kp2_0, kp2_1, kp2_2, kp2_3, kp2_4, kp2_5⟩ := p2.c6
 obtain ⟨kp4_0, kp4_1, kp4_2, kp4_3, kp4_4, kp4_5⟩ := p4.c6
 obtain ⟨kp4_8_0, kp4_8_1⟩ := p4_8.c2
 obtain ⟨kp5_8_0, kp5_8_1⟩ := p5_8.c2
 obtain ⟨kp6_7_0, kp6_7_1, kp6_7_2⟩ := p6_7.c3
 go_upto_region 6 with (fail)
 clear kp2_0 kp2_1 kp2_2 kp2_3 kp2_4 kp2_5 kp4_0 kp4_1 kp4_2 kp4_3 kp4_4 kp4_5 kp4_8_0 kp4_8_1 kp5_8_0 kp5_8_1 kp6_7_0 kp6_7_1 kp6_7_2; have ltp6_7 := p6_7.lt; have szw7 := Ext.size E0
 refine region_gs [.one fun v _ => v = .agg #[.bool b5_8, .slice a5_8 n5_8 c5_8],
   .one fun v _ => v = .int .i64 (K : Int),
   .one fun v W => ∃ v', v = .tuple #[v', .int .i64 0] ∧ (fun v W => Rw W v (((p.2 * P2 K).ceil : Rat) / P2 K)) v' W,
   .one fun v W => ∃ v', v = .tuple #[v', .int .i64 0] ∧ (fun v W => Rw W v (((p.2 * P2 K).ceil : Rat) / P2 K)) v' W,
   .one fun v W => Rw W v (((p.2 * P2 K).ceil : Rat) / P2 K),
   .one fun v _ => v = .int .i64 0,
   .one fun v W => ∃ g, v = .pointer (some ⟨g, 0, none⟩) ∧ W6.heap.size ≤ g ∧ Form W g 27 3,
   .three 6 4 (fun p r _ W => Put3 W6.heap.size 27 p r W),
   .one fun v _ => v = .int .i64 0]
  (fun W => Ext w W ∧ Sw W (.agg #[.bool b1, .slice a1 n1 c1, .slice d1 m1 o1, .bool bb1, .slice aa1 nn1 cc1, .slice dd1 mm1 oo1]) p ∧ Bx6 W w.heap.size 29 (.bool b1) (.slice a1 n1 c1) (.slice d1 m1 o1) (.bool bb1) (.slice aa1 nn1 cc1) (.slice dd1 mm1 oo1) ∧ Bx6 W (w.heap.size + 1) 29 (.bool false) (.slice none 0 0) (.slice none 0 0) (.bool false) (.slice none 0 0) (.slice none 0 0) ∧ Zw W (.agg #[.bool b4_8, .slice a4_8 n4_8 c4_8]) ((p.1 * P2 K).floor) ∧ Bx2 W g4_8 25 (.bool b4_8) (.slice a4_8 n4_8 c4_8) ∧ Zw W (.agg #[.bool b5_8, .slice a5_8 n5_8 c5_8]) ((p.2 * P2 K).ceil) ∧ Bx2 W g5_8 25 (.bool b5_8) (.slice a5_8 n5_8 c5_8) ∧ Rw W (.agg #[.bool b6_7, .slice a6_7 n6_7 c6_7, .slice d6_7 m6_7 o6_7]) (((p.1 * P2 K).floor : Rat) / P2 K) ∧ Bx3 W g6_7 27 (.bool b6_7) (.slice a6_7 n6_7 c6_7) (.slice d6_7 m6_7 o6_7) ∧ W6.heap.size ≤ W.heap.size) ⟨Good.is _, Good.is _, (Good.rat _).tup _, (Good.rat _).tup _, Good.rat _, Good.is _, Good.box _ _ _, cert_put3, Good.is _, trivial⟩
  ⟨E0, h1, p2, p4, h4_5, p4_8, h5_5, p5_8, h6_4, p6_7, Nat.le_refl _⟩ (A := ?A7) ?hA7 ?howe7 ?hfin7
 case hA7 =>
  intro vs
  simp only [putAll, Act.put, sA, sZ, sS, Nat.zero_add, Nat.reduceAdd]
  exact rfl
 case howe7 =>
  clear E0 h1 p2 p4 h4_5 p4_8 h5_5 p5_8 h6_4 p6_7
  intro hf
  refine ⟨oE 0 [] hf rfl ?_, oE 1 [] hf rfl ?_, oE 2 [0, 1] hf rfl ?_, oE 3 [2] hf rfl ?_, oE 4 [3] hf rfl ?_, oE 5 [3] hf rfl ?_, oE 6 [] hf rfl ?_, oW 7 [6, 4] hf rfl ?_, oE 8 [5] hf rfl ?_, trivial⟩
  all_goals intro vs W hS hp hx KO hKO
  all_goals simp only [Act.put, sA, sZ, sS] at hKO
  ·have fc0 := hS.2.2.2.2.2.2.2.1.cell0; have fc1 := hS.2.2.2.2.2.2.2.1.cell1; go_simp; exact hKO _ W (.refl W) rfl
  ·go_simp; exact hKO _ W (.refl W) rfl
  ·have e0 := isOf hp.1; have e1 := isOf hp.2.1; simp only [e0, e1] at hKO; go_simp
   refine (Tryz.refBack (hS.2.2.2.2.2.2.1) SF.out.2 (by omega) K (by have := HK.out; omega)).mono ?_
   rintro e W1 ⟨v, rfl, hv, hE⟩
   exact hKO _ W1 hE ⟨_, rfl, hv⟩
  ·have q2 := hp.1
   obtain ⟨u, ev, hu⟩ := q2
   replace ev : vs 2 = _ := ev; simp only [ev] at hKO; go_simp; exact hKO _ W (Ext.refl W) ⟨u, rfl, hu⟩
  ·have q3 := hp.1
   obtain ⟨u, ev, hu⟩ := q3
   replace ev : vs 3 = _ := ev; simp only [ev] at hKO; go_simp; exact hKO _ W (Ext.refl W) hu
  ·have q3 := hp.1
   obtain ⟨u, ev, hu⟩ := q3
   replace ev : vs 3 = _ := ev; simp only [ev] at hKO; go_simp; exact hKO _ W (.refl W) rfl
  ·have hn := Bx3.new W 27 (.bool false) (.slice none 0 0) (.slice none 0 0)
   have hE := Ext.alloc1 W (.cells #[.bool false, .slice none 0 0, .slice none 0 0] 27)
   have hsz := hS.2.2.2.2.2.2.2.2.2.2
   go_simp
   exact hKO _ _ hE ⟨_, rfl, hsz, hn.form⟩
  ·have q6 := hp.1; have q4 := hp.2.1
   obtain ⟨g, ev, hg, hf⟩ := q6
   replace ev : vs 6 = _ := ev
   obtain ⟨x0_0, x0_1, x0_2, hx, hno⟩ := hf.bx3
   have qr := q4
   obtain ⟨b3, a3, n3, c3, d3, m3, o3, er, -, -, -⟩ := qr
   replace er : vs 4 = _ := er
   have r0 := hx.froz0
   have t0 := hx.cell0
   have r1 := hx.froz1
   have t1 := hx.cell1
   have r2 := hx.froz2
   have t2 := hx.cell2
   have hw := Wr.set3 hx hno b3 a3 n3 c3 d3 m3 o3
   have hq := hx.set (.bool b3) (.slice a3 n3 c3) (.slice d3 m3 o3)
   simp only [ev, er] at hKO; go_simp
   exact hKO _ _ hw ⟨(Ext.wr hS.1 hw (by omega)), (hS.2.1.wr hw), (hS.2.2.1.wr hw (by omega)), (hS.2.2.2.1.wr hw (by omega)), (hS.2.2.2.2.1.wr hw), (hS.2.2.2.2.2.1.wr hw (by omega)), (hS.2.2.2.2.2.2.1.wr hw), (hS.2.2.2.2.2.2.2.1.wr hw (by omega)), (hS.2.2.2.2.2.2.2.2.1.wr hw), (hS.2.2.2.2.2.2.2.2.2.1.wr hw (by omega)), (Nat.le_trans hS.2.2.2.2.2.2.2.2.2.2 hw.apart.size)⟩ ⟨g, b3, a3, n3, c3, d3, m3, o3, ev, er, hg, hq⟩
  ·have e5 := isOf hp.1; simp only [e5] at hKO; go_simp; exact hKO _ W (.refl W) rfl
 intro vs W7 hS hp
 clear szw7 E0 h1 p2 p4 h4_5 p4_8 h5_5 p5_8 h6_4 p6_7
 obtain ⟨E0, h1, p2, p4, h4_5, p4_8, h5_5, p5_8, h6_4, p6_7, sz7⟩ := hS
 obtain ⟨h7_0, h7_1, h7_2, h7_3, h7_4, h7_5, h7_6, h7_7, h7_8, -⟩ := hp
 obtain ⟨g7_7, b7_7, a7_7, n7_7, c7_7, d7_7, m7_7, o7_7, ev7_7, er7_7, hg7_7, p7_7⟩ := h7_7
 replace ev7_7 : vs 6 = _ := ev7_7; replace er7_7 : vs 4 = _ := er7_7; replace h7_4 := (show Rw W7 (vs 4) (((p.2 * P2 K).ceil : Rat) / P2 K) from h7_4)
 rw [er7_7] at h7_4
 replace h7_0 : vs 0 = .agg #[.bool b5_8, .slice a5_8 n5_8 c5_8] := h7_0
 replace h7_1 : vs 1 = .int .i64 (K : Int) := h7_1
 replace h7_5 : vs 5 = .int .i64 0 := h7_5
 replace h7_8 : vs 8 = .int .i64 0 := h7_8
 simp only [ev7_7, er7_7, h7_0, h7_1, h7_5, h7_8]
 clear ev7_7 er7_7 h7_0 h7_1 h7_5 h7_8 h7_2 h7_3 h7_6
 obtain ⟨kp2_0, kp2_1, kp2_2, kp2_3, kp2_4, kp2_5⟩ := p2.c6
 obtain ⟨kp4_0, kp4_1, kp4_2, kp4_3, kp4_4, kp4_5⟩ := p4.c6
 obtain ⟨kp4_8_0, kp4_8_1⟩ := p4_8.c2
 obtain ⟨kp5_8_0, kp5_8_1⟩ := p5_8.c2
 obtain ⟨kp6_7_0, kp6_7_1, kp6_7_2⟩ := p6_7.c3
 obtain ⟨kp7_7_0, kp7_7_1, kp7_7_2⟩ := p7_7.c3
 go_upto_region 7 with (fail)
 clear kp2_0 kp2_1 kp2_2 kp2_3 kp2_4 kp2_5 kp4_0 kp4_1 kp4_2 kp4_3 kp4_4 kp4_5 kp4_8_0 kp4_8_1 kp5_8_0 kp5_8_1 kp6_7_0 kp6_7_1 kp6_7_2 kp7_7_0 kp7_7_1 kp7_7_2; have fp4 := p4.form; have ltp7_7 := p7_7.lt; have szw8 := Ext.size E0
 refine region_gs [.one fun v _ => v = .agg #[.bool b6_7, .slice a6_7 n6_7 c6_7, .slice d6_7 m6_7 o6_7],
   .one fun v _ => v = .agg #[.bool b7_7, .slice a7_7 n7_7 c7_7, .slice d7_7 m7_7 o7_7],
   .one fun v _ => v = .agg #[.bool b6_7, .slice a6_7 n6_7 c6_7, .slice d6_7 m6_7 o6_7, .bool b7_7, .slice a7_7 n7_7 c7_7, .slice d7_7 m7_7 o7_7],
   .own fun W => Bx6 W (w.heap.size + 1) 29 (.bool b6_7) (.slice a6_7 n6_7 c6_7) (.slice d6_7 m6_7 o6_7) (.bool b7_7) (.slice a7_7 n7_7 c7_7) (.slice d7_7 m7_7 o7_7),
   .one fun v _ => v = .int .i64 0]
  (fun W => Ext w W ∧ Sw W (.agg #[.bool b1, .slice a1 n1 c1, .slice d1 m1 o1, .bool bb1, .slice aa1 nn1 cc1, .slice dd1 mm1 oo1]) p ∧ Bx6 W w.heap.size 29 (.bool b1) (.slice a1 n1 c1) (.slice d1 m1 o1) (.bool bb1) (.slice aa1 nn1 cc1) (.slice dd1 mm1 oo1) ∧ Form W (w.heap.size + 1) 29 6 ∧ Zw W (.agg #[.bool b4_8, .slice a4_8 n4_8 c4_8]) ((p.1 * P2 K).floor) ∧ Bx2 W g4_8 25 (.bool b4_8) (.slice a4_8 n4_8 c4_8) ∧ Zw W (.agg #[.bool b5_8, .slice a5_8 n5_8 c5_8]) ((p.2 * P2 K).ceil) ∧ Bx2 W g5_8 25 (.bool b5_8) (.slice a5_8 n5_8 c5_8) ∧ Rw W (.agg #[.bool b6_7, .slice a6_7 n6_7 c6_7, .slice d6_7 m6_7 o6_7]) (((p.1 * P2 K).floor : Rat) / P2 K) ∧ Bx3 W g6_7 27 (.bool b6_7) (.slice a6_7 n6_7 c6_7) (.slice d6_7 m6_7 o6_7) ∧ Rw W (.agg #[.bool b7_7, .slice a7_7 n7_7 c7_7, .slice d7_7 m7_7 o7_7]) (((p.2 * P2 K).ceil : Rat) / P2 K) ∧ Bx3 W g7_7 27 (.bool b7_7) (.slice a7_7 n7_7 c7_7) (.slice d7_7 m7_7 o7_7) ∧ W7.heap.size ≤ W.heap.size) ⟨Good.is _, Good.is _, Good.is _, cert_bx6, Good.is _, trivial⟩
  ⟨E0, h1, p2, fp4, h4_5, p4_8, h5_5, p5_8, h6_4, p6_7, h7_4, p7_7, Nat.le_refl _⟩ (A := ?A8) ?hA8 ?howe8 ?hfin8
 case hA8 =>
  intro vs
  simp only [putAll, Act.put, sA, sZ, sS, Nat.zero_add, Nat.reduceAdd]
  exact rfl
 case howe8 =>
  clear E0 h1 p2 fp4 h4_5 p4_8 h5_5 p5_8 h6_4 p6_7 h7_4 p7_7
  intro hf
  refine ⟨oE 0 [] hf rfl ?_, oE 1 [] hf rfl ?_, oE 2 [0, 1] hf rfl ?_, oW 3 [2] hf rfl ?_, oE 4 [] hf rfl ?_, trivial⟩
  all_goals intro vs W hS hp hx KO hKO
  all_goals simp only [Act.put, sA, sZ, sS] at hKO
  ·have fc0 := hS.2.2.2.2.2.2.2.2.2.1.cell0; have fc1 := hS.2.2.2.2.2.2.2.2.2.1.cell1; have fc2 := hS.2.2.2.2.2.2.2.2.2.1.cell2; go_simp; exact hKO _ W (.refl W) rfl
  ·have fc0 := hS.2.2.2.2.2.2.2.2.2.2.2.1.cell0; have fc1 := hS.2.2.2.2.2.2.2.2.2.2.2.1.cell1; have fc2 := hS.2.2.2.2.2.2.2.2.2.2.2.1.cell2; go_simp; exact hKO _ W (.refl W) rfl
  ·have e0 := isOf hp.1; have e1 := isOf hp.2.1; simp only [e0, e1] at hKO; go_simp; exact hKO _ W (.refl W) rfl
  ·have e2 := isOf hp.1; simp only [e2] at hKO
   have hf := hS.2.2.2.1
   obtain ⟨x0_0, x0_1, x0_2, x0_3, x0_4, x0_5, hx, hno⟩ := hf.bx6
   have r0 := hx.froz0
   have t0 := hx.cell0
   have r1 := hx.froz1
   have t1 := hx.cell1
   have r2 := hx.froz2
   have t2 := hx.cell2
   have r3 := hx.froz3
   have t3 := hx.cell3
   have r4 := hx.froz4
   have t4 := hx.cell4
   have r5 := hx.froz5
   have t5 := hx.cell5
   have hw := Wr.set6 hx hno b6_7 a6_7 n6_7 c6_7 d6_7 m6_7 o6_7 b7_7 a7_7 n7_7 c7_7 d7_7 m7_7 o7_7
   have hq := hx.set (.bool b6_7) (.slice a6_7 n6_7 c6_7) (.slice d6_7 m6_7 o6_7) (.bool b7_7) (.slice a7_7 n7_7 c7_7) (.slice d7_7 m7_7 o7_7)
   have hg : (w.heap.size + 1) ≤ (w.heap.size + 1) := Nat.le_refl _
   go_simp
   exact hKO _ _ hw ⟨(Ext.wr hS.1 hw (by omega)), (hS.2.1.wr hw), (hS.2.2.1.wr hw (by omega)), (hS.2.2.2.1.wr hw), (hS.2.2.2.2.1.wr hw), (hS.2.2.2.2.2.1.wr hw (by omega)), (hS.2.2.2.2.2.2.1.wr hw), (hS.2.2.2.2.2.2.2.1.wr hw (by omega)), (hS.2.2.2.2.2.2.2.2.1.wr hw), (hS.2.2.2.2.2.2.2.2.2.1.wr hw (by omega)), (hS.2.2.2.2.2.2.2.2.2.2.1.wr hw), (hS.2.2.2.2.2.2.2.2.2.2.2.1.wr hw (by omega)), (Nat.le_trans hS.2.2.2.2.2.2.2.2.2.2.2.2 hw.apart.size)⟩ hq
  ·go_simp; exact hKO _ W (.refl W) rfl
 intro vs W8 hS hp
 clear szw8 E0 h1 p2 fp4 h4_5 p4_8 h5_5 p5_8 h6_4 p6_7 h7_4 p7_7
 obtain ⟨E0, h1, p2, fp4, h4_5, p4_8, h5_5, p5_8, h6_4, p6_7, h7_4, p7_7, sz8⟩ := hS
 obtain ⟨h8_0, h8_1, h8_2, h8_3, h8_4, -⟩ := hp
 have p8_3 : Bx6 W8 (w.heap.size + 1) 29 (.bool b6_7) (.slice a6_7 n6_7 c6_7) (.slice d6_7 m6_7 o6_7) (.bool b7_7) (.slice a7_7 n7_7 c7_7) (.slice d7_7 m7_7 o7_7) := h8_3
 replace h8_0 : vs 0 = .agg #[.bool b6_7, .slice a6_7 n6_7 c6_7, .slice d6_7 m6_7 o6_7] := h8_0
 replace h8_1 : vs 1 = .agg #[.bool b7_7, .slice a7_7 n7_7 c7_7, .slice d7_7 m7_7 o7_7] := h8_1
 replace h8_2 : vs 2 = .agg #[.bool b6_7, .slice a6_7 n6_7 c6_7, .slice d6_7 m6_7 o6_7, .bool b7_7, .slice a7_7 n7_7 c7_7, .slice d7_7 m7_7 o7_7] := h8_2
 replace h8_4 : vs 4 = .int .i64 0 := h8_4
 simp only [h8_0, h8_1, h8_2, h8_4]
 clear h8_0 h8_1 h8_2 h8_4
 obtain ⟨kp2_0, kp2_1, kp2_2, kp2_3, kp2_4, kp2_5⟩ := p2.c6
 obtain ⟨kp4_8_0, kp4_8_1⟩ := p4_8.c2
 obtain ⟨kp5_8_0, kp5_8_1⟩ := p5_8.c2
 obtain ⟨kp6_7_0, kp6_7_1, kp6_7_2⟩ := p6_7.c3
 obtain ⟨kp7_7_0, kp7_7_1, kp7_7_2⟩ := p7_7.c3
 obtain ⟨kp8_3_0, kp8_3_1, kp8_3_2, kp8_3_3, kp8_3_4, kp8_3_5⟩ := p8_3.c6
 go_wp2
 exact bodyPost_ret (v := .tuple #[.agg #[.bool b6_7, .slice a6_7 n6_7 c6_7, .slice d6_7 m6_7 o6_7, .bool b7_7, .slice a7_7 n7_7 c7_7, .slice d7_7 m7_7 o7_7], .int .i64 0]) (by simp [results, Tryz.results28, go_sem, kp8_3_0, kp8_3_1, kp8_3_2, kp8_3_3, kp8_3_4, kp8_3_5]) rfl ⟨_, rfl, Sw.mk h6_4 h7_4, E0⟩

set_option maxRecDepth 100000 in
set_option maxHeartbeats 8000000 in
theorem Tryz.ivOutGrid {v1 : Value} {p : Rat × Rat} {w : World} (h1 : Sw w v1 p) (k : Int) (hk : k < 0 ∨ 1000 < k) :
  Calls Tryz.prog 35 #[v1, .int .i64 k] w fun e w' => e = .returned (.tuple #[.agg #[.bool false, .slice none 0 0, .slice none 0 0, .bool false, .slice none 0 0, .slice none 0 0], .int .i64 1]) ∧ Ext w w' := by
 obtain ⟨b1, a1, n1, c1, d1, m1, o1, bb1, aa1, nn1, cc1, dd1, mm1, oo1, rfl, q1⟩ : ∃ b1 a1 n1 c1 d1 m1 o1 bb1 aa1 nn1 cc1 dd1 mm1 oo1, v1 = .agg #[.bool b1, .slice a1 n1 c1, .slice d1 m1 o1, .bool bb1, .slice aa1 nn1 cc1, .slice dd1 mm1 oo1] ∧ True := let ⟨b1, a1, n1, c1, d1, m1, o1, bb1, aa1, nn1, cc1, dd1, mm1, oo1, e, _⟩ := h1; ⟨b1, a1, n1, c1, d1, m1, o1, bb1, aa1, nn1, cc1, dd1, mm1, oo1, e, trivial⟩
 clear q1
 have HG : Hid (gridB k = false) := Lib.hid (decide_eq_false (by omega))
 obtain ⟨W0, hW0⟩ : ∃ W0, W0 = ((w.alloc (.cells #[.bool b1, .slice a1 n1 c1, .slice d1 m1 o1, .bool bb1, .slice aa1 nn1 cc1, .slice dd1 mm1 oo1] 29)).alloc (.cells #[.bool false, .slice none 0 0, .slice none 0 0, .bool false, .slice none 0 0, .slice none 0 0] 29)) := ⟨_, rfl⟩
 have E0 : Ext w W0 := by rw [hW0]; exact ((Ext.alloc1 w (.cells #[.bool b1, .slice a1 n1 c1, .slice d1 m1 o1, .bool bb1, .slice aa1 nn1 cc1, .slice dd1 mm1 oo1] 29)).alloc (.cells #[.bool false, .slice none 0 0, .slice none 0 0, .bool false, .slice none 0 0, .slice none 0 0] 29))
 replace h1 : Sw W0 (.agg #[.bool b1, .slice a1 n1 c1, .slice d1 m1 o1, .bool bb1, .slice aa1 nn1 cc1, .slice dd1 mm1 oo1]) p := h1.ext E0
 have p2 : Bx6 W0 w.heap.size 29 (.bool b1) (.slice a1 n1 c1) (.slice d1 m1 o1) (.bool bb1) (.slice aa1 nn1 cc1) (.slice dd1 mm1 oo1) := by rw [hW0]; exact (Bx6.new w 29 (.bool b1) (.slice a1 n1 c1) (.slice d1 m1 o1) (.bool bb1) (.slice aa1 nn1 cc1) (.slice dd1 mm1 oo1)).ext (Ext.alloc1 (w.alloc (.cells #[.bool b1, .slice a1 n1 c1, .slice d1 m1 o1, .bool bb1, .slice aa1 nn1 cc1, .slice dd1 mm1 oo1] 29)) (.cells #[.bool false, .slice none 0 0, .slice none 0 0, .bool false, .slice none 0 0, .slice none 0 0] 29))
 have p4 : Bx6 W0 (w.heap.size + 1) 29 (.bool false) (.slice none 0 0) (.slice none 0 0) (.bool false) (.slice none 0 0) (.slice none 0 0) := by rw [hW0]; simpa using (Bx6.new (w.alloc (.cells #[.bool b1, .slice a1 n1 c1, .slice d1 m1 o1, .bool bb1, .slice aa1 nn1 cc1, .slice dd1 mm1 oo1] 29)) 29 (.bool false) (.slice none 0 0) (.slice none 0 0) (.bool false) (.slice none 0 0) (.slice none 0 0))
 go_enter Tryz.func35, Tryz.ntmps35
 obtain ⟨kp2_0, kp2_1, kp2_2, kp2_3, kp2_4, kp2_5⟩ := p2.c6
 obtain ⟨kp4_0, kp4_1, kp4_2, kp4_3, kp4_4, kp4_5⟩ := p4.c6
 go_wp2_with fail
 rw [← hW0]
 clear hW0; clear kp2_0 kp2_1 kp2_2 kp2_3 kp2_4 kp2_5 kp4_0 kp4_1 kp4_2 kp4_3 kp4_4 kp4_5
 refine (Tryz.ivGrid _ _).mono ?_
 rintro e W ⟨rfl, rfl⟩
 rw [HG.out]
 obtain ⟨kp2_0, kp2_1, kp2_2, kp2_3, kp2_4, kp2_5⟩ := p2.c6
 obtain ⟨kp4_0, kp4_1, kp4_2, kp4_3, kp4_4, kp4_5⟩ := p4.c6
 go_upto_region 2 with (fail)
 clear kp2_0 kp2_1 kp2_2 kp2_3 kp2_4 kp2_5 kp4_0 kp4_1 kp4_2 kp4_3 kp4_4 kp4_5; have fp4 := p4.form; have ltp2 := p2.lt; have ltfp4 := fp4.lt; have szw9 := Ext.size E0
 refine region_gs [.one fun v _ => v = .agg #[.bool false, .slice none 0 0, .slice none 0 0, .bool false, .slice none 0 0, .slice none 0 0],
   .own fun W => Bx6 W (w.heap.size + 1) 29 (.bool false) (.slice none 0 0) (.slice none 0 0) (.bool false) (.slice none 0 0) (.slice none 0 0),
   .one fun v _ => v = .int .i64 1]
  (fun W => Ext w W ∧ Sw W (.agg #[.bool b1, .slice a1 n1 c1, .slice d1 m1 o1, .bool bb1, .slice aa1 nn1 cc1, .slice dd1 mm1 oo1]) p ∧ Bx6 W w.heap.size 29 (.bool b1) (.slice a1 n1 c1) (.slice d1 m1 o1) (.bool bb1) (.slice aa1 nn1 cc1) (.slice dd1 mm1 oo1) ∧ Form W (w.heap.size + 1) 29 6 ∧ W0.heap.size ≤ W.heap.size) ⟨Good.is _, cert_bx6, Good.is _, trivial⟩
  ⟨E0, h1, p2, fp4, Nat.le_refl _⟩ (A := ?A9) ?hA9 ?howe9 ?hfin9
 case hA9 =>
  intro vs
  simp only [putAll, Act.put, sA, sZ, sS, Nat.zero_add, Nat.reduceAdd]
  exact rfl
 case howe9 =>
  clear E0 h1 p2 fp4
  intro hf
  refine ⟨oE 0 [] hf rfl ?_, oW 1 [0] hf rfl ?_, oE 2 [] hf rfl ?_, trivial⟩
  all_goals intro vs W hS hp hx KO hKO
  all_goals simp only [Act.put, sA, sZ, sS] at hKO
  ·go_simp; exact hKO _ W (.refl W) rfl
  ·have e0 := isOf hp.1; simp only [e0] at hKO
   have hf := hS.2.2.2.1
   obtain ⟨x0_0, x0_1, x0_2, x0_3, x0_4, x0_5, hx, hno⟩ := hf.bx6
   have r0 := hx.froz0
   have t0 := hx.cell0
   have r1 := hx.froz1
   have t1 := hx.cell1
   have r2 := hx.froz2
   have t2 := hx.cell2
   have r3 := hx.froz3
   have t3 := hx.cell3
   have r4 := hx.froz4
   have t4 := hx.cell4
   have r5 := hx.froz5
   have t5 := hx.cell5
   have hw := Wr.set6 hx hno false none 0 0 none 0 0 false none 0 0 none 0 0
   have hq := hx.set (.bool false) (.slice none 0 0) (.slice none 0 0) (.bool false) (.slice none 0 0) (.slice none 0 0)
   have hg : (w.heap.size + 1) ≤ (w.heap.size + 1) := Nat.le_refl _
   go_simp
   exact hKO _ _ hw ⟨(Ext.wr hS.1 hw (by omega)), (hS.2.1.wr hw), (hS.2.2.1.wr hw (by omega)), (hS.2.2.2.1.wr hw), (Nat.le_trans hS.2.2.2.2 hw.apart.size)⟩ hq
  ·go_simp; exact hKO _ W (.refl W) rfl
 intro vs W9 hS hp
 clear szw9 E0 h1 p2 fp4
 obtain ⟨E0, h1, p2, fp4, sz9⟩ := hS
 obtain ⟨h9_0, h9_1, h9_2, -⟩ := hp
 have p9_1 : Bx6 W9 (w.heap.size + 1) 29 (.bool false) (.slice none 0 0) (.slice none 0 0) (.bool false) (.slice none 0 0) (.slice none 0 0) := h9_1
 replace h9_0 : vs 0 = .agg #[.bool false, .slice none 0 0, .slice none 0 0, .bool false, .slice none 0 0, .slice none 0 0] := h9_0
 replace h9_2 : vs 2 = .int .i64 1 := h9_2
 simp only [h9_0, h9_2]
 clear h9_0 h9_2
 obtain ⟨kp2_0, kp2_1, kp2_2, kp2_3, kp2_4, kp2_5⟩ := p2.c6
 obtain ⟨kp9_1_0, kp9_1_1, kp9_1_2, kp9_1_3, kp9_1_4, kp9_1_5⟩ := p9_1.c6
 go_wp2
 exact bodyPost_ret (v := .tuple #[.agg #[.bool false, .slice none 0 0, .slice none 0 0, .bool false, .slice none 0 0, .slice none 0 0], .int .i64 1]) (by simp [results, Tryz.results35, go_sem, kp9_1_0, kp9_1_1, kp9_1_2, kp9_1_3, kp9_1_4, kp9_1_5]) rfl ⟨rfl, E0⟩

set_option maxRecDepth 100000 in
set_option maxHeartbeats 8000000 in
theorem Tryz.ivSqrtGrid {v1 : Value} {p : Rat × Rat} {w : World} (h1 : Sw w v1 p) (k : Int) (hk : k < 0 ∨ 1000 < k) :
  Calls Tryz.prog 22 #[v1, .int .i64 k] w fun e w' => e = .returned (.tuple #[.agg #[.bool false, .slice none 0 0, .slice none 0 0, .bool false, .slice none 0 0, .slice none 0 0], .int .i64 1]) ∧ Ext w w' := by
 obtain ⟨b1, a1, n1, c1, d1, m1, o1, bb1, aa1, nn1, cc1, dd1, mm1, oo1, rfl, q1⟩ : ∃ b1 a1 n1 c1 d1 m1 o1 bb1 aa1 nn1 cc1 dd1 mm1 oo1, v1 = .agg #[.bool b1, .slice a1 n1 c1, .slice d1 m1 o1, .bool bb1, .slice aa1 nn1 cc1, .slice dd1 mm1 oo1] ∧ True := let ⟨b1, a1, n1, c1, d1, m1, o1, bb1, aa1, nn1, cc1, dd1, mm1, oo1, e, _⟩ := h1; ⟨b1, a1, n1, c1, d1, m1, o1, bb1, aa1, nn1, cc1, dd1, mm1, oo1, e, trivial⟩
 clear q1
 have HG : Hid (gridB k = false) := Lib.hid (decide_eq_false (by omega))
 obtain ⟨W0, hW0⟩ : ∃ W0, W0 = ((w.alloc (.cells #[.bool b1, .slice a1 n1 c1, .slice d1 m1 o1, .bool bb1, .slice aa1 nn1 cc1, .slice dd1 mm1 oo1] 29)).alloc (.cells #[.bool false, .slice none 0 0, .slice none 0 0, .bool false, .slice none 0 0, .slice none 0 0] 29)) := ⟨_, rfl⟩
 have E0 : Ext w W0 := by rw [hW0]; exact ((Ext.alloc1 w (.cells #[.bool b1, .slice a1 n1 c1, .slice d1 m1 o1, .bool bb1, .slice aa1 nn1 cc1, .slice dd1 mm1 oo1] 29)).alloc (.cells #[.bool false, .slice none 0 0, .slice none 0 0, .bool false, .slice none 0 0, .slice none 0 0] 29))
 replace h1 : Sw W0 (.agg #[.bool b1, .slice a1 n1 c1, .slice d1 m1 o1, .bool bb1, .slice aa1 nn1 cc1, .slice dd1 mm1 oo1]) p := h1.ext E0
 have p2 : Bx6 W0 w.heap.size 29 (.bool b1) (.slice a1 n1 c1) (.slice d1 m1 o1) (.bool bb1) (.slice aa1 nn1 cc1) (.slice dd1 mm1 oo1) := by rw [hW0]; exact (Bx6.new w 29 (.bool b1) (.slice a1 n1 c1) (.slice d1 m1 o1) (.bool bb1) (.slice aa1 nn1 cc1) (.slice dd1 mm1 oo1)).ext (Ext.alloc1 (w.alloc (.cells #[.bool b1, .slice a1 n1 c1, .slice d1 m1 o1, .bool bb1, .slice aa1 nn1 cc1, .slice dd1 mm1 oo1] 29)) (.cells #[.bool false, .slice none 0 0, .slice none 0 0, .bool false, .slice none 0 0, .slice none 0 0] 29))
 have p4 : Bx6 W0 (w.heap.size + 1) 29 (.bool false) (.slice none 0 0) (.slice none 0 0) (.bool false) (.slice none 0 0) (.slice none 0 0) := by rw [hW0]; simpa using (Bx6.new (w.alloc (.cells #[.bool b1, .slice a1 n1 c1, .slice d1 m1 o1, .bool bb1, .slice aa1 nn1 cc1, .slice dd1 mm1 oo1] 29)) 29 (.bool false) (.slice none 0 0) (.slice none 0 0) (.bool false) (.slice none 0 0) (.slice none 0 0))
 go_enter Tryz.func22, Tryz.ntmps22
 obtain ⟨kp2_0, kp2_1, kp2_2, kp2_3, kp2_4, kp2_5⟩ := p2.c6
 obtain ⟨kp4_0, kp4_1, kp4_2, kp4_3, kp4_4, kp4_5⟩ := p4.c6
 go_wp2_with fail
 rw [← hW0]
 clear hW0; clear kp2_0 kp2_1 kp2_2 kp2_3 kp2_4 kp2_5 kp4_0 kp4_1 kp4_2 kp4_3 kp4_4 kp4_5
 refine (Tryz.ivGrid _ _).mono ?_
 rintro e W ⟨rfl, rfl⟩
 rw [HG.out]
 obtain ⟨kp2_0, kp2_1, kp2_2, kp2_3, kp2_4, kp2_5⟩ := p2.c6
 obtain ⟨kp4_0, kp4_1, kp4_2, kp4_3, kp4_4, kp4_5⟩ := p4.c6
 go_upto_region 2 with (fail)
 clear kp2_0 kp2_1 kp2_2 kp2_3 kp2_4 kp2_5 kp4_0 kp4_1 kp4_2 kp4_3 kp4_4 kp4_5; have fp4 := p4.form; have ltp2 := p2.lt; have ltfp4 := fp4.lt; have szw10 := Ext.size E0
 refine region_gs [.one fun v _ => v = .agg #[.bool false, .slice none 0 0, .slice none 0 0, .bool false, .slice none 0 0, .slice none 0 0],
   .own fun W => Bx6 W (w.heap.size + 1) 29 (.bool false) (.slice none 0 0) (.slice none 0 0) (.bool false) (.slice none 0 0) (.slice none 0 0),
   .one fun v _ => v = .int .i64 1]
  (fun W => Ext w W ∧ Sw W (.agg #[.bool b1, .slice a1 n1 c1, .slice d1 m1 o1, .bool bb1, .slice aa1 nn1 cc1, .slice dd1 mm1 oo1]) p ∧ Bx6 W w.heap.size 29 (.bool b1) (.slice a1 n1 c1) (.slice d1 m1 o1) (.bool bb1) (.slice aa1 nn1 cc1) (.slice dd1 mm1 oo1) ∧ Form W (w.heap.size + 1) 29 6 ∧ W0.heap.size ≤ W.heap.size) ⟨Good.is _, cert_bx6, Good.is _, trivial⟩
  ⟨E0, h1, p2, fp4, Nat.le_refl _⟩ (A := ?A10) ?hA10 ?howe10 ?hfin10
 case hA10 =>
  intro vs
  simp only [putAll, Act.put, sA, sZ, sS, Nat.zero_add, Nat.reduceAdd]
  exact rfl
 case howe10 =>
  clear E0 h1 p2 fp4
  intro hf
  refine ⟨oE 0 [] hf rfl ?_, oW 1 [0] hf rfl ?_, oE 2 [] hf rfl ?_, trivial⟩
  all_goals intro vs W hS hp hx KO hKO
  all_goals simp only [Act.put, sA, sZ, sS] at hKO
  ·go_simp; exact hKO _ W (.refl W) rfl
  ·have e0 := isOf hp.1; simp only [e0] at hKO
   have hf := hS.2.2.2.1
   obtain ⟨x0_0, x0_1, x0_2, x0_3, x0_4, x0_5, hx, hno⟩ := hf.bx6
   have r0 := hx.froz0
   have t0 := hx.cell0
   have r1 := hx.froz1
   have t1 := hx.cell1
   have r2 := hx.froz2
   have t2 := hx.cell2
   have r3 := hx.froz3
   have t3 := hx.cell3
   have r4 := hx.froz4
   have t4 := hx.cell4
   have r5 := hx.froz5
   have t5 := hx.cell5
   have hw := Wr.set6 hx hno false none 0 0 none 0 0 false none 0 0 none 0 0
   have hq := hx.set (.bool false) (.slice none 0 0) (.slice none 0 0) (.bool false) (.slice none 0 0) (.slice none 0 0)
   have hg : (w.heap.size + 1) ≤ (w.heap.size + 1) := Nat.le_refl _
   go_simp
   exact hKO _ _ hw ⟨(Ext.wr hS.1 hw (by omega)), (hS.2.1.wr hw), (hS.2.2.1.wr hw (by omega)), (hS.2.2.2.1.wr hw), (Nat.le_trans hS.2.2.2.2 hw.apart.size)⟩ hq
  ·go_simp; exact hKO _ W (.refl W) rfl
 intro vs W10 hS hp
 clear szw10 E0 h1 p2 fp4
 obtain ⟨E0, h1, p2, fp4, sz10⟩ := hS
 obtain ⟨h10_0, h10_1, h10_2, -⟩ := hp
 have p10_1 : Bx6 W10 (w.heap.size + 1) 29 (.bool false) (.slice none 0 0) (.slice none 0 0) (.bool false) (.slice none 0 0) (.slice none 0 0) := h10_1
 replace h10_0 : vs 0 = .agg #[.bool false, .slice none 0 0, .slice none 0 0, .bool false, .slice none 0 0, .slice none 0 0] := h10_0
 replace h10_2 : vs 2 = .int .i64 1 := h10_2
 simp only [h10_0, h10_2]
 clear h10_0 h10_2
 obtain ⟨kp2_0, kp2_1, kp2_2, kp2_3, kp2_4, kp2_5⟩ := p2.c6
 obtain ⟨kp10_1_0, kp10_1_1, kp10_1_2, kp10_1_3, kp10_1_4, kp10_1_5⟩ := p10_1.c6
 go_wp2
 exact bodyPost_ret (v := .tuple #[.agg #[.bool false, .slice none 0 0, .slice none 0 0, .bool false, .slice none 0 0, .slice none 0 0], .int .i64 1]) (by simp [results, Tryz.results22, go_sem, kp10_1_0, kp10_1_1, kp10_1_2, kp10_1_3, kp10_1_4, kp10_1_5]) rfl ⟨rfl, E0⟩

set_option maxRecDepth 100000 in
set_option maxHeartbeats 8000000 in
theorem Tryz.ivSqrtNeg {v1 : Value} {p : Rat × Rat} {w : World} (h1 : Sw w v1 p) (K : Nat) (hK : K ≤ 1000) (hp : p.1 < 0) :
  Calls Tryz.prog 22 #[v1, .int .i64 (K : Int)] w fun e w' => e = .returned (.tuple #[.agg #[.bool false, .slice none 0 0, .slice none 0 0, .bool false, .slice none 0 0, .slice none 0 0], .int .i64 1]) ∧ Ext w w' := by
 obtain ⟨b1, a1, n1, c1, d1, m1, o1, bb1, aa1, nn1, cc1, dd1, mm1, oo1, rfl, q1⟩ : ∃ b1 a1 n1 c1 d1 m1 o1 bb1 aa1 nn1 cc1 dd1 mm1 oo1, v1 = .agg #[.bool b1, .slice a1 n1 c1, .slice d1 m1 o1, .bool bb1, .slice aa1 nn1 cc1, .slice dd1 mm1 oo1] ∧ True := let ⟨b1, a1, n1, c1, d1, m1, o1, bb1, aa1, nn1, cc1, dd1, mm1, oo1, e, _⟩ := h1; ⟨b1, a1, n1, c1, d1, m1, o1, bb1, aa1, nn1, cc1, dd1, mm1, oo1, e, trivial⟩
 clear q1
 have hb := h1.lo_neg hp rfl
 subst hb
 have HG : Hid (gridB (K : Int) = true) := Lib.hid (decide_eq_true ⟨by omega, by omega⟩)
 have hk0 : ¬ (K : Int) < 0 := by omega
 have hk1 : ¬ (K : Int) > 1000 := by omega
 clear hK hp
 obtain ⟨W0, hW0⟩ : ∃ W0, W0 = ((w.alloc (.cells #[.bool true, .slice a1 n1 c1, .slice d1 m1 o1, .bool bb1, .slice aa1 nn1 cc1, .slice dd1 mm1 oo1] 29)).alloc (.cells #[.bool false, .slice none 0 0, .slice none 0 0, .bool false, .slice none 0 0, .slice none 0 0] 29)) := ⟨_, rfl⟩
 have E0 : Ext w W0 := by rw [hW0]; exact ((Ext.alloc1 w (.cells #[.bool true, .slice a1 n1 c1, .slice d1 m1 o1, .bool bb1, .slice aa1 nn1 cc1, .slice dd1 mm1 oo1] 29)).alloc (.cells #[.bool false, .slice none 0 0, .slice none 0 0, .bool false, .slice none 0 0, .slice none 0 0] 29))
 replace h1 : Sw W0 (.agg #[.bool true, .slice a1 n1 c1, .slice d1 m1 o1, .bool bb1, .slice aa1 nn1 cc1, .slice dd1 mm1 oo1]) p := h1.ext E0
 have p2 : Bx6 W0 w.heap.size 29 (.bool true) (.slice a1 n1 c1) (.slice d1 m1 o1) (.bool bb1) (.slice aa1 nn1 cc1) (.slice dd1 mm1 oo1) := by rw [hW0]; exact (Bx6.new w 29 (.bool true) (.slice a1 n1 c1) (.slice d1 m1 o1) (.bool bb1) (.slice aa1 nn1 cc1) (.slice dd1 mm1 oo1)).ext (Ext.alloc1 (w.alloc (.cells #[.bool true, .slice a1 n1 c1, .slice d1 m1 o1, .bool bb1, .slice aa1 nn1 cc1, .slice dd1 mm1 oo1] 29)) (.cells #[.bool false, .slice none 0 0, .slice none 0 0, .bool false, .slice none 0 0, .slice none 0 0] 29))
 have p4 : Bx6 W0 (w.heap.size + 1) 29 (.bool false) (.slice none 0 0) (.slice none 0 0) (.bool false) (.slice none 0 0) (.slice none 0 0) := by rw [hW0]; simpa using (Bx6.new (w.alloc (.cells #[.bool true, .slice a1 n1 c1, .slice d1 m1 o1, .bool bb1, .slice aa1 nn1 cc1, .slice dd1 mm1 oo1] 29)) 29 (.bool false) (.slice none 0 0) (.slice none 0 0) (.bool false) (.slice none 0 0) (.slice none 0 0))
 go_enter Tryz.func22, Tryz.ntmps22
 obtain ⟨kp2_0, kp2_1, kp2_2, kp2_3, kp2_4, kp2_5⟩ := p2.c6
 obtain ⟨kp4_0, kp4_1, kp4_2, kp4_3, kp4_4, kp4_5⟩ := p4.c6
 go_wp2_with fail
 rw [← hW0]
 clear hW0; clear kp2_0 kp2_1 kp2_2 kp2_3 kp2_4 kp2_5 kp4_0 kp4_1 kp4_2 kp4_3 kp4_4 kp4_5
 refine (Tryz.ivGrid _ _).mono ?_
 rintro e W ⟨rfl, rfl⟩
 rw [HG.out]
 obtain ⟨kp2_0, kp2_1, kp2_2, kp2_3, kp2_4, kp2_5⟩ := p2.c6
 obtain ⟨kp4_0, kp4_1, kp4_2, kp4_3, kp4_4, kp4_5⟩ := p4.c6
 go_upto_region 2 with (fail)
 clear kp2_0 kp2_1 kp2_2 kp2_3 kp2_4 kp2_5 kp4_0 kp4_1 kp4_2 kp4_3 kp4_4 kp4_5; have fp4 := p4.form; have ltp2 := p2.lt; have ltfp4 := fp4.lt; have szw11 := Ext.size E0
 refine region_gs [.one fun v _ => v = .agg #[.bool false, .slice none 0 0, .slice none 0 0, .bool false, .slice none 0 0, .slice none 0 0],
   .own fun W => Bx6 W (w.heap.size + 1) 29 (.bool false) (.slice none 0 0) (.slice none 0 0) (.bool false) (.slice none 0 0) (.slice none 0 0),
   .one fun v _ => v = .int .i64 1]
  (fun W => Ext w W ∧ Sw W (.agg #[.bool true, .slice a1 n1 c1, .slice d1 m1 o1, .bool bb1, .slice aa1 nn1 cc1, .slice dd1 mm1 oo1]) p ∧ Bx6 W w.heap.size 29 (.bool true) (.slice a1 n1 c1) (.slice d1 m1 o1) (.bool bb1) (.slice aa1 nn1 cc1) (.slice dd1 mm1 oo1) ∧ Form W (w.heap.size + 1) 29 6 ∧ W0.heap.size ≤ W.heap.size) ⟨Good.is _, cert_bx6, Good.is _, trivial⟩
  ⟨E0, h1, p2, fp4, Nat.le_refl _⟩ (A := ?A11) ?hA11 ?howe11 ?hfin11
 case hA11 =>
  intro vs
  simp only [putAll, Act.put, sA, sZ, sS, Nat.zero_add, Nat.reduceAdd]
  exact rfl
 case howe11 =>
  clear E0 h1 p2 fp4
  intro hf
  refine ⟨oE 0 [] hf rfl ?_, oW 1 [0] hf rfl ?_, oE 2 [] hf rfl ?_, trivial⟩
  all_goals intro vs W hS hp hx KO hKO
  all_goals simp only [Act.put, sA, sZ, sS] at hKO
  ·go_simp; exact hKO _ W (.refl W) rfl
  ·have e0 := isOf hp.1; simp only [e0] at hKO
   have hf := hS.2.2.2.1
   obtain ⟨x0_0, x0_1, x0_2, x0_3, x0_4, x0_5, hx, hno⟩ := hf.bx6
   have r0 := hx.froz0
   have t0 := hx.cell0
   have r1 := hx.froz1
   have t1 := hx.cell1
   have r2 := hx.froz2
   have t2 := hx.cell2
   have r3 := hx.froz3
   have t3 := hx.cell3
   have r4 := hx.froz4
   have t4 := hx.cell4
   have r5 := hx.froz5
   have t5 := hx.cell5
   have hw := Wr.set6 hx hno false none 0 0 none 0 0 false none 0 0 none 0 0
   have hq := hx.set (.bool false) (.slice none 0 0) (.slice none 0 0) (.bool false) (.slice none 0 0) (.slice none 0 0)
   have hg : (w.heap.size + 1) ≤ (w.heap.size + 1) := Nat.le_refl _
   go_simp
   exact hKO _ _ hw ⟨(Ext.wr hS.1 hw (by omega)), (hS.2.1.wr hw), (hS.2.2.1.wr hw (by omega)), (hS.2.2.2.1.wr hw), (Nat.le_trans hS.2.2.2.2 hw.apart.size)⟩ hq
  ·go_simp; exact hKO _ W (.refl W) rfl
 intro vs W11 hS hp
 clear szw11 E0 h1 p2 fp4
 obtain ⟨E0, h1, p2, fp4, sz11⟩ := hS
 obtain ⟨h11_0, h11_1, h11_2, -⟩ := hp
 have p11_1 : Bx6 W11 (w.heap.size + 1) 29 (.bool false) (.slice none 0 0) (.slice none 0 0) (.bool false) (.slice none 0 0) (.slice none 0 0) := h11_1
 replace h11_0 : vs 0 = .agg #[.bool false, .slice none 0 0, .slice none 0 0, .bool false, .slice none 0 0, .slice none 0 0] := h11_0
 replace h11_2 : vs 2 = .int .i64 1 := h11_2
 simp only [h11_0, h11_2]
 clear h11_0 h11_2
 obtain ⟨kp2_0, kp2_1, kp2_2, kp2_3, kp2_4, kp2_5⟩ := p2.c6
 obtain ⟨kp11_1_0, kp11_1_1, kp11_1_2, kp11_1_3, kp11_1_4, kp11_1_5⟩ := p11_1.c6
 go_wp2
 exact bodyPost_ret (v := .tuple #[.agg #[.bool false, .slice none 0 0, .slice none 0 0, .bool false, .slice none 0 0, .slice none 0 0], .int .i64 1]) (by simp [results, Tryz.results22, go_sem, kp11_1_0, kp11_1_1, kp11_1_2, kp11_1_3, kp11_1_4, kp11_1_5]) rfl ⟨rfl, E0⟩

set_option maxRecDepth 100000 in
set_option maxHeartbeats 8000000 in
theorem Tryz.rsOutGrid {v1 : Value} {p : Rat × Rat} {w : World} (h1 : Sw w v1 p) (k : Int) (hk : k < 0 ∨ 1000 < k) :
  Calls Tryz.prog 28 #[v1, .int .i64 k] w fun e w' => e = .returned (.tuple #[.agg #[.bool false, .slice none 0 0, .slice none 0 0, .bool false, .slice none 0 0, .slice none 0 0], .int .i64 1]) ∧ Ext w w' := by
 obtain ⟨b1, a1, n1, c1, d1, m1, o1, bb1, aa1, nn1, cc1, dd1, mm1, oo1, rfl, q1⟩ : ∃ b1 a1 n1 c1 d1 m1 o1 bb1 aa1 nn1 cc1 dd1 mm1 oo1, v1 = .agg #[.bool b1, .slice a1 n1 c1, .slice d1 m1 o1, .bool bb1, .slice aa1 nn1 cc1, .slice dd1 mm1 oo1] ∧ True := let ⟨b1, a1, n1, c1, d1, m1, o1, bb1, aa1, nn1, cc1, dd1, mm1, oo1, e, _⟩ := h1; ⟨b1, a1, n1, c1, d1, m1, o1, bb1, aa1, nn1, cc1, dd1, mm1, oo1, e, trivial⟩
 clear q1
 have HG : Hid (gridB k = false) := Lib.hid (decide_eq_false (by omega))
 obtain ⟨W0, hW0⟩ : ∃ W0, W0 = ((w.alloc (.cells #[.bool b1, .slice a1 n1 c1, .slice d1 m1 o1, .bool bb1, .slice aa1 nn1 cc1, .slice dd1 mm1 oo1] 29)).alloc (.cells #[.bool false, .slice none 0 0, .slice none 0 0, .bool false, .slice none 0 0, .slice none 0 0] 29)) := ⟨_, rfl⟩
 have E0 : Ext w W0 := by rw [hW0]; exact ((Ext.alloc1 w (.cells #[.bool b1, .slice a1 n1 c1, .slice d1 m1 o1, .bool bb1, .slice aa1 nn1 cc1, .slice dd1 mm1 oo1] 29)).alloc (.cells #[.bool false, .slice none 0 0, .slice none 0 0, .bool false, .slice none 0 0, .slice none 0 0] 29))
 replace h1 : Sw W0 (.agg #[.bool b1, .slice a1 n1 c1, .slice d1 m1 o1, .bool bb1, .slice aa1 nn1 cc1, .slice dd1 mm1 oo1]) p := h1.ext E0
 have p2 : Bx6 W0 w.heap.size 29 (.bool b1) (.slice a1 n1 c1) (.slice d1 m1 o1) (.bool bb1) (.slice aa1 nn1 cc1) (.slice dd1 mm1 oo1) := by rw [hW0]; exact (Bx6.new w 29 (.bool b1) (.slice a1 n1 c1) (.slice d1 m1 o1) (.bool bb1) (.slice aa1 nn1 cc1) (.slice dd1 mm1 oo1)).ext (Ext.alloc1 (w.alloc (.cells #[.bool b1, .slice a1 n1 c1, .slice d1 m1 o1, .bool bb1, .slice aa1 nn1 cc1, .slice dd1 mm1 oo1] 29)) (.cells #[.bool false, .slice none 0 0, .slice none 0 0, .bool false, .slice none 0 0, .slice none 0 0] 29))
 have p4 : Bx6 W0 (w.heap.size + 1) 29 (.bool false) (.slice none 0 0) (.slice none 0 0) (.bool false) (.slice none 0 0) (.slice none 0 0) := by rw [hW0]; simpa using (Bx6.new (w.alloc (.cells #[.bool b1, .slice a1 n1 c1, .slice d1 m1 o1, .bool bb1, .slice aa1 nn1 cc1, .slice dd1 mm1 oo1] 29)) 29 (.bool false) (.slice none 0 0) (.slice none 0 0) (.bool false) (.slice none 0 0) (.slice none 0 0))
 go_enter Tryz.func28, Tryz.ntmps28
 rcases hk with hk | hk
 ·obtain ⟨kp2_0, kp2_1, kp2_2, kp2_3, kp2_4, kp2_5⟩ := p2.c6
  obtain ⟨kp4_0, kp4_1, kp4_2, kp4_3, kp4_4, kp4_5⟩ := p4.c6
  go_upto_region 2 with (fail)
  rw [← hW0]
  clear hW0; clear kp2_0 kp2_1 kp2_2 kp2_3 kp2_4 kp2_5 kp4_0 kp4_1 kp4_2 kp4_3 kp4_4 kp4_5; have fp4 := p4.form; have ltp2 := p2.lt; have ltfp4 := fp4.lt; have szw12 := Ext.size E0
  refine region_gs [.one fun v _ => v = .agg #[.bool false, .slice none 0 0, .slice none 0 0, .bool false, .slice none 0 0, .slice none 0 0],
    .own fun W => Bx6 W (w.heap.size + 1) 29 (.bool false) (.slice none 0 0) (.slice none 0 0) (.bool false) (.slice none 0 0) (.slice none 0 0),
    .one fun v _ => v = .int .i64 1]
   (fun W => Ext w W ∧ Sw W (.agg #[.bool b1, .slice a1 n1 c1, .slice d1 m1 o1, .bool bb1, .slice aa1 nn1 cc1, .slice dd1 mm1 oo1]) p ∧ Bx6 W w.heap.size 29 (.bool b1) (.slice a1 n1 c1) (.slice d1 m1 o1) (.bool bb1) (.slice aa1 nn1 cc1) (.slice dd1 mm1 oo1) ∧ Form W (w.heap.size + 1) 29 6 ∧ W0.heap.size ≤ W.heap.size) ⟨Good.is _, cert_bx6, Good.is _, trivial⟩
   ⟨E0, h1, p2, fp4, Nat.le_refl _⟩ (A := ?A12) ?hA12 ?howe12 ?hfin12
  case hA12 =>
   intro vs
   simp only [putAll, Act.put, sA, sZ, sS, Nat.zero_add, Nat.reduceAdd]
   exact rfl
  case howe12 =>
   clear E0 h1 p2 fp4
   intro hf
   refine ⟨oE 0 [] hf rfl ?_, oW 1 [0] hf rfl ?_, oE 2 [] hf rfl ?_, trivial⟩
   all_goals intro vs W hS hp hx KO hKO
   all_goals simp only [Act.put, sA, sZ, sS] at hKO
   ·go_simp; exact hKO _ W (.refl W) rfl
   ·have e0 := isOf hp.1; simp only [e0] at hKO
    have hf := hS.2.2.2.1
    obtain ⟨x0_0, x0_1, x0_2, x0_3, x0_4, x0_5, hx, hno⟩ := hf.bx6
    have r0 := hx.froz0
    have t0 := hx.cell0
    have r1 := hx.froz1
    have t1 := hx.cell1
    have r2 := hx.froz2
    have t2 := hx.cell2
    have r3 := hx.froz3
    have t3 := hx.cell3
    have r4 := hx.froz4
    have t4 := hx.cell4
    have r5 := hx.froz5
    have t5 := hx.cell5
    have hw := Wr.set6 hx hno false none 0 0 none 0 0 false none 0 0 none 0 0
    have hq := hx.set (.bool false) (.slice none 0 0) (.slice none 0 0) (.bool false) (.slice none 0 0) (.slice none 0 0)
    have hg : (w.heap.size + 1) ≤ (w.heap.size + 1) := Nat.le_refl _
    go_simp
    exact hKO _ _ hw ⟨(Ext.wr hS.1 hw (by omega)), (hS.2.1.wr hw), (hS.2.2.1.wr hw (by omega)), (hS.2.2.2.1.wr hw), (Nat.le_trans hS.2.2.2.2 hw.apart.size)⟩ hq
   ·go_simp; exact hKO _ W (.refl W) rfl
  intro vs W12 hS hp
  clear szw12 E0 h1 p2 fp4
  obtain ⟨E0, h1, p2, fp4, sz12⟩ := hS
  obtain ⟨h12_0, h12_1, h12_2, -⟩ := hp
  have p12_1 : Bx6 W12 (w.heap.size + 1) 29 (.bool false) (.slice none 0 0) (.slice none 0 0) (.bool false) (.slice none 0 0) (.slice none 0 0) := h12_1
  replace h12_0 : vs 0 = .agg #[.bool false, .slice none 0 0, .slice none 0 0, .bool false, .slice none 0 0, .slice none 0 0] := h12_0
  replace h12_2 : vs 2 = .int .i64 1 := h12_2
  simp only [h12_0, h12_2]
  clear h12_0 h12_2
  obtain ⟨kp2_0, kp2_1, kp2_2, kp2_3, kp2_4, kp2_5⟩ := p2.c6
  obtain ⟨kp12_1_0, kp12_1_1, kp12_1_2, kp12_1_3, kp12_1_4, kp12_1_5⟩ := p12_1.c6
  go_wp2
  exact bodyPost_ret (v := .tuple #[.agg #[.bool false, .slice none 0 0, .slice none 0 0, .bool false, .slice none 0 0, .slice none 0 0], .int .i64 1]) (by simp [results, Tryz.results28, go_sem, kp12_1_0, kp12_1_1, kp12_1_2, kp12_1_3, kp12_1_4, kp12_1_5]) rfl ⟨rfl, E0⟩
 ·have hk0 : ¬ k < 0 := by omega
  have hk1 : k > 1000 := by omega
  clear hk
  obtain ⟨kp2_0, kp2_1, kp2_2, kp2_3, kp2_4, kp2_5⟩ := p2.c6
  obtain ⟨kp4_0, kp4_1, kp4_2, kp4_3, kp4_4, kp4_5⟩ := p4.c6
  go_upto_region 2 with (fail)
  rw [← hW0]
  clear hW0; clear kp2_0 kp2_1 kp2_2 kp2_3 kp2_4 kp2_5 kp4_0 kp4_1 kp4_2 kp4_3 kp4_4 kp4_5; have fp4 := p4.form; have ltp2 := p2.lt; have ltfp4 := fp4.lt; have szw13 := Ext.size E0
  refine region_gs [.one fun v _ => v = .agg #[.bool false, .slice none 0 0, .slice none 0 0, .bool false, .slice none 0 0, .slice none 0 0],
    .own fun W => Bx6 W (w.heap.size + 1) 29 (.bool false) (.slice none 0 0) (.slice none 0 0) (.bool false) (.slice none 0 0) (.slice none 0 0),
    .one fun v _ => v = .int .i64 1]
   (fun W => Ext w W ∧ Sw W (.agg #[.bool b1, .slice a1 n1 c1, .slice d1 m1 o1, .bool bb1, .slice aa1 nn1 cc1, .slice dd1 mm1 oo1]) p ∧ Bx6 W w.heap.size 29 (.bool b1) (.slice a1 n1 c1) (.slice d1 m1 o1) (.bool bb1) (.slice aa1 nn1 cc1) (.slice dd1 mm1 oo1) ∧ Form W (w.heap.size + 1) 29 6 ∧ W0.heap.size ≤ W.heap.size) ⟨Good.is _, cert_bx6, Good.is _, trivial⟩
   ⟨E0, h1, p2, fp4, Nat.le_refl _⟩ (A := ?A13) ?hA13 ?howe13 ?hfin13
  case hA13 =>
   intro vs
   simp only [putAll, Act.put, sA, sZ, sS, Nat.zero_add, Nat.reduceAdd]
   exact rfl
  case howe13 =>
   clear E0 h1 p2 fp4
   intro hf
   refine ⟨oE 0 [] hf rfl ?_, oW 1 [0] hf rfl ?_, oE 2 [] hf rfl ?_, trivial⟩
   all_goals intro vs W hS hp hx KO hKO
   all_goals simp only [Act.put, sA, sZ, sS] at hKO
   ·go_simp; exact hKO _ W (.refl W) rfl
   ·have e0 := isOf hp.1; simp only [e0] at hKO
    have hf := hS.2.2.2.1
    obtain ⟨x0_0, x0_1, x0_2, x0_3, x0_4, x0_5, hx, hno⟩ := hf.bx6
    have r0 := hx.froz0
    have t0 := hx.cell0
    have r1 := hx.froz1
    have t1 := hx.cell1
    have r2 := hx.froz2
    have t2 := hx.cell2
    have r3 := hx.froz3
    have t3 := hx.cell3
    have r4 := hx.froz4
    have t4 := hx.cell4
    have r5 := hx.froz5
    have t5 := hx.cell5
    have hw := Wr.set6 hx hno false none 0 0 none 0 0 false none 0 0 none 0 0
    have hq := hx.set (.bool false) (.slice none 0 0) (.slice none 0 0) (.bool false) (.slice none 0 0) (.slice none 0 0)
    have hg : (w.heap.size + 1) ≤ (w.heap.size + 1) := Nat.le_refl _
    go_simp
    exact hKO _ _ hw ⟨(Ext.wr hS.1 hw (by omega)), (hS.2.1.wr hw), (hS.2.2.1.wr hw (by omega)), (hS.2.2.2.1.wr hw), (Nat.le_trans hS.2.2.2.2 hw.apart.size)⟩ hq
   ·go_simp; exact hKO _ W (.refl W) rfl
  intro vs W13 hS hp
  clear szw13 E0 h1 p2 fp4
  obtain ⟨E0, h1, p2, fp4, sz13⟩ := hS
  obtain ⟨h13_0, h13_1, h13_2, -⟩ := hp
  have p13_1 : Bx6 W13 (w.heap.size + 1) 29 (.bool false) (.slice none 0 0) (.slice none 0 0) (.bool false) (.slice none 0 0) (.slice none 0 0) := h13_1
  replace h13_0 : vs 0 = .agg #[.bool false, .slice none 0 0, .slice none 0 0, .bool false, .slice none 0 0, .slice none 0 0] := h13_0
  replace h13_2 : vs 2 = .int .i64 1 := h13_2
  simp only [h13_0, h13_2]
  clear h13_0 h13_2
  obtain ⟨kp2_0, kp2_1, kp2_2, kp2_3, kp2_4, kp2_5⟩ := p2.c6
  obtain ⟨kp13_1_0, kp13_1_1, kp13_1_2, kp13_1_3, kp13_1_4, kp13_1_5⟩ := p13_1.c6
  go_wp2
  exact bodyPost_ret (v := .tuple #[.agg #[.bool false, .slice none 0 0, .slice none 0 0, .bool false, .slice none 0 0, .slice none 0 0], .int .i64 1]) (by simp [results, Tryz.results28, go_sem, kp13_1_0, kp13_1_1, kp13_1_2, kp13_1_3, kp13_1_4, kp13_1_5]) rfl ⟨rfl, E0⟩

set_option maxRecDepth 100000 in
set_option maxHeartbeats 8000000 in
theorem Tryz.rsSqrtGrid {v1 : Value} {p : Rat × Rat} {w : World} (h1 : Sw w v1 p) (k : Int) (hk : k < 0 ∨ 1000 < k) :
  Calls Tryz.prog 36 #[v1, .int .i64 k] w fun e w' => e = .returned (.tuple #[.agg #[.bool false, .slice none 0 0, .slice none 0 0, .bool false, .slice none 0 0, .slice none 0 0], .int .i64 1]) ∧ Ext w w' := by
 obtain ⟨b1, a1, n1, c1, d1, m1, o1, bb1, aa1, nn1, cc1, dd1, mm1, oo1, rfl, q1⟩ : ∃ b1 a1 n1 c1 d1 m1 o1 bb1 aa1 nn1 cc1 dd1 mm1 oo1, v1 = .agg #[.bool b1, .slice a1 n1 c1, .slice d1 m1 o1, .bool bb1, .slice aa1 nn1 cc1, .slice dd1 mm1 oo1] ∧ True := let ⟨b1, a1, n1, c1, d1, m1, o1, bb1, aa1, nn1, cc1, dd1, mm1, oo1, e, _⟩ := h1; ⟨b1, a1, n1, c1, d1, m1, o1, bb1, aa1, nn1, cc1, dd1, mm1, oo1, e, trivial⟩
 clear q1
 have HG : Hid (gridB k = false) := Lib.hid (decide_eq_false (by omega))
 obtain ⟨W0, hW0⟩ : ∃ W0, W0 = ((w.alloc (.cells #[.bool b1, .slice a1 n1 c1, .slice d1 m1 o1, .bool bb1, .slice aa1 nn1 cc1, .slice dd1 mm1 oo1] 29)).alloc (.cells #[.bool false, .slice none 0 0, .slice none 0 0, .bool false, .slice none 0 0, .slice none 0 0] 29)) := ⟨_, rfl⟩
 have E0 : Ext w W0 := by rw [hW0]; exact ((Ext.alloc1 w (.cells #[.bool b1, .slice a1 n1 c1, .slice d1 m1 o1, .bool bb1, .slice aa1 nn1 cc1, .slice dd1 mm1 oo1] 29)).alloc (.cells #[.bool false, .slice none 0 0, .slice none 0 0, .bool false, .slice none 0 0, .slice none 0 0] 29))
 replace h1 : Sw W0 (.agg #[.bool b1, .slice a1 n1 c1, .slice d1 m1 o1, .bool bb1, .slice aa1 nn1 cc1, .slice dd1 mm1 oo1]) p := h1.ext E0
 have p2 : Bx6 W0 w.heap.size 29 (.bool b1) (.slice a1 n1 c1) (.slice d1 m1 o1) (.bool bb1) (.slice aa1 nn1 cc1) (.slice dd1 mm1 oo1) := by rw [hW0]; exact (Bx6.new w 29 (.bool b1) (.slice a1 n1 c1) (.slice d1 m1 o1) (.bool bb1) (.slice aa1 nn1 cc1) (.slice dd1 mm1 oo1)).ext (Ext.alloc1 (w.alloc (.cells #[.bool b1, .slice a1 n1 c1, .slice d1 m1 o1, .bool bb1, .slice aa1 nn1 cc1, .slice dd1 mm1 oo1] 29)) (.cells #[.bool false, .slice none 0 0, .slice none 0 0, .bool false, .slice none 0 0, .slice none 0 0] 29))
 have p4 : Bx6 W0 (w.heap.size + 1) 29 (.bool false) (.slice none 0 0) (.slice none 0 0) (.bool false) (.slice none 0 0) (.slice none 0 0) := by rw [hW0]; simpa using (Bx6.new (w.alloc (.cells #[.bool b1, .slice a1 n1 c1, .slice d1 m1 o1, .bool bb1, .slice aa1 nn1 cc1, .slice dd1 mm1 oo1] 29)) 29 (.bool false) (.slice none 0 0) (.slice none 0 0) (.bool false) (.slice none 0 0) (.slice none 0 0))
 go_enter Tryz.func36, Tryz.ntmps36
 rcases hk with hk | hk
 ·obtain ⟨kp2_0, kp2_1, kp2_2, kp2_3, kp2_4, kp2_5⟩ := p2.c6
  obtain ⟨kp4_0, kp4_1, kp4_2, kp4_3, kp4_4, kp4_5⟩ := p4.c6
  go_upto_region 2 with (fail)
  rw [← hW0]
  clear hW0; clear kp2_0 kp2_1 kp2_2 kp2_3 kp2_4 kp2_5 kp4_0 kp4_1 kp4_2 kp4_3 kp4_4 kp4_5; have fp4 := p4.form; have ltp2 := p2.lt; have ltfp4 := fp4.lt; have szw14 := Ext.size E0
  refine region_gs [.one fun v _ => v = .agg #[.bool false, .slice none 0 0, .slice none 0 0, .bool false, .slice none 0 0, .slice none 0 0],
    .own fun W => Bx6 W (w.heap.size + 1) 29 (.bool false) (.slice none 0 0) (.slice none 0 0) (.bool false) (.slice none 0 0) (.slice none 0 0),
    .one fun v _ => v = .int .i64 1]
   (fun W => Ext w W ∧ Sw W (.agg #[.bool b1, .slice a1 n1 c1, .slice d1 m1 o1, .bool bb1, .slice aa1 nn1 cc1, .slice dd1 mm1 oo1]) p ∧ Bx6 W w.heap.size 29 (.bool b1) (.slice a1 n1 c1) (.slice d1 m1 o1) (.bool bb1) (.slice aa1 nn1 cc1) (.slice dd1 mm1 oo1) ∧ Form W (w.heap.size + 1) 29 6 ∧ W0.heap.size ≤ W.heap.size) ⟨Good.is _, cert_bx6, Good.is _, trivial⟩
   ⟨E0, h1, p2, fp4, Nat.le_refl _⟩ (A := ?A14) ?hA14 ?howe14 ?hfin14
  case hA14 =>
   intro vs
   simp only [putAll, Act.put, sA, sZ, sS, Nat.zero_add, Nat.reduceAdd]
   exact rfl
  case howe14 =>
   clear E0 h1 p2 fp4
   intro hf
   refine ⟨oE 0 [] hf rfl ?_, oW 1 [0] hf rfl ?_, oE 2 [] hf rfl ?_, trivial⟩
   all_goals intro vs W hS hp hx KO hKO
   all_goals simp only [Act.put, sA, sZ, sS] at hKO
   ·go_simp; exact hKO _ W (.refl W) rfl
   ·have e0 := isOf hp.1; simp only [e0] at hKO
    have hf := hS.2.2.2.1
    obtain ⟨x0_0, x0_1, x0_2, x0_3, x0_4, x0_5, hx, hno⟩ := hf.bx6
    have r0 := hx.froz0
    have t0 := hx.cell0
    have r1 := hx.froz1
    have t1 := hx.cell1
    have r2 := hx.froz2
    have t2 := hx.cell2
    have r3 := hx.froz3
    have t3 := hx.cell3
    have r4 := hx.froz4
    have t4 := hx.cell4
    have r5 := hx.froz5
    have t5 := hx.cell5
    have hw := Wr.set6 hx hno false none 0 0 none 0 0 false none 0 0 none 0 0
    have hq := hx.set (.bool false) (.slice none 0 0) (.slice none 0 0) (.bool false) (.slice none 0 0) (.slice none 0 0)
    have hg : (w.heap.size + 1) ≤ (w.heap.size + 1) := Nat.le_refl _
    go_simp
    exact hKO _ _ hw ⟨(Ext.wr hS.1 hw (by omega)), (hS.2.1.wr hw), (hS.2.2.1.wr hw (by omega)), (hS.2.2.2.1.wr hw), (Nat.le_trans hS.2.2.2.2 hw.apart.size)⟩ hq
   ·go_simp; exact hKO _ W (.refl W) rfl
  intro vs W14 hS hp
  clear szw14 E0 h1 p2 fp4
  obtain ⟨E0, h1, p2, fp4, sz14⟩ := hS
  obtain ⟨h14_0, h14_1, h14_2, -⟩ := hp
  have p14_1 : Bx6 W14 (w.heap.size + 1) 29 (.bool false) (.slice none 0 0) (.slice none 0 0) (.bool false) (.slice none 0 0) (.slice none 0 0) := h14_1
  replace h14_0 : vs 0 = .agg #[.bool false, .slice none 0 0, .slice none 0 0, .bool false, .slice none 0 0, .slice none 0 0] := h14_0
  replace h14_2 : vs 2 = .int .i64 1 := h14_2
  simp only [h14_0, h14_2]
  clear h14_0 h14_2
  obtain ⟨kp2_0, kp2_1, kp2_2, kp2_3, kp2_4, kp2_5⟩ := p2.c6
  obtain ⟨kp14_1_0, kp14_1_1, kp14_1_2, kp14_1_3, kp14_1_4, kp14_1_5⟩ := p14_1.c6
  go_wp2
  exact bodyPost_ret (v := .tuple #[.agg #[.bool false, .slice none 0 0, .slice none 0 0, .bool false, .slice none 0 0, .slice none 0 0], .int .i64 1]) (by simp [results, Tryz.results36, go_sem, kp14_1_0, kp14_1_1, kp14_1_2, kp14_1_3, kp14_1_4, kp14_1_5]) rfl ⟨rfl, E0⟩
 ·have hk0 : ¬ k < 0 := by omega
  have hk1 : k > 1000 := by omega
  clear hk
  obtain ⟨kp2_0, kp2_1, kp2_2, kp2_3, kp2_4, kp2_5⟩ := p2.c6
  obtain ⟨kp4_0, kp4_1, kp4_2, kp4_3, kp4_4, kp4_5⟩ := p4.c6
  go_upto_region 2 with (fail)
  rw [← hW0]
  clear hW0; clear kp2_0 kp2_1 kp2_2 kp2_3 kp2_4 kp2_5 kp4_0 kp4_1 kp4_2 kp4_3 kp4_4 kp4_5; have fp4 := p4.form; have ltp2 := p2.lt; have ltfp4 := fp4.lt; have szw15 := Ext.size E0
  refine region_gs [.one fun v _ => v = .agg #[.bool false, .slice none 0 0, .slice none 0 0, .bool false, .slice none 0 0, .slice none 0 0],
    .own fun W => Bx6 W (w.heap.size + 1) 29 (.bool false) (.slice none 0 0) (.slice none 0 0) (.bool false) (.slice none 0 0) (.slice none 0 0),
    .one fun v _ => v = .int .i64 1]
   (fun W => Ext w W ∧ Sw W (.agg #[.bool b1, .slice a1 n1 c1, .slice d1 m1 o1, .bool bb1, .slice aa1 nn1 cc1, .slice dd1 mm1 oo1]) p ∧ Bx6 W w.heap.size 29 (.bool b1) (.slice a1 n1 c1) (.slice d1 m1 o1) (.bool bb1) (.slice aa1 nn1 cc1) (.slice dd1 mm1 oo1) ∧ Form W (w.heap.size + 1) 29 6 ∧ W0.heap.size ≤ W.heap.size) ⟨Good.is _, cert_bx6, Good.is _, trivial⟩
   ⟨E0, h1, p2, fp4, Nat.le_refl _⟩ (A := ?A15) ?hA15 ?howe15 ?hfin15
  case hA15 =>
   intro vs
   simp only [putAll, Act.put, sA, sZ, sS, Nat.zero_add, Nat.reduceAdd]
   exact rfl
  case howe15 =>
   clear E0 h1 p2 fp4
   intro hf
   refine ⟨oE 0 [] hf rfl ?_, oW 1 [0] hf rfl ?_, oE 2 [] hf rfl ?_, trivial⟩
   all_goals intro vs W hS hp hx KO hKO
   all_goals simp only [Act.put, sA, sZ, sS] at hKO
   ·go_simp; exact hKO _ W (.refl W) rfl
   ·have e0 := isOf hp.1; simp only [e0] at hKO
    have hf := hS.2.2.2.1
    obtain ⟨x0_0, x0_1, x0_2, x0_3, x0_4, x0_5, hx, hno⟩ := hf.bx6
    have r0 := hx.froz0
    have t0 := hx.cell0
    have r1 := hx.froz1
    have t1 := hx.cell1
    have r2 := hx.froz2
    have t2 := hx.cell2
    have r3 := hx.froz3
    have t3 := hx.cell3
    have r4 := hx.froz4
    have t4 := hx.cell4
    have r5 := hx.froz5
    have t5 := hx.cell5
    have hw := Wr.set6 hx hno false none 0 0 none 0 0 false none 0 0 none 0 0
    have hq := hx.set (.bool false) (.slice none 0 0) (.slice none 0 0) (.bool false) (.slice none 0 0) (.slice none 0 0)
    have hg : (w.heap.size + 1) ≤ (w.heap.size + 1) := Nat.le_refl _
    go_simp
    exact hKO _ _ hw ⟨(Ext.wr hS.1 hw (by omega)), (hS.2.1.wr hw), (hS.2.2.1.wr hw (by omega)), (hS.2.2.2.1.wr hw), (Nat.le_trans hS.2.2.2.2 hw.apart.size)⟩ hq
   ·go_simp; exact hKO _ W (.refl W) rfl
  intro vs W15 hS hp
  clear szw15 E0 h1 p2 fp4
  obtain ⟨E0, h1, p2, fp4, sz15⟩ := hS
  obtain ⟨h15_0, h15_1, h15_2, -⟩ := hp
  have p15_1 : Bx6 W15 (w.heap.size + 1) 29 (.bool false) (.slice none 0 0) (.slice none 0 0) (.bool false) (.slice none 0 0) (.slice none 0 0) := h15_1
  replace h15_0 : vs 0 = .agg #[.bool false, .slice none 0 0, .slice none 0 0, .bool false, .slice none 0 0, .slice none 0 0] := h15_0
  replace h15_2 : vs 2 = .int .i64 1 := h15_2
  simp only [h15_0, h15_2]
  clear h15_0 h15_2
  obtain ⟨kp2_0, kp2_1, kp2_2, kp2_3, kp2_4, kp2_5⟩ := p2.c6
  obtain ⟨kp15_1_0, kp15_1_1, kp15_1_2, kp15_1_3, kp15_1_4, kp15_1_5⟩ := p15_1.c6
  go_wp2
  exact bodyPost_ret (v := .tuple #[.agg #[.bool false, .slice none 0 0, .slice none 0 0, .bool false, .slice none 0 0, .slice none 0 0], .int .i64 1]) (by simp [results, Tryz.results36, go_sem, kp15_1_0, kp15_1_1, kp15_1_2, kp15_1_3, kp15_1_4, kp15_1_5]) rfl ⟨rfl, E0⟩

set_option maxRecDepth 100000 in
set_option maxHeartbeats 8000000 in
theorem Tryz.rsSqrtNeg {v1 : Value} {p : Rat × Rat} {w : World} (h1 : Sw w v1 p) (K : Nat) (hK : K ≤ 1000) (hp : p.1 < 0) :
  Calls Tryz.prog 36 #[v1, .int .i64 (K : Int)] w fun e w' => e = .returned (.tuple #[.agg #[.bool false, .slice none 0 0, .slice none 0 0, .bool false, .slice none 0 0, .slice none 0 0], .int .i64 1]) ∧ Ext w w' := by
 obtain ⟨b1, a1, n1, c1, d1, m1, o1, bb1, aa1, nn1, cc1, dd1, mm1, oo1, rfl, q1⟩ : ∃ b1 a1 n1 c1 d1 m1 o1 bb1 aa1 nn1 cc1 dd1 mm1 oo1, v1 = .agg #[.bool b1, .slice a1 n1 c1, .slice d1 m1 o1, .bool bb1, .slice aa1 nn1 cc1, .slice dd1 mm1 oo1] ∧ True := let ⟨b1, a1, n1, c1, d1, m1, o1, bb1, aa1, nn1, cc1, dd1, mm1, oo1, e, _⟩ := h1; ⟨b1, a1, n1, c1, d1, m1, o1, bb1, aa1, nn1, cc1, dd1, mm1, oo1, e, trivial⟩
 clear q1
 have hb := h1.lo_neg hp rfl
 subst hb
 have HG : Hid (gridB (K : Int) = true) := Lib.hid (decide_eq_true ⟨by omega, by omega⟩)
 have hk0 : ¬ (K : Int) < 0 := by omega
 have hk1 : ¬ (K : Int) > 1000 := by omega
 clear hK hp
 obtain ⟨W0, hW0⟩ : ∃ W0, W0 = ((w.alloc (.cells #[.bool true, .slice a1 n1 c1, .slice d1 m1 o1, .bool bb1, .slice aa1 nn1 cc1, .slice dd1 mm1 oo1] 29)).alloc (.cells #[.bool false, .slice none 0 0, .slice none 0 0, .bool false, .slice none 0 0, .slice none 0 0] 29)) := ⟨_, rfl⟩
 have E0 : Ext w W0 := by rw [hW0]; exact ((Ext.alloc1 w (.cells #[.bool true, .slice a1 n1 c1, .slice d1 m1 o1, .bool bb1, .slice aa1 nn1 cc1, .slice dd1 mm1 oo1] 29)).alloc (.cells #[.bool false, .slice none 0 0, .slice none 0 0, .bool false, .slice none 0 0, .slice none 0 0] 29))
 replace h1 : Sw W0 (.agg #[.bool true, .slice a1 n1 c1, .slice d1 m1 o1, .bool bb1, .slice aa1 nn1 cc1, .slice dd1 mm1 oo1]) p := h1.ext E0
 have p2 : Bx6 W0 w.heap.size 29 (.bool true) (.slice a1 n1 c1) (.slice d1 m1 o1) (.bool bb1) (.slice aa1 nn1 cc1) (.slice dd1 mm1 oo1) := by rw [hW0]; exact (Bx6.new w 29 (.bool true) (.slice a1 n1 c1) (.slice d1 m1 o1) (.bool bb1) (.slice aa1 nn1 cc1) (.slice dd1 mm1 oo1)).ext (Ext.alloc1 (w.alloc (.cells #[.bool true, .slice a1 n1 c1, .slice d1 m1 o1, .bool bb1, .slice aa1 nn1 cc1, .slice dd1 mm1 oo1] 29)) (.cells #[.bool false, .slice none 0 0, .slice none 0 0, .bool false, .slice none 0 0, .slice none 0 0] 29))
 have p4 : Bx6 W0 (w.heap.size + 1) 29 (.bool false) (.slice none 0 0) (.slice none 0 0) (.bool false) (.slice none 0 0) (.slice none 0 0) := by rw [hW0]; simpa using (Bx6.new (w.alloc (.cells #[.bool true, .slice a1 n1 c1, .slice d1 m1 o1, .bool bb1, .slice aa1 nn1 cc1, .slice dd1 mm1 oo1] 29)) 29 (.bool false) (.slice none 0 0) (.slice none 0 0) (.bool false) (.slice none 0 0) (.slice none 0 0))
 go_enter Tryz.func36, Tryz.ntmps36
 obtain ⟨kp2_0, kp2_1, kp2_2, kp2_3, kp2_4, kp2_5⟩ := p2.c6
 obtain ⟨kp4_0, kp4_1, kp4_2, kp4_3, kp4_4, kp4_5⟩ := p4.c6
 go_upto_region 2 with (fail)
 rw [← hW0]
 clear hW0; clear kp2_0 kp2_1 kp2_2 kp2_3 kp2_4 kp2_5 kp4_0 kp4_1 kp4_2 kp4_3 kp4_4 kp4_5; have fp4 := p4.form; have ltp2 := p2.lt; have ltfp4 := fp4.lt; have szw16 := Ext.size E0
 refine region_gs [.one fun v _ => v = .agg #[.bool false, .slice none 0 0, .slice none 0 0, .bool false, .slice none 0 0, .slice none 0 0],
   .own fun W => Bx6 W (w.heap.size + 1) 29 (.bool false) (.slice none 0 0) (.slice none 0 0) (.bool false) (.slice none 0 0) (.slice none 0 0),
   .one fun v _ => v = .int .i64 1]
  (fun W => Ext w W ∧ Sw W (.agg #[.bool true, .slice a1 n1 c1, .slice d1 m1 o1, .bool bb1, .slice aa1 nn1 cc1, .slice dd1 mm1 oo1]) p ∧ Bx6 W w.heap.size 29 (.bool true) (.slice a1 n1 c1) (.slice d1 m1 o1) (.bool bb1) (.slice aa1 nn1 cc1) (.slice dd1 mm1 oo1) ∧ Form W (w.heap.size + 1) 29 6 ∧ W0.heap.size ≤ W.heap.size) ⟨Good.is _, cert_bx6, Good.is _, trivial⟩
  ⟨E0, h1, p2, fp4, Nat.le_refl _⟩ (A := ?A16) ?hA16 ?howe16 ?hfin16
 case hA16 =>
  intro vs
  simp only [putAll, Act.put, sA, sZ, sS, Nat.zero_add, Nat.reduceAdd]
  exact rfl
 case howe16 =>
  clear E0 h1 p2 fp4
  intro hf
  refine ⟨oE 0 [] hf rfl ?_, oW 1 [0] hf rfl ?_, oE 2 [] hf rfl ?_, trivial⟩
  all_goals intro vs W hS hp hx KO hKO
  all_goals simp only [Act.put, sA, sZ, sS] at hKO
  ·go_simp; exact hKO _ W (.refl W) rfl
  ·have e0 := isOf hp.1; simp only [e0] at hKO
   have hf := hS.2.2.2.1
   obtain ⟨x0_0, x0_1, x0_2, x0_3, x0_4, x0_5, hx, hno⟩ := hf.bx6
   have r0 := hx.froz0
   have t0 := hx.cell0
   have r1 := hx.froz1
   have t1 := hx.cell1
   have r2 := hx.froz2
   have t2 := hx.cell2
   have r3 := hx.froz3
   have t3 := hx.cell3
   have r4 := hx.froz4
   have t4 := hx.cell4
   have r5 := hx.froz5
   have t5 := hx.cell5
   have hw := Wr.set6 hx hno false none 0 0 none 0 0 false none 0 0 none 0 0
   have hq := hx.set (.bool false) (.slice none 0 0) (.slice none 0 0) (.bool false) (.slice none 0 0) (.slice none 0 0)
   have hg : (w.heap.size + 1) ≤ (w.heap.size + 1) := Nat.le_refl _
   go_simp
   exact hKO _ _ hw ⟨(Ext.wr hS.1 hw (by omega)), (hS.2.1.wr hw), (hS.2.2.1.wr hw (by omega)), (hS.2.2.2.1.wr hw), (Nat.le_trans hS.2.2.2.2 hw.apart.size)⟩ hq
  ·go_simp; exact hKO _ W (.refl W) rfl
 intro vs W16 hS hp
 clear szw16 E0 h1 p2 fp4
 obtain ⟨E0, h1, p2, fp4, sz16⟩ := hS
 obtain ⟨h16_0, h16_1, h16_2, -⟩ := hp
 have p16_1 : Bx6 W16 (w.heap.size + 1) 29 (.bool false) (.slice none 0 0) (.slice none 0 0) (.bool false) (.slice none 0 0) (.slice none 0 0) := h16_1
 replace h16_0 : vs 0 = .agg #[.bool false, .slice none 0 0, .slice none 0 0, .bool false, .slice none 0 0, .slice none 0 0] := h16_0
 replace h16_2 : vs 2 = .int .i64 1 := h16_2
 simp only [h16_0, h16_2]
 clear h16_0 h16_2
 obtain ⟨kp2_0, kp2_1, kp2_2, kp2_3, kp2_4, kp2_5⟩ := p2.c6
 obtain ⟨kp16_1_0, kp16_1_1, kp16_1_2, kp16_1_3, kp16_1_4, kp16_1_5⟩ := p16_1.c6
 go_wp2
 exact bodyPost_ret (v := .tuple #[.agg #[.bool false, .slice none 0 0, .slice none 0 0, .bool false, .slice none 0 0, .slice none 0 0], .int .i64 1]) (by simp [results, Tryz.results36, go_sem, kp16_1_0, kp16_1_1, kp16_1_2, kp16_1_3, kp16_1_4, kp16_1_5]) rfl ⟨rfl, E0⟩

set_option maxRecDepth 100000 in
set_option maxHeartbeats 8000000 in
theorem Tryz.rsSquare {v1 : Value} {x : Rat} {L : Nat} {w : World} (h1 : Rw w v1 x) (s1 : SmR L x) (hL : L ≤ 10) (K : Nat) (hK : K ≤ 1000) :
  Calls Tryz.prog 72 #[v1, .int .i64 (K : Int)] w fun e w' => ∃ v', e = .returned v' ∧ Nw w' v' (sqLo x K) ∧ Ext w w' := by
 obtain ⟨b1, a1, n1, c1, d1, m1, o1, rfl, q1⟩ : ∃ b a n c d m o, v1 = .agg #[.bool b, .slice a n c, .slice d m o] ∧ True := let ⟨b, a, n, c, d, m, o, e, _⟩ := h1; ⟨b, a, n, c, d, m, o, e, trivial⟩
 clear q1
 have SU : Hid (Sm 45 (x.num.natAbs * 2 ^ (2 * K))) := Lib.hid ((s1.1.mul (Sm.pow2 (2 * K))).mono (by omega))
 have HD : Hid (x.den ≠ 0) := Lib.hid x.den_nz
 obtain ⟨M, hM⟩ : ∃ M, M = 2 * K := ⟨_, rfl⟩
 have hw : IntKind.i64.wrap (2 * (K : Int)) = (M : Int) := by rw [IntKind.wrap_i64]; omega
 have HM : Hid (M ≤ 20000) := Lib.hid (by omega)
 have HSL : Hid (sqLo x K = rootV (x.num.natAbs * 2 ^ M / x.den) 2) := Lib.hid (by rw [hM]; rfl)
 have SD : Hid (Sm 45 x.den) := Lib.hid (s1.2.mono (by omega))
 rw [← hM] at SU
 clear hM hK
 obtain ⟨W0, hW0⟩ : ∃ W0, W0 = (w.alloc (.cells #[.bool b1, .slice a1 n1 c1, .slice d1 m1 o1] 27)) := ⟨_, rfl⟩
 have E0 : Ext w W0 := by rw [hW0]; exact (Ext.alloc1 w (.cells #[.bool b1, .slice a1 n1 c1, .slice d1 m1 o1] 27))
 replace h1 : Rw W0 (.agg #[.bool b1, .slice a1 n1 c1, .slice d1 m1 o1]) x := h1.ext E0
 have p2 : Bx3 W0 w.heap.size 27 (.bool b1) (.slice a1 n1 c1) (.slice d1 m1 o1) := by rw [hW0]; exact (Bx3.new w 27 (.bool b1) (.slice a1 n1 c1) (.slice d1 m1 o1))
 go_enter Tryz.func72, Tryz.ntmps72
 obtain ⟨kp2_0, kp2_1, kp2_2⟩ := p2.c3
 go_wp2_with fail
 rw [← hW0]
 clear hW0; clear kp2_0 kp2_1 kp2_2
 refine (Tryz.refShlK h1.top.num s1.1 (by omega) M HM.out).mono ?_
 rintro e W1 ⟨v3, rfl, h3, hE⟩
 replace E0 := (Ext.trans E0 hE); replace h1 := (h1.ext hE); replace p2 := (p2.ext hE); clear hE
 obtain ⟨kp2_0, kp2_1, kp2_2⟩ := p2.c3
 go_wp2_with fail
 clear kp2_0 kp2_1 kp2_2
 refine (Tryz.refDivMod h3 h1.den SU.out SD.out (by omega)).mono ?_
 rintro e W2 ⟨vq, vr, rfl, hq, -, hE, -, -⟩
 replace E0 := (Ext.trans E0 hE); replace h1 := (h1.ext hE); replace p2 := (p2.ext hE); replace h3 := (h3.ext hE); clear hE
 obtain ⟨kp2_0, kp2_1, kp2_2⟩ := p2.c3
 go_wp2_with fail
 clear kp2_0 kp2_1 kp2_2
 refine (Tryz.refRoot hq (SU.out.le (Nat.div_le_self _ _)) (by omega) 2).mono ?_
 rintro e W3 ⟨vo, rfl, ho, hE⟩
 replace E0 := (Ext.trans E0 hE); replace h1 := (h1.ext hE); replace p2 := (p2.ext hE); replace h3 := (h3.ext hE); replace hq := (hq.ext hE); clear hE
 rw [← HSL.out] at ho
 obtain ⟨kp2_0, kp2_1, kp2_2⟩ := p2.c3
 clear h1 h3 hq; go_wp2; go_ret
 exact ⟨_, rfl, ho, E0⟩

set_option maxRecDepth 100000 in
set_option maxHeartbeats 8000000 in
theorem Tryz.rsSqrt {v1 : Value} {p : Rat × Rat} {L : Nat} {w : World} (h1 : Sw w v1 p) (s1 : SmS L p) (hL : L ≤ 10) (hp : 0 ≤ p.1) (hq : 0 ≤ p.2) (K : Nat) (hK : K ≤ 1000) :
  Calls Tryz.prog 36 #[v1, .int .i64 (K : Int)] w fun e w' => ∃ v', e = .returned (.tuple #[v', .int .i64 0]) ∧ Sw w' v' (sqS p K) ∧ Ext w w' := by
 have HNB := h1.sign
 obtain ⟨b1, a1, n1, c1, d1, m1, o1, bb1, aa1, nn1, cc1, dd1, mm1, oo1, rfl, q1⟩ : ∃ b1 a1 n1 c1 d1 m1 o1 bb1 aa1 nn1 cc1 dd1 mm1 oo1, v1 = .agg #[.bool b1, .slice a1 n1 c1, .slice d1 m1 o1, .bool bb1, .slice aa1 nn1 cc1, .slice dd1 mm1 oo1] ∧ True := let ⟨b1, a1, n1, c1, d1, m1, o1, bb1, aa1, nn1, cc1, dd1, mm1, oo1, e, _⟩ := h1; ⟨b1, a1, n1, c1, d1, m1, o1, bb1, aa1, nn1, cc1, dd1, mm1, oo1, e, trivial⟩
 clear q1
 have hb := HNB.1 rfl hp
 subst hb
 clear HNB
 have HK := Lib.hid hK
 have hk0 : ¬ (K : Int) < 0 := by omega
 have hk1 : ¬ (K : Int) > 1000 := by omega
 have HU := Lib.hid (sq_up hq K)
 obtain ⟨n, hn⟩ : ∃ n, n = sqLo p.1 K := ⟨_, rfl⟩
 obtain ⟨m, hm⟩ : ∃ m, m = sqLo p.2 K := ⟨_, rfl⟩
 have HNM := Lib.hid (And.intro hn hm)
 have SN : Hid (Sm 46 ((n : Int)).natAbs ∧ Sm 46 ((m : Int)).natAbs ∧ Sm 46 m ∧ Sm 46 1 ∧ Sm 47 (((m + 1 : Nat) : Int)).natAbs) := Lib.hid (by
  have k1 := sqLo_sm s1.lo hL hK
  have k2 := sqLo_sm s1.hi hL hK
  rw [← hn] at k1
  rw [← hm] at k2
  exact ⟨k1.mono (by omega), k2.mono (by omega), k2.mono (by omega), (Sm.one (by rw [B64_eq]; omega)).mono (by omega), sm_succ k2 (by omega)⟩)
 have SM : Hid (SmR 100 (((m : Int) : Rat) / P2 K)) := Lib.hid (by rw [← back_eq]; exact (SmR.back (L := 46) SN.out.2.1 K).mono (by omega))
 have SMM : Hid (SmR 200 (((m : Int) : Rat) / P2 K * (((m : Int) : Rat) / P2 K)) ∧ SmR 200 p.2) := Lib.hid ⟨SM.out.mul SM.out, s1.hi.mono (by omega)⟩
 rw [← hm] at HU
 clear hK hp hq hn hm
 obtain ⟨W0, hW0⟩ : ∃ W0, W0 = ((w.alloc (.cells #[.bool false, .slice a1 n1 c1, .slice d1 m1 o1, .bool bb1, .slice aa1 nn1 cc1, .slice dd1 mm1 oo1] 29)).alloc (.cells #[.bool false, .slice none 0 0, .slice none 0 0, .bool false, .slice none 0 0, .slice none 0 0] 29)) := ⟨_, rfl⟩
 have E0 : Ext w W0 := by rw [hW0]; exact ((Ext.alloc1 w (.cells #[.bool false, .slice a1 n1 c1, .slice d1 m1 o1, .bool bb1, .slice aa1 nn1 cc1, .slice dd1 mm1 oo1] 29)).alloc (.cells #[.bool false, .slice none 0 0, .slice none 0 0, .bool false, .slice none 0 0, .slice none 0 0] 29))
 replace h1 : Sw W0 (.agg #[.bool false, .slice a1 n1 c1, .slice d1 m1 o1, .bool bb1, .slice aa1 nn1 cc1, .slice dd1 mm1 oo1]) p := h1.ext E0
 have p2 : Bx6 W0 w.heap.size 29 (.bool false) (.slice a1 n1 c1) (.slice d1 m1 o1) (.bool bb1) (.slice aa1 nn1 cc1) (.slice dd1 mm1 oo1) := by rw [hW0]; exact (Bx6.new w 29 (.bool false) (.slice a1 n1 c1) (.slice d1 m1 o1) (.bool bb1) (.slice aa1 nn1 cc1) (.slice dd1 mm1 oo1)).ext (Ext.alloc1 (w.alloc (.cells #[.bool false, .slice a1 n1 c1, .slice d1 m1 o1, .bool bb1, .slice aa1 nn1 cc1, .slice dd1 mm1 oo1] 29)) (.cells #[.bool false, .slice none 0 0, .slice none 0 0, .bool false, .slice none 0 0, .slice none 0 0] 29))
 have p4 : Bx6 W0 (w.heap.size + 1) 29 (.bool false) (.slice none 0 0) (.slice none 0 0) (.bool false) (.slice none 0 0) (.slice none 0 0) := by rw [hW0]; simpa using (Bx6.new (w.alloc (.cells #[.bool false, .slice a1 n1 c1, .slice d1 m1 o1, .bool bb1, .slice aa1 nn1 cc1, .slice dd1 mm1 oo1] 29)) 29 (.bool false) (.slice none 0 0) (.slice none 0 0) (.bool false) (.slice none 0 0) (.slice none 0 0))
 go_enter Tryz.func36, Tryz.ntmps36
 obtain ⟨kp2_0, kp2_1, kp2_2, kp2_3, kp2_4, kp2_5⟩ := p2.c6
 obtain ⟨kp4_0, kp4_1, kp4_2, kp4_3, kp4_4, kp4_5⟩ := p4.c6
 go_upto_region 3 with (fail)
 rw [← hW0]
 clear hW0; clear kp2_0 kp2_1 kp2_2 kp2_3 kp2_4 kp2_5 kp4_0 kp4_1 kp4_2 kp4_3 kp4_4 kp4_5; have ltp2 := p2.lt; have ltp4 := p4.lt; have szw17 := Ext.size E0
 refine region_gs [.one fun v _ => v = .pointer (some ⟨w.heap.size, 0, none⟩),
   .one fun v _ => v = .agg #[.bool false, .slice a1 n1 c1, .slice d1 m1 o1],
   .one fun v _ => v = .int .i64 (K : Int),
   .one fun v W => Nw W v n,
   .one fun v W => Zw W v ((n : Int)),
   .one fun v _ => v = .int .i64 (K : Int),
   .one fun v W => ∃ v', v = .tuple #[v', .int .i64 0] ∧ (fun v W => Rw W v (((n : Int) : Rat) / P2 K)) v' W,
   .one fun v W => ∃ v', v = .tuple #[v', .int .i64 0] ∧ (fun v W => Rw W v (((n : Int) : Rat) / P2 K)) v' W,
   .one fun v W => Rw W v (((n : Int) : Rat) / P2 K),
   .one fun v _ => v = .int .i64 0,
   .one fun v W => ∃ g, v = .pointer (some ⟨g, 0, none⟩) ∧ W0.heap.size ≤ g ∧ Form W g 27 3,
   .three 10 8 (fun p r _ W => Put3 W0.heap.size 27 p r W),
   .one fun v _ => v = .int .i64 0]
  (fun W => Ext w W ∧ Sw W (.agg #[.bool false, .slice a1 n1 c1, .slice d1 m1 o1, .bool bb1, .slice aa1 nn1 cc1, .slice dd1 mm1 oo1]) p ∧ Bx6 W w.heap.size 29 (.bool false) (.slice a1 n1 c1) (.slice d1 m1 o1) (.bool bb1) (.slice aa1 nn1 cc1) (.slice dd1 mm1 oo1) ∧ Bx6 W (w.heap.size + 1) 29 (.bool false) (.slice none 0 0) (.slice none 0 0) (.bool false) (.slice none 0 0) (.slice none 0 0) ∧ W0.heap.size ≤ W.heap.size) ⟨Good.is _, Good.is _, Good.is _, Good.num _, Good.zed _, Good.is _, (Good.rat _).tup _, (Good.rat _).tup _, Good.rat _, Good.is _, Good.box _ _ _, cert_put3, Good.is _, trivial⟩
  ⟨E0, h1, p2, p4, Nat.le_refl _⟩ (A := ?A17) ?hA17 ?howe17 ?hfin17
 case hA17 =>
  intro vs
  simp only [putAll, Act.put, sA, sZ, sS, Nat.zero_add, Nat.reduceAdd]
  exact rfl
 case howe17 =>
  clear E0 h1 p2 p4
  intro hf
  refine ⟨oE 0 [] hf rfl ?_, oE 1 [0] hf rfl ?_, oE 2 [] hf rfl ?_, oE 3 [1, 2] hf rfl ?_, oE 4 [3] hf rfl ?_, oE 5 [] hf rfl ?_, oE 6 [4, 5] hf rfl ?_, oE 7 [6] hf rfl ?_, oE 8 [7] hf rfl ?_, oE 9 [7] hf rfl ?_, oE 10 [] hf rfl ?_, oW 11 [10, 8] hf rfl ?_, oE 12 [9] hf rfl ?_, trivial⟩
  all_goals intro vs W hS hp hx KO hKO
  all_goals simp only [Act.put, sA, sZ, sS] at hKO
  ·go_simp; exact hKO _ W (.refl W) rfl
  ·have e0 := isOf hp.1; simp only [e0] at hKO; have fc0 := hS.2.2.1.cell0; have fc1 := hS.2.2.1.cell1; have fc2 := hS.2.2.1.cell2; go_simp; exact hKO _ W (.refl W) rfl
  ·go_simp; exact hKO _ W (.refl W) rfl
  ·have e1 := isOf hp.1; have e2 := isOf hp.2.1; simp only [e1, e2] at hKO; go_simp
   refine (Tryz.rsSquare (hS.2.1.lo) s1.lo hL K HK.out).mono ?_
   rintro e W1 ⟨v, rfl, hv, hE⟩
   rw [← HNM.out.1] at hv
   exact hKO _ W1 hE hv
  ·have q3 := hp.1
   have ev3 := q3
   obtain ⟨a3, n3, c3, ev3⟩ := Nw.slice (show Nw W (vs 3) n from q3)
   replace q3 : Nw W (vs 3) n := q3
   rw [ev3] at q3
   replace ev3 : vs 3 = _ := ev3; simp only [ev3] at hKO; go_simp; exact hKO _ W (Ext.refl W) (Zw.ofN q3)
  ·go_simp; exact hKO _ W (.refl W) rfl
  ·have q4 := hp.1; have e5 := isOf hp.2.1; simp only [e5] at hKO; go_simp
   refine (Tryz.refBack q4 SN.out.1 (by omega) K (by have := HK.out; omega)).mono ?_
   rintro e W1 ⟨v, rfl, hv, hE⟩
   exact hKO _ W1 hE ⟨_, rfl, hv⟩
  ·have q6 := hp.1
   obtain ⟨u, ev, hu⟩ := q6
   replace ev : vs 6 = _ := ev; simp only [ev] at hKO; go_simp; exact hKO _ W (Ext.refl W) ⟨u, rfl, hu⟩
  ·have q7 := hp.1
   obtain ⟨u, ev, hu⟩ := q7
   replace ev : vs 7 = _ := ev; simp only [ev] at hKO; go_simp; exact hKO _ W (Ext.refl W) hu
  ·have q7 := hp.1
   obtain ⟨u, ev, hu⟩ := q7
   replace ev : vs 7 = _ := ev; simp only [ev] at hKO; go_simp; exact hKO _ W (.refl W) rfl
  ·have hn := Bx3.new W 27 (.bool false) (.slice none 0 0) (.slice none 0 0)
   have hE := Ext.alloc1 W (.cells #[.bool false, .slice none 0 0, .slice none 0 0] 27)
   have hsz := hS.2.2.2.2
   go_simp
   exact hKO _ _ hE ⟨_, rfl, hsz, hn.form⟩
  ·have q10 := hp.1; have q8 := hp.2.1
   obtain ⟨g, ev, hg, hf⟩ := q10
   replace ev : vs 10 = _ := ev
   obtain ⟨x0_0, x0_1, x0_2, hx, hno⟩ := hf.bx3
   have qr := q8
   obtain ⟨b3, a3, n3, c3, d3, m3, o3, er, -, -, -⟩ := qr
   replace er : vs 8 = _ := er
   have r0 := hx.froz0
   have t0 := hx.cell0
   have r1 := hx.froz1
   have t1 := hx.cell1
   have r2 := hx.froz2
   have t2 := hx.cell2
   have hw := Wr.set3 hx hno b3 a3 n3 c3 d3 m3 o3
   have hq := hx.set (.bool b3) (.slice a3 n3 c3) (.slice d3 m3 o3)
   simp only [ev, er] at hKO; go_simp
   exact hKO _ _ hw ⟨(Ext.wr hS.1 hw (by omega)), (hS.2.1.wr hw), (hS.2.2.1.wr hw (by omega)), (hS.2.2.2.1.wr hw (by omega)), (Nat.le_trans hS.2.2.2.2 hw.apart.size)⟩ ⟨g, b3, a3, n3, c3, d3, m3, o3, ev, er, hg, hq⟩
  ·have e9 := isOf hp.1; simp only [e9] at hKO; go_simp; exact hKO _ W (.refl W) rfl
 intro vs W17 hS hp
 clear szw17 E0 h1 p2 p4
 obtain ⟨E0, h1, p2, p4, sz17⟩ := hS
 obtain ⟨h17_0, h17_1, h17_2, h17_3, h17_4, h17_5, h17_6, h17_7, h17_8, h17_9, h17_10, h17_11, h17_12, -⟩ := hp
 obtain ⟨g17_11, b17_11, a17_11, n17_11, c17_11, d17_11, m17_11, o17_11, ev17_11, er17_11, hg17_11, p17_11⟩ := h17_11
 replace ev17_11 : vs 10 = _ := ev17_11; replace er17_11 : vs 8 = _ := er17_11; replace h17_8 := (show Rw W17 (vs 8) (((n : Int) : Rat) / P2 K) from h17_8)
 rw [er17_11] at h17_8
 replace h17_0 : vs 0 = .pointer (some ⟨w.heap.size, 0, none⟩) := h17_0
 replace h17_1 : vs 1 = .agg #[.bool false, .slice a1 n1 c1, .slice d1 m1 o1] := h17_1
 replace h17_2 : vs 2 = .int .i64 (K : Int) := h17_2
 replace h17_5 : vs 5 = .int .i64 (K : Int) := h17_5
 replace h17_9 : vs 9 = .int .i64 0 := h17_9
 replace h17_12 : vs 12 = .int .i64 0 := h17_12
 simp only [ev17_11, er17_11, h17_0, h17_1, h17_2, h17_5, h17_9, h17_12]
 replace h17_3 : Nw W17 (vs 3) n := h17_3
 generalize vs 3 = u17_3 at h17_3 ⊢
 replace h17_4 : Zw W17 (vs 4) ((n : Int)) := h17_4
 generalize vs 4 = u17_4 at h17_4 ⊢
 clear ev17_11 er17_11 h17_0 h17_1 h17_2 h17_5 h17_9 h17_12 h17_6 h17_7 h17_10
 obtain ⟨kp2_0, kp2_1, kp2_2, kp2_3, kp2_4, kp2_5⟩ := p2.c6
 obtain ⟨kp4_0, kp4_1, kp4_2, kp4_3, kp4_4, kp4_5⟩ := p4.c6
 obtain ⟨kp17_11_0, kp17_11_1, kp17_11_2⟩ := p17_11.c3
 go_upto_region 4 with (fail)
 clear kp2_0 kp2_1 kp2_2 kp2_3 kp2_4 kp2_5 kp4_0 kp4_1 kp4_2 kp4_3 kp4_4 kp4_5 kp17_11_0 kp17_11_1 kp17_11_2
 obtain ⟨kp2_0, kp2_1, kp2_2, kp2_3, kp2_4, kp2_5⟩ := p2.c6
 obtain ⟨kp4_0, kp4_1, kp4_2, kp4_3, kp4_4, kp4_5⟩ := p4.c6
 obtain ⟨kp17_11_0, kp17_11_1, kp17_11_2⟩ := p17_11.c3
 go_wp2_with fail
 clear kp2_0 kp2_1 kp2_2 kp2_3 kp2_4 kp2_5 kp4_0 kp4_1 kp4_2 kp4_3 kp4_4 kp4_5 kp17_11_0 kp17_11_1 kp17_11_2
 refine (Tryz.rsSquare h1.hi s1.hi hL K HK.out).mono ?_
 rintro e Wm ⟨vm, rfl, hvm, hE⟩
 rw [← HNM.out.2] at hvm
 obtain ⟨am, nm, cm, rfl⟩ := Nw.slice hvm
 replace E0 := (Ext.trans E0 hE); replace h1 := (h1.ext hE); replace p2 := (p2.ext hE); replace p4 := (p4.ext hE); replace h17_8 := (h17_8.ext hE); replace p17_11 := (p17_11.ext hE); replace h17_3 := (h17_3.ext hE); replace h17_4 := (h17_4.ext hE); clear hE
 have hzm := Zw.ofN hvm
 obtain ⟨kp2_0, kp2_1, kp2_2, kp2_3, kp2_4, kp2_5⟩ := p2.c6
 obtain ⟨kp4_0, kp4_1, kp4_2, kp4_3, kp4_4, kp4_5⟩ := p4.c6
 obtain ⟨kp17_11_0, kp17_11_1, kp17_11_2⟩ := p17_11.c3
 go_upto_region 5 with (fail)
 clear kp2_0 kp2_1 kp2_2 kp2_3 kp2_4 kp2_5 kp4_0 kp4_1 kp4_2 kp4_3 kp4_4 kp4_5 kp17_11_0 kp17_11_1 kp17_11_2; have ltp17_11 := p17_11.lt; have szw18 := Ext.size E0
 refine region_gs [.one fun v _ => v = .slice am nm cm,
   .one fun v _ => v = .agg #[.bool false, .slice am nm cm],
   .one fun v _ => v = .int .i64 (K : Int),
   .one fun v W => ∃ v', v = .tuple #[v', .int .i64 0] ∧ (fun v W => Rw W v (((m : Int) : Rat) / P2 K)) v' W,
   .one fun v W => ∃ v', v = .tuple #[v', .int .i64 0] ∧ (fun v W => Rw W v (((m : Int) : Rat) / P2 K)) v' W,
   .one fun v W => Rw W v (((m : Int) : Rat) / P2 K),
   .one fun v _ => v = .int .i64 0,
   .one fun v W => ∃ g, v = .pointer (some ⟨g, 0, none⟩) ∧ Wm.heap.size ≤ g ∧ Form W g 27 3,
   .three 7 5 (fun p r _ W => Put3 Wm.heap.size 27 p r W),
   .one fun v _ => v = .int .i64 0]
  (fun W => Ext w W ∧ Sw W (.agg #[.bool false, .slice a1 n1 c1, .slice d1 m1 o1, .bool bb1, .slice aa1 nn1 cc1, .slice dd1 mm1 oo1]) p ∧ Bx6 W w.heap.size 29 (.bool false) (.slice a1 n1 c1) (.slice d1 m1 o1) (.bool bb1) (.slice aa1 nn1 cc1) (.slice dd1 mm1 oo1) ∧ Bx6 W (w.heap.size + 1) 29 (.bool false) (.slice none 0 0) (.slice none 0 0) (.bool false) (.slice none 0 0) (.slice none 0 0) ∧ Rw W (.agg #[.bool b17_11, .slice a17_11 n17_11 c17_11, .slice d17_11 m17_11 o17_11]) (((n : Int) : Rat) / P2 K) ∧ Bx3 W g17_11 27 (.bool b17_11) (.slice a17_11 n17_11 c17_11) (.slice d17_11 m17_11 o17_11) ∧ Nw W u17_3 n ∧ Zw W u17_4 ((n : Int)) ∧ Nw W (.slice am nm cm) m ∧ Zw W (.agg #[.bool false, .slice am nm cm]) ((m : Int)) ∧ Wm.heap.size ≤ W.heap.size) ⟨Good.is _, Good.is _, Good.is _, (Good.rat _).tup _, (Good.rat _).tup _, Good.rat _, Good.is _, Good.box _ _ _, cert_put3, Good.is _, trivial⟩
  ⟨E0, h1, p2, p4, h17_8, p17_11, h17_3, h17_4, hvm, hzm, Nat.le_refl _⟩ (A := ?A18) ?hA18 ?howe18 ?hfin18
 case hA18 =>
  intro vs
  simp only [putAll, Act.put, sA, sZ, sS, Nat.zero_add, Nat.reduceAdd]
  exact rfl
 case howe18 =>
  clear E0 h1 p2 p4 h17_8 p17_11 h17_3 h17_4 hvm hzm
  intro hf
  refine ⟨oE 0 [] hf rfl ?_, oE 1 [0] hf rfl ?_, oE 2 [] hf rfl ?_, oE 3 [1, 2] hf rfl ?_, oE 4 [3] hf rfl ?_, oE 5 [4] hf rfl ?_, oE 6 [4] hf rfl ?_, oE 7 [] hf rfl ?_, oW 8 [7, 5] hf rfl ?_, oE 9 [6] hf rfl ?_, trivial⟩
  all_goals intro vs W hS hp hx KO hKO
  all_goals simp only [Act.put, sA, sZ, sS] at hKO
  ·go_simp; exact hKO _ W (.refl W) rfl
  ·have e0 := isOf hp.1; simp only [e0] at hKO; go_simp; exact hKO _ W (.refl W) rfl
  ·go_simp; exact hKO _ W (.refl W) rfl
  ·have e1 := isOf hp.1; have e2 := isOf hp.2.1; simp only [e1, e2] at hKO; go_simp
   refine (Tryz.refBack (hS.2.2.2.2.2.2.2.2.2.1) SN.out.2.1 (by omega) K (by have := HK.out; omega)).mono ?_
   rintro e W1 ⟨v, rfl, hv, hE⟩
   exact hKO _ W1 hE ⟨_, rfl, hv⟩
  ·have q3 := hp.1
   obtain ⟨u, ev, hu⟩ := q3
   replace ev : vs 3 = _ := ev; simp only [ev] at hKO; go_simp; exact hKO _ W (Ext.refl W) ⟨u, rfl, hu⟩
  ·have q4 := hp.1
   obtain ⟨u, ev, hu⟩ := q4
   replace ev : vs 4 = _ := ev; simp only [ev] at hKO; go_simp; exact hKO _ W (Ext.refl W) hu
  ·have q4 := hp.1
   obtain ⟨u, ev, hu⟩ := q4
   replace ev : vs 4 = _ := ev; simp only [ev] at hKO; go_simp; exact hKO _ W (.refl W) rfl
  ·have hn := Bx3.new W 27 (.bool false) (.slice none 0 0) (.slice none 0 0)
   have hE := Ext.alloc1 W (.cells #[.bool false, .slice none 0 0, .slice none 0 0] 27)
   have hsz := hS.2.2.2.2.2.2.2.2.2.2
   go_simp
   exact hKO _ _ hE ⟨_, rfl, hsz, hn.form⟩
  ·have q7 := hp.1; have q5 := hp.2.1
   obtain ⟨g, ev, hg, hf⟩ := q7
   replace ev : vs 7 = _ := ev
   obtain ⟨x0_0, x0_1, x0_2, hx, hno⟩ := hf.bx3
   have qr := q5
   obtain ⟨b3, a3, n3, c3, d3, m3, o3, er, -, -, -⟩ := qr
   replace er : vs 5 = _ := er
   have r0 := hx.froz0
   have t0 := hx.cell0
   have r1 := hx.froz1
   have t1 := hx.cell1
   have r2 := hx.froz2
   have t2 := hx.cell2
   have hw := Wr.set3 hx hno b3 a3 n3 c3 d3 m3 o3
   have hq := hx.set (.bool b3) (.slice a3 n3 c3) (.slice d3 m3 o3)
   simp only [ev, er] at hKO; go_simp
   exact hKO _ _ hw ⟨(Ext.wr hS.1 hw (by omega)), (hS.2.1.wr hw), (hS.2.2.1.wr hw (by omega)), (hS.2.2.2.1.wr hw (by omega)), (hS.2.2.2.2.1.wr hw), (hS.2.2.2.2.2.1.wr hw (by omega)), (hS.2.2.2.2.2.2.1.wr hw), (hS.2.2.2.2.2.2.2.1.wr hw), (hS.2.2.2.2.2.2.2.2.1.wr hw), (hS.2.2.2.2.2.2.2.2.2.1.wr hw), (Nat.le_trans hS.2.2.2.2.2.2.2.2.2.2 hw.apart.size)⟩ ⟨g, b3, a3, n3, c3, d3, m3, o3, ev, er, hg, hq⟩
  ·have e6 := isOf hp.1; simp only [e6] at hKO; go_simp; exact hKO _ W (.refl W) rfl
 intro vs W18 hS hp
 clear szw18 E0 h1 p2 p4 h17_8 p17_11 h17_3 h17_4 hvm hzm
 obtain ⟨E0, h1, p2, p4, h17_8, p17_11, h17_3, h17_4, hvm, hzm, sz18⟩ := hS
 obtain ⟨h18_0, h18_1, h18_2, h18_3, h18_4, h18_5, h18_6, h18_7, h18_8, h18_9, -⟩ := hp
 obtain ⟨g18_8, b18_8, a18_8, n18_8, c18_8, d18_8, m18_8, o18_8, ev18_8, er18_8, hg18_8, p18_8⟩ := h18_8
 replace ev18_8 : vs 7 = _ := ev18_8; replace er18_8 : vs 5 = _ := er18_8; replace h18_5 := (show Rw W18 (vs 5) (((m : Int) : Rat) / P2 K) from h18_5)
 rw [er18_8] at h18_5
 replace h18_0 : vs 0 = .slice am nm cm := h18_0
 replace h18_1 : vs 1 = .agg #[.bool false, .slice am nm cm] := h18_1
 replace h18_2 : vs 2 = .int .i64 (K : Int) := h18_2
 replace h18_6 : vs 6 = .int .i64 0 := h18_6
 replace h18_9 : vs 9 = .int .i64 0 := h18_9
 simp only [ev18_8, er18_8, h18_0, h18_1, h18_2, h18_6, h18_9]
 clear ev18_8 er18_8 h18_0 h18_1 h18_2 h18_6 h18_9 h18_3 h18_4 h18_7
 by_cases hlt : ((m : Int) : Rat) / P2 K * (((m : Int) : Rat) / P2 K) < p.2
 ·have HLT := Lib.hid hlt
  have HC : Hid (cmpR (((m : Int) : Rat) / P2 K * (((m : Int) : Rat) / P2 K)) p.2 < 0 ↔ True) := Lib.hid (by rw [cmpR_lt0]; exact iff_true_intro hlt)
  obtain ⟨cc, hcc⟩ : ∃ c, cmpR (((m : Int) : Rat) / P2 K * (((m : Int) : Rat) / P2 K)) p.2 = c := ⟨_, rfl⟩
  rw [hcc] at HC
  have HCC := Lib.hid hcc
  have HCD : Hid (decide (cc < 0) = true) := Lib.hid (decide_eq_true (HC.out.2 trivial))
  clear hlt hcc HC
  obtain ⟨kp2_0, kp2_1, kp2_2, kp2_3, kp2_4, kp2_5⟩ := p2.c6
  obtain ⟨kp4_0, kp4_1, kp4_2, kp4_3, kp4_4, kp4_5⟩ := p4.c6
  obtain ⟨kp17_11_0, kp17_11_1, kp17_11_2⟩ := p17_11.c3
  obtain ⟨kp18_8_0, kp18_8_1, kp18_8_2⟩ := p18_8.c3
  go_upto_region 6 with (fail)
  clear kp2_0 kp2_1 kp2_2 kp2_3 kp2_4 kp2_5 kp4_0 kp4_1 kp4_2 kp4_3 kp4_4 kp4_5 kp17_11_0 kp17_11_1 kp17_11_2 kp18_8_0 kp18_8_1 kp18_8_2; have ltp18_8 := p18_8.lt; have szw19 := Ext.size E0
  refine region_gs [.one fun v _ => v = .agg #[.bool b18_8, .slice a18_8 n18_8 c18_8, .slice d18_8 m18_8 o18_8],
    .one fun v _ => v = .agg #[.bool b18_8, .slice a18_8 n18_8 c18_8, .slice d18_8 m18_8 o18_8],
    .one fun v W => Rw W v (((m : Int) : Rat) / P2 K * (((m : Int) : Rat) / P2 K)),
    .one fun v _ => v = .pointer (some ⟨w.heap.size, 3, none⟩),
    .one fun v _ => v = .agg #[.bool bb1, .slice aa1 nn1 cc1, .slice dd1 mm1 oo1],
    .one fun v _ => v = .int .i64 cc,
    .one fun v _ => v = .bool true]
   (fun W => Ext w W ∧ Sw W (.agg #[.bool false, .slice a1 n1 c1, .slice d1 m1 o1, .bool bb1, .slice aa1 nn1 cc1, .slice dd1 mm1 oo1]) p ∧ Bx6 W w.heap.size 29 (.bool false) (.slice a1 n1 c1) (.slice d1 m1 o1) (.bool bb1) (.slice aa1 nn1 cc1) (.slice dd1 mm1 oo1) ∧ Bx6 W (w.heap.size + 1) 29 (.bool false) (.slice none 0 0) (.slice none 0 0) (.bool false) (.slice none 0 0) (.slice none 0 0) ∧ Rw W (.agg #[.bool b17_11, .slice a17_11 n17_11 c17_11, .slice d17_11 m17_11 o17_11]) (((n : Int) : Rat) / P2 K) ∧ Bx3 W g17_11 27 (.bool b17_11) (.slice a17_11 n17_11 c17_11) (.slice d17_11 m17_11 o17_11) ∧ Nw W u17_3 n ∧ Zw W u17_4 ((n : Int)) ∧ Nw W (.slice am nm cm) m ∧ Zw W (.agg #[.bool false, .slice am nm cm]) ((m : Int)) ∧ Rw W (.agg #[.bool b18_8, .slice a18_8 n18_8 c18_8, .slice d18_8 m18_8 o18_8]) (((m : Int) : Rat) / P2 K) ∧ Bx3 W g18_8 27 (.bool b18_8) (.slice a18_8 n18_8 c18_8) (.slice d18_8 m18_8 o18_8) ∧ W18.heap.size ≤ W.heap.size) ⟨Good.is _, Good.is _, Good.rat _, Good.is _, Good.is _, Good.is _, Good.is _, trivial⟩
   ⟨E0, h1, p2, p4, h17_8, p17_11, h17_3, h17_4, hvm, hzm, h18_5, p18_8, Nat.le_refl _⟩ (A := ?A19) ?hA19 ?howe19 ?hfin19
  case hA19 =>
   intro vs
   simp only [putAll, Act.put, sA, sZ, sS, Nat.zero_add, Nat.reduceAdd]
   exact rfl
  case howe19 =>
   clear E0 h1 p2 p4 h17_8 p17_11 h17_3 h17_4 hvm hzm h18_5 p18_8
   intro hf
   refine ⟨oE 0 [] hf rfl ?_, oE 1 [] hf rfl ?_, oE 2 [0, 1] hf rfl ?_, oE 3 [] hf rfl ?_, oE 4 [3] hf rfl ?_, oE 5 [2, 4] hf rfl ?_, oE 6 [5] hf rfl ?_, trivial⟩
   all_goals intro vs W hS hp hx KO hKO
   all_goals simp only [Act.put, sA, sZ, sS] at hKO
   ·have fc0 := hS.2.2.2.2.2.2.2.2.2.2.2.1.cell0; have fc1 := hS.2.2.2.2.2.2.2.2.2.2.2.1.cell1; have fc2 := hS.2.2.2.2.2.2.2.2.2.2.2.1.cell2; go_simp; exact hKO _ W (.refl W) rfl
   ·have fc0 := hS.2.2.2.2.2.2.2.2.2.2.2.1.cell0; have fc1 := hS.2.2.2.2.2.2.2.2.2.2.2.1.cell1; have fc2 := hS.2.2.2.2.2.2.2.2.2.2.2.1.cell2; go_simp; exact hKO _ W (.refl W) rfl
   ·have e0 := isOf hp.1; have e1 := isOf hp.2.1; simp only [e0, e1] at hKO; go_simp
    refine (Tryz.refRMul (hS.2.2.2.2.2.2.2.2.2.2.1) (hS.2.2.2.2.2.2.2.2.2.2.1) SM.out SM.out (by omega)).mono ?_
    rintro e W1 ⟨v, rfl, hv, hE⟩
    exact hKO _ W1 hE hv
   ·go_simp; exact hKO _ W (.refl W) rfl
   ·have e3 := isOf hp.1; simp only [e3] at hKO; have fc3 := hS.2.2.1.cell3; have fc4 := hS.2.2.1.cell4; have fc5 := hS.2.2.1.cell5; go_simp; exact hKO _ W (.refl W) rfl
   ·have q2 := hp.1; have e4 := isOf hp.2.1; simp only [e4] at hKO; go_simp
    refine (Tryz.refRCmpR q2 (hS.2.1.hi) SMM.out.1 SMM.out.2 (by omega) HCC.out).mono ?_
    rintro e W1 ⟨rfl, hE⟩
    exact hKO _ W1 hE rfl
   ·have e5 := isOf hp.1; simp only [e5] at hKO; go_simp; exact hKO _ W (Ext.refl W) (by first | rfl | exact congrArg Value.bool HCD.out)
  intro vs W19 hS hp
  clear szw19 E0 h1 p2 p4 h17_8 p17_11 h17_3 h17_4 hvm hzm h18_5 p18_8
  obtain ⟨E0, h1, p2, p4, h17_8, p17_11, h17_3, h17_4, hvm, hzm, h18_5, p18_8, sz19⟩ := hS
  obtain ⟨h19_0, h19_1, h19_2, h19_3, h19_4, h19_5, h19_6, -⟩ := hp
  replace h19_0 : vs 0 = .agg #[.bool b18_8, .slice a18_8 n18_8 c18_8, .slice d18_8 m18_8 o18_8] := h19_0
  replace h19_1 : vs 1 = .agg #[.bool b18_8, .slice a18_8 n18_8 c18_8, .slice d18_8 m18_8 o18_8] := h19_1
  replace h19_3 : vs 3 = .pointer (some ⟨w.heap.size, 3, none⟩) := h19_3
  replace h19_4 : vs 4 = .agg #[.bool bb1, .slice aa1 nn1 cc1, .slice dd1 mm1 oo1] := h19_4
  replace h19_5 : vs 5 = .int .i64 cc := h19_5
  replace h19_6 : vs 6 = .bool true := h19_6
  simp only [h19_0, h19_1, h19_3, h19_4, h19_5, h19_6]
  replace h19_2 : Rw W19 (vs 2) (((m : Int) : Rat) / P2 K * (((m : Int) : Rat) / P2 K)) := h19_2
  generalize vs 2 = u19_2 at h19_2 ⊢
  clear h19_0 h19_1 h19_3 h19_4 h19_5 h19_6
  obtain ⟨kp2_0, kp2_1, kp2_2, kp2_3, kp2_4, kp2_5⟩ := p2.c6
  obtain ⟨kp4_0, kp4_1, kp4_2, kp4_3, kp4_4, kp4_5⟩ := p4.c6
  obtain ⟨kp17_11_0, kp17_11_1, kp17_11_2⟩ := p17_11.c3
  obtain ⟨kp18_8_0, kp18_8_1, kp18_8_2⟩ := p18_8.c3
  go_upto_region 7 with (fail)
  clear kp2_0 kp2_1 kp2_2 kp2_3 kp2_4 kp2_5 kp4_0 kp4_1 kp4_2 kp4_3 kp4_4 kp4_5 kp17_11_0 kp17_11_1 kp17_11_2 kp18_8_0 kp18_8_1 kp18_8_2; have szw20 := Ext.size E0
  refine region_gs [.one fun v _ => v = .slice am nm cm,
    .one fun v W => Nw W v 1,
    .one fun v W => Nw W v (m + 1),
    .one fun v W => Zw W v (((m + 1 : Nat) : Int)),
    .one fun v _ => v = .int .i64 (K : Int),
    .one fun v W => ∃ v', v = .tuple #[v', .int .i64 0] ∧ (fun v W => Rw W v ((((m + 1 : Nat) : Int) : Rat) / P2 K)) v' W,
    .one fun v W => ∃ v', v = .tuple #[v', .int .i64 0] ∧ (fun v W => Rw W v ((((m + 1 : Nat) : Int) : Rat) / P2 K)) v' W,
    .one fun v W => Rw W v ((((m + 1 : Nat) : Int) : Rat) / P2 K),
    .one fun v _ => v = .int .i64 0,
    .one fun v W => ∃ g, v = .pointer (some ⟨g, 0, none⟩) ∧ W19.heap.size ≤ g ∧ Form W g 27 3,
    .three 9 7 (fun p r _ W => Put3 W19.heap.size 27 p r W),
    .one fun v _ => v = .int .i64 0]
   (fun W => Ext w W ∧ Sw W (.agg #[.bool false, .slice a1 n1 c1, .slice d1 m1 o1, .bool bb1, .slice aa1 nn1 cc1, .slice dd1 mm1 oo1]) p ∧ Bx6 W w.heap.size 29 (.bool false) (.slice a1 n1 c1) (.slice d1 m1 o1) (.bool bb1) (.slice aa1 nn1 cc1) (.slice dd1 mm1 oo1) ∧ Bx6 W (w.heap.size + 1) 29 (.bool false) (.slice none 0 0) (.slice none 0 0) (.bool false) (.slice none 0 0) (.slice none 0 0) ∧ Rw W (.agg #[.bool b17_11, .slice a17_11 n17_11 c17_11, .slice d17_11 m17_11 o17_11]) (((n : Int) : Rat) / P2 K) ∧ Bx3 W g17_11 27 (.bool b17_11) (.slice a17_11 n17_11 c17_11) (.slice d17_11 m17_11 o17_11) ∧ Nw W u17_3 n ∧ Zw W u17_4 ((n : Int)) ∧ Nw W (.slice am nm cm) m ∧ Zw W (.agg #[.bool false, .slice am nm cm]) ((m : Int)) ∧ Rw W (.agg #[.bool b18_8, .slice a18_8 n18_8 c18_8, .slice d18_8 m18_8 o18_8]) (((m : Int) : Rat) / P2 K) ∧ Bx3 W g18_8 27 (.bool b18_8) (.slice a18_8 n18_8 c18_8) (.slice d18_8 m18_8 o18_8) ∧ Rw W u19_2 (((m : Int) : Rat) / P2 K * (((m : Int) : Rat) / P2 K)) ∧ W19.heap.size ≤ W.heap.size) ⟨Good.is _, Good.num _, Good.num _, Good.zed _, Good.is _, (Good.rat _).tup _, (Good.rat _).tup _, Good.rat _, Good.is _, Good.box _ _ _, cert_put3, Good.is _, trivial⟩
   ⟨E0, h1, p2, p4, h17_8, p17_11, h17_3, h17_4, hvm, hzm, h18_5, p18_8, h19_2, Nat.le_refl _⟩ (A := ?A20) ?hA20 ?howe20 ?hfin20
  case hA20 =>
   intro vs
   simp only [putAll, Act.put, sA, sZ, sS, Nat.zero_add, Nat.reduceAdd]
   exact rfl
  case howe20 =>
   clear E0 h1 p2 p4 h17_8 p17_11 h17_3 h17_4 hvm hzm h18_5 p18_8 h19_2
   intro hf
   refine ⟨oE 0 [] hf rfl ?_, oE 1 [] hf rfl ?_, oE 2 [0, 1] hf rfl ?_, oE 3 [2] hf rfl ?_, oE 4 [] hf rfl ?_, oE 5 [3, 4] hf rfl ?_, oE 6 [5] hf rfl ?_, oE 7 [6] hf rfl ?_, oE 8 [6] hf rfl ?_, oE 9 [] hf rfl ?_, oW 10 [9, 7] hf rfl ?_, oE 11 [8] hf rfl ?_, trivial⟩
   all_goals intro vs W hS hp hx KO hKO
   all_goals simp only [Act.put, sA, sZ, sS] at hKO
   ·go_simp; exact hKO _ W (.refl W) rfl
   ·go_simp
    refine (Tryz.refOf 1 _ (by rw [B64_eq]; omega)).mono ?_
    rintro e W1 ⟨v, rfl, hv, hE, -⟩
    exact hKO _ W1 hE hv
   ·have e0 := isOf hp.1; have q1 := hp.2.1; simp only [e0] at hKO; go_simp
    refine (Tryz.refAdd (hS.2.2.2.2.2.2.2.2.2.1.num) q1 SN.out.2.2.1 SN.out.2.2.2.1 (by omega)).mono ?_
    rintro e W1 ⟨v, rfl, hv, hE, -⟩
    exact hKO _ W1 hE hv
   ·have q2 := hp.1
    have ev2 := q2
    obtain ⟨a2, n2, c2, ev2⟩ := Nw.slice (show Nw W (vs 2) (m + 1) from q2)
    replace q2 : Nw W (vs 2) (m + 1) := q2
    rw [ev2] at q2
    replace ev2 : vs 2 = _ := ev2; simp only [ev2] at hKO; go_simp; exact hKO _ W (Ext.refl W) (Zw.ofN q2)
   ·go_simp; exact hKO _ W (.refl W) rfl
   ·have q3 := hp.1; have e4 := isOf hp.2.1; simp only [e4] at hKO; go_simp
    refine (Tryz.refBack q3 SN.out.2.2.2.2 (by omega) K (by have := HK.out; omega)).mono ?_
    rintro e W1 ⟨v, rfl, hv, hE⟩
    exact hKO _ W1 hE ⟨_, rfl, hv⟩
   ·have q5 := hp.1
    obtain ⟨u, ev, hu⟩ := q5
    replace ev : vs 5 = _ := ev; simp only [ev] at hKO; go_simp; exact hKO _ W (Ext.refl W) ⟨u, rfl, hu⟩
   ·have q6 := hp.1
    obtain ⟨u, ev, hu⟩ := q6
    replace ev : vs 6 = _ := ev; simp only [ev] at hKO; go_simp; exact hKO _ W (Ext.refl W) hu
   ·have q6 := hp.1
    obtain ⟨u, ev, hu⟩ := q6
    replace ev : vs 6 = _ := ev; simp only [ev] at hKO; go_simp; exact hKO _ W (.refl W) rfl
   ·have hn := Bx3.new W 27 (.bool false) (.slice none 0 0) (.slice none 0 0)
    have hE := Ext.alloc1 W (.cells #[.bool false, .slice none 0 0, .slice none 0 0] 27)
    have hsz := hS.2.2.2.2.2.2.2.2.2.2.2.2.2
    go_simp
    exact hKO _ _ hE ⟨_, rfl, hsz, hn.form⟩
   ·have q9 := hp.1; have q7 := hp.2.1
    obtain ⟨g, ev, hg, hf⟩ := q9
    replace ev : vs 9 = _ := ev
    obtain ⟨x0_0, x0_1, x0_2, hx, hno⟩ := hf.bx3
    have qr := q7
    obtain ⟨b3, a3, n3, c3, d3, m3, o3, er, -, -, -⟩ := qr
    replace er : vs 7 = _ := er
    have r0 := hx.froz0
    have t0 := hx.cell0
    have r1 := hx.froz1
    have t1 := hx.cell1
    have r2 := hx.froz2
    have t2 := hx.cell2
    have hw := Wr.set3 hx hno b3 a3 n3 c3 d3 m3 o3
    have hq := hx.set (.bool b3) (.slice a3 n3 c3) (.slice d3 m3 o3)
    simp only [ev, er] at hKO; go_simp
    exact hKO _ _ hw ⟨(Ext.wr hS.1 hw (by omega)), (hS.2.1.wr hw), (hS.2.2.1.wr hw (by omega)), (hS.2.2.2.1.wr hw (by omega)), (hS.2.2.2.2.1.wr hw), (hS.2.2.2.2.2.1.wr hw (by omega)), (hS.2.2.2.2.2.2.1.wr hw), (hS.2.2.2.2.2.2.2.1.wr hw), (hS.2.2.2.2.2.2.2.2.1.wr hw), (hS.2.2.2.2.2.2.2.2.2.1.wr hw), (hS.2.2.2.2.2.2.2.2.2.2.1.wr hw), (hS.2.2.2.2.2.2.2.2.2.2.2.1.wr hw (by omega)), (hS.2.2.2.2.2.2.2.2.2.2.2.2.1.wr hw), (Nat.le_trans hS.2.2.2.2.2.2.2.2.2.2.2.2.2 hw.apart.size)⟩ ⟨g, b3, a3, n3, c3, d3, m3, o3, ev, er, hg, hq⟩
   ·have e8 := isOf hp.1; simp only [e8] at hKO; go_simp; exact hKO _ W (.refl W) rfl
  intro vs W20 hS hp
  clear szw20 E0 h1 p2 p4 h17_8 p17_11 h17_3 h17_4 hvm hzm h18_5 p18_8 h19_2
  obtain ⟨E0, h1, p2, p4, h17_8, p17_11, h17_3, h17_4, hvm, hzm, h18_5, p18_8, h19_2, sz20⟩ := hS
  obtain ⟨h20_0, h20_1, h20_2, h20_3, h20_4, h20_5, h20_6, h20_7, h20_8, h20_9, h20_10, h20_11, -⟩ := hp
  obtain ⟨g20_10, b20_10, a20_10, n20_10, c20_10, d20_10, m20_10, o20_10, ev20_10, er20_10, hg20_10, p20_10⟩ := h20_10
  replace ev20_10 : vs 9 = _ := ev20_10; replace er20_10 : vs 7 = _ := er20_10; replace h20_7 := (show Rw W20 (vs 7) ((((m + 1 : Nat) : Int) : Rat) / P2 K) from h20_7)
  rw [er20_10] at h20_7
  replace h20_0 : vs 0 = .slice am nm cm := h20_0
  replace h20_4 : vs 4 = .int .i64 (K : Int) := h20_4
  replace h20_8 : vs 8 = .int .i64 0 := h20_8
  replace h20_11 : vs 11 = .int .i64 0 := h20_11
  simp only [ev20_10, er20_10, h20_0, h20_4, h20_8, h20_11]
  replace h20_1 : Nw W20 (vs 1) 1 := h20_1
  generalize vs 1 = u20_1 at h20_1 ⊢
  replace h20_2 : Nw W20 (vs 2) (m + 1) := h20_2
  generalize vs 2 = u20_2 at h20_2 ⊢
  replace h20_3 : Zw W20 (vs 3) (((m + 1 : Nat) : Int)) := h20_3
  generalize vs 3 = u20_3 at h20_3 ⊢
  clear ev20_10 er20_10 h20_0 h20_4 h20_8 h20_11 h20_5 h20_6 h20_9
  obtain ⟨kp2_0, kp2_1, kp2_2, kp2_3, kp2_4, kp2_5⟩ := p2.c6
  obtain ⟨kp4_0, kp4_1, kp4_2, kp4_3, kp4_4, kp4_5⟩ := p4.c6
  obtain ⟨kp17_11_0, kp17_11_1, kp17_11_2⟩ := p17_11.c3
  obtain ⟨kp18_8_0, kp18_8_1, kp18_8_2⟩ := p18_8.c3
  obtain ⟨kp20_10_0, kp20_10_1, kp20_10_2⟩ := p20_10.c3
  go_upto_region 8 with (fail)
  clear kp2_0 kp2_1 kp2_2 kp2_3 kp2_4 kp2_5 kp4_0 kp4_1 kp4_2 kp4_3 kp4_4 kp4_5 kp17_11_0 kp17_11_1 kp17_11_2 kp18_8_0 kp18_8_1 kp18_8_2 kp20_10_0 kp20_10_1 kp20_10_2; have fp18_8 := p18_8.form; have ltp20_10 := p20_10.lt; have szw21 := Ext.size E0
  refine region_gs [.one fun v _ => v = .agg #[.bool b20_10, .slice a20_10 n20_10 c20_10, .slice d20_10 m20_10 o20_10],
    .own fun W => Bx3 W g18_8 27 (.bool b20_10) (.slice a20_10 n20_10 c20_10) (.slice d20_10 m20_10 o20_10)]
   (fun W => Ext w W ∧ Sw W (.agg #[.bool false, .slice a1 n1 c1, .slice d1 m1 o1, .bool bb1, .slice aa1 nn1 cc1, .slice dd1 mm1 oo1]) p ∧ Bx6 W w.heap.size 29 (.bool false) (.slice a1 n1 c1) (.slice d1 m1 o1) (.bool bb1) (.slice aa1 nn1 cc1) (.slice dd1 mm1 oo1) ∧ Bx6 W (w.heap.size + 1) 29 (.bool false) (.slice none 0 0) (.slice none 0 0) (.bool false) (.slice none 0 0) (.slice none 0 0) ∧ Rw W (.agg #[.bool b17_11, .slice a17_11 n17_11 c17_11, .slice d17_11 m17_11 o17_11]) (((n : Int) : Rat) / P2 K) ∧ Bx3 W g17_11 27 (.bool b17_11) (.slice a17_11 n17_11 c17_11) (.slice d17_11 m17_11 o17_11) ∧ Nw W u17_3 n ∧ Zw W u17_4 ((n : Int)) ∧ Nw W (.slice am nm cm) m ∧ Zw W (.agg #[.bool false, .slice am nm cm]) ((m : Int)) ∧ Rw W (.agg #[.bool b18_8, .slice a18_8 n18_8 c18_8, .slice d18_8 m18_8 o18_8]) (((m : Int) : Rat) / P2 K) ∧ Form W g18_8 27 3 ∧ Rw W u19_2 (((m : Int) : Rat) / P2 K * (((m : Int) : Rat) / P2 K)) ∧ Rw W (.agg #[.bool b20_10, .slice a20_10 n20_10 c20_10, .slice d20_10 m20_10 o20_10]) ((((m + 1 : Nat) : Int) : Rat) / P2 K) ∧ Bx3 W g20_10 27 (.bool b20_10) (.slice a20_10 n20_10 c20_10) (.slice d20_10 m20_10 o20_10) ∧ Nw W u20_1 1 ∧ Nw W u20_2 (m + 1) ∧ Zw W u20_3 (((m + 1 : Nat) : Int)) ∧ W20.heap.size ≤ W.heap.size) ⟨Good.is _, cert_bx3, trivial⟩
   ⟨E0, h1, p2, p4, h17_8, p17_11, h17_3, h17_4, hvm, hzm, h18_5, fp18_8, h19_2, h20_7, p20_10, h20_1, h20_2, h20_3, Nat.le_refl _⟩ (A := ?A21) ?hA21 ?howe21 ?hfin21
  case hA21 =>
   intro vs
   simp only [putAll, Act.put, sA, sZ, sS]
   exact rfl
  case howe21 =>
   clear E0 h1 p2 p4 h17_8 p17_11 h17_3 h17_4 hvm hzm h18_5 fp18_8 h19_2 h20_7 p20_10 h20_1 h20_2 h20_3
   intro hf
   refine ⟨oE 0 [] hf rfl ?_, oW 1 [0] hf rfl ?_, trivial⟩
   all_goals intro vs W hS hp hx KO hKO
   all_goals simp only [Act.put, sA, sZ, sS] at hKO
   ·have fc0 := hS.2.2.2.2.2.2.2.2.2.2.2.2.2.2.1.cell0; have fc1 := hS.2.2.2.2.2.2.2.2.2.2.2.2.2.2.1.cell1; have fc2 := hS.2.2.2.2.2.2.2.2.2.2.2.2.2.2.1.cell2; go_simp; exact hKO _ W (.refl W) rfl
   ·have e0 := isOf hp.1; simp only [e0] at hKO
    have hf := hS.2.2.2.2.2.2.2.2.2.2.2.1
    obtain ⟨x0_0, x0_1, x0_2, hx, hno⟩ := hf.bx3
    have r0 := hx.froz0
    have t0 := hx.cell0
    have r1 := hx.froz1
    have t1 := hx.cell1
    have r2 := hx.froz2
    have t2 := hx.cell2
    have hw := Wr.set3 hx hno b20_10 a20_10 n20_10 c20_10 d20_10 m20_10 o20_10
    have hq := hx.set (.bool b20_10) (.slice a20_10 n20_10 c20_10) (.slice d20_10 m20_10 o20_10)
    have hg : g18_8 ≤ g18_8 := Nat.le_refl _
    go_simp
    exact hKO _ _ hw ⟨(Ext.wr hS.1 hw (by omega)), (hS.2.1.wr hw), (hS.2.2.1.wr hw (by omega)), (hS.2.2.2.1.wr hw (by omega)), (hS.2.2.2.2.1.wr hw), (hS.2.2.2.2.2.1.wr hw (by omega)), (hS.2.2.2.2.2.2.1.wr hw), (hS.2.2.2.2.2.2.2.1.wr hw), (hS.2.2.2.2.2.2.2.2.1.wr hw), (hS.2.2.2.2.2.2.2.2.2.1.wr hw), (hS.2.2.2.2.2.2.2.2.2.2.1.wr hw), (hS.2.2.2.2.2.2.2.2.2.2.2.1.wr hw), (hS.2.2.2.2.2.2.2.2.2.2.2.2.1.wr hw), (hS.2.2.2.2.2.2.2.2.2.2.2.2.2.1.wr hw), (hS.2.2.2.2.2.2.2.2.2.2.2.2.2.2.1.wr hw (by omega)), (hS.2.2.2.2.2.2.2.2.2.2.2.2.2.2.2.1.wr hw), (hS.2.2.2.2.2.2.2.2.2.2.2.2.2.2.2.2.1.wr hw), (hS.2.2.2.2.2.2.2.2.2.2.2.2.2.2.2.2.2.1.wr hw), (Nat.le_trans hS.2.2.2.2.2.2.2.2.2.2.2.2.2.2.2.2.2.2 hw.apart.size)⟩ hq
  intro vs W21 hS hp
  clear szw21 E0 h1 p2 p4 h17_8 p17_11 h17_3 h17_4 hvm hzm h18_5 fp18_8 h19_2 h20_7 p20_10 h20_1 h20_2 h20_3
  obtain ⟨E0, h1, p2, p4, h17_8, p17_11, h17_3, h17_4, hvm, hzm, h18_5, fp18_8, h19_2, h20_7, p20_10, h20_1, h20_2, h20_3, sz21⟩ := hS
  obtain ⟨h21_0, h21_1, -⟩ := hp
  have p21_1 : Bx3 W21 g18_8 27 (.bool b20_10) (.slice a20_10 n20_10 c20_10) (.slice d20_10 m20_10 o20_10) := h21_1
  replace h21_0 : vs 0 = .agg #[.bool b20_10, .slice a20_10 n20_10 c20_10, .slice d20_10 m20_10 o20_10] := h21_0
  simp only [h21_0]
  clear h21_0
  obtain ⟨kp2_0, kp2_1, kp2_2, kp2_3, kp2_4, kp2_5⟩ := p2.c6
  obtain ⟨kp4_0, kp4_1, kp4_2, kp4_3, kp4_4, kp4_5⟩ := p4.c6
  obtain ⟨kp17_11_0, kp17_11_1, kp17_11_2⟩ := p17_11.c3
  obtain ⟨kp20_10_0, kp20_10_1, kp20_10_2⟩ := p20_10.c3
  obtain ⟨kp21_1_0, kp21_1_1, kp21_1_2⟩ := p21_1.c3
  go_upto_region 9 with (fail)
  clear kp2_0 kp2_1 kp2_2 kp2_3 kp2_4 kp2_5 kp4_0 kp4_1 kp4_2 kp4_3 kp4_4 kp4_5 kp17_11_0 kp17_11_1 kp17_11_2 kp20_10_0 kp20_10_1 kp20_10_2 kp21_1_0 kp21_1_1 kp21_1_2; have fp4 := p4.form; have szw22 := Ext.size E0
  refine region_gs [.one fun v _ => v = .agg #[.bool b17_11, .slice a17_11 n17_11 c17_11, .slice d17_11 m17_11 o17_11],
    .one fun v _ => v = .agg #[.bool b20_10, .slice a20_10 n20_10 c20_10, .slice d20_10 m20_10 o20_10],
    .one fun v _ => v = .agg #[.bool b17_11, .slice a17_11 n17_11 c17_11, .slice d17_11 m17_11 o17_11, .bool b20_10, .slice a20_10 n20_10 c20_10, .slice d20_10 m20_10 o20_10],
    .own fun W => Bx6 W (w.heap.size + 1) 29 (.bool b17_11) (.slice a17_11 n17_11 c17_11) (.slice d17_11 m17_11 o17_11) (.bool b20_10) (.slice a20_10 n20_10 c20_10) (.slice d20_10 m20_10 o20_10),
    .one fun v _ => v = .int .i64 0]
   (fun W => Ext w W ∧ Sw W (.agg #[.bool false, .slice a1 n1 c1, .slice d1 m1 o1, .bool bb1, .slice aa1 nn1 cc1, .slice dd1 mm1 oo1]) p ∧ Bx6 W w.heap.size 29 (.bool false) (.slice a1 n1 c1) (.slice d1 m1 o1) (.bool bb1) (.slice aa1 nn1 cc1) (.slice dd1 mm1 oo1) ∧ Form W (w.heap.size + 1) 29 6 ∧ Rw W (.agg #[.bool b17_11, .slice a17_11 n17_11 c17_11, .slice d17_11 m17_11 o17_11]) (((n : Int) : Rat) / P2 K) ∧ Bx3 W g17_11 27 (.bool b17_11) (.slice a17_11 n17_11 c17_11) (.slice d17_11 m17_11 o17_11) ∧ Nw W u17_3 n ∧ Zw W u17_4 ((n : Int)) ∧ Nw W (.slice am nm cm) m ∧ Zw W (.agg #[.bool false, .slice am nm cm]) ((m : Int)) ∧ Rw W (.agg #[.bool b18_8, .slice a18_8 n18_8 c18_8, .slice d18_8 m18_8 o18_8]) (((m : Int) : Rat) / P2 K) ∧ Rw W u19_2 (((m : Int) : Rat) / P2 K * (((m : Int) : Rat) / P2 K)) ∧ Rw W (.agg #[.bool b20_10, .slice a20_10 n20_10 c20_10, .slice d20_10 m20_10 o20_10]) ((((m + 1 : Nat) : Int) : Rat) / P2 K) ∧ Bx3 W g20_10 27 (.bool b20_10) (.slice a20_10 n20_10 c20_10) (.slice d20_10 m20_10 o20_10) ∧ Nw W u20_1 1 ∧ Nw W u20_2 (m + 1) ∧ Zw W u20_3 (((m + 1 : Nat) : Int)) ∧ Bx3 W g18_8 27 (.bool b20_10) (.slice a20_10 n20_10 c20_10) (.slice d20_10 m20_10 o20_10) ∧ W21.heap.size ≤ W.heap.size) ⟨Good.is _, Good.is _, Good.is _, cert_bx6, Good.is _, trivial⟩
   ⟨E0, h1, p2, fp4, h17_8, p17_11, h17_3, h17_4, hvm, hzm, h18_5, h19_2, h20_7, p20_10, h20_1, h20_2, h20_3, p21_1, Nat.le_refl _⟩ (A := ?A22) ?hA22 ?howe22 ?hfin22
  case hA22 =>
   intro vs
   simp only [putAll, Act.put, sA, sZ, sS, Nat.zero_add, Nat.reduceAdd]
   exact rfl
  case howe22 =>
   clear E0 h1 p2 fp4 h17_8 p17_11 h17_3 h17_4 hvm hzm h18_5 h19_2 h20_7 p20_10 h20_1 h20_2 h20_3 p21_1
   intro hf
   refine ⟨oE 0 [] hf rfl ?_, oE 1 [] hf rfl ?_, oE 2 [0, 1] hf rfl ?_, oW 3 [2] hf rfl ?_, oE 4 [] hf rfl ?_, trivial⟩
   all_goals intro vs W hS hp hx KO hKO
   all_goals simp only [Act.put, sA, sZ, sS] at hKO
   ·have fc0 := hS.2.2.2.2.2.1.cell0; have fc1 := hS.2.2.2.2.2.1.cell1; have fc2 := hS.2.2.2.2.2.1.cell2; go_simp; exact hKO _ W (.refl W) rfl
   ·have fc0 := hS.2.2.2.2.2.2.2.2.2.2.2.2.2.2.2.2.2.1.cell0; have fc1 := hS.2.2.2.2.2.2.2.2.2.2.2.2.2.2.2.2.2.1.cell1; have fc2 := hS.2.2.2.2.2.2.2.2.2.2.2.2.2.2.2.2.2.1.cell2; go_simp; exact hKO _ W (.refl W) rfl
   ·have e0 := isOf hp.1; have e1 := isOf hp.2.1; simp only [e0, e1] at hKO; go_simp; exact hKO _ W (.refl W) rfl
   ·have e2 := isOf hp.1; simp only [e2] at hKO
    have hf := hS.2.2.2.1
    obtain ⟨x0_0, x0_1, x0_2, x0_3, x0_4, x0_5, hx, hno⟩ := hf.bx6
    have r0 := hx.froz0
    have t0 := hx.cell0
    have r1 := hx.froz1
    have t1 := hx.cell1
    have r2 := hx.froz2
    have t2 := hx.cell2
    have r3 := hx.froz3
    have t3 := hx.cell3
    have r4 := hx.froz4
    have t4 := hx.cell4
    have r5 := hx.froz5
    have t5 := hx.cell5
    have hw := Wr.set6 hx hno b17_11 a17_11 n17_11 c17_11 d17_11 m17_11 o17_11 b20_10 a20_10 n20_10 c20_10 d20_10 m20_10 o20_10
    have hq := hx.set (.bool b17_11) (.slice a17_11 n17_11 c17_11) (.slice d17_11 m17_11 o17_11) (.bool b20_10) (.slice a20_10 n20_10 c20_10) (.slice d20_10 m20_10 o20_10)
    have hg : (w.heap.size + 1) ≤ (w.heap.size + 1) := Nat.le_refl _
    go_simp
    exact hKO _ _ hw ⟨(Ext.wr hS.1 hw (by omega)), (hS.2.1.wr hw), (hS.2.2.1.wr hw (by omega)), (hS.2.2.2.1.wr hw), (hS.2.2.2.2.1.wr hw), (hS.2.2.2.2.2.1.wr hw (by omega)), (hS.2.2.2.2.2.2.1.wr hw), (hS.2.2.2.2.2.2.2.1.wr hw), (hS.2.2.2.2.2.2.2.2.1.wr hw), (hS.2.2.2.2.2.2.2.2.2.1.wr hw), (hS.2.2.2.2.2.2.2.2.2.2.1.wr hw), (hS.2.2.2.2.2.2.2.2.2.2.2.1.wr hw), (hS.2.2.2.2.2.2.2.2.2.2.2.2.1.wr hw), (hS.2.2.2.2.2.2.2.2.2.2.2.2.2.1.wr hw (by omega)), (hS.2.2.2.2.2.2.2.2.2.2.2.2.2.2.1.wr hw), (hS.2.2.2.2.2.2.2.2.2.2.2.2.2.2.2.1.wr hw), (hS.2.2.2.2.2.2.2.2.2.2.2.2.2.2.2.2.1.wr hw), (hS.2.2.2.2.2.2.2.2.2.2.2.2.2.2.2.2.2.1.wr hw (by omega)), (Nat.le_trans hS.2.2.2.2.2.2.2.2.2.2.2.2.2.2.2.2.2.2 hw.apart.size)⟩ hq
   ·go_simp; exact hKO _ W (.refl W) rfl
  intro vs W22 hS hp
  clear szw22 E0 h1 p2 fp4 h17_8 p17_11 h17_3 h17_4 hvm hzm h18_5 h19_2 h20_7 p20_10 h20_1 h20_2 h20_3 p21_1
  obtain ⟨E0, h1, p2, fp4, h17_8, p17_11, h17_3, h17_4, hvm, hzm, h18_5, h19_2, h20_7, p20_10, h20_1, h20_2, h20_3, p21_1, sz22⟩ := hS
  obtain ⟨h22_0, h22_1, h22_2, h22_3, h22_4, -⟩ := hp
  have p22_3 : Bx6 W22 (w.heap.size + 1) 29 (.bool b17_11) (.slice a17_11 n17_11 c17_11) (.slice d17_11 m17_11 o17_11) (.bool b20_10) (.slice a20_10 n20_10 c20_10) (.slice d20_10 m20_10 o20_10) := h22_3
  replace h22_0 : vs 0 = .agg #[.bool b17_11, .slice a17_11 n17_11 c17_11, .slice d17_11 m17_11 o17_11] := h22_0
  replace h22_1 : vs 1 = .agg #[.bool b20_10, .slice a20_10 n20_10 c20_10, .slice d20_10 m20_10 o20_10] := h22_1
  replace h22_2 : vs 2 = .agg #[.bool b17_11, .slice a17_11 n17_11 c17_11, .slice d17_11 m17_11 o17_11, .bool b20_10, .slice a20_10 n20_10 c20_10, .slice d20_10 m20_10 o20_10] := h22_2
  replace h22_4 : vs 4 = .int .i64 0 := h22_4
  simp only [h22_0, h22_1, h22_2, h22_4]
  clear h22_0 h22_1 h22_2 h22_4
  have HQ : Hid ((((n : Int) : Rat) / P2 K, (((m + 1 : Nat) : Int) : Rat) / P2 K) = sqS p K) := Lib.hid (by unfold sqS; rw [HU.out, if_pos HLT.out, ← HNM.out.1])
  obtain ⟨kp2_0, kp2_1, kp2_2, kp2_3, kp2_4, kp2_5⟩ := p2.c6
  obtain ⟨kp17_11_0, kp17_11_1, kp17_11_2⟩ := p17_11.c3
  obtain ⟨kp20_10_0, kp20_10_1, kp20_10_2⟩ := p20_10.c3
  obtain ⟨kp21_1_0, kp21_1_1, kp21_1_2⟩ := p21_1.c3
  obtain ⟨kp22_3_0, kp22_3_1, kp22_3_2, kp22_3_3, kp22_3_4, kp22_3_5⟩ := p22_3.c6
  go_wp2
  exact bodyPost_ret (v := .tuple #[.agg #[.bool b17_11, .slice a17_11 n17_11 c17_11, .slice d17_11 m17_11 o17_11, .bool b20_10, .slice a20_10 n20_10 c20_10, .slice d20_10 m20_10 o20_10], .int .i64 0]) (by simp [results, Tryz.results36, go_sem, kp22_3_0, kp22_3_1, kp22_3_2, kp22_3_3, kp22_3_4, kp22_3_5]) rfl ⟨_, rfl, by rw [← HQ.out]; exact Sw.mk h17_8 h20_7, E0⟩
 ·have HLT := Lib.hid hlt
  have HC : Hid (cmpR (((m : Int) : Rat) / P2 K * (((m : Int) : Rat) / P2 K)) p.2 < 0 ↔ False) := Lib.hid (by rw [cmpR_lt0]; exact iff_false_intro hlt)
  obtain ⟨cc, hcc⟩ : ∃ c, cmpR (((m : Int) : Rat) / P2 K * (((m : Int) : Rat) / P2 K)) p.2 = c := ⟨_, rfl⟩
  rw [hcc] at HC
  have HCC := Lib.hid hcc
  have HCD : Hid (decide (cc < 0) = false) := Lib.hid (decide_eq_false (fun h => HC.out.1 h))
  clear hlt hcc HC
  obtain ⟨kp2_0, kp2_1, kp2_2, kp2_3, kp2_4, kp2_5⟩ := p2.c6
  obtain ⟨kp4_0, kp4_1, kp4_2, kp4_3, kp4_4, kp4_5⟩ := p4.c6
  obtain ⟨kp17_11_0, kp17_11_1, kp17_11_2⟩ := p17_11.c3
  obtain ⟨kp18_8_0, kp18_8_1, kp18_8_2⟩ := p18_8.c3
  go_upto_region 6 with (fail)
  clear kp2_0 kp2_1 kp2_2 kp2_3 kp2_4 kp2_5 kp4_0 kp4_1 kp4_2 kp4_3 kp4_4 kp4_5 kp17_11_0 kp17_11_1 kp17_11_2 kp18_8_0 kp18_8_1 kp18_8_2; have ltp18_8 := p18_8.lt; have szw23 := Ext.size E0
  refine region_gs [.one fun v _ => v = .agg #[.bool b18_8, .slice a18_8 n18_8 c18_8, .slice d18_8 m18_8 o18_8],
    .one fun v _ => v = .agg #[.bool b18_8, .slice a18_8 n18_8 c18_8, .slice d18_8 m18_8 o18_8],
    .one fun v W => Rw W v (((m : Int) : Rat) / P2 K * (((m : Int) : Rat) / P2 K)),
    .one fun v _ => v = .pointer (some ⟨w.heap.size, 3, none⟩),
    .one fun v _ => v = .agg #[.bool bb1, .slice aa1 nn1 cc1, .slice dd1 mm1 oo1],
    .one fun v _ => v = .int .i64 cc,
    .one fun v _ => v = .bool false]
   (fun W => Ext w W ∧ Sw W (.agg #[.bool false, .slice a1 n1 c1, .slice d1 m1 o1, .bool bb1, .slice aa1 nn1 cc1, .slice dd1 mm1 oo1]) p ∧ Bx6 W w.heap.size 29 (.bool false) (.slice a1 n1 c1) (.slice d1 m1 o1) (.bool bb1) (.slice aa1 nn1 cc1) (.slice dd1 mm1 oo1) ∧ Bx6 W (w.heap.size + 1) 29 (.bool false) (.slice none 0 0) (.slice none 0 0) (.bool false) (.slice none 0 0) (.slice none 0 0) ∧ Rw W (.agg #[.bool b17_11, .slice a17_11 n17_11 c17_11, .slice d17_11 m17_11 o17_11]) (((n : Int) : Rat) / P2 K) ∧ Bx3 W g17_11 27 (.bool b17_11) (.slice a17_11 n17_11 c17_11) (.slice d17_11 m17_11 o17_11) ∧ Nw W u17_3 n ∧ Zw W u17_4 ((n : Int)) ∧ Nw W (.slice am nm cm) m ∧ Zw W (.agg #[.bool false, .slice am nm cm]) ((m : Int)) ∧ Rw W (.agg #[.bool b18_8, .slice a18_8 n18_8 c18_8, .slice d18_8 m18_8 o18_8]) (((m : Int) : Rat) / P2 K) ∧ Bx3 W g18_8 27 (.bool b18_8) (.slice a18_8 n18_8 c18_8) (.slice d18_8 m18_8 o18_8) ∧ W18.heap.size ≤ W.heap.size) ⟨Good.is _, Good.is _, Good.rat _, Good.is _, Good.is _, Good.is _, Good.is _, trivial⟩
   ⟨E0, h1, p2, p4, h17_8, p17_11, h17_3, h17_4, hvm, hzm, h18_5, p18_8, Nat.le_refl _⟩ (A := ?A23) ?hA23 ?howe23 ?hfin23
  case hA23 =>
   intro vs
   simp only [putAll, Act.put, sA, sZ, sS, Nat.zero_add, Nat.reduceAdd]
   exact rfl
  case howe23 =>
   clear E0 h1 p2 p4 h17_8 p17_11 h17_3 h17_4 hvm hzm h18_5 p18_8
   intro hf
   refine ⟨oE 0 [] hf rfl ?_, oE 1 [] hf rfl ?_, oE 2 [0, 1] hf rfl ?_, oE 3 [] hf rfl ?_, oE 4 [3] hf rfl ?_, oE 5 [2, 4] hf rfl ?_, oE 6 [5] hf rfl ?_, trivial⟩
   all_goals intro vs W hS hp hx KO hKO
   all_goals simp only [Act.put, sA, sZ, sS] at hKO
   ·have fc0 := hS.2.2.2.2.2.2.2.2.2.2.2.1.cell0; have fc1 := hS.2.2.2.2.2.2.2.2.2.2.2.1.cell1; have fc2 := hS.2.2.2.2.2.2.2.2.2.2.2.1.cell2; go_simp; exact hKO _ W (.refl W) rfl
   ·have fc0 := hS.2.2.2.2.2.2.2.2.2.2.2.1.cell0; have fc1 := hS.2.2.2.2.2.2.2.2.2.2.2.1.cell1; have fc2 := hS.2.2.2.2.2.2.2.2.2.2.2.1.cell2; go_simp; exact hKO _ W (.refl W) rfl
   ·have e0 := isOf hp.1; have e1 := isOf hp.2.1; simp only [e0, e1] at hKO; go_simp
    refine (Tryz.refRMul (hS.2.2.2.2.2.2.2.2.2.2.1) (hS.2.2.2.2.2.2.2.2.2.2.1) SM.out SM.out (by omega)).mono ?_
    rintro e W1 ⟨v, rfl, hv, hE⟩
    exact hKO _ W1 hE hv
   ·go_simp; exact hKO _ W (.refl W) rfl
   ·have e3 := isOf hp.1; simp only [e3] at hKO; have fc3 := hS.2.2.1.cell3; have fc4 := hS.2.2.1.cell4; have fc5 := hS.2.2.1.cell5; go_simp; exact hKO _ W (.refl W) rfl
   ·have q2 := hp.1; have e4 := isOf hp.2.1; simp only [e4] at hKO; go_simp
    refine (Tryz.refRCmpR q2 (hS.2.1.hi) SMM.out.1 SMM.out.2 (by omega) HCC.out).mono ?_
    rintro e W1 ⟨rfl, hE⟩
    exact hKO _ W1 hE rfl
   ·have e5 := isOf hp.1; simp only [e5] at hKO; go_simp; exact hKO _ W (Ext.refl W) (by first | rfl | exact congrArg Value.bool HCD.out)
  intro vs W23 hS hp
  clear szw23 E0 h1 p2 p4 h17_8 p17_11 h17_3 h17_4 hvm hzm h18_5 p18_8
  obtain ⟨E0, h1, p2, p4, h17_8, p17_11, h17_3, h17_4, hvm, hzm, h18_5, p18_8, sz23⟩ := hS
  obtain ⟨h23_0, h23_1, h23_2, h23_3, h23_4, h23_5, h23_6, -⟩ := hp
  replace h23_0 : vs 0 = .agg #[.bool b18_8, .slice a18_8 n18_8 c18_8, .slice d18_8 m18_8 o18_8] := h23_0
  replace h23_1 : vs 1 = .agg #[.bool b18_8, .slice a18_8 n18_8 c18_8, .slice d18_8 m18_8 o18_8] := h23_1
  replace h23_3 : vs 3 = .pointer (some ⟨w.heap.size, 3, none⟩) := h23_3
  replace h23_4 : vs 4 = .agg #[.bool bb1, .slice aa1 nn1 cc1, .slice dd1 mm1 oo1] := h23_4
  replace h23_5 : vs 5 = .int .i64 cc := h23_5
  replace h23_6 : vs 6 = .bool false := h23_6
  simp only [h23_0, h23_1, h23_3, h23_4, h23_5, h23_6]
  replace h23_2 : Rw W23 (vs 2) (((m : Int) : Rat) / P2 K * (((m : Int) : Rat) / P2 K)) := h23_2
  generalize vs 2 = u23_2 at h23_2 ⊢
  clear h23_0 h23_1 h23_3 h23_4 h23_5 h23_6
  obtain ⟨kp2_0, kp2_1, kp2_2, kp2_3, kp2_4, kp2_5⟩ := p2.c6
  obtain ⟨kp4_0, kp4_1, kp4_2, kp4_3, kp4_4, kp4_5⟩ := p4.c6
  obtain ⟨kp17_11_0, kp17_11_1, kp17_11_2⟩ := p17_11.c3
  obtain ⟨kp18_8_0, kp18_8_1, kp18_8_2⟩ := p18_8.c3
  go_upto_region 9 with (fail)
  clear kp2_0 kp2_1 kp2_2 kp2_3 kp2_4 kp2_5 kp4_0 kp4_1 kp4_2 kp4_3 kp4_4 kp4_5 kp17_11_0 kp17_11_1 kp17_11_2 kp18_8_0 kp18_8_1 kp18_8_2; have fp4 := p4.form; have szw24 := Ext.size E0
  refine region_gs [.one fun v _ => v = .agg #[.bool b17_11, .slice a17_11 n17_11 c17_11, .slice d17_11 m17_11 o17_11],
    .one fun v _ => v = .agg #[.bool b18_8, .slice a18_8 n18_8 c18_8, .slice d18_8 m18_8 o18_8],
    .one fun v _ => v = .agg #[.bool b17_11, .slice a17_11 n17_11 c17_11, .slice d17_11 m17_11 o17_11, .bool b18_8, .slice a18_8 n18_8 c18_8, .slice d18_8 m18_8 o18_8],
    .own fun W => Bx6 W (w.heap.size + 1) 29 (.bool b17_11) (.slice a17_11 n17_11 c17_11) (.slice d17_11 m17_11 o17_11) (.bool b18_8) (.slice a18_8 n18_8 c18_8) (.slice d18_8 m18_8 o18_8),
    .one fun v _ => v = .int .i64 0]
   (fun W => Ext w W ∧ Sw W (.agg #[.bool false, .slice a1 n1 c1, .slice d1 m1 o1, .bool bb1, .slice aa1 nn1 cc1, .slice dd1 mm1 oo1]) p ∧ Bx6 W w.heap.size 29 (.bool false) (.slice a1 n1 c1) (.slice d1 m1 o1) (.bool bb1) (.slice aa1 nn1 cc1) (.slice dd1 mm1 oo1) ∧ Form W (w.heap.size + 1) 29 6 ∧ Rw W (.agg #[.bool b17_11, .slice a17_11 n17_11 c17_11, .slice d17_11 m17_11 o17_11]) (((n : Int) : Rat) / P2 K) ∧ Bx3 W g17_11 27 (.bool b17_11) (.slice a17_11 n17_11 c17_11) (.slice d17_11 m17_11 o17_11) ∧ Nw W u17_3 n ∧ Zw W u17_4 ((n : Int)) ∧ Nw W (.slice am nm cm) m ∧ Zw W (.agg #[.bool false, .slice am nm cm]) ((m : Int)) ∧ Rw W (.agg #[.bool b18_8, .slice a18_8 n18_8 c18_8, .slice d18_8 m18_8 o18_8]) (((m : Int) : Rat) / P2 K) ∧ Bx3 W g18_8 27 (.bool b18_8) (.slice a18_8 n18_8 c18_8) (.slice d18_8 m18_8 o18_8) ∧ Rw W u23_2 (((m : Int) : Rat) / P2 K * (((m : Int) : Rat) / P2 K)) ∧ W23.heap.size ≤ W.heap.size) ⟨Good.is _, Good.is _, Good.is _, cert_bx6, Good.is _, trivial⟩
   ⟨E0, h1, p2, fp4, h17_8, p17_11, h17_3, h17_4, hvm, hzm, h18_5, p18_8, h23_2, Nat.le_refl _⟩ (A := ?A24) ?hA24 ?howe24 ?hfin24
  case hA24 =>
   intro vs
   simp only [putAll, Act.put, sA, sZ, sS, Nat.zero_add, Nat.reduceAdd]
   exact rfl
  case howe24 =>
   clear E0 h1 p2 fp4 h17_8 p17_11 h17_3 h17_4 hvm hzm h18_5 p18_8 h23_2
   intro hf
   refine ⟨oE 0 [] hf rfl ?_, oE 1 [] hf rfl ?_, oE 2 [0, 1] hf rfl ?_, oW 3 [2] hf rfl ?_, oE 4 [] hf rfl ?_, trivial⟩
   all_goals intro vs W hS hp hx KO hKO
   all_goals simp only [Act.put, sA, sZ, sS] at hKO
   ·have fc0 := hS.2.2.2.2.2.1.cell0; have fc1 := hS.2.2.2.2.2.1.cell1; have fc2 := hS.2.2.2.2.2.1.cell2; go_simp; exact hKO _ W (.refl W) rfl
   ·have fc0 := hS.2.2.2.2.2.2.2.2.2.2.2.1.cell0; have fc1 := hS.2.2.2.2.2.2.2.2.2.2.2.1.cell1; have fc2 := hS.2.2.2.2.2.2.2.2.2.2.2.1.cell2; go_simp; exact hKO _ W (.refl W) rfl
   ·have e0 := isOf hp.1; have e1 := isOf hp.2.1; simp only [e0, e1] at hKO; go_simp; exact hKO _ W (.refl W) rfl
   ·have e2 := isOf hp.1; simp only [e2] at hKO
    have hf := hS.2.2.2.1
    obtain ⟨x0_0, x0_1, x0_2, x0_3, x0_4, x0_5, hx, hno⟩ := hf.bx6
    have r0 := hx.froz0
    have t0 := hx.cell0
    have r1 := hx.froz1
    have t1 := hx.cell1
    have r2 := hx.froz2
    have t2 := hx.cell2
    have r3 := hx.froz3
    have t3 := hx.cell3
    have r4 := hx.froz4
    have t4 := hx.cell4
    have r5 := hx.froz5
    have t5 := hx.cell5
    have hw := Wr.set6 hx hno b17_11 a17_11 n17_11 c17_11 d17_11 m17_11 o17_11 b18_8 a18_8 n18_8 c18_8 d18_8 m18_8 o18_8
    have hq := hx.set (.bool b17_11) (.slice a17_11 n17_11 c17_11) (.slice d17_11 m17_11 o17_11) (.bool b18_8) (.slice a18_8 n18_8 c18_8) (.slice d18_8 m18_8 o18_8)
    have hg : (w.heap.size + 1) ≤ (w.heap.size + 1) := Nat.le_refl _
    go_simp
    exact hKO _ _ hw ⟨(Ext.wr hS.1 hw (by omega)), (hS.2.1.wr hw), (hS.2.2.1.wr hw (by omega)), (hS.2.2.2.1.wr hw), (hS.2.2.2.2.1.wr hw), (hS.2.2.2.2.2.1.wr hw (by omega)), (hS.2.2.2.2.2.2.1.wr hw), (hS.2.2.2.2.2.2.2.1.wr hw), (hS.2.2.2.2.2.2.2.2.1.wr hw), (hS.2.2.2.2.2.2.2.2.2.1.wr hw), (hS.2.2.2.2.2.2.2.2.2.2.1.wr hw), (hS.2.2.2.2.2.2.2.2.2.2.2.1.wr hw (by omega)), (hS.2.2.2.2.2.2.2.2.2.2.2.2.1.wr hw), (Nat.le_trans hS.2.2.2.2.2.2.2.2.2.2.2.2.2 hw.apart.size)⟩ hq
   ·go_simp; exact hKO _ W (.refl W) rfl
  intro vs W24 hS hp
  clear szw24 E0 h1 p2 fp4 h17_8 p17_11 h17_3 h17_4 hvm hzm h18_5 p18_8 h23_2
  obtain ⟨E0, h1, p2, fp4, h17_8, p17_11, h17_3, h17_4, hvm, hzm, h18_5, p18_8, h23_2, sz24⟩ := hS
  obtain ⟨h24_0, h24_1, h24_2, h24_3, h24_4, -⟩ := hp
  have p24_3 : Bx6 W24 (w.heap.size + 1) 29 (.bool b17_11) (.slice a17_11 n17_11 c17_11) (.slice d17_11 m17_11 o17_11) (.bool b18_8) (.slice a18_8 n18_8 c18_8) (.slice d18_8 m18_8 o18_8) := h24_3
  replace h24_0 : vs 0 = .agg #[.bool b17_11, .slice a17_11 n17_11 c17_11, .slice d17_11 m17_11 o17_11] := h24_0
  replace h24_1 : vs 1 = .agg #[.bool b18_8, .slice a18_8 n18_8 c18_8, .slice d18_8 m18_8 o18_8] := h24_1
  replace h24_2 : vs 2 = .agg #[.bool b17_11, .slice a17_11 n17_11 c17_11, .slice d17_11 m17_11 o17_11, .bool b18_8, .slice a18_8 n18_8 c18_8, .slice d18_8 m18_8 o18_8] := h24_2
  replace h24_4 : vs 4 = .int .i64 0 := h24_4
  simp only [h24_0, h24_1, h24_2, h24_4]
  clear h24_0 h24_1 h24_2 h24_4
  have HQ : Hid ((((n : Int) : Rat) / P2 K, ((m : Int) : Rat) / P2 K) = sqS p K) := Lib.hid (by unfold sqS; rw [HU.out, if_neg HLT.out, ← HNM.out.1])
  obtain ⟨kp2_0, kp2_1, kp2_2, kp2_3, kp2_4, kp2_5⟩ := p2.c6
  obtain ⟨kp17_11_0, kp17_11_1, kp17_11_2⟩ := p17_11.c3
  obtain ⟨kp18_8_0, kp18_8_1, kp18_8_2⟩ := p18_8.c3
  obtain ⟨kp24_3_0, kp24_3_1, kp24_3_2, kp24_3_3, kp24_3_4, kp24_3_5⟩ := p24_3.c6
  go_wp2
  exact bodyPost_ret (v := .tuple #[.agg #[.bool b17_11, .slice a17_11 n17_11 c17_11, .slice d17_11 m17_11 o17_11, .bool b18_8, .slice a18_8 n18_8 c18_8, .slice d18_8 m18_8 o18_8], .int .i64 0]) (by simp [results, Tryz.results36, go_sem, kp24_3_0, kp24_3_1, kp24_3_2, kp24_3_3, kp24_3_4, kp24_3_5]) rfl ⟨_, rfl, by rw [← HQ.out]; exact Sw.mk h17_8 h18_5, E0⟩

end Go.Rt
