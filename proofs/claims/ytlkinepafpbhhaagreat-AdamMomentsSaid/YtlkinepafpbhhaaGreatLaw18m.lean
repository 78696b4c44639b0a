/-
 The laws of chapter 18 (Adam): Moments: its walk; rows of numbers compared by definition.
-/
import Derived.Test.YtlkinepafpbhhaaGreatSqz
import Derived.Test.YtlkinepafpbhhaaGreatAdamS
import Derived.Test.YtlkinepafpbhhaaGreatBoxN
import Derived.Test.YtlkinepafpbhhaaGreatMomM
import Derived.Test.YtlkinepafpbhhaaGreatRef08b
import Derived.Deep.CutRange
namespace Go.Rt
open Go Go.RowKit Go.Proofs

theorem cmp_fewer {x y : Rat} (h : x ≤ y) : (if x < y then (-1 : Int) else if y < x then 1 else 0) ≤ 0 := by
 split
 ·omega
 ·split
  ·rename_i h1 h2
   exact absurd (Rat.le_antisymm h (Rat.le_of_lt h2)) (fun e => by rw [e] at h2; exact absurd h2 (Rat.lt_irrefl))
  ·omega

theorem SmR.num {n : Int} (h1 : -9223372036854775808 ≤ n) (h2 : n < 9223372036854775808) {K : Nat} (hK : K ≤ 40) : SmR 4 (numR K n) := (SmR.backP (Sm.small (by omega)) (by omega)).mono (by omega)

theorem SmR.ofInt {n : Int} (h1 : -9223372036854775808 ≤ n) (h2 : n < 9223372036854775808) : SmR 2 (n : Rat) := by
 have h : SmR 2 ((n : Rat) / P2 0) := SmR.backP (Sm.small (by omega)) (by omega)
 have e := Rat.div_mul_cancel (a := (n : Rat)) (b := 1) (by decide)
 rw [Rat.mul_one] at e
 rwa [P2_zero, e] at h

theorem share_small {K : Nat} {be : Int} {x y : Rat} (hb : I64 be) (hK : K ≤ 40) (sx : SmR 4 x) (sy : SmR 9 y) : SmR 37 (shareR K be x y) := by
 have S1 := SmR.num hb.1 hb.2 hK
 have SO : SmR 4 ((1 : Int) : Rat) := (SmR.ofInt (n := 1) (by omega) (by omega)).mono (by omega)
 have SD := SO.sub S1
 have SP : SmR 18 (numR K be * x) := (S1.mul sx).mono (by omega)
 have SQ : SmR 18 ((((1 : Int) : Rat) - numR K be) * y) := SmR.mul SD sy
 exact SP.add SQ

set_option maxRecDepth 100000 in
set_option maxHeartbeats 8000000 in
theorem Tryz.num18 (n : Int) (K : Nat) (hK : K ≤ 40) (w : World) (h1 : -9223372036854775808 ≤ n) (h2 : n < 9223372036854775808) :
  Calls Tryz.prog 15 #[.int .i64 n, .int .i64 (K : Int)] w fun e w' => ∃ v', e = .returned v' ∧ Rw w' v' (numR K n) ∧ Ext w w' := by
 have HK := Lib.hid hK
 have HB := Lib.hid (And.intro h1 h2)
 clear hK h1 h2
 obtain ⟨W0, hW0⟩ : ∃ W0, W0 = (w.alloc (.cells #[.bool false, .slice none 0 0, .slice none 0 0] 45)) := ⟨_, rfl⟩
 have E0 : Ext w W0 := by rw [hW0]; exact (Ext.alloc1 w (.cells #[.bool false, .slice none 0 0, .slice none 0 0] 45))
 have p4 : Bx3 W0 w.heap.size 45 (.bool false) (.slice none 0 0) (.slice none 0 0) := by rw [hW0]; exact (Bx3.new w 45 (.bool false) (.slice none 0 0) (.slice none 0 0))
 go_enter Tryz.func15, Tryz.ntmps15
 obtain ⟨kp4_0, kp4_1, kp4_2⟩ := p4.c3
 go_upto_region 1 with (fail)
 rw [← hW0]
 clear hW0; clear kp4_0 kp4_1 kp4_2; have ltp4 := p4.lt; have szw1 := Ext.size E0
 refine region_gs [.one fun v _ => v = .int .i64 n,
   .one fun v _ => v = .int .i64 (K : Int),
   .one fun v W => ∃ v', v = .tuple #[v', .int .i64 0] ∧ (fun v W => Rw W v (numR K n)) v' W,
   .one fun v W => ∃ v', v = .tuple #[v', .int .i64 0] ∧ (fun v W => Rw W v (numR K n)) v' W,
   .one fun v W => Rw W v (numR K n),
   .one fun v _ => v = .int .i64 0,
   .one fun v W => ∃ g, v = .pointer (some ⟨g, 0, none⟩) ∧ W0.heap.size ≤ g ∧ Form W g 45 3,
   .three 6 4 (fun p r _ W => Put3 W0.heap.size 45 p r W),
   .one fun v _ => v = .int .i64 0]
  (fun W => Ext w W ∧ Bx3 W w.heap.size 45 (.bool false) (.slice none 0 0) (.slice none 0 0) ∧ W0.heap.size ≤ W.heap.size) ⟨Good.is _, Good.is _, (Good.rat _).tup _, (Good.rat _).tup _, Good.rat _, Good.is _, Good.box _ _ _, cert_put3, Good.is _, trivial⟩
  ⟨E0, p4, Nat.le_refl _⟩ (A := ?A1) ?hA1 ?howe1 ?hfin1
 case hA1 =>
  intro vs
  simp only [putAll, Act.put, sA, sZ, sS, Nat.zero_add, Nat.reduceAdd]
  exact rfl
 case howe1 =>
  clear E0 p4
  intro hf
  refine ⟨oE 0 [] hf rfl ?_, oE 1 [] hf rfl ?_, oE 2 [0, 1] hf rfl ?_, oE 3 [2] hf rfl ?_, oE 4 [3] hf rfl ?_, oE 5 [3] hf rfl ?_, oE 6 [] hf rfl ?_, oW 7 [6, 4] hf rfl ?_, oE 8 [5] hf rfl ?_, trivial⟩
  all_goals intro vs W hS hp hx KO hKO
  all_goals simp only [Act.put, sA, sZ, sS] at hKO
  ·go_simp; exact hKO _ W (.refl W) rfl
  ·go_simp; exact hKO _ W (.refl W) rfl
  ·have e0 := isOf hp.1; have e1 := isOf hp.2.1; simp only [e0, e1] at hKO; go_simp
   refine (Tryz.ref08Rat n K HK.out _ HB.out.1 HB.out.2).mono ?_
   rintro e W1 ⟨v, rfl, hv, hE⟩
   exact hKO _ W1 hE ⟨_, rfl, hv⟩
  ·have q2 := hp.1
   obtain ⟨u, ev, hu⟩ := q2
   replace ev : vs 2 = _ := ev; simp only [ev] at hKO; go_simp; exact hKO _ W (Ext.refl W) ⟨u, rfl, hu⟩
  ·have q3 := hp.1
   obtain ⟨u, ev, hu⟩ := q3
   replace ev : vs 3 = _ := ev; simp only [ev] at hKO; go_simp; exact hKO _ W (Ext.refl W) hu
  ·have q3 := hp.1
   obtain ⟨u, ev, hu⟩ := q3
   replace ev : vs 3 = _ := ev; simp only [ev] at hKO; go_simp; exact hKO _ W (.refl W) rfl
  ·have hn := Bx3.new W 45 (.bool false) (.slice none 0 0) (.slice none 0 0)
   have hE := Ext.alloc1 W (.cells #[.bool false, .slice none 0 0, .slice none 0 0] 45)
   have hsz := hS.2.2
   go_simp
   exact hKO _ _ hE ⟨_, rfl, hsz, hn.form⟩
  ·have q6 := hp.1; have q4 := hp.2.1
   obtain ⟨g, ev, hg, hf⟩ := q6
   replace ev : vs 6 = _ := ev
   obtain ⟨x0_0, x0_1, x0_2, hx, hno⟩ := hf.bx3
   have qr := q4
   obtain ⟨b3, a3, n3, c3, d3, m3, o3, er, -, -, -⟩ := qr
   replace er : vs 4 = _ := er
   have r0 := hx.froz0
   have t0 := hx.cell0
   have r1 := hx.froz1
   have t1 := hx.cell1
   have r2 := hx.froz2
   have t2 := hx.cell2
   have hw := Wr.set3 hx hno b3 a3 n3 c3 d3 m3 o3
   have hq := hx.set (.bool b3) (.slice a3 n3 c3) (.slice d3 m3 o3)
   simp only [ev, er] at hKO; go_simp
   exact hKO _ _ hw ⟨(Ext.wr hS.1 hw (by omega)), (hS.2.1.wr hw (by omega)), (Nat.le_trans hS.2.2 hw.apart.size)⟩ ⟨g, b3, a3, n3, c3, d3, m3, o3, ev, er, hg, hq⟩
  ·have e5 := isOf hp.1; simp only [e5] at hKO; go_simp; exact hKO _ W (.refl W) rfl
 intro vs W1 hS hp
 clear szw1 E0 p4
 obtain ⟨E0, p4, sz1⟩ := hS
 obtain ⟨h1_0, h1_1, h1_2, h1_3, h1_4, h1_5, h1_6, h1_7, h1_8, -⟩ := hp
 obtain ⟨g1_7, b1_7, a1_7, n1_7, c1_7, d1_7, m1_7, o1_7, ev1_7, er1_7, hg1_7, p1_7⟩ := h1_7
 replace ev1_7 : vs 6 = _ := ev1_7; replace er1_7 : vs 4 = _ := er1_7; replace h1_4 := (show Rw W1 (vs 4) (numR K n) from h1_4)
 rw [er1_7] at h1_4
 replace h1_0 : vs 0 = .int .i64 n := h1_0
 replace h1_1 : vs 1 = .int .i64 (K : Int) := h1_1
 replace h1_5 : vs 5 = .int .i64 0 := h1_5
 replace h1_8 : vs 8 = .int .i64 0 := h1_8
 simp only [ev1_7, er1_7, h1_0, h1_1, h1_5, h1_8]
 clear ev1_7 er1_7 h1_0 h1_1 h1_5 h1_8 h1_2 h1_3 h1_6
 obtain ⟨kp4_0, kp4_1, kp4_2⟩ := p4.c3
 obtain ⟨kp1_7_0, kp1_7_1, kp1_7_2⟩ := p1_7.c3
 go_upto_region 2 with (fail)
 clear kp4_0 kp4_1 kp4_2 kp1_7_0 kp1_7_1 kp1_7_2; have fp4 := p4.form; have ltp1_7 := p1_7.lt; have szw2 := Ext.size E0
 refine region_gs [.one fun v _ => v = .agg #[.bool b1_7, .slice a1_7 n1_7 c1_7, .slice d1_7 m1_7 o1_7],
   .own fun W => Bx3 W w.heap.size 45 (.bool b1_7) (.slice a1_7 n1_7 c1_7) (.slice d1_7 m1_7 o1_7)]
  (fun W => Ext w W ∧ Form W w.heap.size 45 3 ∧ Rw W (.agg #[.bool b1_7, .slice a1_7 n1_7 c1_7, .slice d1_7 m1_7 o1_7]) (numR K n) ∧ Bx3 W g1_7 45 (.bool b1_7) (.slice a1_7 n1_7 c1_7) (.slice d1_7 m1_7 o1_7) ∧ W1.heap.size ≤ W.heap.size) ⟨Good.is _, cert_bx3, trivial⟩
  ⟨E0, fp4, h1_4, p1_7, Nat.le_refl _⟩ (A := ?A2) ?hA2 ?howe2 ?hfin2
 case hA2 =>
  intro vs
  simp only [putAll, Act.put, sA, sZ, sS]
  exact rfl
 case howe2 =>
  clear E0 fp4 h1_4 p1_7
  intro hf
  refine ⟨oE 0 [] hf rfl ?_, oW 1 [0] hf rfl ?_, trivial⟩
  all_goals intro vs W hS hp hx KO hKO
  all_goals simp only [Act.put, sA, sZ, sS] at hKO
  ·have fc0 := hS.2.2.2.1.cell0; have fc1 := hS.2.2.2.1.cell1; have fc2 := hS.2.2.2.1.cell2; go_simp; exact hKO _ W (.refl W) rfl
  ·have e0 := isOf hp.1; simp only [e0] at hKO
   have hf := hS.2.1
   obtain ⟨x0_0, x0_1, x0_2, hx, hno⟩ := hf.bx3
   have r0 := hx.froz0
   have t0 := hx.cell0
   have r1 := hx.froz1
   have t1 := hx.cell1
   have r2 := hx.froz2
   have t2 := hx.cell2
   have hw := Wr.set3 hx hno b1_7 a1_7 n1_7 c1_7 d1_7 m1_7 o1_7
   have hq := hx.set (.bool b1_7) (.slice a1_7 n1_7 c1_7) (.slice d1_7 m1_7 o1_7)
   have hg : w.heap.size ≤ w.heap.size := Nat.le_refl _
   go_simp
   exact hKO _ _ hw ⟨(Ext.wr hS.1 hw (by omega)), (hS.2.1.wr hw), (hS.2.2.1.wr hw), (hS.2.2.2.1.wr hw (by omega)), (Nat.le_trans hS.2.2.2.2 hw.apart.size)⟩ hq
 intro vs W2 hS hp
 clear szw2 E0 fp4 h1_4 p1_7
 obtain ⟨E0, fp4, h1_4, p1_7, sz2⟩ := hS
 obtain ⟨h2_0, h2_1, -⟩ := hp
 have p2_1 : Bx3 W2 w.heap.size 45 (.bool b1_7) (.slice a1_7 n1_7 c1_7) (.slice d1_7 m1_7 o1_7) := h2_1
 replace h2_0 : vs 0 = .agg #[.bool b1_7, .slice a1_7 n1_7 c1_7, .slice d1_7 m1_7 o1_7] := h2_0
 simp only [h2_0]
 clear h2_0
 obtain ⟨kp1_7_0, kp1_7_1, kp1_7_2⟩ := p1_7.c3
 obtain ⟨kp2_1_0, kp2_1_1, kp2_1_2⟩ := p2_1.c3
 go_wp2
 exact bodyPost_ret (v := .agg #[.bool b1_7, .slice a1_7 n1_7 c1_7, .slice d1_7 m1_7 o1_7]) (by simp [results, Tryz.results15, go_sem, kp2_1_0, kp2_1_1, kp2_1_2]) rfl ⟨_, rfl, h1_4, E0⟩

set_option maxRecDepth 100000 in
set_option maxHeartbeats 8000000 in
theorem Tryz.share18 (be : Int) (K : Nat) (hK : K ≤ 40) {va vb : Value} {x y : Rat} {w : World} (h1 : -9223372036854775808 ≤ be) (h2 : be < 9223372036854775808) (ha : Rw w va x) (hb : Rw w vb y) (sa : SmR 4 x) (sb : SmR 9 y) :
  Calls Tryz.prog 16 #[.int .i64 be, va, vb, .int .i64 (K : Int)] w fun e w' => ∃ v', e = .returned v' ∧ Rw w' v' (shareR K be x y) ∧ Ext w w' := by
 have HK := Lib.hid hK
 have HB := Lib.hid (And.intro h1 h2)
 have S1 : Hid (SmR 4 (numR K be)) := Lib.hid (SmR.num h1 h2 hK)
 have SA := Lib.hid sa
 have SB := Lib.hid sb
 have SO : Hid (SmR 4 ((1 : Int) : Rat)) := Lib.hid ((SmR.ofInt (n := 1) (by omega) (by omega)).mono (by omega))
 have SD : Hid (SmR 9 (((1 : Int) : Rat) - numR K be)) := Lib.hid (SO.out.sub S1.out)
 have SP : Hid (SmR 18 (numR K be * x)) := Lib.hid ((S1.out.mul SA.out).mono (by omega))
 have SQ : Hid (SmR 18 ((((1 : Int) : Rat) - numR K be) * y)) := Lib.hid (SD.out.mul SB.out)
 clear hK h1 h2 sa sb
 obtain ⟨b1, a1, n1, c1, d1, m1, o1, rfl, q1⟩ : ∃ b a n c d m o, va = .agg #[.bool b, .slice a n c, .slice d m o] ∧ True := let ⟨b, a, n, c, d, m, o, e, _⟩ := ha; ⟨b, a, n, c, d, m, o, e, trivial⟩
 clear q1
 obtain ⟨b2, a2, n2, c2, d2, m2, o2, rfl, q2⟩ : ∃ b a n c d m o, vb = .agg #[.bool b, .slice a n c, .slice d m o] ∧ True := let ⟨b, a, n, c, d, m, o, e, _⟩ := hb; ⟨b, a, n, c, d, m, o, e, trivial⟩
 clear q2
 obtain ⟨W0, hW0⟩ : ∃ W0, W0 = (((w.alloc (.cells #[.bool b1, .slice a1 n1 c1, .slice d1 m1 o1] 45)).alloc (.cells #[.bool b2, .slice a2 n2 c2, .slice d2 m2 o2] 45)).alloc (.cells #[.bool false, .slice none 0 0, .slice none 0 0] 45)) := ⟨_, rfl⟩
 have E0 : Ext w W0 := by rw [hW0]; exact (((Ext.alloc1 w (.cells #[.bool b1, .slice a1 n1 c1, .slice d1 m1 o1] 45)).alloc (.cells #[.bool b2, .slice a2 n2 c2, .slice d2 m2 o2] 45)).alloc (.cells #[.bool false, .slice none 0 0, .slice none 0 0] 45))
 replace ha : Rw W0 (.agg #[.bool b1, .slice a1 n1 c1, .slice d1 m1 o1]) x := ha.ext E0
 replace hb : Rw W0 (.agg #[.bool b2, .slice a2 n2 c2, .slice d2 m2 o2]) y := hb.ext E0
 have p5 : Bx3 W0 w.heap.size 45 (.bool b1) (.slice a1 n1 c1) (.slice d1 m1 o1) := by rw [hW0]; exact (Bx3.new w 45 (.bool b1) (.slice a1 n1 c1) (.slice d1 m1 o1)).ext ((Ext.alloc1 (w.alloc (.cells #[.bool b1, .slice a1 n1 c1, .slice d1 m1 o1] 45)) (.cells #[.bool b2, .slice a2 n2 c2, .slice d2 m2 o2] 45)).alloc (.cells #[.bool false, .slice none 0 0, .slice none 0 0] 45))
 have p6 : Bx3 W0 (w.heap.size + 1) 45 (.bool b2) (.slice a2 n2 c2) (.slice d2 m2 o2) := by rw [hW0]; simpa using (Bx3.new (w.alloc (.cells #[.bool b1, .slice a1 n1 c1, .slice d1 m1 o1] 45)) 45 (.bool b2) (.slice a2 n2 c2) (.slice d2 m2 o2)).ext (Ext.alloc1 ((w.alloc (.cells #[.bool b1, .slice a1 n1 c1, .slice d1 m1 o1] 45)).alloc (.cells #[.bool b2, .slice a2 n2 c2, .slice d2 m2 o2] 45)) (.cells #[.bool false, .slice none 0 0, .slice none 0 0] 45))
 have p8 : Bx3 W0 (w.heap.size + 1 + 1) 45 (.bool false) (.slice none 0 0) (.slice none 0 0) := by rw [hW0]; simpa using (Bx3.new ((w.alloc (.cells #[.bool b1, .slice a1 n1 c1, .slice d1 m1 o1] 45)).alloc (.cells #[.bool b2, .slice a2 n2 c2, .slice d2 m2 o2] 45)) 45 (.bool false) (.slice none 0 0) (.slice none 0 0))
 go_enter Tryz.func16, Tryz.ntmps16
 obtain ⟨kp5_0, kp5_1, kp5_2⟩ := p5.c3
 obtain ⟨kp6_0, kp6_1, kp6_2⟩ := p6.c3
 obtain ⟨kp8_0, kp8_1, kp8_2⟩ := p8.c3
 go_upto_region 1 with (fail)
 rw [← hW0]
 clear hW0; clear kp5_0 kp5_1 kp5_2 kp6_0 kp6_1 kp6_2 kp8_0 kp8_1 kp8_2; have ltp5 := p5.lt; have ltp6 := p6.lt; have ltp8 := p8.lt; have szw3 := Ext.size E0
 refine region_gs [.one fun v _ => v = .int .i64 be,
   .one fun v _ => v = .int .i64 (K : Int),
   .one fun v W => Rw W v (numR K be),
   .one fun v W => ∃ g, v = .pointer (some ⟨g, 0, none⟩) ∧ W0.heap.size ≤ g ∧ Form W g 45 3,
   .three 3 2 (fun p r _ W => Put3 W0.heap.size 45 p r W)]
  (fun W => Ext w W ∧ Rw W (.agg #[.bool b1, .slice a1 n1 c1, .slice d1 m1 o1]) x ∧ Rw W (.agg #[.bool b2, .slice a2 n2 c2, .slice d2 m2 o2]) y ∧ Bx3 W w.heap.size 45 (.bool b1) (.slice a1 n1 c1) (.slice d1 m1 o1) ∧ Bx3 W (w.heap.size + 1) 45 (.bool b2) (.slice a2 n2 c2) (.slice d2 m2 o2) ∧ Bx3 W (w.heap.size + 1 + 1) 45 (.bool false) (.slice none 0 0) (.slice none 0 0) ∧ W0.heap.size ≤ W.heap.size) ⟨Good.is _, Good.is _, Good.rat _, Good.box _ _ _, cert_put3, trivial⟩
  ⟨E0, ha, hb, p5, p6, p8, Nat.le_refl _⟩ (A := ?A3) ?hA3 ?howe3 ?hfin3
 case hA3 =>
  intro vs
  simp only [putAll, Act.put, sA, sZ, sS, Nat.zero_add, Nat.reduceAdd]
  exact rfl
 case howe3 =>
  clear E0 ha hb p5 p6 p8
  intro hf
  refine ⟨oE 0 [] hf rfl ?_, oE 1 [] hf rfl ?_, oE 2 [0, 1] hf rfl ?_, oE 3 [] hf rfl ?_, oW 4 [3, 2] hf rfl ?_, trivial⟩
  all_goals intro vs W hS hp hx KO hKO
  all_goals simp only [Act.put, sA, sZ, sS] at hKO
  ·go_simp; exact hKO _ W (.refl W) rfl
  ·go_simp; exact hKO _ W (.refl W) rfl
  ·have e0 := isOf hp.1; have e1 := isOf hp.2.1; simp only [e0, e1] at hKO; go_simp
   refine (Tryz.num18 be K HK.out _ HB.out.1 HB.out.2).mono ?_
   rintro e W1 ⟨v, rfl, hv, hE⟩
   exact hKO _ W1 hE hv
  ·have hn := Bx3.new W 45 (.bool false) (.slice none 0 0) (.slice none 0 0)
   have hE := Ext.alloc1 W (.cells #[.bool false, .slice none 0 0, .slice none 0 0] 45)
   have hsz := hS.2.2.2.2.2.2
   go_simp
   exact hKO _ _ hE ⟨_, rfl, hsz, hn.form⟩
  ·have q3 := hp.1; have q2 := hp.2.1
   obtain ⟨g, ev, hg, hf⟩ := q3
   replace ev : vs 3 = _ := ev
   obtain ⟨x0_0, x0_1, x0_2, hx, hno⟩ := hf.bx3
   have qr := q2
   obtain ⟨b3, a3, n3, c3, d3, m3, o3, er, -, -, -⟩ := qr
   replace er : vs 2 = _ := er
   have r0 := hx.froz0
   have t0 := hx.cell0
   have r1 := hx.froz1
   have t1 := hx.cell1
   have r2 := hx.froz2
   have t2 := hx.cell2
   have hw := Wr.set3 hx hno b3 a3 n3 c3 d3 m3 o3
   have hq := hx.set (.bool b3) (.slice a3 n3 c3) (.slice d3 m3 o3)
   simp only [ev, er] at hKO; go_simp
   exact hKO _ _ hw ⟨(Ext.wr hS.1 hw (by omega)), (hS.2.1.wr hw), (hS.2.2.1.wr hw), (hS.2.2.2.1.wr hw (by omega)), (hS.2.2.2.2.1.wr hw (by omega)), (hS.2.2.2.2.2.1.wr hw (by omega)), (Nat.le_trans hS.2.2.2.2.2.2 hw.apart.size)⟩ ⟨g, b3, a3, n3, c3, d3, m3, o3, ev, er, hg, hq⟩
 intro vs W3 hS hp
 clear szw3 E0 ha hb p5 p6 p8
 obtain ⟨E0, ha, hb, p5, p6, p8, sz3⟩ := hS
 obtain ⟨h3_0, h3_1, h3_2, h3_3, h3_4, -⟩ := hp
 obtain ⟨g3_4, b3_4, a3_4, n3_4, c3_4, d3_4, m3_4, o3_4, ev3_4, er3_4, hg3_4, p3_4⟩ := h3_4
 replace ev3_4 : vs 3 = _ := ev3_4; replace er3_4 : vs 2 = _ := er3_4; replace h3_2 := (show Rw W3 (vs 2) (numR K be) from h3_2)
 rw [er3_4] at h3_2
 replace h3_0 : vs 0 = .int .i64 be := h3_0
 replace h3_1 : vs 1 = .int .i64 (K : Int) := h3_1
 simp only [ev3_4, er3_4, h3_0, h3_1]
 clear ev3_4 er3_4 h3_0 h3_1 h3_3
 obtain ⟨kp5_0, kp5_1, kp5_2⟩ := p5.c3
 obtain ⟨kp6_0, kp6_1, kp6_2⟩ := p6.c3
 obtain ⟨kp8_0, kp8_1, kp8_2⟩ := p8.c3
 obtain ⟨kp3_4_0, kp3_4_1, kp3_4_2⟩ := p3_4.c3
 go_upto_region 2 with (fail)
 clear kp5_0 kp5_1 kp5_2 kp6_0 kp6_1 kp6_2 kp8_0 kp8_1 kp8_2 kp3_4_0 kp3_4_1 kp3_4_2; have fp8 := p8.form; have ltp3_4 := p3_4.lt; have szw4 := Ext.size E0
 refine region_gs [.one fun v _ => v = .agg #[.bool b3_4, .slice a3_4 n3_4 c3_4, .slice d3_4 m3_4 o3_4],
   .one fun v _ => v = .agg #[.bool b1, .slice a1 n1 c1, .slice d1 m1 o1],
   .one fun v W => Rw W v (numR K be * x),
   .one fun v W => Rw W v (((1 : Int) : Rat)),
   .one fun v _ => v = .agg #[.bool b3_4, .slice a3_4 n3_4 c3_4, .slice d3_4 m3_4 o3_4],
   .one fun v W => Rw W v (((1 : Int) : Rat) - numR K be),
   .one fun v _ => v = .agg #[.bool b2, .slice a2 n2 c2, .slice d2 m2 o2],
   .one fun v W => Rw W v ((((1 : Int) : Rat) - numR K be) * y),
   .one fun v W => Rw W v (numR K be * x + (((1 : Int) : Rat) - numR K be) * y),
   .two 8 (fun r _ W => At3 (w.heap.size + 1 + 1) 45 r W)]
  (fun W => Ext w W ∧ Rw W (.agg #[.bool b1, .slice a1 n1 c1, .slice d1 m1 o1]) x ∧ Rw W (.agg #[.bool b2, .slice a2 n2 c2, .slice d2 m2 o2]) y ∧ Bx3 W w.heap.size 45 (.bool b1) (.slice a1 n1 c1) (.slice d1 m1 o1) ∧ Bx3 W (w.heap.size + 1) 45 (.bool b2) (.slice a2 n2 c2) (.slice d2 m2 o2) ∧ Form W (w.heap.size + 1 + 1) 45 3 ∧ Rw W (.agg #[.bool b3_4, .slice a3_4 n3_4 c3_4, .slice d3_4 m3_4 o3_4]) (numR K be) ∧ Bx3 W g3_4 45 (.bool b3_4) (.slice a3_4 n3_4 c3_4) (.slice d3_4 m3_4 o3_4) ∧ W3.heap.size ≤ W.heap.size) ⟨Good.is _, Good.is _, Good.rat _, Good.rat _, Good.is _, Good.rat _, Good.is _, Good.rat _, Good.rat _, cert_at3, trivial⟩
  ⟨E0, ha, hb, p5, p6, fp8, h3_2, p3_4, Nat.le_refl _⟩ (A := ?A4) ?hA4 ?howe4 ?hfin4
 case hA4 =>
  intro vs
  simp only [putAll, Act.put, sA, sZ, sS, Nat.zero_add, Nat.reduceAdd]
  exact rfl
 case howe4 =>
  clear E0 ha hb p5 p6 fp8 h3_2 p3_4
  intro hf
  refine ⟨oE 0 [] hf rfl ?_, oE 1 [] hf rfl ?_, oE 2 [0, 1] hf rfl ?_, oE 3 [] hf rfl ?_, oE 4 [] hf rfl ?_, oE 5 [3, 4] hf rfl ?_, oE 6 [] hf rfl ?_, oE 7 [5, 6] hf rfl ?_, oE 8 [2, 7] hf rfl ?_, oW 9 [8] hf rfl ?_, trivial⟩
  all_goals intro vs W hS hp hx KO hKO
  all_goals simp only [Act.put, sA, sZ, sS] at hKO
  ·have fc0 := hS.2.2.2.2.2.2.2.1.cell0; have fc1 := hS.2.2.2.2.2.2.2.1.cell1; have fc2 := hS.2.2.2.2.2.2.2.1.cell2; go_simp; exact hKO _ W (.refl W) rfl
  ·have fc0 := hS.2.2.2.1.cell0; have fc1 := hS.2.2.2.1.cell1; have fc2 := hS.2.2.2.1.cell2; go_simp; exact hKO _ W (.refl W) rfl
  ·have e0 := isOf hp.1; have e1 := isOf hp.2.1; simp only [e0, e1] at hKO; go_simp
   refine (Tryz.refRMul (hS.2.2.2.2.2.2.1) (hS.2.1) S1.out SA.out (by omega)).mono ?_
   rintro e W1 ⟨v, rfl, hv, hE⟩
   exact hKO _ W1 hE hv
  ·go_simp
   refine (Tryz.refROf 1 _ (by omega) (by omega)).mono ?_
   rintro e W1 ⟨v, rfl, hv, hE⟩
   exact hKO _ W1 hE hv
  ·have fc0 := hS.2.2.2.2.2.2.2.1.cell0; have fc1 := hS.2.2.2.2.2.2.2.1.cell1; have fc2 := hS.2.2.2.2.2.2.2.1.cell2; go_simp; exact hKO _ W (.refl W) rfl
  ·have q3 := hp.1; have e4 := isOf hp.2.1; simp only [e4] at hKO; go_simp
   refine (Tryz.refRSub q3 (hS.2.2.2.2.2.2.1) SO.out S1.out (by omega)).mono ?_
   rintro e W1 ⟨v, rfl, hv, hE⟩
   exact hKO _ W1 hE hv
  ·have fc0 := hS.2.2.2.2.1.cell0; have fc1 := hS.2.2.2.2.1.cell1; have fc2 := hS.2.2.2.2.1.cell2; go_simp; exact hKO _ W (.refl W) rfl
  ·have q5 := hp.1; have e6 := isOf hp.2.1; simp only [e6] at hKO; go_simp
   refine (Tryz.refRMul q5 (hS.2.2.1) SD.out SB.out (by omega)).mono ?_
   rintro e W1 ⟨v, rfl, hv, hE⟩
   exact hKO _ W1 hE hv
  ·have q2 := hp.1; have q7 := hp.2.1; go_simp
   refine (Tryz.refRAdd q2 q7 SP.out SQ.out (by omega)).mono ?_
   rintro e W1 ⟨v, rfl, hv, hE⟩
   exact hKO _ W1 hE hv
  ·have q8 := hp.1
   have hf := hS.2.2.2.2.2.1
   obtain ⟨x0_0, x0_1, x0_2, hx, hno⟩ := hf.bx3
   have qr := q8
   obtain ⟨b3, a3, n3, c3, d3, m3, o3, er, -, -, -⟩ := qr
   replace er : vs 8 = _ := er
   have r0 := hx.froz0
   have t0 := hx.cell0
   have r1 := hx.froz1
   have t1 := hx.cell1
   have r2 := hx.froz2
   have t2 := hx.cell2
   have hw := Wr.set3 hx hno b3 a3 n3 c3 d3 m3 o3
   have hq := hx.set (.bool b3) (.slice a3 n3 c3) (.slice d3 m3 o3)
   have hg : (w.heap.size + 1 + 1) ≤ (w.heap.size + 1 + 1) := Nat.le_refl _
   simp only [er] at hKO; go_simp
   exact hKO _ _ hw ⟨(Ext.wr hS.1 hw (by omega)), (hS.2.1.wr hw), (hS.2.2.1.wr hw), (hS.2.2.2.1.wr hw (by omega)), (hS.2.2.2.2.1.wr hw (by omega)), (hS.2.2.2.2.2.1.wr hw), (hS.2.2.2.2.2.2.1.wr hw), (hS.2.2.2.2.2.2.2.1.wr hw (by omega)), (Nat.le_trans hS.2.2.2.2.2.2.2.2 hw.apart.size)⟩ ⟨b3, a3, n3, c3, d3, m3, o3, er, hq⟩
 intro vs W4 hS hp
 clear szw4 E0 ha hb p5 p6 fp8 h3_2 p3_4
 obtain ⟨E0, ha, hb, p5, p6, fp8, h3_2, p3_4, sz4⟩ := hS
 obtain ⟨h4_0, h4_1, h4_2, h4_3, h4_4, h4_5, h4_6, h4_7, h4_8, h4_9, -⟩ := hp
 obtain ⟨b4_9, a4_9, n4_9, c4_9, d4_9, m4_9, o4_9, er4_9, p4_9⟩ := h4_9
 replace er4_9 : vs 8 = _ := er4_9; replace h4_8 := (show Rw W4 (vs 8) (numR K be * x + (((1 : Int) : Rat) - numR K be) * y) from h4_8)
 rw [er4_9] at h4_8
 replace h4_0 : vs 0 = .agg #[.bool b3_4, .slice a3_4 n3_4 c3_4, .slice d3_4 m3_4 o3_4] := h4_0
 replace h4_1 : vs 1 = .agg #[.bool b1, .slice a1 n1 c1, .slice d1 m1 o1] := h4_1
 replace h4_4 : vs 4 = .agg #[.bool b3_4, .slice a3_4 n3_4 c3_4, .slice d3_4 m3_4 o3_4] := h4_4
 replace h4_6 : vs 6 = .agg #[.bool b2, .slice a2 n2 c2, .slice d2 m2 o2] := h4_6
 simp only [er4_9, h4_0, h4_1, h4_4, h4_6]
 replace h4_2 : Rw W4 (vs 2) (numR K be * x) := h4_2
 generalize vs 2 = u4_2 at h4_2 ⊢
 replace h4_3 : Rw W4 (vs 3) (((1 : Int) : Rat)) := h4_3
 generalize vs 3 = u4_3 at h4_3 ⊢
 replace h4_5 : Rw W4 (vs 5) (((1 : Int) : Rat) - numR K be) := h4_5
 generalize vs 5 = u4_5 at h4_5 ⊢
 replace h4_7 : Rw W4 (vs 7) ((((1 : Int) : Rat) - numR K be) * y) := h4_7
 generalize vs 7 = u4_7 at h4_7 ⊢
 clear er4_9 h4_0 h4_1 h4_4 h4_6
 obtain ⟨kp5_0, kp5_1, kp5_2⟩ := p5.c3
 obtain ⟨kp6_0, kp6_1, kp6_2⟩ := p6.c3
 obtain ⟨kp3_4_0, kp3_4_1, kp3_4_2⟩ := p3_4.c3
 obtain ⟨kp4_9_0, kp4_9_1, kp4_9_2⟩ := p4_9.c3
 go_wp2
 exact bodyPost_ret (v := .agg #[.bool b4_9, .slice a4_9 n4_9 c4_9, .slice d4_9 m4_9 o4_9]) (by simp [results, Tryz.results16, go_sem, kp4_9_0, kp4_9_1, kp4_9_2]) rfl ⟨_, rfl, h4_8, E0⟩

set_option maxRecDepth 100000 in
set_option maxHeartbeats 8000000 in
theorem Tryz.far18 (n : Int) (K : Nat) (hK : K ≤ 40) {va : Value} {x : Rat} {w : World} (h1 : -9223372036854775808 ≤ n) (h2 : n < 9223372036854775808) (ha : Rw w va x) (sa : SmR 37 x) (hv : Int) (hv1 : -9223372036854775808 ≤ hv) (hv2 : hv < 9223372036854775808) (hd : Rat.abs (numR K n - x) + Rat.abs (numR K n - x) ≤ (hv : Rat) * numR K 1) :
  Calls Tryz.prog 18 #[.int .i64 n, va, .int .i64 (K : Int), .int .i64 hv] w fun e w' => e = .returned (.bool true) ∧ Ext w w' := by
 have HK := Lib.hid hK
 have HB := Lib.hid (And.intro h1 h2)
 have HC := Lib.hid (And.intro hv1 hv2)
 have SN : Hid (SmR 37 (numR K n)) := Lib.hid ((SmR.num h1 h2 hK).mono (by omega))
 have SA := Lib.hid sa
 have SD : Hid (SmR 75 (Rat.abs (numR K n - x))) := Lib.hid (SmR.abs (SN.out.sub SA.out))
 have SDD : Hid (SmR 151 (Rat.abs (numR K n - x) + Rat.abs (numR K n - x))) := Lib.hid (SD.out.add SD.out)
 have SH : Hid (SmR 4 (hv : Rat)) := Lib.hid ((SmR.ofInt (n := hv) hv1 hv2).mono (by omega))
 have SU : Hid (SmR 4 (numR K 1)) := Lib.hid (SmR.num (by omega) (by omega) hK)
 have SHU : Hid (SmR 151 ((hv : Rat) * numR K 1)) := Lib.hid ((SH.out.mul SU.out).mono (by omega))
 obtain ⟨c, hc⟩ : ∃ c : Int, (if Rat.abs (numR K n - x) + Rat.abs (numR K n - x) < (hv : Rat) * numR K 1 then (-1 : Int) else if (hv : Rat) * numR K 1 < Rat.abs (numR K n - x) + Rat.abs (numR K n - x) then 1 else 0) = c := ⟨_, rfl⟩
 have hcl : c ≤ 0 := by rw [← hc]; exact cmp_fewer hd
 have HC2 := Lib.hid hc
 have hcd : decide (c ≤ 0) = true := decide_eq_true hcl
 clear hK h1 h2 sa hv1 hv2 hd hc
 obtain ⟨b1, a1, n1, c1, d1, m1, o1, rfl, q1⟩ : ∃ b a n c d m o, va = .agg #[.bool b, .slice a n c, .slice d m o] ∧ True := let ⟨b, a, n, c, d, m, o, e, _⟩ := ha; ⟨b, a, n, c, d, m, o, e, trivial⟩
 clear q1
 obtain ⟨W0, hW0⟩ : ∃ W0, W0 = (w.alloc (.cells #[.bool b1, .slice a1 n1 c1, .slice d1 m1 o1] 45)) := ⟨_, rfl⟩
 have E0 : Ext w W0 := by rw [hW0]; exact (Ext.alloc1 w (.cells #[.bool b1, .slice a1 n1 c1, .slice d1 m1 o1] 45))
 replace ha : Rw W0 (.agg #[.bool b1, .slice a1 n1 c1, .slice d1 m1 o1]) x := ha.ext E0
 have p5 : Bx3 W0 w.heap.size 45 (.bool b1) (.slice a1 n1 c1) (.slice d1 m1 o1) := by rw [hW0]; exact (Bx3.new w 45 (.bool b1) (.slice a1 n1 c1) (.slice d1 m1 o1))
 go_enter Tryz.func18, Tryz.ntmps18
 obtain ⟨kp5_0, kp5_1, kp5_2⟩ := p5.c3
 go_upto_region 1 with (fail)
 rw [← hW0]
 clear hW0; clear kp5_0 kp5_1 kp5_2; have ltp5 := p5.lt; have szw5 := Ext.size E0
 refine region_gs [.one fun v _ => v = .int .i64 n,
   .one fun v _ => v = .int .i64 (K : Int),
   .one fun v W => Rw W v (numR K n),
   .one fun v _ => v = .agg #[.bool b1, .slice a1 n1 c1, .slice d1 m1 o1],
   .one fun v W => Rw W v (numR K n - x),
   .one fun v W => Rw W v (Rat.abs (numR K n - x)),
   .one fun v W => ∃ g, v = .pointer (some ⟨g, 0, none⟩) ∧ W0.heap.size ≤ g ∧ Form W g 45 3,
   .three 6 5 (fun p r _ W => Put3 W0.heap.size 45 p r W)]
  (fun W => Ext w W ∧ Rw W (.agg #[.bool b1, .slice a1 n1 c1, .slice d1 m1 o1]) x ∧ Bx3 W w.heap.size 45 (.bool b1) (.slice a1 n1 c1) (.slice d1 m1 o1) ∧ W0.heap.size ≤ W.heap.size) ⟨Good.is _, Good.is _, Good.rat _, Good.is _, Good.rat _, Good.rat _, Good.box _ _ _, cert_put3, trivial⟩
  ⟨E0, ha, p5, Nat.le_refl _⟩ (A := ?A5) ?hA5 ?howe5 ?hfin5
 case hA5 =>
  intro vs
  simp only [putAll, Act.put, sA, sZ, sS, Nat.zero_add, Nat.reduceAdd]
  exact rfl
 case howe5 =>
  clear E0 ha p5
  intro hf
  refine ⟨oE 0 [] hf rfl ?_, oE 1 [] hf rfl ?_, oE 2 [0, 1] hf rfl ?_, oE 3 [] hf rfl ?_, oE 4 [2, 3] hf rfl ?_, oE 5 [4] hf rfl ?_, oE 6 [] hf rfl ?_, oW 7 [6, 5] hf rfl ?_, trivial⟩
  all_goals intro vs W hS hp hx KO hKO
  all_goals simp only [Act.put, sA, sZ, sS] at hKO
  ·go_simp; exact hKO _ W (.refl W) rfl
  ·go_simp; exact hKO _ W (.refl W) rfl
  ·have e0 := isOf hp.1; have e1 := isOf hp.2.1; simp only [e0, e1] at hKO; go_simp
   refine (Tryz.num18 n K HK.out _ HB.out.1 HB.out.2).mono ?_
   rintro e W1 ⟨v, rfl, hv, hE⟩
   exact hKO _ W1 hE hv
  ·have fc0 := hS.2.2.1.cell0; have fc1 := hS.2.2.1.cell1; have fc2 := hS.2.2.1.cell2; go_simp; exact hKO _ W (.refl W) rfl
  ·have q2 := hp.1; have e3 := isOf hp.2.1; simp only [e3] at hKO; go_simp
   refine (Tryz.refRSub q2 (hS.2.1) SN.out SA.out (by omega)).mono ?_
   rintro e W1 ⟨v, rfl, hv, hE⟩
   exact hKO _ W1 hE hv
  ·have q4 := hp.1; go_simp
   refine (Tryz.refRAbs q4).mono ?_
   rintro e W1 ⟨v, rfl, hv, hE⟩
   exact hKO _ W1 hE hv
  ·have hn := Bx3.new W 45 (.bool false) (.slice none 0 0) (.slice none 0 0)
   have hE := Ext.alloc1 W (.cells #[.bool false, .slice none 0 0, .slice none 0 0] 45)
   have hsz := hS.2.2.2
   go_simp
   exact hKO _ _ hE ⟨_, rfl, hsz, hn.form⟩
  ·have q6 := hp.1; have q5 := hp.2.1
   obtain ⟨g, ev, hg, hf⟩ := q6
   replace ev : vs 6 = _ := ev
   obtain ⟨x0_0, x0_1, x0_2, hx, hno⟩ := hf.bx3
   have qr := q5
   obtain ⟨b3, a3, n3, c3, d3, m3, o3, er, -, -, -⟩ := qr
   replace er : vs 5 = _ := er
   have r0 := hx.froz0
   have t0 := hx.cell0
   have r1 := hx.froz1
   have t1 := hx.cell1
   have r2 := hx.froz2
   have t2 := hx.cell2
   have hw := Wr.set3 hx hno b3 a3 n3 c3 d3 m3 o3
   have hq := hx.set (.bool b3) (.slice a3 n3 c3) (.slice d3 m3 o3)
   simp only [ev, er] at hKO; go_simp
   exact hKO _ _ hw ⟨(Ext.wr hS.1 hw (by omega)), (hS.2.1.wr hw), (hS.2.2.1.wr hw (by omega)), (Nat.le_trans hS.2.2.2 hw.apart.size)⟩ ⟨g, b3, a3, n3, c3, d3, m3, o3, ev, er, hg, hq⟩
 intro vs W5 hS hp
 clear szw5 E0 ha p5
 obtain ⟨E0, ha, p5, sz5⟩ := hS
 obtain ⟨h5_0, h5_1, h5_2, h5_3, h5_4, h5_5, h5_6, h5_7, -⟩ := hp
 obtain ⟨g5_7, b5_7, a5_7, n5_7, c5_7, d5_7, m5_7, o5_7, ev5_7, er5_7, hg5_7, p5_7⟩ := h5_7
 replace ev5_7 : vs 6 = _ := ev5_7; replace er5_7 : vs 5 = _ := er5_7; replace h5_5 := (show Rw W5 (vs 5) (Rat.abs (numR K n - x)) from h5_5)
 rw [er5_7] at h5_5
 replace h5_0 : vs 0 = .int .i64 n := h5_0
 replace h5_1 : vs 1 = .int .i64 (K : Int) := h5_1
 replace h5_3 : vs 3 = .agg #[.bool b1, .slice a1 n1 c1, .slice d1 m1 o1] := h5_3
 simp only [ev5_7, er5_7, h5_0, h5_1, h5_3]
 replace h5_2 : Rw W5 (vs 2) (numR K n) := h5_2
 generalize vs 2 = u5_2 at h5_2 ⊢
 replace h5_4 : Rw W5 (vs 4) (numR K n - x) := h5_4
 generalize vs 4 = u5_4 at h5_4 ⊢
 clear ev5_7 er5_7 h5_0 h5_1 h5_3 h5_6
 obtain ⟨kp5_0, kp5_1, kp5_2⟩ := p5.c3
 obtain ⟨kp5_7_0, kp5_7_1, kp5_7_2⟩ := p5_7.c3
 go_upto_region 2 with (fail)
 clear kp5_0 kp5_1 kp5_2 kp5_7_0 kp5_7_1 kp5_7_2; have ltp5_7 := p5_7.lt; have szw6 := Ext.size E0
 refine region_gs [.one fun v _ => v = .agg #[.bool b5_7, .slice a5_7 n5_7 c5_7, .slice d5_7 m5_7 o5_7],
   .one fun v _ => v = .agg #[.bool b5_7, .slice a5_7 n5_7 c5_7, .slice d5_7 m5_7 o5_7],
   .one fun v W => Rw W v (Rat.abs (numR K n - x) + Rat.abs (numR K n - x)),
   .one fun v _ => v = .int .i64 hv,
   .one fun v W => Rw W v ((hv : Rat)),
   .one fun v _ => v = .int .i64 (K : Int),
   .one fun v W => Rw W v (numR K 1),
   .one fun v W => Rw W v ((hv : Rat) * numR K 1),
   .one fun v _ => v = .int .i64 c,
   .one fun v _ => v = .bool true,
   .one fun v _ => v = .bool true]
  (fun W => Ext w W ∧ Rw W (.agg #[.bool b1, .slice a1 n1 c1, .slice d1 m1 o1]) x ∧ Bx3 W w.heap.size 45 (.bool b1) (.slice a1 n1 c1) (.slice d1 m1 o1) ∧ Rw W (.agg #[.bool b5_7, .slice a5_7 n5_7 c5_7, .slice d5_7 m5_7 o5_7]) (Rat.abs (numR K n - x)) ∧ Bx3 W g5_7 45 (.bool b5_7) (.slice a5_7 n5_7 c5_7) (.slice d5_7 m5_7 o5_7) ∧ Rw W u5_2 (numR K n) ∧ Rw W u5_4 (numR K n - x) ∧ W5.heap.size ≤ W.heap.size) ⟨Good.is _, Good.is _, Good.rat _, Good.is _, Good.rat _, Good.is _, Good.rat _, Good.rat _, Good.is _, Good.is _, Good.is _, trivial⟩
  ⟨E0, ha, p5, h5_5, p5_7, h5_2, h5_4, Nat.le_refl _⟩ (A := ?A6) ?hA6 ?howe6 ?hfin6
 case hA6 =>
  intro vs
  simp only [putAll, Act.put, sA, sZ, sS, Nat.zero_add, Nat.reduceAdd]
  exact rfl
 case howe6 =>
  clear E0 ha p5 h5_5 p5_7 h5_2 h5_4
  intro hf
  refine ⟨oE 0 [] hf rfl ?_, oE 1 [] hf rfl ?_, oE 2 [0, 1] hf rfl ?_, oE 3 [] hf rfl ?_, oE 4 [3] hf rfl ?_, oE 5 [] hf rfl ?_, oE 6 [5] hf rfl ?_, oE 7 [4, 6] hf rfl ?_, oE 8 [2, 7] hf rfl ?_, oE 9 [8] hf rfl ?_, oE 10 [9] hf rfl ?_, trivial⟩
  all_goals intro vs W hS hp hx KO hKO
  all_goals simp only [Act.put, sA, sZ, sS] at hKO
  ·have fc0 := hS.2.2.2.2.1.cell0; have fc1 := hS.2.2.2.2.1.cell1; have fc2 := hS.2.2.2.2.1.cell2; go_simp; exact hKO _ W (.refl W) rfl
  ·have fc0 := hS.2.2.2.2.1.cell0; have fc1 := hS.2.2.2.2.1.cell1; have fc2 := hS.2.2.2.2.1.cell2; go_simp; exact hKO _ W (.refl W) rfl
  ·have e0 := isOf hp.1; have e1 := isOf hp.2.1; simp only [e0, e1] at hKO; go_simp
   refine (Tryz.refRAdd (hS.2.2.2.1) (hS.2.2.2.1) SD.out SD.out (by omega)).mono ?_
   rintro e W1 ⟨v, rfl, hv, hE⟩
   exact hKO _ W1 hE hv
  ·go_simp; exact hKO _ W (.refl W) rfl
  ·have e3 := isOf hp.1; simp only [e3] at hKO; go_simp
   refine (Tryz.refROf hv _ HC.out.1 HC.out.2).mono ?_
   rintro e W1 ⟨v, rfl, hv, hE⟩
   exact hKO _ W1 hE hv
  ·go_simp; exact hKO _ W (.refl W) rfl
  ·have e5 := isOf hp.1; simp only [e5] at hKO; go_simp
   refine (Tryz.num18 1 K HK.out _ (by omega) (by omega)).mono ?_
   rintro e W1 ⟨v, rfl, hv, hE⟩
   exact hKO _ W1 hE hv
  ·have q4 := hp.1; have q6 := hp.2.1; go_simp
   refine (Tryz.refRMul q4 q6 SH.out SU.out (by omega)).mono ?_
   rintro e W1 ⟨v, rfl, hv, hE⟩
   exact hKO _ W1 hE hv
  ·have q2 := hp.1; have q7 := hp.2.1; go_simp
   refine (Tryz.refRCmp q2 q7 SDD.out.1 SDD.out.2 SHU.out.1 SHU.out.2 (by omega)).mono ?_
   rintro e W1 ⟨rfl, hE⟩
   rw [HC2.out]
   exact hKO _ W1 hE rfl
  ·have e8 := isOf hp.1; simp only [e8] at hKO; go_simp; exact hKO _ W (Ext.refl W) (by first | rfl | exact congrArg Value.bool (by simpa using hcl))
  ·have e9 := isOf hp.1; simp only [e9] at hKO; go_simp; exact hKO _ W (.refl W) rfl
 intro vs W6 hS hp
 clear szw6 E0 ha p5 h5_5 p5_7 h5_2 h5_4
 obtain ⟨E0, ha, p5, h5_5, p5_7, h5_2, h5_4, sz6⟩ := hS
 obtain ⟨h6_0, h6_1, h6_2, h6_3, h6_4, h6_5, h6_6, h6_7, h6_8, h6_9, h6_10, -⟩ := hp
 replace h6_0 : vs 0 = .agg #[.bool b5_7, .slice a5_7 n5_7 c5_7, .slice d5_7 m5_7 o5_7] := h6_0
 replace h6_1 : vs 1 = .agg #[.bool b5_7, .slice a5_7 n5_7 c5_7, .slice d5_7 m5_7 o5_7] := h6_1
 replace h6_3 : vs 3 = .int .i64 hv := h6_3
 replace h6_5 : vs 5 = .int .i64 (K : Int) := h6_5
 replace h6_8 : vs 8 = .int .i64 c := h6_8
 replace h6_9 : vs 9 = .bool true := h6_9
 replace h6_10 : vs 10 = .bool true := h6_10
 simp only [h6_0, h6_1, h6_3, h6_5, h6_8, h6_9, h6_10]
 replace h6_2 : Rw W6 (vs 2) (Rat.abs (numR K n - x) + Rat.abs (numR K n - x)) := h6_2
 generalize vs 2 = u6_2 at h6_2 ⊢
 replace h6_4 : Rw W6 (vs 4) ((hv : Rat)) := h6_4
 generalize vs 4 = u6_4 at h6_4 ⊢
 replace h6_6 : Rw W6 (vs 6) (numR K 1) := h6_6
 generalize vs 6 = u6_6 at h6_6 ⊢
 replace h6_7 : Rw W6 (vs 7) ((hv : Rat) * numR K 1) := h6_7
 generalize vs 7 = u6_7 at h6_7 ⊢
 clear h6_0 h6_1 h6_3 h6_5 h6_8 h6_9 h6_10
 obtain ⟨kp5_0, kp5_1, kp5_2⟩ := p5.c3
 obtain ⟨kp5_7_0, kp5_7_1, kp5_7_2⟩ := p5_7.c3
 go_wp2; go_ret
 exact ⟨rfl, E0⟩

set_option maxRecDepth 100000 in
set_option maxHeartbeats 8000000 in
theorem Tryz.refSame17 {a0 b0 : Option Addr} {n0 c0 m0 d0 : Nat} {l0 k0 : List Int} {lo0 hi0 lp0 hp0 : Nat} {a1 b1 : Option Addr} {n1 c1 m1 d1 : Nat} {l1 k1 : List Int} {lo1 hi1 lp1 hp1 : Nat} {a2 b2 : Option Addr} {n2 c2 m2 d2 : Nat} {l2 k2 : List Int} {lo2 hi2 lp2 hp2 : Nat} {a3 b3 : Option Addr} {n3 c3 m3 d3 : Nat} {l3 k3 : List Int} {lo3 hi3 lp3 hp3 : Nat} {w : World} (x0 : Iw lo0 hi0 w a0 n0 c0 l0) (y0 : Iw lp0 hp0 w b0 m0 d0 k0) (x1 : Iw lo1 hi1 w a1 n1 c1 l1) (y1 : Iw lp1 hp1 w b1 m1 d1 k1) (x2 : Iw lo2 hi2 w a2 n2 c2 l2) (y2 : Iw lp2 hp2 w b2 m2 d2 k2) (x3 : Iw lo3 hi3 w a3 n3 c3 l3) (y3 : Iw lp3 hp3 w b3 m3 d3 k3) :
  Calls Tryz.prog 11 #[.agg #[.slice a0 n0 c0, .slice a1 n1 c1, .slice a2 n2 c2, .slice a3 n3 c3], .agg #[.slice b0 m0 d0, .slice b1 m1 d1, .slice b2 m2 d2, .slice b3 m3 d3]] w fun e w' => e = .returned (.bool (decide (l0 = k0) && decide (l1 = k1) && decide (l2 = k2) && decide (l3 = k3))) ∧ Ext w w' := by
 obtain ⟨W0, hW0⟩ : ∃ W0, W0 = ((w.alloc (.cells #[.slice a0 n0 c0, .slice a1 n1 c1, .slice a2 n2 c2, .slice a3 n3 c3] 27)).alloc (.cells #[.slice b0 m0 d0, .slice b1 m1 d1, .slice b2 m2 d2, .slice b3 m3 d3] 27)) := ⟨_, rfl⟩
 have E0 : Ext w W0 := by rw [hW0]; exact ((Ext.alloc1 w (.cells #[.slice a0 n0 c0, .slice a1 n1 c1, .slice a2 n2 c2, .slice a3 n3 c3] 27)).alloc (.cells #[.slice b0 m0 d0, .slice b1 m1 d1, .slice b2 m2 d2, .slice b3 m3 d3] 27))
 replace x0 : Iw lo0 hi0 W0 a0 n0 c0 (l0) := x0.ext E0
 replace y0 : Iw lp0 hp0 W0 b0 m0 d0 (k0) := y0.ext E0
 replace x1 : Iw lo1 hi1 W0 a1 n1 c1 (l1) := x1.ext E0
 replace y1 : Iw lp1 hp1 W0 b1 m1 d1 (k1) := y1.ext E0
 replace x2 : Iw lo2 hi2 W0 a2 n2 c2 (l2) := x2.ext E0
 replace y2 : Iw lp2 hp2 W0 b2 m2 d2 (k2) := y2.ext E0
 replace x3 : Iw lo3 hi3 W0 a3 n3 c3 (l3) := x3.ext E0
 replace y3 : Iw lp3 hp3 W0 b3 m3 d3 (k3) := y3.ext E0
 have p2 : BxA W0 w.heap.size 27 #[.slice a0 n0 c0, .slice a1 n1 c1, .slice a2 n2 c2, .slice a3 n3 c3] := by rw [hW0]; exact (BxA.new w 27 #[.slice a0 n0 c0, .slice a1 n1 c1, .slice a2 n2 c2, .slice a3 n3 c3]).ext (Ext.alloc1 (w.alloc (.cells #[.slice a0 n0 c0, .slice a1 n1 c1, .slice a2 n2 c2, .slice a3 n3 c3] 27)) (.cells #[.slice b0 m0 d0, .slice b1 m1 d1, .slice b2 m2 d2, .slice b3 m3 d3] 27))
 have p3 : BxA W0 (w.heap.size + 1) 27 #[.slice b0 m0 d0, .slice b1 m1 d1, .slice b2 m2 d2, .slice b3 m3 d3] := by rw [hW0]; simpa using (BxA.new (w.alloc (.cells #[.slice a0 n0 c0, .slice a1 n1 c1, .slice a2 n2 c2, .slice a3 n3 c3] 27)) 27 #[.slice b0 m0 d0, .slice b1 m1 d1, .slice b2 m2 d2, .slice b3 m3 d3])
 go_enter Tryz.func11, Tryz.ntmps11
 obtain ⟨kp2_0, kp2_1, kp2_2, kp2_3⟩ := p2.c4
 obtain ⟨kp3_0, kp3_1, kp3_2, kp3_3⟩ := p3.c4
 go_wp2_with fail
 rw [← hW0]
 clear hW0; clear kp2_0 kp2_1 kp2_2 kp2_3 kp3_0 kp3_1 kp3_2 kp3_3
 refine (Tryz.refSame09 x0 y0).mono ?_
 rintro e Wa ⟨rfl, hE⟩
 replace E0 := (Ext.trans E0 hE)
 replace x0 := (x0.ext hE)
 replace y0 := (y0.ext hE)
 replace x1 := (x1.ext hE)
 replace y1 := (y1.ext hE)
 replace x2 := (x2.ext hE)
 replace y2 := (y2.ext hE)
 replace x3 := (x3.ext hE)
 replace y3 := (y3.ext hE)
 replace p2 := (p2.ext hE); replace p3 := (p3.ext hE); clear hE
 cases g0 : decide (l0 = k0)
 ·obtain ⟨kp2_0, kp2_1, kp2_2, kp2_3⟩ := p2.c4
  obtain ⟨kp3_0, kp3_1, kp3_2, kp3_3⟩ := p3.c4
  go_wp2; go_ret
  exact ⟨ret_b (by rw [g0]; rfl), E0⟩
 ·obtain ⟨kp2_0, kp2_1, kp2_2, kp2_3⟩ := p2.c4
  obtain ⟨kp3_0, kp3_1, kp3_2, kp3_3⟩ := p3.c4
  go_wp2_with fail
  clear kp2_0 kp2_1 kp2_2 kp2_3 kp3_0 kp3_1 kp3_2 kp3_3
  refine (Tryz.refSame09 x1 y1).mono ?_
  rintro e Wb ⟨rfl, hE⟩
  replace E0 := (Ext.trans E0 hE)
  replace x0 := (x0.ext hE)
  replace y0 := (y0.ext hE)
  replace x1 := (x1.ext hE)
  replace y1 := (y1.ext hE)
  replace x2 := (x2.ext hE)
  replace y2 := (y2.ext hE)
  replace x3 := (x3.ext hE)
  replace y3 := (y3.ext hE)
  replace p2 := (p2.ext hE); replace p3 := (p3.ext hE); clear hE
  cases g1 : decide (l1 = k1)
  ·obtain ⟨kp2_0, kp2_1, kp2_2, kp2_3⟩ := p2.c4
   obtain ⟨kp3_0, kp3_1, kp3_2, kp3_3⟩ := p3.c4
   go_wp2; go_ret
   exact ⟨ret_b (by rw [g0, g1]; rfl), E0⟩
  ·obtain ⟨kp2_0, kp2_1, kp2_2, kp2_3⟩ := p2.c4
   obtain ⟨kp3_0, kp3_1, kp3_2, kp3_3⟩ := p3.c4
   go_wp2_with fail
   clear kp2_0 kp2_1 kp2_2 kp2_3 kp3_0 kp3_1 kp3_2 kp3_3
   refine (Tryz.refSame09 x2 y2).mono ?_
   rintro e Wc ⟨rfl, hE⟩
   replace E0 := (Ext.trans E0 hE)
   replace x0 := (x0.ext hE)
   replace y0 := (y0.ext hE)
   replace x1 := (x1.ext hE)
   replace y1 := (y1.ext hE)
   replace x2 := (x2.ext hE)
   replace y2 := (y2.ext hE)
   replace x3 := (x3.ext hE)
   replace y3 := (y3.ext hE)
   replace p2 := (p2.ext hE); replace p3 := (p3.ext hE); clear hE
   cases g2 : decide (l2 = k2)
   ·obtain ⟨kp2_0, kp2_1, kp2_2, kp2_3⟩ := p2.c4
    obtain ⟨kp3_0, kp3_1, kp3_2, kp3_3⟩ := p3.c4
    go_wp2; go_ret
    exact ⟨ret_b (by rw [g0, g1, g2]; rfl), E0⟩
   ·obtain ⟨kp2_0, kp2_1, kp2_2, kp2_3⟩ := p2.c4
    obtain ⟨kp3_0, kp3_1, kp3_2, kp3_3⟩ := p3.c4
    go_wp2_with fail
    clear kp2_0 kp2_1 kp2_2 kp2_3 kp3_0 kp3_1 kp3_2 kp3_3
    refine (Tryz.refSame09 x3 y3).mono ?_
    rintro e Wd ⟨rfl, hE⟩
    replace E0 := (Ext.trans E0 hE)
    replace x0 := (x0.ext hE)
    replace y0 := (y0.ext hE)
    replace x1 := (x1.ext hE)
    replace y1 := (y1.ext hE)
    replace x2 := (x2.ext hE)
    replace y2 := (y2.ext hE)
    replace x3 := (x3.ext hE)
    replace y3 := (y3.ext hE)
    replace p2 := (p2.ext hE); replace p3 := (p3.ext hE); clear hE
    cases g3 : decide (l3 = k3)
    ·obtain ⟨kp2_0, kp2_1, kp2_2, kp2_3⟩ := p2.c4
     obtain ⟨kp3_0, kp3_1, kp3_2, kp3_3⟩ := p3.c4
     go_wp2; go_ret
     exact ⟨ret_b (by rw [g0, g1, g2, g3]; rfl), E0⟩
    ·obtain ⟨kp2_0, kp2_1, kp2_2, kp2_3⟩ := p2.c4
     obtain ⟨kp3_0, kp3_1, kp3_2, kp3_3⟩ := p3.c4
     go_wp2; go_ret
     exact ⟨ret_b (by rw [g0, g1, g2, g3]; rfl), E0⟩

set_option maxRecDepth 100000 in
set_option maxHeartbeats 16000000 in
theorem Tryz.lawAdamMoments (lr b1 b2 eps wd pw0 pw1 f : Int) (ap : Bool) {n0 n1 n2 n3 : Nat} {a0 a1 a2 a3 : Option Addr} {c0 c1 c2 c3 : Nat} {lw lm lv lg : List Int} (w : World) (hs : n0 + n1 + n2 + n3 ≤ 9223372036854775807) (q1 : I64 lr) (q2 : I64 eps) (q3 : I64 wd) (hi0 : Iw 0 w.heap.size w a0 n0 c0 lw) (hi1 : Iw 0 w.heap.size w a1 n1 c1 lm) (hi2 : Iw 0 w.heap.size w a2 n2 c2 lv) (hi3 : Iw 0 w.heap.size w a3 n3 c3 lg) (qb1 : I64 b1) (qb2 : I64 b2) :
  Calls Tryz.prog 4 #[.agg #[.int .i64 lr, .int .i64 b1, .int .i64 b2, .int .i64 eps, .int .i64 wd, .bool ap, .int .i64 f, .int .i64 pw0, .int .i64 pw1, .slice a0 n0 c0, .slice a1 n1 c1, .slice a2 n2 c2, .slice a3 n3 c3]] w fun e w' => e = .returned (.bool true) ∧ Ext w w' := by
 have HQ := Lib.hid (And.intro (And.intro q1 q2) (And.intro q3 (And.intro qb1 qb2)))
 have HZ : Hid (I64 0) := Lib.hid (by unfold I64; omega)
 have HSM := Lib.hid hs
 have HL := Lib.hid hi0.len
 clear hs q1 q2 q3 qb1 qb2
 obtain ⟨W0, hW0⟩ : ∃ W0, W0 = (w.alloc (.cells #[.int .i64 lr, .int .i64 b1, .int .i64 b2, .int .i64 eps, .int .i64 wd, .bool ap, .int .i64 f, .int .i64 pw0, .int .i64 pw1, .slice a0 n0 c0, .slice a1 n1 c1, .slice a2 n2 c2, .slice a3 n3 c3] 29)) := ⟨_, rfl⟩
 have E0 : Ext w W0 := by rw [hW0]; exact (Ext.alloc1 w (.cells #[.int .i64 lr, .int .i64 b1, .int .i64 b2, .int .i64 eps, .int .i64 wd, .bool ap, .int .i64 f, .int .i64 pw0, .int .i64 pw1, .slice a0 n0 c0, .slice a1 n1 c1, .slice a2 n2 c2, .slice a3 n3 c3] 29))
 replace hi0 : Iw 0 w.heap.size W0 a0 n0 c0 (lw) := hi0.ext E0
 replace hi1 : Iw 0 w.heap.size W0 a1 n1 c1 (lm) := hi1.ext E0
 replace hi2 : Iw 0 w.heap.size W0 a2 n2 c2 (lv) := hi2.ext E0
 replace hi3 : Iw 0 w.heap.size W0 a3 n3 c3 (lg) := hi3.ext E0
 have p1 : BxA W0 w.heap.size 29 #[.int .i64 lr, .int .i64 b1, .int .i64 b2, .int .i64 eps, .int .i64 wd, .bool ap, .int .i64 f, .int .i64 pw0, .int .i64 pw1, .slice a0 n0 c0, .slice a1 n1 c1, .slice a2 n2 c2, .slice a3 n3 c3] := by rw [hW0]; exact (BxA.new w 29 #[.int .i64 lr, .int .i64 b1, .int .i64 b2, .int .i64 eps, .int .i64 wd, .bool ap, .int .i64 f, .int .i64 pw0, .int .i64 pw1, .slice a0 n0 c0, .slice a1 n1 c1, .slice a2 n2 c2, .slice a3 n3 c3])
 go_enter Tryz.func4, Tryz.ntmps4
 obtain ⟨kp1_0, kp1_1, kp1_2, kp1_3, kp1_4, kp1_5, kp1_6, kp1_7, kp1_8, kp1_9, kp1_10, kp1_11, kp1_12⟩ := p1.cells13
 go_upto_region 1 with (fail)
 rw [← hW0]
 clear hW0; clear kp1_0 kp1_1 kp1_2 kp1_3 kp1_4 kp1_5 kp1_6 kp1_7 kp1_8 kp1_9 kp1_10 kp1_11 kp1_12; have ltp1 := p1.lt; have szw7 := Ext.size E0
 refine region_go2 [.one fun v _ => v = .pointer (some ⟨w.heap.size, 0, none⟩),
   .one fun v _ => v = .agg #[.int .i64 lr, .int .i64 b1, .int .i64 b2, .int .i64 eps, .int .i64 wd, .bool ap],
   .one fun v _ => v = .pointer (some ⟨w.heap.size, 6, none⟩),
   .one fun v _ => v = .int .i64 f,
   .one fun v _ => v = .pointer (some ⟨w.heap.size, 9, none⟩),
   .one fun v _ => v = .agg #[.slice a0 n0 c0, .slice a1 n1 c1, .slice a2 n2 c2, .slice a3 n3 c3],
   .one fun v W => ∃ g, v = .pointer (some ⟨g, 0, none⟩) ∧ W0.heap.size ≤ g ∧ Form W g 23 6,
   .one fun v W => ∃ g, v = .pointer (some ⟨g, 0, none⟩) ∧ W0.heap.size ≤ g ∧ Form W g 27 4,
   .two 6 (fun p _ W => NewA W0.heap.size 23 #[.int .i64 lr, .int .i64 b1, .int .i64 b2, .int .i64 eps, .int .i64 wd, .bool ap] p W),
   .one fun v _ => v = .int .i64 f,
   .two 7 (fun p _ W => NewA W0.heap.size 27 #[.slice a0 n0 c0, .slice a1 n1 c1, .slice a2 n2 c2, .slice a3 n3 c3] p W)]
  (fun W => Ext w W ∧ Iw 0 w.heap.size W a0 n0 c0 (lw) ∧ Iw 0 w.heap.size W a1 n1 c1 (lm) ∧ Iw 0 w.heap.size W a2 n2 c2 (lv) ∧ Iw 0 w.heap.size W a3 n3 c3 (lg) ∧ BxA W w.heap.size 29 #[.int .i64 lr, .int .i64 b1, .int .i64 b2, .int .i64 eps, .int .i64 wd, .bool ap, .int .i64 f, .int .i64 pw0, .int .i64 pw1, .slice a0 n0 c0, .slice a1 n1 c1, .slice a2 n2 c2, .slice a3 n3 c3] ∧ W0.heap.size ≤ W.heap.size) W0.heap.size [6, 7] [Tag.any, Tag.any, Tag.any, Tag.any, Tag.any, Tag.any, Tag.any, Tag.any, Tag.new 6, Tag.any, Tag.new 7] ⟨Good.is _, Good.is _, Good.is _, Good.is _, Good.is _, Good.is _, Good.box _ _ _, Good.box _ _ _, tag_newA, Good.is _, tag_newA, trivial⟩ (fun g0 hg => by simp at hg)
  (fun W W1 hS hE => ⟨(Ext.trans hS.1 hE), (hS.2.1.ext hE), (hS.2.2.1.ext hE), (hS.2.2.2.1.ext hE), (hS.2.2.2.2.1.ext hE), (hS.2.2.2.2.2.1.ext hE), (Nat.le_trans hS.2.2.2.2.2.2 (Ext.size hE))⟩) ⟨E0, hi0, hi1, hi2, hi3, p1, Nat.le_refl _⟩ (fun m hm => by simp at hm; rcases hm with rfl | rfl <;> rfl) (by kernel_rfl) (by kernel_rfl) (by kernel_rfl) (by kernel_rfl) (A := ?A7) ?hA7 ?howe7 ?hfin7
 case hA7 =>
  intro vs
  simp only [putAll, Act.put, sA, sZ, sS, Nat.zero_add, Nat.reduceAdd]
  exact rfl
 case howe7 =>
  clear E0 hi0 hi1 hi2 hi3 p1
  intro hf
  refine ⟨owesM 0 [] hf rfl rfl (by kernel_rfl) ?_, owesM 1 [0] hf rfl rfl (by kernel_rfl) ?_, owesM 2 [] hf rfl rfl (by kernel_rfl) ?_, owesM 3 [2] hf rfl rfl (by kernel_rfl) ?_, owesM 4 [] hf rfl rfl (by kernel_rfl) ?_, owesM 5 [4] hf rfl rfl (by kernel_rfl) ?_, owesN 6 [] hf rfl (by kernel_rfl) ?_, owesN 7 [] hf rfl (by kernel_rfl) ?_, owesP 8 6 [6, 1] hf rfl rfl (by kernel_rfl) rfl (by kernel_rfl) ?_, owesM 9 [3] hf rfl rfl (by kernel_rfl) ?_, owesP 10 7 [7, 5] hf rfl rfl (by kernel_rfl) rfl (by kernel_rfl) ?_, trivial⟩
  all_goals intro vs W hS hp hx KO hKO
  all_goals simp only [Act.put, sA, sZ, sS] at hKO
  ·go_simp; exact hKO _ W (.refl W) rfl
  ·have e0 := isOf hp.1; simp only [e0] at hKO; have fc0 := BxA.cell (hS.2.2.2.2.2.1) 0 (v := .int .i64 lr) rfl; have fc1 := BxA.cell (hS.2.2.2.2.2.1) 1 (v := .int .i64 b1) rfl; have fc2 := BxA.cell (hS.2.2.2.2.2.1) 2 (v := .int .i64 b2) rfl; have fc3 := BxA.cell (hS.2.2.2.2.2.1) 3 (v := .int .i64 eps) rfl; have fc4 := BxA.cell (hS.2.2.2.2.2.1) 4 (v := .int .i64 wd) rfl; have fc5 := BxA.cell (hS.2.2.2.2.2.1) 5 (v := .bool ap) rfl; go_simp; exact hKO _ W (.refl W) rfl
  ·go_simp; exact hKO _ W (.refl W) rfl
  ·have e2 := isOf hp.1; simp only [e2] at hKO; have fc6 := BxA.cell (hS.2.2.2.2.2.1) 6 (v := .int .i64 f) rfl; go_simp; exact hKO _ W (.refl W) rfl
  ·go_simp; exact hKO _ W (.refl W) rfl
  ·have e4 := isOf hp.1; simp only [e4] at hKO; have fc9 := BxA.cell (hS.2.2.2.2.2.1) 9 (v := .slice a0 n0 c0) rfl; have fc10 := BxA.cell (hS.2.2.2.2.2.1) 10 (v := .slice a1 n1 c1) rfl; have fc11 := BxA.cell (hS.2.2.2.2.2.1) 11 (v := .slice a2 n2 c2) rfl; have fc12 := BxA.cell (hS.2.2.2.2.2.1) 12 (v := .slice a3 n3 c3) rfl; go_simp; exact hKO _ W (.refl W) rfl
  ·have hn := BxA.new W 23 #[.int .i64 0, .int .i64 0, .int .i64 0, .int .i64 0, .int .i64 0, .bool false]
   have hsz := hS.2.2.2.2.2.2
   go_simp
   exact hKO _ _ rfl ⟨_, rfl, hsz, ⟨_, hn, (noU_adam 0 0 0 0 0 false), rfl⟩⟩
  ·have hn := BxA.new W 27 #[.slice none 0 0, .slice none 0 0, .slice none 0 0, .slice none 0 0]
   have hsz := hS.2.2.2.2.2.2
   go_simp
   exact hKO _ _ rfl ⟨_, rfl, hsz, ⟨_, hn, (noU4 none 0 0 none 0 0 none 0 0 none 0 0), rfl⟩⟩
  ·have q6 := hp.1; have e1 := isOf hp.2.1; simp only [e1] at hKO
   obtain ⟨g, ev, hg, hfo⟩ := q6
   replace ev : vs 6 = _ := ev
   obtain ⟨x0, x1, x2, x3, x4, x5, c0, c1, c2, c3, c4, c5, hfz, W2, hW2, hw, hq⟩ := hfo.put6 (.int .i64 lr) (.int .i64 b1) (.int .i64 b2) (.int .i64 eps) (.int .i64 wd) (.bool ap) (noU_adam lr b1 b2 eps wd ap)
   have z0 := hfz 0
   have z1 := hfz 1
   have z2 := hfz 2
   have z3 := hfz 3
   have z4 := hfz 4
   have z5 := hfz 5
   simp only [ev] at hKO; go_simp
   rw [← hW2]
   exact hKO _ g rfl hg hw ⟨(Ext.wr hS.1 hw (by omega)), (hS.2.1.wr hw (by omega)), (hS.2.2.1.wr hw (by omega)), (hS.2.2.2.1.wr hw (by omega)), (hS.2.2.2.2.1.wr hw (by omega)), (hS.2.2.2.2.2.1.wr hw (by omega)), (Nat.le_trans hS.2.2.2.2.2.2 hw.apart.size)⟩ ⟨g, ev, hg, hq⟩
  ·have e3 := isOf hp.1; simp only [e3] at hKO; go_simp; exact hKO _ W (.refl W) rfl
  ·have q7 := hp.1; have e5 := isOf hp.2.1; simp only [e5] at hKO
   obtain ⟨g, ev, hg, hfo⟩ := q7
   replace ev : vs 7 = _ := ev
   obtain ⟨x0, x1, x2, x3, c0, c1, c2, c3, hfz, W2, hW2, hw, hq⟩ := hfo.put4 (.slice a0 n0 c0) (.slice a1 n1 c1) (.slice a2 n2 c2) (.slice a3 n3 c3) (noU4 _ _ _ _ _ _ _ _ _ _ _ _)
   have z0 := hfz 0
   have z1 := hfz 1
   have z2 := hfz 2
   have z3 := hfz 3
   simp only [ev] at hKO; go_simp
   rw [← hW2]
   exact hKO _ g rfl hg hw ⟨(Ext.wr hS.1 hw (by omega)), (hS.2.1.wr hw (by omega)), (hS.2.2.1.wr hw (by omega)), (hS.2.2.2.1.wr hw (by omega)), (hS.2.2.2.2.1.wr hw (by omega)), (hS.2.2.2.2.2.1.wr hw (by omega)), (Nat.le_trans hS.2.2.2.2.2.2 hw.apart.size)⟩ ⟨g, ev, hg, hq⟩
 intro vs W7 hS hM hp
 clear szw7 E0 hi0 hi1 hi2 hi3 p1
 obtain ⟨E0, hi0, hi1, hi2, hi3, p1, sz7⟩ := hS
 obtain ⟨h7_0, h7_1, h7_2, h7_3, h7_4, h7_5, h7_6, h7_7, h7_8, h7_9, h7_10, -⟩ := hp
 skip
 have hh := h7_8
 obtain ⟨g3, ev3, hg3, p3⟩ := hh
 replace ev3 : vs 6 = _ := ev3
 skip
 have hh := h7_10
 obtain ⟨g5, ev5, hg5, p5⟩ := hh
 replace ev5 : vs 7 = _ := ev5
 have ne3_5 : g3 ≠ g5 := fun e => hM.2 6 (by simp) 7 (by simp) (by decide) g3 (by rw [ev3]; rfl) (by rw [ev5, e]; rfl)
 replace h7_0 : vs 0 = .pointer (some ⟨w.heap.size, 0, none⟩) := h7_0
 replace h7_1 : vs 1 = .agg #[.int .i64 lr, .int .i64 b1, .int .i64 b2, .int .i64 eps, .int .i64 wd, .bool ap] := h7_1
 replace h7_2 : vs 2 = .pointer (some ⟨w.heap.size, 6, none⟩) := h7_2
 replace h7_3 : vs 3 = .int .i64 f := h7_3
 replace h7_4 : vs 4 = .pointer (some ⟨w.heap.size, 9, none⟩) := h7_4
 replace h7_5 : vs 5 = .agg #[.slice a0 n0 c0, .slice a1 n1 c1, .slice a2 n2 c2, .slice a3 n3 c3] := h7_5
 replace h7_9 : vs 9 = .int .i64 f := h7_9
 clear hM
 simp only [ev3, ev5, h7_0, h7_1, h7_2, h7_3, h7_4, h7_5, h7_9]
 clear ev3 ev5 h7_0 h7_1 h7_2 h7_3 h7_4 h7_5 h7_9 h7_6 h7_7 h7_8 h7_10
 have HG3 := Lib.hid hg3
 clear hg3
 have HG5 := Lib.hid hg5
 clear hg5
 have HN3_5 := Lib.hid ne3_5
 clear ne3_5
 obtain ⟨kp1_0, kp1_1, kp1_2, kp1_3, kp1_4, kp1_5, kp1_6, kp1_7, kp1_8, kp1_9, kp1_10, kp1_11, kp1_12⟩ := p1.cells13
 obtain ⟨kp3_0, kp3_1, kp3_2, kp3_3, kp3_4, kp3_5⟩ := p3.c6
 obtain ⟨kp5_0, kp5_1, kp5_2, kp5_3⟩ := p5.c4
 go_upto_if 20 with (fail)
 clear kp1_0 kp1_1 kp1_2 kp1_3 kp1_4 kp1_5 kp1_6 kp1_7 kp1_8 kp1_9 kp1_10 kp1_11 kp1_12 kp3_0 kp3_1 kp3_2 kp3_3 kp3_4 kp3_5 kp5_0 kp5_1 kp5_2 kp5_3
 go_cut [] from 18 to 21 (fun wx => ∃ wdq : Int, I64 wdq ∧ (ap = true ∨ wdq = 0) ∧ Ext w wx ∧ Iw 0 w.heap.size wx a0 n0 c0 (lw) ∧ Iw 0 w.heap.size wx a1 n1 c1 (lm) ∧ Iw 0 w.heap.size wx a2 n2 c2 (lv) ∧ Iw 0 w.heap.size wx a3 n3 c3 (lg) ∧ BxA wx w.heap.size 29 #[.int .i64 lr, .int .i64 b1, .int .i64 b2, .int .i64 eps, .int .i64 wd, .bool ap, .int .i64 f, .int .i64 pw0, .int .i64 pw1, .slice a0 n0 c0, .slice a1 n1 c1, .slice a2 n2 c2, .slice a3 n3 c3] ∧ BxA wx g3 23 #[.int .i64 lr, .int .i64 b1, .int .i64 b2, .int .i64 eps, .int .i64 wdq, .bool ap] ∧ BxA wx g5 27 #[.slice a0 n0 c0, .slice a1 n1 c1, .slice a2 n2 c2, .slice a3 n3 c3])
 case first =>
  have zf := p3.frozN 4
  cases ap
  ·obtain ⟨kp1_0, kp1_1, kp1_2, kp1_3, kp1_4, kp1_5, kp1_6, kp1_7, kp1_8, kp1_9, kp1_10, kp1_11, kp1_12⟩ := p1.cells13
   obtain ⟨kp3_0, kp3_1, kp3_2, kp3_3, kp3_4, kp3_5⟩ := p3.c6
   obtain ⟨kp5_0, kp5_1, kp5_2, kp5_3⟩ := p5.c4
   go_wp2_with fail
   go_meet
   clear kp1_0 kp1_1 kp1_2 kp1_3 kp1_4 kp1_5 kp1_6 kp1_7 kp1_8 kp1_9 kp1_10 kp1_11 kp1_12 kp3_0 kp3_1 kp3_2 kp3_3 kp3_4 kp3_5 kp5_0 kp5_1 kp5_2 kp5_3
   have hw : Wr g3 W7 _ := Wr.putN p3 (noU_adam lr b1 b2 eps wd false) 4 (.int .i64 0) (noU_adam lr b1 b2 eps 0 false)
   have hp := p3.putN 4 (.int .i64 0)
   have sHG3 := HG3.out
   have sHG5 := HG5.out
   have sHN3_5 := HN3_5.out
   exact ⟨0, HZ.out, .inr rfl, (Ext.wr E0 hw (by omega)), (hi0.wr hw (by omega)), (hi1.wr hw (by omega)), (hi2.wr hw (by omega)), (hi3.wr hw (by omega)), (p1.wr hw (by omega)), hp, (p5.wr hw (by omega))⟩
  ·obtain ⟨kp1_0, kp1_1, kp1_2, kp1_3, kp1_4, kp1_5, kp1_6, kp1_7, kp1_8, kp1_9, kp1_10, kp1_11, kp1_12⟩ := p1.cells13
   obtain ⟨kp3_0, kp3_1, kp3_2, kp3_3, kp3_4, kp3_5⟩ := p3.c6
   obtain ⟨kp5_0, kp5_1, kp5_2, kp5_3⟩ := p5.c4
   go_wp2_with fail
   go_meet
   clear kp1_0 kp1_1 kp1_2 kp1_3 kp1_4 kp1_5 kp1_6 kp1_7 kp1_8 kp1_9 kp1_10 kp1_11 kp1_12 kp3_0 kp3_1 kp3_2 kp3_3 kp3_4 kp3_5 kp5_0 kp5_1 kp5_2 kp5_3
   exact ⟨wd, HQ.out.2.1, .inl (by trivial), E0, hi0, hi1, hi2, hi3, p1, p3, p5⟩
 case rest =>
  clear E0 hi0 hi1 hi2 hi3 p1 p3 p5
  obtain ⟨wdq, hwq, hwa, E0, hi0, hi1, hi2, hi3, p1, p3, p5⟩ := hcut
  have HWQ := Lib.hid hwq
  obtain ⟨E1, hE1⟩ : ∃ E, stepE ⟨lr, b1, b2, eps, wdq, ap⟩ f pw0 pw1 lw lm lv lg = E := ⟨_, rfl⟩
  obtain ⟨xw1, hxw1⟩ : ∃ x, stepL p1of ⟨lr, b1, b2, eps, wdq, ap⟩ f pw0 pw1 lw lm lv lg = x := ⟨_, rfl⟩
  obtain ⟨xm1, hxm1⟩ : ∃ x, stepL p2of ⟨lr, b1, b2, eps, wdq, ap⟩ f pw0 pw1 lw lm lv lg = x := ⟨_, rfl⟩
  obtain ⟨xv1, hxv1⟩ : ∃ x, stepL p3of ⟨lr, b1, b2, eps, wdq, ap⟩ f pw0 pw1 lw lm lv lg = x := ⟨_, rfl⟩
  have HST1 := Lib.hid (And.intro hE1 (And.intro hxw1 (And.intro hxm1 hxv1)))
  have HEK : Hid (E1 = 0 ∨ E1 = 1 ∨ E1 = 5 ∨ E1 = 2) := Lib.hid (by rw [← hE1]; exact stepE_kinds _ _ _ _ _ _ _ _)
  have HNO : Hid (E1 ≠ 0 → xw1 = [] ∧ xm1 = [] ∧ xv1 = []) := Lib.hid (fun h => by rw [← hxw1, ← hxm1, ← hxv1]; exact ⟨stepL_no (by rw [hE1]; exact h), stepL_no (by rw [hE1]; exact h), stepL_no (by rw [hE1]; exact h)⟩)
  have HLEN : Hid (E1 = 0 → xw1.length = n0 ∧ xm1.length = n0 ∧ xv1.length = n0) := Lib.hid (fun h => by rw [← hxw1, ← hxm1, ← hxv1]; have e := HL.out; have l1 := fun q => stepL_len (q := q) (hE1.trans h); exact ⟨(l1 _).trans e, (l1 _).trans e, (l1 _).trans e⟩)
  have HOK : Hid (E1 = 0 → ∃ K : Nat, f = (K : Int) ∧ K ≤ 40 ∧ lm.length = n0 ∧ lv.length = n0 ∧ lg.length = n0) := Lib.hid (fun h => by have k := stepE_zero.1 (hE1.trans h); have r := rightA_iff.1 k.right; have e := HL.out; exact ⟨f.toNat, by omega, by omega, k.m.trans e, k.v.trans e, k.g.trans e⟩)
  have HNEAR : Hid (E1 = 0 → ∀ K : Nat, f = (K : Int) → ∀ i, i < n0 → (Rat.abs (numR K (atL xm1 i) - shareR K b1 (numR K (atL lm i)) (numR K (atL lg i))) + Rat.abs (numR K (atL xm1 i) - shareR K b1 (numR K (atL lm i)) (numR K (atL lg i))) ≤ ((2 : Int) : Rat) * numR K 1) ∧ (Rat.abs (numR K (atL xv1 i) - shareR K b2 (numR K (atL lv i)) (numR K (atL lg i) * numR K (atL lg i))) + Rat.abs (numR K (atL xv1 i) - shareR K b2 (numR K (atL lv i)) (numR K (atL lg i) * numR K (atL lg i))) ≤ ((3 : Int) : Rat) * numR K 1) ∧ 0 ≤ atL xv1 i) := Lib.hid (fun h K hf i hi => by
   rw [← hxm1, ← hxv1, stepL_ok (hE1.trans h), stepL_ok (hE1.trans h), outL_at (by rw [HL.out]; exact hi), outL_at (by rw [HL.out]; exact hi)]
   exact moments_near hf (hE1.trans h) hwa (by rw [HL.out]; exact hi))
  clear hE1 hxw1 hxm1 hxv1 hwa hwq
  obtain ⟨kp1_0, kp1_1, kp1_2, kp1_3, kp1_4, kp1_5, kp1_6, kp1_7, kp1_8, kp1_9, kp1_10, kp1_11, kp1_12⟩ := p1.cells13
  obtain ⟨kp3_0, kp3_1, kp3_2, kp3_3, kp3_4, kp3_5⟩ := p3.c6
  obtain ⟨kp5_0, kp5_1, kp5_2, kp5_3⟩ := p5.c4
  go_wp2_with fail
  clear kp1_0 kp1_1 kp1_2 kp1_3 kp1_4 kp1_5 kp1_6 kp1_7 kp1_8 kp1_9 kp1_10 kp1_11 kp1_12 kp3_0 kp3_1 kp3_2 kp3_3 kp3_4 kp3_5 kp5_0 kp5_1 kp5_2 kp5_3
  refine (Tryz.refFew17 a0 n0 c0 a1 n1 c1 a2 n2 c2 a3 n3 c3 32 _ HSM.out).mono ?_
  rintro e Wc ⟨rfl, hE⟩
  replace E0 := (Ext.trans E0 hE); replace hi0 := (hi0.ext hE); replace hi1 := (hi1.ext hE); replace hi2 := (hi2.ext hE); replace hi3 := (hi3.ext hE); replace p1 := (p1.ext hE); replace p3 := (p3.ext hE); replace p5 := (p5.ext hE); clear hE
  by_cases hf : n0 + n1 + n2 + n3 ≤ 32
  ·rw [decide_eq_true hf]
   have hn0 : n0 ≤ 32 := by omega
   have HN : Hid (n0 ≤ 40) := Lib.hid (by omega)
   clear hf
   obtain ⟨kp1_0, kp1_1, kp1_2, kp1_3, kp1_4, kp1_5, kp1_6, kp1_7, kp1_8, kp1_9, kp1_10, kp1_11, kp1_12⟩ := p1.cells13
   obtain ⟨kp3_0, kp3_1, kp3_2, kp3_3, kp3_4, kp3_5⟩ := p3.c6
   obtain ⟨kp5_0, kp5_1, kp5_2, kp5_3⟩ := p5.c4
   go_wp2_with fail
   clear kp1_0 kp1_1 kp1_2 kp1_3 kp1_4 kp1_5 kp1_6 kp1_7 kp1_8 kp1_9 kp1_10 kp1_11 kp1_12 kp3_0 kp3_1 kp3_2 kp3_3 kp3_4 kp3_5 kp5_0 kp5_1 kp5_2 kp5_3
   have szc := Ext.size E0
   refine (Tryz.adamStepIs lr b1 b2 eps wdq pw0 pw1 ap f _ HST1.out HN.out HQ.out.1.1 HQ.out.1.2 HWQ.out (hi0.mono (Nat.zero_le _) szc) (hi1.mono (Nat.zero_le _) szc) (hi2.mono (Nat.zero_le _) szc) (hi3.mono (Nat.zero_le _) szc)).mono ?_
   rintro e S1 ⟨⟨v, rfl, x11, x12, x13, m1, rfl, i11, i12, i13⟩, hE⟩
   clear szc; replace E0 := (Ext.trans E0 hE); replace hi0 := (hi0.ext hE); replace hi1 := (hi1.ext hE); replace hi2 := (hi2.ext hE); replace hi3 := (hi3.ext hE); replace p1 := (p1.ext hE); replace p3 := (p3.ext hE); replace p5 := (p5.ext hE); clear hE
   obtain ⟨hx1, hhx⟩ : ∃ n, n = S1.heap.size := ⟨_, rfl⟩
   rw [← hhx] at i11 i12 i13
   have sz1 := Nat.le_of_eq hhx
   clear hhx
   obtain ⟨kp1_0, kp1_1, kp1_2, kp1_3, kp1_4, kp1_5, kp1_6, kp1_7, kp1_8, kp1_9, kp1_10, kp1_11, kp1_12⟩ := p1.cells13
   obtain ⟨kp3_0, kp3_1, kp3_2, kp3_3, kp3_4, kp3_5⟩ := p3.c6
   obtain ⟨kp5_0, kp5_1, kp5_2, kp5_3⟩ := p5.c4
   go_upto_region 7 with (fail)
   clear kp1_0 kp1_1 kp1_2 kp1_3 kp1_4 kp1_5 kp1_6 kp1_7 kp1_8 kp1_9 kp1_10 kp1_11 kp1_12 kp3_0 kp3_1 kp3_2 kp3_3 kp3_4 kp3_5 kp5_0 kp5_1 kp5_2 kp5_3
   have p6 := BxA.new S1 27 #[.slice x11 m1 m1, .slice x12 m1 m1, .slice x13 m1 m1, .slice none 0 0]
   have hE := Ext.alloc1 S1 (.cells #[.slice x11 m1 m1, .slice x12 m1 m1, .slice x13 m1 m1, .slice none 0 0] 27)
   have lt0 := Ext.size E0
   have ltp1 := p1.lt; have ltp3 := p3.lt; have ltp5 := p5.lt
   have ltsz1 := sz1
   obtain ⟨U6, hU6⟩ : ∃ U6, U6 = S1.alloc (.cells #[.slice x11 m1 m1, .slice x12 m1 m1, .slice x13 m1 m1, .slice none 0 0] 27) := ⟨_, rfl⟩
   rw [← hU6] at p6 hE ⊢
   clear hU6; replace E0 := (Ext.trans E0 hE); replace hi0 := (hi0.ext hE); replace hi1 := (hi1.ext hE); replace hi2 := (hi2.ext hE); replace hi3 := (hi3.ext hE); replace p1 := (p1.ext hE); replace p3 := (p3.ext hE); replace p5 := (p5.ext hE)
   replace i11 := (i11.ext hE)
   replace i12 := (i12.ext hE)
   replace i13 := (i13.ext hE)
   replace sz1 := (Nat.le_trans sz1 (Ext.size hE))
   clear hE
   obtain ⟨g6, hg6⟩ : ∃ g, g = S1.heap.size := ⟨_, rfl⟩
   rw [← hg6] at p6 lt0 ltp1 ltp3 ltp5 ltsz1 ⊢
   clear hg6
   have HS6 := Lib.hid (And.intro lt0 (And.intro ltp1 (And.intro ltp3 (And.intro ltp5 ltsz1))))
   clear lt0 ltp1 ltp3 ltp5 ltsz1
   by_cases k1 : E1 = 0
   ·subst k1
    obtain ⟨hl1, hl2, hl3⟩ := HLEN.out (by trivial)
    obtain ⟨K, hfK, hK, hm1, hm2, hm3⟩ := HOK.out (by trivial)
    have HNR := Lib.hid (HNEAR.out (by trivial) K hfK)
    subst hfK
    have HK := Lib.hid hK
    have hmm : n0 = m1 := by have := i12.len; omega
    subst hmm
    obtain rfl : n1 = n0 := by have := hi1.len; omega
    obtain rfl : n2 = n1 := by have := hi2.len; omega
    obtain rfl : n3 = n2 := by have := hi3.len; omega
    clear hl1 hl2 hl3 hm1 hm2 hm3 hK
    obtain ⟨kp1_0, kp1_1, kp1_2, kp1_3, kp1_4, kp1_5, kp1_6, kp1_7, kp1_8, kp1_9, kp1_10, kp1_11, kp1_12⟩ := p1.cells13
    obtain ⟨kp3_0, kp3_1, kp3_2, kp3_3, kp3_4, kp3_5⟩ := p3.c6
    obtain ⟨kp5_0, kp5_1, kp5_2, kp5_3⟩ := p5.c4
    obtain ⟨kp6_0, kp6_1, kp6_2, kp6_3⟩ := p6.c4
    go_wp2_with fail
    clear kp1_0 kp1_1 kp1_2 kp1_3 kp1_4 kp1_5 kp1_6 kp1_7 kp1_8 kp1_9 kp1_10 kp1_11 kp1_12 kp3_0 kp3_1 kp3_2 kp3_3 kp3_4 kp3_5 kp5_0 kp5_1 kp5_2 kp5_3 kp6_0 kp6_1 kp6_2 kp6_3; clear hi0 i11 p1
    go_loopw [8] (fun i wr => ∃ k : Nat, i = .int .i64 (k : Int) ∧ k ≤ n3 ∧ Ext w wr ∧ Iw 0 w.heap.size wr a1 n3 c1 (lm) ∧ Iw 0 w.heap.size wr a2 n3 c2 (lv) ∧ Iw 0 w.heap.size wr a3 n3 c3 (lg) ∧ BxA wr g3 23 #[.int .i64 lr, .int .i64 b1, .int .i64 b2, .int .i64 eps, .int .i64 wdq, .bool ap] ∧ BxA wr g5 27 #[.slice a0 n3 c0, .slice a1 n3 c1, .slice a2 n3 c2, .slice a3 n3 c3] ∧ Iw Wc.heap.size hx1 wr x12 n3 n3 (xm1) ∧ Iw Wc.heap.size hx1 wr x13 n3 n3 (xv1) ∧ hx1 ≤ wr.heap.size ∧ BxA wr g6 27 #[.slice x11 n3 n3, .slice x12 n3 n3, .slice x13 n3 n3, .slice none 0 0]) (fun i _ => n3 - (intOf i).toNat)
    case atStart => exact ⟨0, rfl, by omega, E0, hi1, hi2, hi3, p3, p5, i12, i13, sz1, p6⟩
    case round =>
     clear E0 hi1 hi2 hi3 p3 p5 i12 i13 sz1 p6
     obtain ⟨k, rfl, hk, E0, hi1, hi2, hi3, p3, p5, i12, i13, sz1, p6⟩ := hrel
     by_cases hlt : k < n3
     ·have hltI : (k : Int) < (n3 : Int) := by omega
      have hk63 : (k : Int) < 9223372036854775807 := by omega
      have HVM := Lib.hid (hi1.i64 hlt)
      have HVV := Lib.hid (hi2.i64 hlt)
      have HVG := Lib.hid (hi3.i64 hlt)
      have HXM := Lib.hid (i12.i64 hlt)
      have HXV := Lib.hid (i13.i64 hlt)
      have HNK := Lib.hid (HNR.out k hlt)
      have HPOS : Hid (¬ atL xv1 k < 0) := Lib.hid (by have := HNK.out.2.2; omega)
      have SG : Hid (SmR 4 (numR K (atL lg k))) := Lib.hid (SmR.num HVG.out.1 HVG.out.2 HK.out)
      have SM : Hid (SmR 4 (numR K (atL lm k))) := Lib.hid (SmR.num HVM.out.1 HVM.out.2 HK.out)
      have SV : Hid (SmR 4 (numR K (atL lv k))) := Lib.hid (SmR.num HVV.out.1 HVV.out.2 HK.out)
      have SGG : Hid (SmR 9 (numR K (atL lg k) * numR K (atL lg k))) := Lib.hid ((SG.out.mul SG.out).mono (by omega))
      have SS : ∀ (be : Int) (x y : Rat), I64 be → SmR 4 x → SmR 9 y → SmR 37 (shareR K be x y) := fun be x y hb sx sy => share_small hb HK.out sx sy
      have SX1 : Hid (SmR 37 (shareR K b1 (numR K (atL lm k)) (numR K (atL lg k)))) := Lib.hid (SS _ _ _ HQ.out.2.2.1 SM.out (SG.out.mono (by omega)))
      have SX2 : Hid (SmR 37 (shareR K b2 (numR K (atL lv k)) (numR K (atL lg k) * numR K (atL lg k)))) := Lib.hid (SS _ _ _ HQ.out.2.2.2 SV.out SGG.out)
      clear SS
      obtain ⟨b_a1, o_a1, rfl, -, -⟩ := hi1.some (by omega)
      obtain ⟨b_a2, o_a2, rfl, -, -⟩ := hi2.some (by omega)
      obtain ⟨b_a3, o_a3, rfl, -, -⟩ := hi3.some (by omega)
      obtain ⟨b_x12, o_x12, rfl, -, -⟩ := i12.some (by omega)
      obtain ⟨b_x13, o_x13, rfl, -, -⟩ := i13.some (by omega)
      obtain ⟨kp3_0, kp3_1, kp3_2, kp3_3, kp3_4, kp3_5⟩ := p3.c6
      obtain ⟨kp5_0, kp5_1, kp5_2, kp5_3⟩ := p5.c4
      obtain ⟨kp6_0, kp6_1, kp6_2, kp6_3⟩ := p6.c4
      go_upto_region 14 with (fail)
      clear kp3_0 kp3_1 kp3_2 kp3_3 kp3_4 kp3_5 kp5_0 kp5_1 kp5_2 kp5_3 kp6_0 kp6_1 kp6_2 kp6_3; have ltp3 := p3.lt; have ltp5 := p5.lt; have ltp6 := p6.lt
      have ltsz1 := sz1
      have szw8 := Ext.size E0
      refine region_gs [.one fun v _ => v = .pointer (some ⟨g5, 3, none⟩),
        .one fun v _ => v = .slice (some ⟨b_a3, o_a3, none⟩) n3 c3,
        .one fun v _ => v = .int .i64 (k : Int),
        .one fun v _ => v = .pointer (some ⟨b_a3, o_a3 + k, none⟩),
        .one fun v _ => v = .int .i64 (atL lg k),
        .one fun v _ => v = .int .i64 (K : Int),
        .one fun v W => Rw W v (numR K (atL lg k)),
        .one fun v W => ∃ g, v = .pointer (some ⟨g, 0, none⟩) ∧ wr.heap.size ≤ g ∧ Form W g 45 3,
        .three 7 6 (fun p r _ W => Put3 wr.heap.size 45 p r W)]
       (fun W => Ext w W ∧ Iw 0 w.heap.size W (some ⟨b_a1, o_a1, none⟩) n3 c1 (lm) ∧ Iw 0 w.heap.size W (some ⟨b_a2, o_a2, none⟩) n3 c2 (lv) ∧ Iw 0 w.heap.size W (some ⟨b_a3, o_a3, none⟩) n3 c3 (lg) ∧ BxA W g3 23 #[.int .i64 lr, .int .i64 b1, .int .i64 b2, .int .i64 eps, .int .i64 wdq, .bool ap] ∧ BxA W g5 27 #[.slice a0 n3 c0, .slice (some ⟨b_a1, o_a1, none⟩) n3 c1, .slice (some ⟨b_a2, o_a2, none⟩) n3 c2, .slice (some ⟨b_a3, o_a3, none⟩) n3 c3] ∧ Iw Wc.heap.size hx1 W (some ⟨b_x12, o_x12, none⟩) n3 n3 (xm1) ∧ Iw Wc.heap.size hx1 W (some ⟨b_x13, o_x13, none⟩) n3 n3 (xv1) ∧ hx1 ≤ W.heap.size ∧ BxA W g6 27 #[.slice x11 n3 n3, .slice (some ⟨b_x12, o_x12, none⟩) n3 n3, .slice (some ⟨b_x13, o_x13, none⟩) n3 n3, .slice none 0 0] ∧ wr.heap.size ≤ W.heap.size) ⟨Good.is _, Good.is _, Good.is _, Good.is _, Good.is _, Good.is _, Good.rat _, Good.box _ _ _, cert_put3, trivial⟩
       ⟨E0, hi1, hi2, hi3, p3, p5, i12, i13, sz1, p6, Nat.le_refl _⟩ (A := ?A8) ?hA8 ?howe8 ?hfin8
      case hA8 =>
       intro vs
       simp only [putAll, Act.put, sA, sZ, sS, Nat.zero_add, Nat.reduceAdd]
       exact rfl
      case howe8 =>
       clear E0 hi1 hi2 hi3 p3 p5 i12 i13 sz1 p6
       intro hf
       refine ⟨oE 0 [] hf rfl ?_, oE 1 [0] hf rfl ?_, oE 2 [] hf rfl ?_, oE 3 [1, 2] hf rfl ?_, oE 4 [3] hf rfl ?_, oE 5 [] hf rfl ?_, oE 6 [4, 5] hf rfl ?_, oE 7 [] hf rfl ?_, oW 8 [7, 6] hf rfl ?_, trivial⟩
       all_goals intro vs W hS hp hx KO hKO
       all_goals simp only [Act.put, sA, sZ, sS] at hKO
       ·go_simp; exact hKO _ W (.refl W) rfl
       ·have e0 := isOf hp.1; simp only [e0] at hKO; have fc3 := BxA.cell (hS.2.2.2.2.2.1) 3 (v := .slice (some ⟨b_a3, o_a3, none⟩) n3 c3) rfl; go_simp; exact hKO _ W (.refl W) rfl
       ·go_simp; exact hKO _ W (.refl W) rfl
       ·have e1 := isOf hp.1; have e2 := isOf hp.2.1; simp only [e1, e2] at hKO; go_simp; exact hKO _ W (.refl W) rfl
       ·have e3 := isOf hp.1; simp only [e3] at hKO
        have fc := Iw.cell (hS.2.2.2.1) (i := k) (by omega)
        go_simp; exact hKO _ W (.refl W) rfl
       ·go_simp; exact hKO _ W (.refl W) rfl
       ·have e4 := isOf hp.1; have e5 := isOf hp.2.1; simp only [e4, e5] at hKO; go_simp
        refine (Tryz.num18 (atL lg k) K HK.out _ HVG.out.1 HVG.out.2).mono ?_
        rintro e W1 ⟨v, rfl, hv, hE⟩
        exact hKO _ W1 hE hv
       ·have hn := Bx3.new W 45 (.bool false) (.slice none 0 0) (.slice none 0 0)
        have hE := Ext.alloc1 W (.cells #[.bool false, .slice none 0 0, .slice none 0 0] 45)
        have hsz := hS.2.2.2.2.2.2.2.2.2.2
        go_simp
        exact hKO _ _ hE ⟨_, rfl, hsz, hn.form⟩
       ·have q7 := hp.1; have q6 := hp.2.1
        obtain ⟨g, ev, hg, hf⟩ := q7
        replace ev : vs 7 = _ := ev
        obtain ⟨x0_0, x0_1, x0_2, hx, hno⟩ := hf.bx3
        have qr := q6
        obtain ⟨b3, a3, n3, c3, d3, m3, o3, er, -, -, -⟩ := qr
        replace er : vs 6 = _ := er
        have r0 := hx.froz0
        have t0 := hx.cell0
        have r1 := hx.froz1
        have t1 := hx.cell1
        have r2 := hx.froz2
        have t2 := hx.cell2
        have hw := Wr.set3 hx hno b3 a3 n3 c3 d3 m3 o3
        have hq := hx.set (.bool b3) (.slice a3 n3 c3) (.slice d3 m3 o3)
        simp only [ev, er] at hKO; go_simp
        exact hKO _ _ hw ⟨(Ext.wr hS.1 hw (by omega)), (hS.2.1.wr hw (by omega)), (hS.2.2.1.wr hw (by omega)), (hS.2.2.2.1.wr hw (by omega)), (hS.2.2.2.2.1.wr hw (by omega)), (hS.2.2.2.2.2.1.wr hw (by omega)), (hS.2.2.2.2.2.2.1.wr hw (by omega)), (hS.2.2.2.2.2.2.2.1.wr hw (by omega)), (Nat.le_trans hS.2.2.2.2.2.2.2.2.1 hw.apart.size), (hS.2.2.2.2.2.2.2.2.2.1.wr hw (by omega)), (Nat.le_trans hS.2.2.2.2.2.2.2.2.2.2 hw.apart.size)⟩ ⟨g, b3, a3, n3, c3, d3, m3, o3, ev, er, hg, hq⟩
      intro vs W8 hS hp
      clear ltsz1 szw8 E0 hi1 hi2 hi3 p3 p5 i12 i13 sz1 p6
      obtain ⟨E0, hi1, hi2, hi3, p3, p5, i12, i13, sz1, p6, sz8⟩ := hS
      obtain ⟨h8_0, h8_1, h8_2, h8_3, h8_4, h8_5, h8_6, h8_7, h8_8, -⟩ := hp
      obtain ⟨g8_8, b8_8, a8_8, n8_8, c8_8, d8_8, m8_8, o8_8, ev8_8, er8_8, hg8_8, p8_8⟩ := h8_8
      replace ev8_8 : vs 7 = _ := ev8_8; replace er8_8 : vs 6 = _ := er8_8; replace h8_6 := (show Rw W8 (vs 6) (numR K (atL lg k)) from h8_6)
      rw [er8_8] at h8_6
      replace h8_0 : vs 0 = .pointer (some ⟨g5, 3, none⟩) := h8_0
      replace h8_1 : vs 1 = .slice (some ⟨b_a3, o_a3, none⟩) n3 c3 := h8_1
      replace h8_2 : vs 2 = .int .i64 (k : Int) := h8_2
      replace h8_3 : vs 3 = .pointer (some ⟨b_a3, o_a3 + k, none⟩) := h8_3
      replace h8_4 : vs 4 = .int .i64 (atL lg k) := h8_4
      replace h8_5 : vs 5 = .int .i64 (K : Int) := h8_5
      simp only [ev8_8, er8_8, h8_0, h8_1, h8_2, h8_3, h8_4, h8_5]
      clear ev8_8 er8_8 h8_0 h8_1 h8_2 h8_3 h8_4 h8_5 h8_7
      obtain ⟨kp3_0, kp3_1, kp3_2, kp3_3, kp3_4, kp3_5⟩ := p3.c6
      obtain ⟨kp5_0, kp5_1, kp5_2, kp5_3⟩ := p5.c4
      obtain ⟨kp6_0, kp6_1, kp6_2, kp6_3⟩ := p6.c4
      obtain ⟨kp8_8_0, kp8_8_1, kp8_8_2⟩ := p8_8.c3
      go_upto_region 15 with (fail)
      clear kp3_0 kp3_1 kp3_2 kp3_3 kp3_4 kp3_5 kp5_0 kp5_1 kp5_2 kp5_3 kp6_0 kp6_1 kp6_2 kp6_3 kp8_8_0 kp8_8_1 kp8_8_2; have ltp8_8 := p8_8.lt
      have ltsz1 := sz1
      have szw9 := Ext.size E0
      refine region_gs [.one fun v _ => v = .pointer (some ⟨g3, 1, none⟩),
        .one fun v _ => v = .int .i64 b1,
        .one fun v _ => v = .pointer (some ⟨g5, 1, none⟩),
        .one fun v _ => v = .slice (some ⟨b_a1, o_a1, none⟩) n3 c1,
        .one fun v _ => v = .int .i64 (k : Int),
        .one fun v _ => v = .pointer (some ⟨b_a1, o_a1 + k, none⟩),
        .one fun v _ => v = .int .i64 (atL lm k),
        .one fun v _ => v = .int .i64 (K : Int),
        .one fun v W => Rw W v (numR K (atL lm k)),
        .one fun v _ => v = .agg #[.bool b8_8, .slice a8_8 n8_8 c8_8, .slice d8_8 m8_8 o8_8],
        .one fun v _ => v = .int .i64 (K : Int),
        .one fun v W => Rw W v (shareR K b1 (numR K (atL lm k)) (numR K (atL lg k))),
        .one fun v W => ∃ g, v = .pointer (some ⟨g, 0, none⟩) ∧ W8.heap.size ≤ g ∧ Form W g 45 3,
        .three 12 11 (fun p r _ W => Put3 W8.heap.size 45 p r W)]
       (fun W => Ext w W ∧ Iw 0 w.heap.size W (some ⟨b_a1, o_a1, none⟩) n3 c1 (lm) ∧ Iw 0 w.heap.size W (some ⟨b_a2, o_a2, none⟩) n3 c2 (lv) ∧ Iw 0 w.heap.size W (some ⟨b_a3, o_a3, none⟩) n3 c3 (lg) ∧ BxA W g3 23 #[.int .i64 lr, .int .i64 b1, .int .i64 b2, .int .i64 eps, .int .i64 wdq, .bool ap] ∧ BxA W g5 27 #[.slice a0 n3 c0, .slice (some ⟨b_a1, o_a1, none⟩) n3 c1, .slice (some ⟨b_a2, o_a2, none⟩) n3 c2, .slice (some ⟨b_a3, o_a3, none⟩) n3 c3] ∧ Iw Wc.heap.size hx1 W (some ⟨b_x12, o_x12, none⟩) n3 n3 (xm1) ∧ Iw Wc.heap.size hx1 W (some ⟨b_x13, o_x13, none⟩) n3 n3 (xv1) ∧ hx1 ≤ W.heap.size ∧ BxA W g6 27 #[.slice x11 n3 n3, .slice (some ⟨b_x12, o_x12, none⟩) n3 n3, .slice (some ⟨b_x13, o_x13, none⟩) n3 n3, .slice none 0 0] ∧ Rw W (.agg #[.bool b8_8, .slice a8_8 n8_8 c8_8, .slice d8_8 m8_8 o8_8]) (numR K (atL lg k)) ∧ Bx3 W g8_8 45 (.bool b8_8) (.slice a8_8 n8_8 c8_8) (.slice d8_8 m8_8 o8_8) ∧ W8.heap.size ≤ W.heap.size) ⟨Good.is _, Good.is _, Good.is _, Good.is _, Good.is _, Good.is _, Good.is _, Good.is _, Good.rat _, Good.is _, Good.is _, Good.rat _, Good.box _ _ _, cert_put3, trivial⟩
       ⟨E0, hi1, hi2, hi3, p3, p5, i12, i13, sz1, p6, h8_6, p8_8, Nat.le_refl _⟩ (A := ?A9) ?hA9 ?howe9 ?hfin9
      case hA9 =>
       intro vs
       simp only [putAll, Act.put, sA, sZ, sS, Nat.zero_add, Nat.reduceAdd]
       exact rfl
      case howe9 =>
       clear E0 hi1 hi2 hi3 p3 p5 i12 i13 sz1 p6 h8_6 p8_8
       intro hf
       refine ⟨oE 0 [] hf rfl ?_, oE 1 [0] hf rfl ?_, oE 2 [] hf rfl ?_, oE 3 [2] hf rfl ?_, oE 4 [] hf rfl ?_, oE 5 [3, 4] hf rfl ?_, oE 6 [5] hf rfl ?_, oE 7 [] hf rfl ?_, oE 8 [6, 7] hf rfl ?_, oE 9 [] hf rfl ?_, oE 10 [] hf rfl ?_, oE 11 [1, 8, 9, 10] hf rfl ?_, oE 12 [] hf rfl ?_, oW 13 [12, 11] hf rfl ?_, trivial⟩
       all_goals intro vs W hS hp hx KO hKO
       all_goals simp only [Act.put, sA, sZ, sS] at hKO
       ·go_simp; exact hKO _ W (.refl W) rfl
       ·have e0 := isOf hp.1; simp only [e0] at hKO; have fc1 := BxA.cell (hS.2.2.2.2.1) 1 (v := .int .i64 b1) rfl; go_simp; exact hKO _ W (.refl W) rfl
       ·go_simp; exact hKO _ W (.refl W) rfl
       ·have e2 := isOf hp.1; simp only [e2] at hKO; have fc1 := BxA.cell (hS.2.2.2.2.2.1) 1 (v := .slice (some ⟨b_a1, o_a1, none⟩) n3 c1) rfl; go_simp; exact hKO _ W (.refl W) rfl
       ·go_simp; exact hKO _ W (.refl W) rfl
       ·have e3 := isOf hp.1; have e4 := isOf hp.2.1; simp only [e3, e4] at hKO; go_simp; exact hKO _ W (.refl W) rfl
       ·have e5 := isOf hp.1; simp only [e5] at hKO
        have fc := Iw.cell (hS.2.1) (i := k) (by omega)
        go_simp; exact hKO _ W (.refl W) rfl
       ·go_simp; exact hKO _ W (.refl W) rfl
       ·have e6 := isOf hp.1; have e7 := isOf hp.2.1; simp only [e6, e7] at hKO; go_simp
        refine (Tryz.num18 (atL lm k) K HK.out _ HVM.out.1 HVM.out.2).mono ?_
        rintro e W1 ⟨v, rfl, hv, hE⟩
        exact hKO _ W1 hE hv
       ·have fc0 := hS.2.2.2.2.2.2.2.2.2.2.2.1.cell0; have fc1 := hS.2.2.2.2.2.2.2.2.2.2.2.1.cell1; have fc2 := hS.2.2.2.2.2.2.2.2.2.2.2.1.cell2; go_simp; exact hKO _ W (.refl W) rfl
       ·go_simp; exact hKO _ W (.refl W) rfl
       ·have e1 := isOf hp.1; have q8 := hp.2.1; have e9 := isOf hp.2.2.1; have e10 := isOf hp.2.2.2.1; simp only [e1, e9, e10] at hKO; go_simp
        refine (Tryz.share18 b1 K HK.out HQ.out.2.2.1.1 HQ.out.2.2.1.2 q8 (hS.2.2.2.2.2.2.2.2.2.2.1) SM.out (SG.out.mono (by omega))).mono ?_
        rintro e W1 ⟨v, rfl, hv, hE⟩
        exact hKO _ W1 hE hv
       ·have hn := Bx3.new W 45 (.bool false) (.slice none 0 0) (.slice none 0 0)
        have hE := Ext.alloc1 W (.cells #[.bool false, .slice none 0 0, .slice none 0 0] 45)
        have hsz := hS.2.2.2.2.2.2.2.2.2.2.2.2
        go_simp
        exact hKO _ _ hE ⟨_, rfl, hsz, hn.form⟩
       ·have q12 := hp.1; have q11 := hp.2.1
        obtain ⟨g, ev, hg, hf⟩ := q12
        replace ev : vs 12 = _ := ev
        obtain ⟨x0_0, x0_1, x0_2, hx, hno⟩ := hf.bx3
        have qr := q11
        obtain ⟨b3, a3, n3, c3, d3, m3, o3, er, -, -, -⟩ := qr
        replace er : vs 11 = _ := er
        have r0 := hx.froz0
        have t0 := hx.cell0
        have r1 := hx.froz1
        have t1 := hx.cell1
        have r2 := hx.froz2
        have t2 := hx.cell2
        have hw := Wr.set3 hx hno b3 a3 n3 c3 d3 m3 o3
        have hq := hx.set (.bool b3) (.slice a3 n3 c3) (.slice d3 m3 o3)
        simp only [ev, er] at hKO; go_simp
        exact hKO _ _ hw ⟨(Ext.wr hS.1 hw (by omega)), (hS.2.1.wr hw (by omega)), (hS.2.2.1.wr hw (by omega)), (hS.2.2.2.1.wr hw (by omega)), (hS.2.2.2.2.1.wr hw (by omega)), (hS.2.2.2.2.2.1.wr hw (by omega)), (hS.2.2.2.2.2.2.1.wr hw (by omega)), (hS.2.2.2.2.2.2.2.1.wr hw (by omega)), (Nat.le_trans hS.2.2.2.2.2.2.2.2.1 hw.apart.size), (hS.2.2.2.2.2.2.2.2.2.1.wr hw (by omega)), (hS.2.2.2.2.2.2.2.2.2.2.1.wr hw), (hS.2.2.2.2.2.2.2.2.2.2.2.1.wr hw (by omega)), (Nat.le_trans hS.2.2.2.2.2.2.2.2.2.2.2.2 hw.apart.size)⟩ ⟨g, b3, a3, n3, c3, d3, m3, o3, ev, er, hg, hq⟩
      intro vs W9 hS hp
      clear ltsz1 szw9 E0 hi1 hi2 hi3 p3 p5 i12 i13 sz1 p6 h8_6 p8_8
      obtain ⟨E0, hi1, hi2, hi3, p3, p5, i12, i13, sz1, p6, h8_6, p8_8, sz9⟩ := hS
      obtain ⟨h9_0, h9_1, h9_2, h9_3, h9_4, h9_5, h9_6, h9_7, h9_8, h9_9, h9_10, h9_11, h9_12, h9_13, -⟩ := hp
      obtain ⟨g9_13, b9_13, a9_13, n9_13, c9_13, d9_13, m9_13, o9_13, ev9_13, er9_13, hg9_13, p9_13⟩ := h9_13
      replace ev9_13 : vs 12 = _ := ev9_13; replace er9_13 : vs 11 = _ := er9_13; replace h9_11 := (show Rw W9 (vs 11) (shareR K b1 (numR K (atL lm k)) (numR K (atL lg k))) from h9_11)
      rw [er9_13] at h9_11
      replace h9_0 : vs 0 = .pointer (some ⟨g3, 1, none⟩) := h9_0
      replace h9_1 : vs 1 = .int .i64 b1 := h9_1
      replace h9_2 : vs 2 = .pointer (some ⟨g5, 1, none⟩) := h9_2
      replace h9_3 : vs 3 = .slice (some ⟨b_a1, o_a1, none⟩) n3 c1 := h9_3
      replace h9_4 : vs 4 = .int .i64 (k : Int) := h9_4
      replace h9_5 : vs 5 = .pointer (some ⟨b_a1, o_a1 + k, none⟩) := h9_5
      replace h9_6 : vs 6 = .int .i64 (atL lm k) := h9_6
      replace h9_7 : vs 7 = .int .i64 (K : Int) := h9_7
      replace h9_9 : vs 9 = .agg #[.bool b8_8, .slice a8_8 n8_8 c8_8, .slice d8_8 m8_8 o8_8] := h9_9
      replace h9_10 : vs 10 = .int .i64 (K : Int) := h9_10
      simp only [ev9_13, er9_13, h9_0, h9_1, h9_2, h9_3, h9_4, h9_5, h9_6, h9_7, h9_9, h9_10]
      replace h9_8 : Rw W9 (vs 8) (numR K (atL lm k)) := h9_8
      generalize vs 8 = u9_8 at h9_8 ⊢
      clear ev9_13 er9_13 h9_0 h9_1 h9_2 h9_3 h9_4 h9_5 h9_6 h9_7 h9_9 h9_10 h9_12
      obtain ⟨kp3_0, kp3_1, kp3_2, kp3_3, kp3_4, kp3_5⟩ := p3.c6
      obtain ⟨kp5_0, kp5_1, kp5_2, kp5_3⟩ := p5.c4
      obtain ⟨kp6_0, kp6_1, kp6_2, kp6_3⟩ := p6.c4
      obtain ⟨kp8_8_0, kp8_8_1, kp8_8_2⟩ := p8_8.c3
      obtain ⟨kp9_13_0, kp9_13_1, kp9_13_2⟩ := p9_13.c3
      go_upto_region 16 with (fail)
      clear kp3_0 kp3_1 kp3_2 kp3_3 kp3_4 kp3_5 kp5_0 kp5_1 kp5_2 kp5_3 kp6_0 kp6_1 kp6_2 kp6_3 kp8_8_0 kp8_8_1 kp8_8_2 kp9_13_0 kp9_13_1 kp9_13_2; have ltp9_13 := p9_13.lt
      have ltsz1 := sz1
      have szw10 := Ext.size E0
      refine region_gs [.one fun v _ => v = .pointer (some ⟨g3, 2, none⟩),
        .one fun v _ => v = .int .i64 b2,
        .one fun v _ => v = .pointer (some ⟨g5, 2, none⟩),
        .one fun v _ => v = .slice (some ⟨b_a2, o_a2, none⟩) n3 c2,
        .one fun v _ => v = .int .i64 (k : Int),
        .one fun v _ => v = .pointer (some ⟨b_a2, o_a2 + k, none⟩),
        .one fun v _ => v = .int .i64 (atL lv k),
        .one fun v _ => v = .int .i64 (K : Int),
        .one fun v W => Rw W v (numR K (atL lv k)),
        .one fun v _ => v = .agg #[.bool b8_8, .slice a8_8 n8_8 c8_8, .slice d8_8 m8_8 o8_8],
        .one fun v _ => v = .agg #[.bool b8_8, .slice a8_8 n8_8 c8_8, .slice d8_8 m8_8 o8_8],
        .one fun v W => Rw W v (numR K (atL lg k) * numR K (atL lg k)),
        .one fun v _ => v = .int .i64 (K : Int),
        .one fun v W => Rw W v (shareR K b2 (numR K (atL lv k)) (numR K (atL lg k) * numR K (atL lg k))),
        .one fun v W => ∃ g, v = .pointer (some ⟨g, 0, none⟩) ∧ W9.heap.size ≤ g ∧ Form W g 45 3,
        .three 14 13 (fun p r _ W => Put3 W9.heap.size 45 p r W)]
       (fun W => Ext w W ∧ Iw 0 w.heap.size W (some ⟨b_a1, o_a1, none⟩) n3 c1 (lm) ∧ Iw 0 w.heap.size W (some ⟨b_a2, o_a2, none⟩) n3 c2 (lv) ∧ Iw 0 w.heap.size W (some ⟨b_a3, o_a3, none⟩) n3 c3 (lg) ∧ BxA W g3 23 #[.int .i64 lr, .int .i64 b1, .int .i64 b2, .int .i64 eps, .int .i64 wdq, .bool ap] ∧ BxA W g5 27 #[.slice a0 n3 c0, .slice (some ⟨b_a1, o_a1, none⟩) n3 c1, .slice (some ⟨b_a2, o_a2, none⟩) n3 c2, .slice (some ⟨b_a3, o_a3, none⟩) n3 c3] ∧ Iw Wc.heap.size hx1 W (some ⟨b_x12, o_x12, none⟩) n3 n3 (xm1) ∧ Iw Wc.heap.size hx1 W (some ⟨b_x13, o_x13, none⟩) n3 n3 (xv1) ∧ hx1 ≤ W.heap.size ∧ BxA W g6 27 #[.slice x11 n3 n3, .slice (some ⟨b_x12, o_x12, none⟩) n3 n3, .slice (some ⟨b_x13, o_x13, none⟩) n3 n3, .slice none 0 0] ∧ Rw W (.agg #[.bool b8_8, .slice a8_8 n8_8 c8_8, .slice d8_8 m8_8 o8_8]) (numR K (atL lg k)) ∧ Bx3 W g8_8 45 (.bool b8_8) (.slice a8_8 n8_8 c8_8) (.slice d8_8 m8_8 o8_8) ∧ Rw W (.agg #[.bool b9_13, .slice a9_13 n9_13 c9_13, .slice d9_13 m9_13 o9_13]) (shareR K b1 (numR K (atL lm k)) (numR K (atL lg k))) ∧ Bx3 W g9_13 45 (.bool b9_13) (.slice a9_13 n9_13 c9_13) (.slice d9_13 m9_13 o9_13) ∧ Rw W u9_8 (numR K (atL lm k)) ∧ W9.heap.size ≤ W.heap.size) ⟨Good.is _, Good.is _, Good.is _, Good.is _, Good.is _, Good.is _, Good.is _, Good.is _, Good.rat _, Good.is _, Good.is _, Good.rat _, Good.is _, Good.rat _, Good.box _ _ _, cert_put3, trivial⟩
       ⟨E0, hi1, hi2, hi3, p3, p5, i12, i13, sz1, p6, h8_6, p8_8, h9_11, p9_13, h9_8, Nat.le_refl _⟩ (A := ?A10) ?hA10 ?howe10 ?hfin10
      case hA10 =>
       intro vs
       simp only [putAll, Act.put, sA, sZ, sS, Nat.zero_add, Nat.reduceAdd]
       exact rfl
      case howe10 =>
       clear E0 hi1 hi2 hi3 p3 p5 i12 i13 sz1 p6 h8_6 p8_8 h9_11 p9_13 h9_8
       intro hf
       refine ⟨oE 0 [] hf rfl ?_, oE 1 [0] hf rfl ?_, oE 2 [] hf rfl ?_, oE 3 [2] hf rfl ?_, oE 4 [] hf rfl ?_, oE 5 [3, 4] hf rfl ?_, oE 6 [5] hf rfl ?_, oE 7 [] hf rfl ?_, oE 8 [6, 7] hf rfl ?_, oE 9 [] hf rfl ?_, oE 10 [] hf rfl ?_, oE 11 [9, 10] hf rfl ?_, oE 12 [] hf rfl ?_, oE 13 [1, 8, 11, 12] hf rfl ?_, oE 14 [] hf rfl ?_, oW 15 [14, 13] hf rfl ?_, trivial⟩
       all_goals intro vs W hS hp hx KO hKO
       all_goals simp only [Act.put, sA, sZ, sS] at hKO
       ·go_simp; exact hKO _ W (.refl W) rfl
       ·have e0 := isOf hp.1; simp only [e0] at hKO; have fc2 := BxA.cell (hS.2.2.2.2.1) 2 (v := .int .i64 b2) rfl; go_simp; exact hKO _ W (.refl W) rfl
       ·go_simp; exact hKO _ W (.refl W) rfl
       ·have e2 := isOf hp.1; simp only [e2] at hKO; have fc2 := BxA.cell (hS.2.2.2.2.2.1) 2 (v := .slice (some ⟨b_a2, o_a2, none⟩) n3 c2) rfl; go_simp; exact hKO _ W (.refl W) rfl
       ·go_simp; exact hKO _ W (.refl W) rfl
       ·have e3 := isOf hp.1; have e4 := isOf hp.2.1; simp only [e3, e4] at hKO; go_simp; exact hKO _ W (.refl W) rfl
       ·have e5 := isOf hp.1; simp only [e5] at hKO
        have fc := Iw.cell (hS.2.2.1) (i := k) (by omega)
        go_simp; exact hKO _ W (.refl W) rfl
       ·go_simp; exact hKO _ W (.refl W) rfl
       ·have e6 := isOf hp.1; have e7 := isOf hp.2.1; simp only [e6, e7] at hKO; go_simp
        refine (Tryz.num18 (atL lv k) K HK.out _ HVV.out.1 HVV.out.2).mono ?_
        rintro e W1 ⟨v, rfl, hv, hE⟩
        exact hKO _ W1 hE hv
       ·have fc0 := hS.2.2.2.2.2.2.2.2.2.2.2.1.cell0; have fc1 := hS.2.2.2.2.2.2.2.2.2.2.2.1.cell1; have fc2 := hS.2.2.2.2.2.2.2.2.2.2.2.1.cell2; go_simp; exact hKO _ W (.refl W) rfl
       ·have fc0 := hS.2.2.2.2.2.2.2.2.2.2.2.1.cell0; have fc1 := hS.2.2.2.2.2.2.2.2.2.2.2.1.cell1; have fc2 := hS.2.2.2.2.2.2.2.2.2.2.2.1.cell2; go_simp; exact hKO _ W (.refl W) rfl
       ·have e9 := isOf hp.1; have e10 := isOf hp.2.1; simp only [e9, e10] at hKO; go_simp
        refine (Tryz.refRMul (hS.2.2.2.2.2.2.2.2.2.2.1) (hS.2.2.2.2.2.2.2.2.2.2.1) SG.out SG.out (by omega)).mono ?_
        rintro e W1 ⟨v, rfl, hv, hE⟩
        exact hKO _ W1 hE hv
       ·go_simp; exact hKO _ W (.refl W) rfl
       ·have e1 := isOf hp.1; have q8 := hp.2.1; have q11 := hp.2.2.1; have e12 := isOf hp.2.2.2.1; simp only [e1, e12] at hKO; go_simp
        refine (Tryz.share18 b2 K HK.out HQ.out.2.2.2.1 HQ.out.2.2.2.2 q8 q11 SV.out SGG.out).mono ?_
        rintro e W1 ⟨v, rfl, hv, hE⟩
        exact hKO _ W1 hE hv
       ·have hn := Bx3.new W 45 (.bool false) (.slice none 0 0) (.slice none 0 0)
        have hE := Ext.alloc1 W (.cells #[.bool false, .slice none 0 0, .slice none 0 0] 45)
        have hsz := hS.2.2.2.2.2.2.2.2.2.2.2.2.2.2.2
        go_simp
        exact hKO _ _ hE ⟨_, rfl, hsz, hn.form⟩
       ·have q14 := hp.1; have q13 := hp.2.1
        obtain ⟨g, ev, hg, hf⟩ := q14
        replace ev : vs 14 = _ := ev
        obtain ⟨x0_0, x0_1, x0_2, hx, hno⟩ := hf.bx3
        have qr := q13
        obtain ⟨b3, a3, n3, c3, d3, m3, o3, er, -, -, -⟩ := qr
        replace er : vs 13 = _ := er
        have r0 := hx.froz0
        have t0 := hx.cell0
        have r1 := hx.froz1
        have t1 := hx.cell1
        have r2 := hx.froz2
        have t2 := hx.cell2
        have hw := Wr.set3 hx hno b3 a3 n3 c3 d3 m3 o3
        have hq := hx.set (.bool b3) (.slice a3 n3 c3) (.slice d3 m3 o3)
        simp only [ev, er] at hKO; go_simp
        exact hKO _ _ hw ⟨(Ext.wr hS.1 hw (by omega)), (hS.2.1.wr hw (by omega)), (hS.2.2.1.wr hw (by omega)), (hS.2.2.2.1.wr hw (by omega)), (hS.2.2.2.2.1.wr hw (by omega)), (hS.2.2.2.2.2.1.wr hw (by omega)), (hS.2.2.2.2.2.2.1.wr hw (by omega)), (hS.2.2.2.2.2.2.2.1.wr hw (by omega)), (Nat.le_trans hS.2.2.2.2.2.2.2.2.1 hw.apart.size), (hS.2.2.2.2.2.2.2.2.2.1.wr hw (by omega)), (hS.2.2.2.2.2.2.2.2.2.2.1.wr hw), (hS.2.2.2.2.2.2.2.2.2.2.2.1.wr hw (by omega)), (hS.2.2.2.2.2.2.2.2.2.2.2.2.1.wr hw), (hS.2.2.2.2.2.2.2.2.2.2.2.2.2.1.wr hw (by omega)), (hS.2.2.2.2.2.2.2.2.2.2.2.2.2.2.1.wr hw), (Nat.le_trans hS.2.2.2.2.2.2.2.2.2.2.2.2.2.2.2 hw.apart.size)⟩ ⟨g, b3, a3, n3, c3, d3, m3, o3, ev, er, hg, hq⟩
      intro vs W10 hS hp
      clear ltsz1 szw10 E0 hi1 hi2 hi3 p3 p5 i12 i13 sz1 p6 h8_6 p8_8 h9_11 p9_13 h9_8
      obtain ⟨E0, hi1, hi2, hi3, p3, p5, i12, i13, sz1, p6, h8_6, p8_8, h9_11, p9_13, h9_8, sz10⟩ := hS
      obtain ⟨h10_0, h10_1, h10_2, h10_3, h10_4, h10_5, h10_6, h10_7, h10_8, h10_9, h10_10, h10_11, h10_12, h10_13, h10_14, h10_15, -⟩ := hp
      obtain ⟨g10_15, b10_15, a10_15, n10_15, c10_15, d10_15, m10_15, o10_15, ev10_15, er10_15, hg10_15, p10_15⟩ := h10_15
      replace ev10_15 : vs 14 = _ := ev10_15; replace er10_15 : vs 13 = _ := er10_15; replace h10_13 := (show Rw W10 (vs 13) (shareR K b2 (numR K (atL lv k)) (numR K (atL lg k) * numR K (atL lg k))) from h10_13)
      rw [er10_15] at h10_13
      replace h10_0 : vs 0 = .pointer (some ⟨g3, 2, none⟩) := h10_0
      replace h10_1 : vs 1 = .int .i64 b2 := h10_1
      replace h10_2 : vs 2 = .pointer (some ⟨g5, 2, none⟩) := h10_2
      replace h10_3 : vs 3 = .slice (some ⟨b_a2, o_a2, none⟩) n3 c2 := h10_3
      replace h10_4 : vs 4 = .int .i64 (k : Int) := h10_4
      replace h10_5 : vs 5 = .pointer (some ⟨b_a2, o_a2 + k, none⟩) := h10_5
      replace h10_6 : vs 6 = .int .i64 (atL lv k) := h10_6
      replace h10_7 : vs 7 = .int .i64 (K : Int) := h10_7
      replace h10_9 : vs 9 = .agg #[.bool b8_8, .slice a8_8 n8_8 c8_8, .slice d8_8 m8_8 o8_8] := h10_9
      replace h10_10 : vs 10 = .agg #[.bool b8_8, .slice a8_8 n8_8 c8_8, .slice d8_8 m8_8 o8_8] := h10_10
      replace h10_12 : vs 12 = .int .i64 (K : Int) := h10_12
      simp only [ev10_15, er10_15, h10_0, h10_1, h10_2, h10_3, h10_4, h10_5, h10_6, h10_7, h10_9, h10_10, h10_12]
      replace h10_8 : Rw W10 (vs 8) (numR K (atL lv k)) := h10_8
      generalize vs 8 = u10_8 at h10_8 ⊢
      replace h10_11 : Rw W10 (vs 11) (numR K (atL lg k) * numR K (atL lg k)) := h10_11
      generalize vs 11 = u10_11 at h10_11 ⊢
      clear ev10_15 er10_15 h10_0 h10_1 h10_2 h10_3 h10_4 h10_5 h10_6 h10_7 h10_9 h10_10 h10_12 h10_14
      obtain ⟨kp3_0, kp3_1, kp3_2, kp3_3, kp3_4, kp3_5⟩ := p3.c6
      obtain ⟨kp5_0, kp5_1, kp5_2, kp5_3⟩ := p5.c4
      obtain ⟨kp6_0, kp6_1, kp6_2, kp6_3⟩ := p6.c4
      obtain ⟨kp8_8_0, kp8_8_1, kp8_8_2⟩ := p8_8.c3
      obtain ⟨kp9_13_0, kp9_13_1, kp9_13_2⟩ := p9_13.c3
      obtain ⟨kp10_15_0, kp10_15_1, kp10_15_2⟩ := p10_15.c3
      go_upto_region 17 with (fail)
      clear kp3_0 kp3_1 kp3_2 kp3_3 kp3_4 kp3_5 kp5_0 kp5_1 kp5_2 kp5_3 kp6_0 kp6_1 kp6_2 kp6_3 kp8_8_0 kp8_8_1 kp8_8_2 kp9_13_0 kp9_13_1 kp9_13_2 kp10_15_0 kp10_15_1 kp10_15_2; have ltp10_15 := p10_15.lt
      have ltsz1 := sz1
      have szw11 := Ext.size E0
      refine region_gs [.one fun v _ => v = .pointer (some ⟨g6, 1, none⟩),
        .one fun v _ => v = .slice (some ⟨b_x12, o_x12, none⟩) n3 n3,
        .one fun v _ => v = .int .i64 (k : Int),
        .one fun v _ => v = .pointer (some ⟨b_x12, o_x12 + k, none⟩),
        .one fun v _ => v = .int .i64 (atL xm1 k),
        .one fun v _ => v = .agg #[.bool b9_13, .slice a9_13 n9_13 c9_13, .slice d9_13 m9_13 o9_13],
        .one fun v _ => v = .int .i64 (K : Int),
        .one fun v _ => v = .bool true,
        .one fun v _ => v = .bool false,
        .one fun v _ => v = .bool false,
        .one fun v _ => v = .pointer (some ⟨g6, 2, none⟩),
        .one fun v _ => v = .slice (some ⟨b_x13, o_x13, none⟩) n3 n3,
        .one fun v _ => v = .int .i64 (k : Int),
        .one fun v _ => v = .pointer (some ⟨b_x13, o_x13 + k, none⟩),
        .one fun v _ => v = .int .i64 (atL xv1 k),
        .one fun v _ => v = .agg #[.bool b10_15, .slice a10_15 n10_15 c10_15, .slice d10_15 m10_15 o10_15],
        .one fun v _ => v = .int .i64 (K : Int),
        .one fun v _ => v = .bool true,
        .one fun v _ => v = .bool false,
        .one fun v _ => v = .bool false,
        .one fun v _ => v = .bool false,
        .one fun v _ => v = .pointer (some ⟨g6, 2, none⟩),
        .one fun v _ => v = .slice (some ⟨b_x13, o_x13, none⟩) n3 n3,
        .one fun v _ => v = .int .i64 (k : Int),
        .one fun v _ => v = .pointer (some ⟨b_x13, o_x13 + k, none⟩),
        .one fun v _ => v = .int .i64 (atL xv1 k),
        .one fun v _ => v = .bool false,
        .one fun v _ => v = .bool false]
       (fun W => Ext w W ∧ Iw 0 w.heap.size W (some ⟨b_a1, o_a1, none⟩) n3 c1 (lm) ∧ Iw 0 w.heap.size W (some ⟨b_a2, o_a2, none⟩) n3 c2 (lv) ∧ Iw 0 w.heap.size W (some ⟨b_a3, o_a3, none⟩) n3 c3 (lg) ∧ BxA W g3 23 #[.int .i64 lr, .int .i64 b1, .int .i64 b2, .int .i64 eps, .int .i64 wdq, .bool ap] ∧ BxA W g5 27 #[.slice a0 n3 c0, .slice (some ⟨b_a1, o_a1, none⟩) n3 c1, .slice (some ⟨b_a2, o_a2, none⟩) n3 c2, .slice (some ⟨b_a3, o_a3, none⟩) n3 c3] ∧ Iw Wc.heap.size hx1 W (some ⟨b_x12, o_x12, none⟩) n3 n3 (xm1) ∧ Iw Wc.heap.size hx1 W (some ⟨b_x13, o_x13, none⟩) n3 n3 (xv1) ∧ hx1 ≤ W.heap.size ∧ BxA W g6 27 #[.slice x11 n3 n3, .slice (some ⟨b_x12, o_x12, none⟩) n3 n3, .slice (some ⟨b_x13, o_x13, none⟩) n3 n3, .slice none 0 0] ∧ Rw W (.agg #[.bool b8_8, .slice a8_8 n8_8 c8_8, .slice d8_8 m8_8 o8_8]) (numR K (atL lg k)) ∧ Bx3 W g8_8 45 (.bool b8_8) (.slice a8_8 n8_8 c8_8) (.slice d8_8 m8_8 o8_8) ∧ Rw W (.agg #[.bool b9_13, .slice a9_13 n9_13 c9_13, .slice d9_13 m9_13 o9_13]) (shareR K b1 (numR K (atL lm k)) (numR K (atL lg k))) ∧ Bx3 W g9_13 45 (.bool b9_13) (.slice a9_13 n9_13 c9_13) (.slice d9_13 m9_13 o9_13) ∧ Rw W u9_8 (numR K (atL lm k)) ∧ Rw W (.agg #[.bool b10_15, .slice a10_15 n10_15 c10_15, .slice d10_15 m10_15 o10_15]) (shareR K b2 (numR K (atL lv k)) (numR K (atL lg k) * numR K (atL lg k))) ∧ Bx3 W g10_15 45 (.bool b10_15) (.slice a10_15 n10_15 c10_15) (.slice d10_15 m10_15 o10_15) ∧ Rw W u10_8 (numR K (atL lv k)) ∧ Rw W u10_11 (numR K (atL lg k) * numR K (atL lg k)) ∧ W10.heap.size ≤ W.heap.size) ⟨Good.is _, Good.is _, Good.is _, Good.is _, Good.is _, Good.is _, Good.is _, Good.is _, Good.is _, Good.is _, Good.is _, Good.is _, Good.is _, Good.is _, Good.is _, Good.is _, Good.is _, Good.is _, Good.is _, Good.is _, Good.is _, Good.is _, Good.is _, Good.is _, Good.is _, Good.is _, Good.is _, Good.is _, trivial⟩
       ⟨E0, hi1, hi2, hi3, p3, p5, i12, i13, sz1, p6, h8_6, p8_8, h9_11, p9_13, h9_8, h10_13, p10_15, h10_8, h10_11, Nat.le_refl _⟩ (A := ?A11) ?hA11 ?howe11 ?hfin11
      case hA11 =>
       intro vs
       simp only [putAll, Act.put, sA, sZ, sS, Nat.zero_add, Nat.reduceAdd]
       exact rfl
      case howe11 =>
       clear E0 hi1 hi2 hi3 p3 p5 i12 i13 sz1 p6 h8_6 p8_8 h9_11 p9_13 h9_8 h10_13 p10_15 h10_8 h10_11
       intro hf
       refine ⟨oE 0 [] hf rfl ?_, oE 1 [0] hf rfl ?_, oE 2 [] hf rfl ?_, oE 3 [1, 2] hf rfl ?_, oE 4 [3] hf rfl ?_, oE 5 [] hf rfl ?_, oE 6 [] hf rfl ?_, oE 7 [4, 5, 6] hf rfl ?_, oE 8 [7] hf rfl ?_, oE 9 [8] hf rfl ?_, oE 10 [9] hf rfl ?_, oE 11 [9, 10] hf rfl ?_, oE 12 [9] hf rfl ?_, oE 13 [9, 11, 12] hf rfl ?_, oE 14 [9, 13] hf rfl ?_, oE 15 [9] hf rfl ?_, oE 16 [9] hf rfl ?_, oE 17 [9, 14, 15, 16] hf rfl ?_, oE 18 [9, 17] hf rfl ?_, oE 19 [9, 18] hf rfl ?_, oE 20 [19] hf rfl ?_, oE 21 [20] hf rfl ?_, oE 22 [20, 21] hf rfl ?_, oE 23 [20] hf rfl ?_, oE 24 [20, 22, 23] hf rfl ?_, oE 25 [20, 24] hf rfl ?_, oE 26 [20, 25] hf rfl ?_, oE 27 [20, 26] hf rfl ?_, trivial⟩
       all_goals intro vs W hS hp hx KO hKO
       all_goals simp only [Act.put, sA, sZ, sS] at hKO
       ·go_simp; exact hKO _ W (.refl W) rfl
       ·have e0 := isOf hp.1; simp only [e0] at hKO; have fc1 := BxA.cell (hS.2.2.2.2.2.2.2.2.2.1) 1 (v := .slice (some ⟨b_x12, o_x12, none⟩) n3 n3) rfl; go_simp; exact hKO _ W (.refl W) rfl
       ·go_simp; exact hKO _ W (.refl W) rfl
       ·have e1 := isOf hp.1; have e2 := isOf hp.2.1; simp only [e1, e2] at hKO; go_simp; exact hKO _ W (.refl W) rfl
       ·have e3 := isOf hp.1; simp only [e3] at hKO
        have fc := Iw.cell (hS.2.2.2.2.2.2.1) (i := k) (by omega)
        go_simp; exact hKO _ W (.refl W) rfl
       ·have fc0 := hS.2.2.2.2.2.2.2.2.2.2.2.2.2.1.cell0; have fc1 := hS.2.2.2.2.2.2.2.2.2.2.2.2.2.1.cell1; have fc2 := hS.2.2.2.2.2.2.2.2.2.2.2.2.2.1.cell2; go_simp; exact hKO _ W (.refl W) rfl
       ·go_simp; exact hKO _ W (.refl W) rfl
       ·have e4 := isOf hp.1; have e5 := isOf hp.2.1; have e6 := isOf hp.2.2.1; simp only [e4, e5, e6] at hKO; go_simp
        refine (Tryz.far18 (atL xm1 k) K HK.out HXM.out.1 HXM.out.2 (hS.2.2.2.2.2.2.2.2.2.2.2.2.1) SX1.out 2 (by omega) (by omega) HNK.out.1).mono ?_
        rintro e W1 ⟨rfl, hE⟩
        exact hKO _ W1 hE rfl
       ·have e7 := isOf hp.1; simp only [e7] at hKO; go_simp; exact hKO _ W (.refl W) rfl
       ·have e8 := isOf hp.1; simp only [e8] at hKO; go_simp; exact hKO _ W (.refl W) rfl
       ·have e9 := isOf hp.1; simp only [e9] at hKO; go_simp; exact hKO _ W (.refl W) rfl
       ·have e9 := isOf hp.1; have e10 := isOf hp.2.1; simp only [e9, e10] at hKO; have fc2 := BxA.cell (hS.2.2.2.2.2.2.2.2.2.1) 2 (v := .slice (some ⟨b_x13, o_x13, none⟩) n3 n3) rfl; go_simp; exact hKO _ W (.refl W) rfl
       ·have e9 := isOf hp.1; simp only [e9] at hKO; go_simp; exact hKO _ W (.refl W) rfl
       ·have e9 := isOf hp.1; have e11 := isOf hp.2.1; have e12 := isOf hp.2.2.1; simp only [e9, e11, e12] at hKO; go_simp; exact hKO _ W (.refl W) rfl
       ·have e9 := isOf hp.1; have e13 := isOf hp.2.1; simp only [e9, e13] at hKO
        have fc := Iw.cell (hS.2.2.2.2.2.2.2.1) (i := k) (by omega)
        go_simp; exact hKO _ W (.refl W) rfl
       ·have e9 := isOf hp.1; simp only [e9] at hKO; have fc0 := hS.2.2.2.2.2.2.2.2.2.2.2.2.2.2.2.2.1.cell0; have fc1 := hS.2.2.2.2.2.2.2.2.2.2.2.2.2.2.2.2.1.cell1; have fc2 := hS.2.2.2.2.2.2.2.2.2.2.2.2.2.2.2.2.1.cell2; go_simp; exact hKO _ W (.refl W) rfl
       ·have e9 := isOf hp.1; simp only [e9] at hKO; go_simp; exact hKO _ W (.refl W) rfl
       ·have e9 := isOf hp.1; have e14 := isOf hp.2.1; have e15 := isOf hp.2.2.1; have e16 := isOf hp.2.2.2.1; simp only [e9, e14, e15, e16] at hKO; go_simp
        refine (Tryz.far18 (atL xv1 k) K HK.out HXV.out.1 HXV.out.2 (hS.2.2.2.2.2.2.2.2.2.2.2.2.2.2.2.1) SX2.out 3 (by omega) (by omega) HNK.out.2.1).mono ?_
        rintro e W1 ⟨rfl, hE⟩
        exact hKO _ W1 hE rfl
       ·have e9 := isOf hp.1; have e17 := isOf hp.2.1; simp only [e9, e17] at hKO; go_simp; exact hKO _ W (.refl W) rfl
       ·have e9 := isOf hp.1; have e18 := isOf hp.2.1; simp only [e9, e18] at hKO; go_simp; exact hKO _ W (.refl W) rfl
       ·have e19 := isOf hp.1; simp only [e19] at hKO; go_simp; exact hKO _ W (.refl W) rfl
       ·have e20 := isOf hp.1; simp only [e20] at hKO; go_simp; exact hKO _ W (.refl W) rfl
       ·have e20 := isOf hp.1; have e21 := isOf hp.2.1; simp only [e20, e21] at hKO; have fc2 := BxA.cell (hS.2.2.2.2.2.2.2.2.2.1) 2 (v := .slice (some ⟨b_x13, o_x13, none⟩) n3 n3) rfl; go_simp; exact hKO _ W (.refl W) rfl
       ·have e20 := isOf hp.1; simp only [e20] at hKO; go_simp; exact hKO _ W (.refl W) rfl
       ·have e20 := isOf hp.1; have e22 := isOf hp.2.1; have e23 := isOf hp.2.2.1; simp only [e20, e22, e23] at hKO; go_simp; exact hKO _ W (.refl W) rfl
       ·have e20 := isOf hp.1; have e24 := isOf hp.2.1; simp only [e20, e24] at hKO
        have fc := Iw.cell (hS.2.2.2.2.2.2.2.1) (i := k) (by omega)
        go_simp; exact hKO _ W (.refl W) rfl
       ·have e20 := isOf hp.1; have e25 := isOf hp.2.1; simp only [e20, e25] at hKO; go_simp; exact hKO _ W (Ext.refl W) (by first | rfl | exact congrArg Value.bool (decide_eq_false HPOS.out))
       ·have e20 := isOf hp.1; have e26 := isOf hp.2.1; simp only [e20, e26] at hKO; go_simp; exact hKO _ W (.refl W) rfl
      intro vs W11 hS hp
      clear ltsz1 szw11 E0 hi1 hi2 hi3 p3 p5 i12 i13 sz1 p6 h8_6 p8_8 h9_11 p9_13 h9_8 h10_13 p10_15 h10_8 h10_11
      obtain ⟨E0, hi1, hi2, hi3, p3, p5, i12, i13, sz1, p6, h8_6, p8_8, h9_11, p9_13, h9_8, h10_13, p10_15, h10_8, h10_11, sz11⟩ := hS
      obtain ⟨h11_0, h11_1, h11_2, h11_3, h11_4, h11_5, h11_6, h11_7, h11_8, h11_9, h11_10, h11_11, h11_12, h11_13, h11_14, h11_15, h11_16, h11_17, h11_18, h11_19, h11_20, h11_21, h11_22, h11_23, h11_24, h11_25, h11_26, h11_27, -⟩ := hp
      replace h11_0 : vs 0 = .pointer (some ⟨g6, 1, none⟩) := h11_0
      replace h11_1 : vs 1 = .slice (some ⟨b_x12, o_x12, none⟩) n3 n3 := h11_1
      replace h11_2 : vs 2 = .int .i64 (k : Int) := h11_2
      replace h11_3 : vs 3 = .pointer (some ⟨b_x12, o_x12 + k, none⟩) := h11_3
      replace h11_4 : vs 4 = .int .i64 (atL xm1 k) := h11_4
      replace h11_5 : vs 5 = .agg #[.bool b9_13, .slice a9_13 n9_13 c9_13, .slice d9_13 m9_13 o9_13] := h11_5
      replace h11_6 : vs 6 = .int .i64 (K : Int) := h11_6
      replace h11_7 : vs 7 = .bool true := h11_7
      replace h11_8 : vs 8 = .bool false := h11_8
      replace h11_9 : vs 9 = .bool false := h11_9
      replace h11_10 : vs 10 = .pointer (some ⟨g6, 2, none⟩) := h11_10
      replace h11_11 : vs 11 = .slice (some ⟨b_x13, o_x13, none⟩) n3 n3 := h11_11
      replace h11_12 : vs 12 = .int .i64 (k : Int) := h11_12
      replace h11_13 : vs 13 = .pointer (some ⟨b_x13, o_x13 + k, none⟩) := h11_13
      replace h11_14 : vs 14 = .int .i64 (atL xv1 k) := h11_14
      replace h11_15 : vs 15 = .agg #[.bool b10_15, .slice a10_15 n10_15 c10_15, .slice d10_15 m10_15 o10_15] := h11_15
      replace h11_16 : vs 16 = .int .i64 (K : Int) := h11_16
      replace h11_17 : vs 17 = .bool true := h11_17
      replace h11_18 : vs 18 = .bool false := h11_18
      replace h11_19 : vs 19 = .bool false := h11_19
      replace h11_20 : vs 20 = .bool false := h11_20
      replace h11_21 : vs 21 = .pointer (some ⟨g6, 2, none⟩) := h11_21
      replace h11_22 : vs 22 = .slice (some ⟨b_x13, o_x13, none⟩) n3 n3 := h11_22
      replace h11_23 : vs 23 = .int .i64 (k : Int) := h11_23
      replace h11_24 : vs 24 = .pointer (some ⟨b_x13, o_x13 + k, none⟩) := h11_24
      replace h11_25 : vs 25 = .int .i64 (atL xv1 k) := h11_25
      replace h11_26 : vs 26 = .bool false := h11_26
      replace h11_27 : vs 27 = .bool false := h11_27
      simp only [h11_0, h11_1, h11_2, h11_3, h11_4, h11_5, h11_6, h11_7, h11_8, h11_9, h11_10, h11_11, h11_12, h11_13, h11_14, h11_15, h11_16, h11_17, h11_18, h11_19, h11_20, h11_21, h11_22, h11_23, h11_24, h11_25, h11_26, h11_27]
      clear h11_0 h11_1 h11_2 h11_3 h11_4 h11_5 h11_6 h11_7 h11_8 h11_9 h11_10 h11_11 h11_12 h11_13 h11_14 h11_15 h11_16 h11_17 h11_18 h11_19 h11_20 h11_21 h11_22 h11_23 h11_24 h11_25 h11_26 h11_27; go_wp2
      go_roundw
      case rel => exact ⟨k + 1, by go_num, by omega, E0, hi1, hi2, hi3, p3, p5, i12, i13, sz1, p6⟩
      case measure => simp [intOf]; omega
     ·have hge : ¬ (k : Int) < (n3 : Int) := by omega
      obtain ⟨kp3_0, kp3_1, kp3_2, kp3_3, kp3_4, kp3_5⟩ := p3.c6
      obtain ⟨kp5_0, kp5_1, kp5_2, kp5_3⟩ := p5.c4
      obtain ⟨kp6_0, kp6_1, kp6_2, kp6_3⟩ := p6.c4
      go_wp2_with fail
      clear kp3_0 kp3_1 kp3_2 kp3_3 kp3_4 kp3_5 kp5_0 kp5_1 kp5_2 kp5_3 kp6_0 kp6_1 kp6_2 kp6_3
      refine (Tryz.alive18 _).mono ?_
      rintro e We ⟨rfl, hE⟩
      replace E0 := (Ext.trans E0 hE); replace hi1 := (hi1.ext hE); replace hi2 := (hi2.ext hE); replace hi3 := (hi3.ext hE); replace p3 := (p3.ext hE); replace p5 := (p5.ext hE)
      replace i12 := (i12.ext hE)
      replace i13 := (i13.ext hE)
      replace sz1 := (Nat.le_trans sz1 (Ext.size hE))
      replace p6 := (p6.ext hE); clear hE
      obtain ⟨kp3_0, kp3_1, kp3_2, kp3_3, kp3_4, kp3_5⟩ := p3.c6
      obtain ⟨kp5_0, kp5_1, kp5_2, kp5_3⟩ := p5.c4
      obtain ⟨kp6_0, kp6_1, kp6_2, kp6_3⟩ := p6.c4
      go_wp2; go_ret
      exact ⟨rfl, E0⟩
   ·have k1b : (E1 != 0) = true := bne_iff_ne.2 k1
    obtain ⟨r1, r2, r3⟩ := HNO.out k1
    have HEC : Hid (E1 = 1 ∨ E1 = 5 ∨ E1 = 2) := Lib.hid (by have := HEK.out; omega)
    have HDD := Lib.hid (And.intro r1 (And.intro r2 r3))
    clear r1 r2 r3 k1
    obtain ⟨kp1_0, kp1_1, kp1_2, kp1_3, kp1_4, kp1_5, kp1_6, kp1_7, kp1_8, kp1_9, kp1_10, kp1_11, kp1_12⟩ := p1.cells13
    obtain ⟨kp3_0, kp3_1, kp3_2, kp3_3, kp3_4, kp3_5⟩ := p3.c6
    obtain ⟨kp5_0, kp5_1, kp5_2, kp5_3⟩ := p5.c4
    obtain ⟨kp6_0, kp6_1, kp6_2, kp6_3⟩ := p6.c4
    go_wp2_with fail
    clear kp1_0 kp1_1 kp1_2 kp1_3 kp1_4 kp1_5 kp1_6 kp1_7 kp1_8 kp1_9 kp1_10 kp1_11 kp1_12 kp3_0 kp3_1 kp3_2 kp3_3 kp3_4 kp3_5 kp5_0 kp5_1 kp5_2 kp5_3 kp6_0 kp6_1 kp6_2 kp6_3
    refine (Tryz.alive18 _).mono ?_
    rintro e We ⟨rfl, hE⟩
    replace E0 := (Ext.trans E0 hE); replace hi0 := (hi0.ext hE); replace hi1 := (hi1.ext hE); replace hi2 := (hi2.ext hE); replace hi3 := (hi3.ext hE); replace p1 := (p1.ext hE); replace p3 := (p3.ext hE); replace p5 := (p5.ext hE)
    replace i11 := (i11.ext hE)
    replace i12 := (i12.ext hE)
    replace i13 := (i13.ext hE)
    replace sz1 := (Nat.le_trans sz1 (Ext.size hE))
    replace p6 := (p6.ext hE); clear hE
    obtain ⟨kp1_0, kp1_1, kp1_2, kp1_3, kp1_4, kp1_5, kp1_6, kp1_7, kp1_8, kp1_9, kp1_10, kp1_11, kp1_12⟩ := p1.cells13
    obtain ⟨kp3_0, kp3_1, kp3_2, kp3_3, kp3_4, kp3_5⟩ := p3.c6
    obtain ⟨kp5_0, kp5_1, kp5_2, kp5_3⟩ := p5.c4
    obtain ⟨kp6_0, kp6_1, kp6_2, kp6_3⟩ := p6.c4
    go_wp2_with fail
    clear kp1_0 kp1_1 kp1_2 kp1_3 kp1_4 kp1_5 kp1_6 kp1_7 kp1_8 kp1_9 kp1_10 kp1_11 kp1_12 kp3_0 kp3_1 kp3_2 kp3_3 kp3_4 kp3_5 kp5_0 kp5_1 kp5_2 kp5_3 kp6_0 kp6_1 kp6_2 kp6_3
    refine (Tryz.refSame17 i11 (Iw.nil 0 0 _) i12 (Iw.nil 0 0 _) i13 (Iw.nil 0 0 _) (Iw.nil 0 0 _) (Iw.nil 0 0 _)).mono ?_
    rintro e Wf ⟨rfl, hE⟩
    rw [HDD.out.1, HDD.out.2.1, HDD.out.2.2]
    replace E0 := (Ext.trans E0 hE); replace hi0 := (hi0.ext hE); replace hi1 := (hi1.ext hE); replace hi2 := (hi2.ext hE); replace hi3 := (hi3.ext hE); replace p1 := (p1.ext hE); replace p3 := (p3.ext hE); replace p5 := (p5.ext hE)
    replace i11 := (i11.ext hE)
    replace i12 := (i12.ext hE)
    replace i13 := (i13.ext hE)
    replace sz1 := (Nat.le_trans sz1 (Ext.size hE))
    replace p6 := (p6.ext hE); clear hE
    rcases HEC.out with k2 | k2 | k2
    ·subst k2
     obtain ⟨kp1_0, kp1_1, kp1_2, kp1_3, kp1_4, kp1_5, kp1_6, kp1_7, kp1_8, kp1_9, kp1_10, kp1_11, kp1_12⟩ := p1.cells13
     obtain ⟨kp3_0, kp3_1, kp3_2, kp3_3, kp3_4, kp3_5⟩ := p3.c6
     obtain ⟨kp5_0, kp5_1, kp5_2, kp5_3⟩ := p5.c4
     obtain ⟨kp6_0, kp6_1, kp6_2, kp6_3⟩ := p6.c4
     go_wp2; go_ret
     exact ⟨rfl, E0⟩
    ·subst k2
     obtain ⟨kp1_0, kp1_1, kp1_2, kp1_3, kp1_4, kp1_5, kp1_6, kp1_7, kp1_8, kp1_9, kp1_10, kp1_11, kp1_12⟩ := p1.cells13
     obtain ⟨kp3_0, kp3_1, kp3_2, kp3_3, kp3_4, kp3_5⟩ := p3.c6
     obtain ⟨kp5_0, kp5_1, kp5_2, kp5_3⟩ := p5.c4
     obtain ⟨kp6_0, kp6_1, kp6_2, kp6_3⟩ := p6.c4
     go_wp2; go_ret
     exact ⟨rfl, E0⟩
    ·subst k2
     obtain ⟨kp1_0, kp1_1, kp1_2, kp1_3, kp1_4, kp1_5, kp1_6, kp1_7, kp1_8, kp1_9, kp1_10, kp1_11, kp1_12⟩ := p1.cells13
     obtain ⟨kp3_0, kp3_1, kp3_2, kp3_3, kp3_4, kp3_5⟩ := p3.c6
     obtain ⟨kp5_0, kp5_1, kp5_2, kp5_3⟩ := p5.c4
     obtain ⟨kp6_0, kp6_1, kp6_2, kp6_3⟩ := p6.c4
     go_wp2; go_ret
     exact ⟨rfl, E0⟩
  ·rw [decide_eq_false hf]
   clear hf
   obtain ⟨kp1_0, kp1_1, kp1_2, kp1_3, kp1_4, kp1_5, kp1_6, kp1_7, kp1_8, kp1_9, kp1_10, kp1_11, kp1_12⟩ := p1.cells13
   obtain ⟨kp3_0, kp3_1, kp3_2, kp3_3, kp3_4, kp3_5⟩ := p3.c6
   obtain ⟨kp5_0, kp5_1, kp5_2, kp5_3⟩ := p5.c4
   go_wp2_with fail
   clear kp1_0 kp1_1 kp1_2 kp1_3 kp1_4 kp1_5 kp1_6 kp1_7 kp1_8 kp1_9 kp1_10 kp1_11 kp1_12 kp3_0 kp3_1 kp3_2 kp3_3 kp3_4 kp3_5 kp5_0 kp5_1 kp5_2 kp5_3
   refine (Tryz.alive18 _).mono ?_
   rintro e We ⟨rfl, hE⟩
   replace E0 := (Ext.trans E0 hE); replace hi0 := (hi0.ext hE); replace hi1 := (hi1.ext hE); replace hi2 := (hi2.ext hE); replace hi3 := (hi3.ext hE); replace p1 := (p1.ext hE); replace p3 := (p3.ext hE); replace p5 := (p5.ext hE); clear hE
   obtain ⟨kp1_0, kp1_1, kp1_2, kp1_3, kp1_4, kp1_5, kp1_6, kp1_7, kp1_8, kp1_9, kp1_10, kp1_11, kp1_12⟩ := p1.cells13
   obtain ⟨kp3_0, kp3_1, kp3_2, kp3_3, kp3_4, kp3_5⟩ := p3.c6
   obtain ⟨kp5_0, kp5_1, kp5_2, kp5_3⟩ := p5.c4
   go_wp2; go_ret
   exact ⟨rfl, E0⟩


end Go.Rt
