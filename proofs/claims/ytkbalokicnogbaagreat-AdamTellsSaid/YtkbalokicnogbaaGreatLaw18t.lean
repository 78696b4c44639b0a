/-
 The laws of chapter 18 (Adam): Tells: its walk.
-/
import Derived.Test.YtkbalokicnogbaaGreatGY
import Derived.Test.YtkbalokicnogbaaGreatHB
namespace Go.Rt
open Go Go.RowKit Go.Proofs

theorem Tryz.refSame17T {a0 a1 a2 a3 b0 b1 b2 b3 : Option Addr} {n0 n1 n2 n3 c0 c1 c2 c3 m0 m1 m2 m3 d0 d1 d2 d3 : Nat} {l0 l1 l2 l3 : List Int} {q0 q1 q2 q3 r0 r1 r2 r3 s0 s1 s2 s3 t0 t1 t2 t3 : Nat} {w : World} (x0 : Iw q0 r0 w a0 n0 c0 l0) (y0 : Iw s0 t0 w b0 m0 d0 l0) (x1 : Iw q1 r1 w a1 n1 c1 l1) (y1 : Iw s1 t1 w b1 m1 d1 l1) (x2 : Iw q2 r2 w a2 n2 c2 l2) (y2 : Iw s2 t2 w b2 m2 d2 l2) (x3 : Iw q3 r3 w a3 n3 c3 l3) (y3 : Iw s3 t3 w b3 m3 d3 l3) :
  Calls Tryz.prog 12 #[.agg #[.slice a0 n0 c0, .slice a1 n1 c1, .slice a2 n2 c2, .slice a3 n3 c3], .agg #[.slice b0 m0 d0, .slice b1 m1 d1, .slice b2 m2 d2, .slice b3 m3 d3]] w fun e w' => e = .returned (.bool true) ∧ Ext w w' := by
 refine (Tryz.refSame17 x0 y0 x1 y1 x2 y2 x3 y3).mono ?_
 rintro e W ⟨rfl, hE⟩
 exact ⟨by simp, hE⟩

set_option maxRecDepth 100000 in
set_option maxHeartbeats 16000000 in
theorem Tryz.lawAdamTells (lr b1 b2 eps wd pw0 pw1 f : Int) (ap : Bool) {n0 n1 n2 n3 : Nat} {a0 a1 a2 a3 : Option Addr} {c0 c1 c2 c3 : Nat} {lw lm lv lg : List Int} (w : World) (hs : n0 + n1 + n2 + n3 ≤ 9223372036854775807) (q1 : I64 lr) (q2 : I64 eps) (q3 : I64 wd) (hi0 : Iw 0 w.heap.size w a0 n0 c0 lw) (hi1 : Iw 0 w.heap.size w a1 n1 c1 lm) (hi2 : Iw 0 w.heap.size w a2 n2 c2 lv) (hi3 : Iw 0 w.heap.size w a3 n3 c3 lg) (qb1 : I64 b1) (qb2 : I64 b2) (qp0 : I64 pw0) (qp1 : I64 pw1) :
  Calls Tryz.prog 3 #[.agg #[.int .i64 lr, .int .i64 b1, .int .i64 b2, .int .i64 eps, .int .i64 wd, .bool ap, .int .i64 f, .int .i64 pw0, .int .i64 pw1, .slice a0 n0 c0, .slice a1 n1 c1, .slice a2 n2 c2, .slice a3 n3 c3]] w fun e w' => e = .returned (.bool true) ∧ Ext w w' := by
 have HQ := Lib.hid (And.intro (And.intro q1 q2) (And.intro q3 (And.intro qb1 qb2)))
 have HQP := Lib.hid (And.intro qp0 qp1)
 have HSM := Lib.hid hs
 clear hs q1 q2 q3 qb1 qb2 qp0 qp1
 obtain ⟨E1, hE1⟩ : ∃ E, stepE ⟨lr, b1, b2, eps, wd, ap⟩ f pw0 pw1 lw lm lv lg = E := ⟨_, rfl⟩
 obtain ⟨xw1, hxw1⟩ : ∃ x, stepL p1of ⟨lr, b1, b2, eps, wd, ap⟩ f pw0 pw1 lw lm lv lg = x := ⟨_, rfl⟩
 obtain ⟨xm1, hxm1⟩ : ∃ x, stepL p2of ⟨lr, b1, b2, eps, wd, ap⟩ f pw0 pw1 lw lm lv lg = x := ⟨_, rfl⟩
 obtain ⟨xv1, hxv1⟩ : ∃ x, stepL p3of ⟨lr, b1, b2, eps, wd, ap⟩ f pw0 pw1 lw lm lv lg = x := ⟨_, rfl⟩
 have HST1 := Lib.hid (And.intro hE1 (And.intro hxw1 (And.intro hxm1 hxv1)))
 clear hE1 hxw1 hxm1 hxv1
 have hne : (E1 != E1) = false := by simp
 obtain ⟨W0, hW0, E0, p1⟩ := boxed1 w 29 #[.int .i64 lr, .int .i64 b1, .int .i64 b2, .int .i64 eps, .int .i64 wd, .bool ap, .int .i64 f, .int .i64 pw0, .int .i64 pw1, .slice a0 n0 c0, .slice a1 n1 c1, .slice a2 n2 c2, .slice a3 n3 c3]
 replace hi0 : Iw 0 w.heap.size W0 a0 n0 c0 (lw) := hi0.ext E0
 replace hi1 : Iw 0 w.heap.size W0 a1 n1 c1 (lm) := hi1.ext E0
 replace hi2 : Iw 0 w.heap.size W0 a2 n2 c2 (lv) := hi2.ext E0
 replace hi3 : Iw 0 w.heap.size W0 a3 n3 c3 (lg) := hi3.ext E0
 go_enter Tryz.func3, Tryz.ntmps3
 obtain ⟨k1a, k1b, k1c, k1d, k1e, k1f, k1g, k1h, k1i, k1j, k1k, k1l, k1m⟩ := p1.cells13
 go_upto_region 1 with (fail)
 rw [← hW0]
 clear hW0; clear k1a k1b k1c k1d k1e k1f k1g k1h k1i k1j k1k k1l k1m
 have HB1_p1 := Lib.hid p1.lt
 have sHB1_p1 := HB1_p1.out
 have ltp1 := p1.lt; have szw1 := Ext.size E0
 refine region_go2 [isV (.pointer (some ⟨w.heap.size, 0, none⟩)), isV (.agg #[.int .i64 lr, .int .i64 b1, .int .i64 b2, .int .i64 eps, .int .i64 wd, .bool ap]), isV (.pointer (some ⟨w.heap.size, 6, none⟩)), isV (.int .i64 f), isV (.pointer (some ⟨w.heap.size, 7, none⟩)), isV (.agg #[.int .i64 pw0, .int .i64 pw1]),
   .one fun v W => ∃ g, v = .pointer (some ⟨g, 0, none⟩) ∧ W0.heap.size ≤ g ∧ Form W g 23 6,
   .one fun v W => ∃ g, v = .pointer (some ⟨g, 0, none⟩) ∧ W0.heap.size ≤ g ∧ Form W g 24 2,
   .two 6 (fun p _ W => NewA W0.heap.size 23 #[.int .i64 lr, .int .i64 b1, .int .i64 b2, .int .i64 eps, .int .i64 wd, .bool ap] p W),
   isV (.int .i64 f),
   .two 7 (fun p _ W => NewA W0.heap.size 24 #[.int .i64 pw0, .int .i64 pw1] p W)]
  (fun W => Ext w W ∧ Iw 0 w.heap.size W a0 n0 c0 (lw) ∧ Iw 0 w.heap.size W a1 n1 c1 (lm) ∧ Iw 0 w.heap.size W a2 n2 c2 (lv) ∧ Iw 0 w.heap.size W a3 n3 c3 (lg) ∧ BxA W w.heap.size 29 #[.int .i64 lr, .int .i64 b1, .int .i64 b2, .int .i64 eps, .int .i64 wd, .bool ap, .int .i64 f, .int .i64 pw0, .int .i64 pw1, .slice a0 n0 c0, .slice a1 n1 c1, .slice a2 n2 c2, .slice a3 n3 c3] ∧ W0.heap.size ≤ W.heap.size) W0.heap.size [6, 7] [Tag.any, Tag.any, Tag.any, Tag.any, Tag.any, Tag.any, Tag.any, Tag.any, Tag.new 6, Tag.any, Tag.new 7] ⟨Good.is _, Good.is _, Good.is _, Good.is _, Good.is _, Good.is _, Good.box _ _ _, Good.box _ _ _, tag_newA, Good.is _, tag_newA, trivial⟩ (fun g0 hg => by simp at hg)
  (fun W W1 hS hE => ⟨(Ext.trans hS.1 hE), (hS.2.1.ext hE), (hS.2.2.1.ext hE), (hS.2.2.2.1.ext hE), (hS.2.2.2.2.1.ext hE), (hS.2.2.2.2.2.1.ext hE), (Nat.le_trans hS.2.2.2.2.2.2 (Ext.size hE))⟩) ⟨E0, hi0, hi1, hi2, hi3, p1, Nat.le_refl _⟩ (fun m hm => by simp at hm; rcases hm with rfl | rfl <;> rfl) (by kernel_rfl) (by kernel_rfl) (by kernel_rfl) (by kernel_rfl) (A := ?A1) ?hA1 ?howe1 ?hfin1
 case hA1 =>
  intro vs
  simp only [putAll, Act.put, sA, sZ, sS, Nat.zero_add, Nat.reduceAdd]
  exact rfl
 case howe1 =>
  clear E0 hi0 hi1 hi2 hi3 p1
  intro hf
  refine ⟨oM0 0 [] hf rfl rfl, owesM 1 [0] hf rfl rfl (by kernel_rfl) ?_, oM0 2 [] hf rfl rfl, owesM 3 [2] hf rfl rfl (by kernel_rfl) ?_, oM0 4 [] hf rfl rfl, owesM 5 [4] hf rfl rfl (by kernel_rfl) ?_, owesN 6 [] hf rfl (by kernel_rfl) ?_, owesN 7 [] hf rfl (by kernel_rfl) ?_, owesP 8 6 [6, 1] hf rfl rfl (by kernel_rfl) rfl (by kernel_rfl) ?_, oM1 9 [3] hf rfl rfl, owesP 10 7 [7, 5] hf rfl rfl (by kernel_rfl) rfl (by kernel_rfl) ?_, trivial⟩
  all_goals intro vs W hS hp hx KO hKO
  all_goals simp only [Act.put, sA, sZ, sS] at hKO
  ·have e0 := isOf hp.1; simp only [e0] at hKO; have fc0 := BxA.cell (hS.2.2.2.2.2.1) 0 (v := .int .i64 lr) rfl; have fc1 := BxA.cell (hS.2.2.2.2.2.1) 1 (v := .int .i64 b1) rfl; have fc2 := BxA.cell (hS.2.2.2.2.2.1) 2 (v := .int .i64 b2) rfl; have fc3 := BxA.cell (hS.2.2.2.2.2.1) 3 (v := .int .i64 eps) rfl; have fc4 := BxA.cell (hS.2.2.2.2.2.1) 4 (v := .int .i64 wd) rfl; have fc5 := BxA.cell (hS.2.2.2.2.2.1) 5 (v := .bool ap) rfl; go_simp; exact hKO _ W (.refl W) rfl
  ·have e2 := isOf hp.1; simp only [e2] at hKO; have fc6 := BxA.cell (hS.2.2.2.2.2.1) 6 (v := .int .i64 f) rfl; go_simp; exact hKO _ W (.refl W) rfl
  ·have e4 := isOf hp.1; simp only [e4] at hKO; have fc7 := BxA.cell (hS.2.2.2.2.2.1) 7 (v := .int .i64 pw0) rfl; have fc8 := BxA.cell (hS.2.2.2.2.2.1) 8 (v := .int .i64 pw1) rfl; go_simp; exact hKO _ W (.refl W) rfl
  ·have hn := BxA.new W 23 #[.int .i64 0, .int .i64 0, .int .i64 0, .int .i64 0, .int .i64 0, .bool false]
   have hsz := hS.2.2.2.2.2.2
   go_simp
   exact hKO _ _ rfl ⟨_, rfl, hsz, ⟨_, hn, (noU_adam 0 0 0 0 0 false), rfl⟩⟩
  ·have hn := BxA.new W 24 #[.int .i64 0, .int .i64 0]
   have hsz := hS.2.2.2.2.2.2
   go_simp
   exact hKO _ _ rfl ⟨_, rfl, hsz, ⟨_, hn, (noU_ints [0, 0]), rfl⟩⟩
  ·have q6 := hp.1; have e1 := isOf hp.2.1; simp only [e1] at hKO
   obtain ⟨g, ev, hg, hfo⟩ := q6
   replace ev : vs 6 = _ := ev
   obtain ⟨x0, x1, x2, x3, x4, x5, c0, c1, c2, c3, c4, c5, hfz, W2, hW2, hw, hq⟩ := hfo.put6 (.int .i64 lr) (.int .i64 b1) (.int .i64 b2) (.int .i64 eps) (.int .i64 wd) (.bool ap) (noU_adam lr b1 b2 eps wd ap)
   have z0 := hfz 0
   have z1 := hfz 1
   have z2 := hfz 2
   have z3 := hfz 3
   have z4 := hfz 4
   have z5 := hfz 5
   simp only [ev] at hKO; go_simp
   rw [← hW2]
   exact hKO _ g rfl hg hw ⟨(Ext.wr hS.1 hw (by omega)), (hS.2.1.wr hw (by omega)), (hS.2.2.1.wr hw (by omega)), (hS.2.2.2.1.wr hw (by omega)), (hS.2.2.2.2.1.wr hw (by omega)), (hS.2.2.2.2.2.1.wr hw (by omega)), (Nat.le_trans hS.2.2.2.2.2.2 hw.apart.size)⟩ ⟨g, ev, hg, hq⟩
  ·have q7 := hp.1; have e5 := isOf hp.2.1; simp only [e5] at hKO
   obtain ⟨g, ev, hg, hfo⟩ := q7
   replace ev : vs 7 = _ := ev
   obtain ⟨x0, x1, c0, c1, hfz, W2, hW2, hw, hq⟩ := hfo.put2 (.int .i64 pw0) (.int .i64 pw1) (noU_ints [pw0, pw1])
   have z0 := hfz 0
   have z1 := hfz 1
   simp only [ev] at hKO; go_simp
   rw [← hW2]
   exact hKO _ g rfl hg hw ⟨(Ext.wr hS.1 hw (by omega)), (hS.2.1.wr hw (by omega)), (hS.2.2.1.wr hw (by omega)), (hS.2.2.2.1.wr hw (by omega)), (hS.2.2.2.2.1.wr hw (by omega)), (hS.2.2.2.2.2.1.wr hw (by omega)), (Nat.le_trans hS.2.2.2.2.2.2 hw.apart.size)⟩ ⟨g, ev, hg, hq⟩
 intro vs W1 hS hM hp
 clear szw1 E0 hi0 hi1 hi2 hi3 p1
 obtain ⟨E0, hi0, hi1, hi2, hi3, p1, sz1⟩ := hS
 obtain ⟨h1_0, h1_1, h1_2, h1_3, h1_4, h1_5, h1_6, h1_7, h1_8, h1_9, h1_10, -⟩ := hp
 skip
 have hh := h1_8
 obtain ⟨g3, ev3, hg3, p3⟩ := hh
 replace ev3 : vs 6 = _ := ev3
 skip
 have hh := h1_10
 obtain ⟨g5, ev5, hg5, p5⟩ := hh
 replace ev5 : vs 7 = _ := ev5
 replace p5 : Bx2 W1 g5 24 (.int .i64 pw0) (.int .i64 pw1) := p5
 have ne3_5 : g3 ≠ g5 := fun e => hM.2 6 (by simp) 7 (by simp) (by decide) g3 (by rw [ev3]; rfl) (by rw [ev5, e]; rfl)
 clear hM
 simp only [ev3, ev5, isOf h1_0, isOf h1_1, isOf h1_2, isOf h1_3, isOf h1_4, isOf h1_5, isOf h1_9]
 clear ev3 ev5 h1_0 h1_1 h1_2 h1_3 h1_4 h1_5 h1_9 h1_6 h1_7 h1_8 h1_10; clear sHB1_p1
 have HG3 := Lib.hid hg3
 clear hg3
 have HG5 := Lib.hid hg5
 clear hg5
 have HN3_5 := Lib.hid ne3_5
 clear ne3_5
 obtain ⟨k1a, k1b, k1c, k1d, k1e, k1f, k1g, k1h, k1i, k1j, k1k, k1l, k1m⟩ := p1.cells13
 obtain ⟨k3a, k3b, k3c, k3d, k3e, k3f⟩ := p3.c6
 obtain ⟨k5a, k5b⟩ := p5.c2
 go_wp2_with fail
 clear k1a k1b k1c k1d k1e k1f k1g k1h k1i k1j k1k k1l k1m k3a k3b k3c k3d k3e k3f k5a k5b
 refine (Tryz.refFew17 a0 n0 c0 a1 n1 c1 a2 n2 c2 a3 n3 c3 32 _ HSM.out).mono ?_
 rintro e Wc ⟨rfl, hE⟩
 replace E0 := (Ext.trans E0 hE); replace hi0 := (hi0.ext hE); replace hi1 := (hi1.ext hE); replace hi2 := (hi2.ext hE); replace hi3 := (hi3.ext hE); replace p1 := (p1.ext hE); replace p3 := (p3.ext hE); replace p5 := (p5.ext hE); clear hE
 by_cases hf : n0 + n1 + n2 + n3 ≤ 32
 ·rw [decide_eq_true hf]
  have HN : Hid (n0 ≤ 40) := Lib.hid (by omega)
  clear hf
  obtain ⟨k1a, k1b, k1c, k1d, k1e, k1f, k1g, k1h, k1i, k1j, k1k, k1l, k1m⟩ := p1.cells13
  obtain ⟨k3a, k3b, k3c, k3d, k3e, k3f⟩ := p3.c6
  obtain ⟨k5a, k5b⟩ := p5.c2
  go_wp2_with fail
  clear k1a k1b k1c k1d k1e k1f k1g k1h k1i k1j k1k k1l k1m k3a k3b k3c k3d k3e k3f k5a k5b
  have szc := Ext.size E0
  refine (Tryz.adamStepIs lr b1 b2 eps wd pw0 pw1 ap f _ HST1.out HN.out HQ.out.1.1 HQ.out.1.2 HQ.out.2.1 (hi0.mono (Nat.zero_le _) szc) (hi1.mono (Nat.zero_le _) szc) (hi2.mono (Nat.zero_le _) szc) (hi3.mono (Nat.zero_le _) szc)).mono ?_
  rintro e S1 ⟨⟨v, rfl, x11, x12, x13, m1, rfl, i11, i12, i13⟩, hE⟩
  clear szc; replace E0 := (Ext.trans E0 hE); replace hi0 := (hi0.ext hE); replace hi1 := (hi1.ext hE); replace hi2 := (hi2.ext hE); replace hi3 := (hi3.ext hE); replace p1 := (p1.ext hE); replace p3 := (p3.ext hE); replace p5 := (p5.ext hE); clear hE
  obtain ⟨hx1, hhx⟩ : ∃ n, n = S1.heap.size := ⟨_, rfl⟩
  rw [← hhx] at i11 i12 i13
  have sz1 := Nat.le_of_eq hhx
  clear hhx
  obtain ⟨k1a, k1b, k1c, k1d, k1e, k1f, k1g, k1h, k1i, k1j, k1k, k1l, k1m⟩ := p1.cells13
  obtain ⟨k3a, k3b, k3c, k3d, k3e, k3f⟩ := p3.c6
  obtain ⟨k5a, k5b⟩ := p5.c2
  go_upto_region 5 with (fail)
  clear k1a k1b k1c k1d k1e k1f k1g k1h k1i k1j k1k k1l k1m k3a k3b k3c k3d k3e k3f k5a k5b
  have p6 := BxA.new S1 27 #[.slice x11 m1 m1, .slice x12 m1 m1, .slice x13 m1 m1, .slice none 0 0]
  have hE := Ext.alloc1 S1 (.cells #[.slice x11 m1 m1, .slice x12 m1 m1, .slice x13 m1 m1, .slice none 0 0] 27)
  have lt0 := Ext.size E0
  have ltp1 := p1.lt; have ltp3 := p3.lt; have ltp5 := p5.lt
  have ltsz1 := sz1
  obtain ⟨U6, hU6⟩ : ∃ U6, U6 = S1.alloc (.cells #[.slice x11 m1 m1, .slice x12 m1 m1, .slice x13 m1 m1, .slice none 0 0] 27) := ⟨_, rfl⟩
  rw [← hU6] at p6 hE ⊢
  clear hU6; replace E0 := (Ext.trans E0 hE); replace hi0 := (hi0.ext hE); replace hi1 := (hi1.ext hE); replace hi2 := (hi2.ext hE); replace hi3 := (hi3.ext hE); replace p1 := (p1.ext hE); replace p3 := (p3.ext hE); replace p5 := (p5.ext hE)
  replace i11 := (i11.ext hE)
  replace i12 := (i12.ext hE)
  replace i13 := (i13.ext hE)
  replace sz1 := (Nat.le_trans sz1 (Ext.size hE))
  clear hE
  obtain ⟨g6, hg6⟩ : ∃ g, g = S1.heap.size := ⟨_, rfl⟩
  rw [← hg6] at p6 lt0 ltp1 ltp3 ltp5 ltsz1 ⊢
  clear hg6
  have HS6 := Lib.hid (And.intro lt0 (And.intro ltp1 (And.intro ltp3 (And.intro ltp5 ltsz1))))
  clear lt0 ltp1 ltp3 ltp5 ltsz1
  obtain ⟨k1a, k1b, k1c, k1d, k1e, k1f, k1g, k1h, k1i, k1j, k1k, k1l, k1m⟩ := p1.cells13
  obtain ⟨k3a, k3b, k3c, k3d, k3e, k3f⟩ := p3.c6
  obtain ⟨k5a, k5b⟩ := p5.c2
  obtain ⟨k6a, k6b, k6c, k6d⟩ := p6.c4
  go_wp2_with fail
  clear k1a k1b k1c k1d k1e k1f k1g k1h k1i k1j k1k k1l k1m k3a k3b k3c k3d k3e k3f k5a k5b k6a k6b k6c k6d
  have szc := Ext.size E0
  refine (Tryz.refStepIs18 lr b1 b2 eps wd pw0 pw1 ap f _ HST1.out HN.out HQ.out.1.1 HQ.out.1.2 HQ.out.2.1 (hi0.mono (Nat.zero_le _) szc) (hi1.mono (Nat.zero_le _) szc) (hi2.mono (Nat.zero_le _) szc) (hi3.mono (Nat.zero_le _) szc)).mono ?_
  rintro e S2 ⟨⟨v, rfl, z1, k1, e1, z2, k2, e2, z3, k3, e3, rfl, j1, j2, j3⟩, hE⟩
  clear szc; replace E0 := (Ext.trans E0 hE); replace hi0 := (hi0.ext hE); replace hi1 := (hi1.ext hE); replace hi2 := (hi2.ext hE); replace hi3 := (hi3.ext hE); replace p1 := (p1.ext hE); replace p3 := (p3.ext hE); replace p5 := (p5.ext hE)
  replace i11 := (i11.ext hE)
  replace i12 := (i12.ext hE)
  replace i13 := (i13.ext hE)
  replace sz1 := (Nat.le_trans sz1 (Ext.size hE))
  replace p6 := (p6.ext hE); clear hE
  obtain ⟨hx2, hhx⟩ : ∃ n, n = S2.heap.size := ⟨_, rfl⟩
  rw [← hhx] at j1 j2 j3
  have sz2 := Nat.le_of_eq hhx
  clear hhx
  obtain ⟨k1a, k1b, k1c, k1d, k1e, k1f, k1g, k1h, k1i, k1j, k1k, k1l, k1m⟩ := p1.cells13
  obtain ⟨k3a, k3b, k3c, k3d, k3e, k3f⟩ := p3.c6
  obtain ⟨k5a, k5b⟩ := p5.c2
  obtain ⟨k6a, k6b, k6c, k6d⟩ := p6.c4
  go_upto_region 6 with (fail)
  clear k1a k1b k1c k1d k1e k1f k1g k1h k1i k1j k1k k1l k1m k3a k3b k3c k3d k3e k3f k5a k5b k6a k6b k6c k6d
  have p8 := BxA.new S2 27 #[.slice z1 k1 e1, .slice z2 k2 e2, .slice z3 k3 e3, .slice none 0 0]
  have hE := Ext.alloc1 S2 (.cells #[.slice z1 k1 e1, .slice z2 k2 e2, .slice z3 k3 e3, .slice none 0 0] 27)
  have lt0 := Ext.size E0
  have ltp1 := p1.lt; have ltp3 := p3.lt; have ltp5 := p5.lt
  have ltsz1 := sz1
  have ltp6 := p6.lt
  have ltsz2 := sz2
  obtain ⟨U8, hU8⟩ : ∃ U8, U8 = S2.alloc (.cells #[.slice z1 k1 e1, .slice z2 k2 e2, .slice z3 k3 e3, .slice none 0 0] 27) := ⟨_, rfl⟩
  rw [← hU8] at p8 hE ⊢
  clear hU8; replace E0 := (Ext.trans E0 hE); replace hi0 := (hi0.ext hE); replace hi1 := (hi1.ext hE); replace hi2 := (hi2.ext hE); replace hi3 := (hi3.ext hE); replace p1 := (p1.ext hE); replace p3 := (p3.ext hE); replace p5 := (p5.ext hE)
  replace i11 := (i11.ext hE)
  replace i12 := (i12.ext hE)
  replace i13 := (i13.ext hE)
  replace sz1 := (Nat.le_trans sz1 (Ext.size hE))
  replace p6 := (p6.ext hE)
  replace j1 := (j1.ext hE)
  replace j2 := (j2.ext hE)
  replace j3 := (j3.ext hE)
  replace sz2 := (Nat.le_trans sz2 (Ext.size hE))
  clear hE
  obtain ⟨g8, hg8⟩ : ∃ g, g = S2.heap.size := ⟨_, rfl⟩
  rw [← hg8] at p8 lt0 ltp1 ltp3 ltp5 ltsz1 ltp6 ltsz2 ⊢
  clear hg8
  have HS8 := Lib.hid (And.intro lt0 (And.intro ltp1 (And.intro ltp3 (And.intro ltp5 (And.intro ltsz1 (And.intro ltp6 ltsz2))))))
  clear lt0 ltp1 ltp3 ltp5 ltsz1 ltp6 ltsz2
  cases hr : rightA ⟨lr, b1, b2, eps, wd, ap⟩ f
  ·have HR := Lib.hid hr
   clear hr
   obtain ⟨k1a, k1b, k1c, k1d, k1e, k1f, k1g, k1h, k1i, k1j, k1k, k1l, k1m⟩ := p1.cells13
   obtain ⟨k3a, k3b, k3c, k3d, k3e, k3f⟩ := p3.c6
   obtain ⟨k5a, k5b⟩ := p5.c2
   obtain ⟨k6a, k6b, k6c, k6d⟩ := p6.c4
   obtain ⟨k8a, k8b, k8c, k8d⟩ := p8.c4
   go_wp2_with fail
   clear k1a k1b k1c k1d k1e k1f k1g k1h k1i k1j k1k k1l k1m k3a k3b k3c k3d k3e k3f k5a k5b k6a k6b k6c k6d k8a k8b k8c k8d
   refine (Tryz.refRight18 lr b1 b2 eps wd f ap _).mono ?_
   rintro e Wr1 ⟨rfl, hE⟩
   rw [HR.out]; replace E0 := (Ext.trans E0 hE); replace hi0 := (hi0.ext hE); replace hi1 := (hi1.ext hE); replace hi2 := (hi2.ext hE); replace hi3 := (hi3.ext hE); replace p1 := (p1.ext hE); replace p3 := (p3.ext hE); replace p5 := (p5.ext hE)
   replace i11 := (i11.ext hE)
   replace i12 := (i12.ext hE)
   replace i13 := (i13.ext hE)
   replace sz1 := (Nat.le_trans sz1 (Ext.size hE))
   replace p6 := (p6.ext hE)
   replace j1 := (j1.ext hE)
   replace j2 := (j2.ext hE)
   replace j3 := (j3.ext hE)
   replace sz2 := (Nat.le_trans sz2 (Ext.size hE))
   replace p8 := (p8.ext hE); clear hE
   obtain ⟨k1a, k1b, k1c, k1d, k1e, k1f, k1g, k1h, k1i, k1j, k1k, k1l, k1m⟩ := p1.cells13
   obtain ⟨k3a, k3b, k3c, k3d, k3e, k3f⟩ := p3.c6
   obtain ⟨k5a, k5b⟩ := p5.c2
   obtain ⟨k6a, k6b, k6c, k6d⟩ := p6.c4
   obtain ⟨k8a, k8b, k8c, k8d⟩ := p8.c4
   go_wp2_with fail
   clear k1a k1b k1c k1d k1e k1f k1g k1h k1i k1j k1k k1l k1m k3a k3b k3c k3d k3e k3f k5a k5b k6a k6b k6c k6d k8a k8b k8c k8d
   refine (Tryz.adamRight lr b1 b2 eps wd f ap _).mono ?_
   rintro e Wr2 ⟨rfl, hE⟩
   rw [HR.out]; replace E0 := (Ext.trans E0 hE); replace hi0 := (hi0.ext hE); replace hi1 := (hi1.ext hE); replace hi2 := (hi2.ext hE); replace hi3 := (hi3.ext hE); replace p1 := (p1.ext hE); replace p3 := (p3.ext hE); replace p5 := (p5.ext hE)
   replace i11 := (i11.ext hE)
   replace i12 := (i12.ext hE)
   replace i13 := (i13.ext hE)
   replace sz1 := (Nat.le_trans sz1 (Ext.size hE))
   replace p6 := (p6.ext hE)
   replace j1 := (j1.ext hE)
   replace j2 := (j2.ext hE)
   replace j3 := (j3.ext hE)
   replace sz2 := (Nat.le_trans sz2 (Ext.size hE))
   replace p8 := (p8.ext hE); clear hE
   obtain ⟨k1a, k1b, k1c, k1d, k1e, k1f, k1g, k1h, k1i, k1j, k1k, k1l, k1m⟩ := p1.cells13
   obtain ⟨k3a, k3b, k3c, k3d, k3e, k3f⟩ := p3.c6
   obtain ⟨k5a, k5b⟩ := p5.c2
   obtain ⟨k6a, k6b, k6c, k6d⟩ := p6.c4
   obtain ⟨k8a, k8b, k8c, k8d⟩ := p8.c4
   go_wp2_with fail
   clear k1a k1b k1c k1d k1e k1f k1g k1h k1i k1j k1k k1l k1m k3a k3b k3c k3d k3e k3f k5a k5b k6a k6b k6c k6d k8a k8b k8c k8d
   refine (Tryz.refSame17T i11 j1 i12 j2 i13 j3 (Iw.nil 0 0 _) (Iw.nil 0 0 _)).mono ?_
   rintro e Wr3 ⟨rfl, hE⟩
   replace E0 := (Ext.trans E0 hE); replace hi0 := (hi0.ext hE); replace hi1 := (hi1.ext hE); replace hi2 := (hi2.ext hE); replace hi3 := (hi3.ext hE); replace p1 := (p1.ext hE); replace p3 := (p3.ext hE); replace p5 := (p5.ext hE)
   replace i11 := (i11.ext hE)
   replace i12 := (i12.ext hE)
   replace i13 := (i13.ext hE)
   replace sz1 := (Nat.le_trans sz1 (Ext.size hE))
   replace p6 := (p6.ext hE)
   replace j1 := (j1.ext hE)
   replace j2 := (j2.ext hE)
   replace j3 := (j3.ext hE)
   replace sz2 := (Nat.le_trans sz2 (Ext.size hE))
   replace p8 := (p8.ext hE); clear hE
   obtain ⟨k1a, k1b, k1c, k1d, k1e, k1f, k1g, k1h, k1i, k1j, k1k, k1l, k1m⟩ := p1.cells13
   obtain ⟨k3a, k3b, k3c, k3d, k3e, k3f⟩ := p3.c6
   obtain ⟨k5a, k5b⟩ := p5.c2
   obtain ⟨k6a, k6b, k6c, k6d⟩ := p6.c4
   obtain ⟨k8a, k8b, k8c, k8d⟩ := p8.c4
   go_upto_region 10 with (fail)
   clear k1a k1b k1c k1d k1e k1f k1g k1h k1i k1j k1k k1l k1m k3a k3b k3c k3d k3e k3f k5a k5b k6a k6b k6c k6d k8a k8b k8c k8d; clear i11 i12 i13 j1 j2 j3 hi0 hi1 hi2 hi3 sz1 sz2; have ltp3 := p3.lt; have ltp5 := p5.lt; have ltp6 := p6.lt; have ltp8 := p8.lt; have szw2 := Ext.size E0
   refine region_gk [isV (.bool true), isV (.bool true), isV (.bool false), isV (.bool true), isV (.bool true), isV (undef), isV (undef), isV (undef), isV (undef), isV (undef), isV (undef), isV (undef), isV (undef), isV (undef), isV (.bool true), isV (.bool true),
     .one fun v _ => v = .bool true] ⟨Good.is _, Good.is _, Good.is _, Good.is _, Good.is _, Good.is _, Good.is _, Good.is _, Good.is _, Good.is _, Good.is _, Good.is _, Good.is _, Good.is _, Good.is _, Good.is _, Good.is _, trivial⟩ (E0.s.k (p1.s.k (p3.s.k (p5.s.k (p6.s.k (p8.s)))))) (A := ?A2) ?hA2 ?howe2 ?hfin2
   case hA2 =>
    intro vs
    simp only [putAll, Act.put, sA, sZ, sS, Nat.zero_add, Nat.reduceAdd]
    exact rfl
   case howe2 =>
    clear E0 p1 p3 p5 p6 p8
    intro hf
    refine ⟨oE 0 [] hf rfl ?_, oP1 1 [0] hf rfl, oP1 2 [1] hf rfl, oP2 3 [1, 2] hf rfl, oP2 4 [1, 3] hf rfl, oP1 5 [4] hf rfl, oP1 6 [4] hf rfl, oP1 7 [4] hf rfl, oP1 8 [4] hf rfl, oP1 9 [4] hf rfl, oP1 10 [4] hf rfl, oP1 11 [4] hf rfl, oP1 12 [4] hf rfl, oP1 13 [4] hf rfl, oP3 14 [1, 4, 13] hf rfl, oP2 15 [1, 14] hf rfl, oP1 16 [15] hf rfl, trivial⟩
    all_goals intro vs W hS hp hx KO hKO
    all_goals simp only [Act.put, sA, sZ, sS] at hKO
    ·go_simp
     refine (Tryz.alive18 _).mono ?_
     rintro e W1 ⟨rfl, hE⟩
     exact hKO _ W1 hE rfl
   intro vs W2 hS hp
   clear szw2 E0 p1 p3 p5 p6 p8
   obtain ⟨⟨E0, p1, p3, p5, p6, p8⟩, sz2⟩ := hS
   obtain ⟨h2_0, h2_1, h2_2, h2_3, h2_4, h2_5, h2_6, h2_7, h2_8, h2_9, h2_10, h2_11, h2_12, h2_13, h2_14, h2_15, h2_16, -⟩ := hp
   simp only [isOf h2_0, isOf h2_1, isOf h2_2, isOf h2_3, isOf h2_4, isOf h2_5, isOf h2_6, isOf h2_7, isOf h2_8, isOf h2_9, isOf h2_10, isOf h2_11, isOf h2_12, isOf h2_13, isOf h2_14, isOf h2_15, isOf h2_16]
   clear h2_0 h2_1 h2_2 h2_3 h2_4 h2_5 h2_6 h2_7 h2_8 h2_9 h2_10 h2_11 h2_12 h2_13 h2_14 h2_15 h2_16
   obtain ⟨k1a, k1b, k1c, k1d, k1e, k1f, k1g, k1h, k1i, k1j, k1k, k1l, k1m⟩ := p1.cells13
   obtain ⟨k3a, k3b, k3c, k3d, k3e, k3f⟩ := p3.c6
   obtain ⟨k5a, k5b⟩ := p5.c2
   obtain ⟨k6a, k6b, k6c, k6d⟩ := p6.c4
   obtain ⟨k8a, k8b, k8c, k8d⟩ := p8.c4
   go_wp2; go_ret
   exact ⟨rfl, E0⟩
  ·obtain ⟨K, rfl⟩ : ∃ K : Nat, f = (K : Int) := ⟨f.toNat, by have := rightA_iff.1 hr; omega⟩
   have HK : Hid (K ≤ 40) := Lib.hid (by have := rightA_iff.1 hr; omega)
   have HR := Lib.hid hr
   have HRR := Lib.hid (rightA_iff.1 hr)
   clear hr
   obtain ⟨k1a, k1b, k1c, k1d, k1e, k1f, k1g, k1h, k1i, k1j, k1k, k1l, k1m⟩ := p1.cells13
   obtain ⟨k3a, k3b, k3c, k3d, k3e, k3f⟩ := p3.c6
   obtain ⟨k5a, k5b⟩ := p5.c2
   obtain ⟨k6a, k6b, k6c, k6d⟩ := p6.c4
   obtain ⟨k8a, k8b, k8c, k8d⟩ := p8.c4
   go_wp2_with fail
   clear k1a k1b k1c k1d k1e k1f k1g k1h k1i k1j k1k k1l k1m k3a k3b k3c k3d k3e k3f k5a k5b k6a k6b k6c k6d k8a k8b k8c k8d
   refine (Tryz.refRight18 lr b1 b2 eps wd (K : Int) ap _).mono ?_
   rintro e Wr1 ⟨rfl, hE⟩
   rw [HR.out]; replace E0 := (Ext.trans E0 hE); replace hi0 := (hi0.ext hE); replace hi1 := (hi1.ext hE); replace hi2 := (hi2.ext hE); replace hi3 := (hi3.ext hE); replace p1 := (p1.ext hE); replace p3 := (p3.ext hE); replace p5 := (p5.ext hE)
   replace i11 := (i11.ext hE)
   replace i12 := (i12.ext hE)
   replace i13 := (i13.ext hE)
   replace sz1 := (Nat.le_trans sz1 (Ext.size hE))
   replace p6 := (p6.ext hE)
   replace j1 := (j1.ext hE)
   replace j2 := (j2.ext hE)
   replace j3 := (j3.ext hE)
   replace sz2 := (Nat.le_trans sz2 (Ext.size hE))
   replace p8 := (p8.ext hE); clear hE
   obtain ⟨k1a, k1b, k1c, k1d, k1e, k1f, k1g, k1h, k1i, k1j, k1k, k1l, k1m⟩ := p1.cells13
   obtain ⟨k3a, k3b, k3c, k3d, k3e, k3f⟩ := p3.c6
   obtain ⟨k5a, k5b⟩ := p5.c2
   obtain ⟨k6a, k6b, k6c, k6d⟩ := p6.c4
   obtain ⟨k8a, k8b, k8c, k8d⟩ := p8.c4
   go_wp2_with fail
   clear k1a k1b k1c k1d k1e k1f k1g k1h k1i k1j k1k k1l k1m k3a k3b k3c k3d k3e k3f k5a k5b k6a k6b k6c k6d k8a k8b k8c k8d
   refine (Tryz.adamRight lr b1 b2 eps wd (K : Int) ap _).mono ?_
   rintro e Wr2 ⟨rfl, hE⟩
   rw [HR.out]; replace E0 := (Ext.trans E0 hE); replace hi0 := (hi0.ext hE); replace hi1 := (hi1.ext hE); replace hi2 := (hi2.ext hE); replace hi3 := (hi3.ext hE); replace p1 := (p1.ext hE); replace p3 := (p3.ext hE); replace p5 := (p5.ext hE)
   replace i11 := (i11.ext hE)
   replace i12 := (i12.ext hE)
   replace i13 := (i13.ext hE)
   replace sz1 := (Nat.le_trans sz1 (Ext.size hE))
   replace p6 := (p6.ext hE)
   replace j1 := (j1.ext hE)
   replace j2 := (j2.ext hE)
   replace j3 := (j3.ext hE)
   replace sz2 := (Nat.le_trans sz2 (Ext.size hE))
   replace p8 := (p8.ext hE); clear hE
   obtain ⟨k1a, k1b, k1c, k1d, k1e, k1f, k1g, k1h, k1i, k1j, k1k, k1l, k1m⟩ := p1.cells13
   obtain ⟨k3a, k3b, k3c, k3d, k3e, k3f⟩ := p3.c6
   obtain ⟨k5a, k5b⟩ := p5.c2
   obtain ⟨k6a, k6b, k6c, k6d⟩ := p6.c4
   obtain ⟨k8a, k8b, k8c, k8d⟩ := p8.c4
   go_wp2_with fail
   clear k1a k1b k1c k1d k1e k1f k1g k1h k1i k1j k1k k1l k1m k3a k3b k3c k3d k3e k3f k5a k5b k6a k6b k6c k6d k8a k8b k8c k8d
   refine (Tryz.refSame17T i11 j1 i12 j2 i13 j3 (Iw.nil 0 0 _) (Iw.nil 0 0 _)).mono ?_
   rintro e Wr3 ⟨rfl, hE⟩
   replace E0 := (Ext.trans E0 hE); replace hi0 := (hi0.ext hE); replace hi1 := (hi1.ext hE); replace hi2 := (hi2.ext hE); replace hi3 := (hi3.ext hE); replace p1 := (p1.ext hE); replace p3 := (p3.ext hE); replace p5 := (p5.ext hE)
   replace i11 := (i11.ext hE)
   replace i12 := (i12.ext hE)
   replace i13 := (i13.ext hE)
   replace sz1 := (Nat.le_trans sz1 (Ext.size hE))
   replace p6 := (p6.ext hE)
   replace j1 := (j1.ext hE)
   replace j2 := (j2.ext hE)
   replace j3 := (j3.ext hE)
   replace sz2 := (Nat.le_trans sz2 (Ext.size hE))
   replace p8 := (p8.ext hE); clear hE; clear i11 i12 i13 j1 j2 j3 hi0 hi1 hi2 hi3 sz1 sz2
   obtain ⟨k1a, k1b, k1c, k1d, k1e, k1f, k1g, k1h, k1i, k1j, k1k, k1l, k1m⟩ := p1.cells13
   obtain ⟨k3a, k3b, k3c, k3d, k3e, k3f⟩ := p3.c6
   obtain ⟨k5a, k5b⟩ := p5.c2
   obtain ⟨k6a, k6b, k6c, k6d⟩ := p6.c4
   obtain ⟨k8a, k8b, k8c, k8d⟩ := p8.c4
   go_wp2_with fail
   clear k1a k1b k1c k1d k1e k1f k1g k1h k1i k1j k1k k1l k1m k3a k3b k3c k3d k3e k3f k5a k5b k6a k6b k6c k6d k8a k8b k8c k8d
   refine (Tryz.refMay18 K HK.out pw0 pw1 _ (Iw.nil _ _ _)).mono ?_
   rintro e Wm ⟨rfl, hE⟩
   rw [show negB [] = false from rfl, Bool.not_false, Bool.true_and]
   replace E0 := (Ext.trans E0 hE); replace p1 := (p1.ext hE); replace p3 := (p3.ext hE); replace p5 := (p5.ext hE); replace p6 := (p6.ext hE); replace p8 := (p8.ext hE); clear hE
   cases hm : (mayB K pw0 && mayB K pw1)
   ·clear hm
    obtain ⟨k1a, k1b, k1c, k1d, k1e, k1f, k1g, k1h, k1i, k1j, k1k, k1l, k1m⟩ := p1.cells13
    obtain ⟨k3a, k3b, k3c, k3d, k3e, k3f⟩ := p3.c6
    obtain ⟨k5a, k5b⟩ := p5.c2
    obtain ⟨k6a, k6b, k6c, k6d⟩ := p6.c4
    obtain ⟨k8a, k8b, k8c, k8d⟩ := p8.c4
    go_upto_region 10 with (fail)
    clear k1a k1b k1c k1d k1e k1f k1g k1h k1i k1j k1k k1l k1m k3a k3b k3c k3d k3e k3f k5a k5b k6a k6b k6c k6d k8a k8b k8c k8d; have ltp3 := p3.lt; have ltp5 := p5.lt; have ltp6 := p6.lt; have ltp8 := p8.lt; have szw3 := Ext.size E0
    refine region_gk [isV (.bool true), isV (.bool true), isV (.bool false), isV (.bool true), isV (.bool true), isV (undef), isV (undef), isV (undef), isV (undef), isV (undef), isV (undef), isV (undef), isV (undef), isV (undef), isV (.bool true), isV (.bool true),
      .one fun v _ => v = .bool true] ⟨Good.is _, Good.is _, Good.is _, Good.is _, Good.is _, Good.is _, Good.is _, Good.is _, Good.is _, Good.is _, Good.is _, Good.is _, Good.is _, Good.is _, Good.is _, Good.is _, Good.is _, trivial⟩ (E0.s.k (p1.s.k (p3.s.k (p5.s.k (p6.s.k (p8.s)))))) (A := ?A3) ?hA3 ?howe3 ?hfin3
    case hA3 =>
     intro vs
     simp only [putAll, Act.put, sA, sZ, sS, Nat.zero_add, Nat.reduceAdd]
     exact rfl
    case howe3 =>
     clear E0 p1 p3 p5 p6 p8
     intro hf
     refine ⟨oE 0 [] hf rfl ?_, oP1 1 [0] hf rfl, oP1 2 [1] hf rfl, oP2 3 [1, 2] hf rfl, oP2 4 [1, 3] hf rfl, oP1 5 [4] hf rfl, oP1 6 [4] hf rfl, oP1 7 [4] hf rfl, oP1 8 [4] hf rfl, oP1 9 [4] hf rfl, oP1 10 [4] hf rfl, oP1 11 [4] hf rfl, oP1 12 [4] hf rfl, oP1 13 [4] hf rfl, oP3 14 [1, 4, 13] hf rfl, oP2 15 [1, 14] hf rfl, oP1 16 [15] hf rfl, trivial⟩
     all_goals intro vs W hS hp hx KO hKO
     all_goals simp only [Act.put, sA, sZ, sS] at hKO
     ·go_simp
      refine (Tryz.alive18 _).mono ?_
      rintro e W1 ⟨rfl, hE⟩
      exact hKO _ W1 hE rfl
    intro vs W3 hS hp
    clear szw3 E0 p1 p3 p5 p6 p8
    obtain ⟨⟨E0, p1, p3, p5, p6, p8⟩, sz3⟩ := hS
    obtain ⟨h3_0, h3_1, h3_2, h3_3, h3_4, h3_5, h3_6, h3_7, h3_8, h3_9, h3_10, h3_11, h3_12, h3_13, h3_14, h3_15, h3_16, -⟩ := hp
    simp only [isOf h3_0, isOf h3_1, isOf h3_2, isOf h3_3, isOf h3_4, isOf h3_5, isOf h3_6, isOf h3_7, isOf h3_8, isOf h3_9, isOf h3_10, isOf h3_11, isOf h3_12, isOf h3_13, isOf h3_14, isOf h3_15, isOf h3_16]
    clear h3_0 h3_1 h3_2 h3_3 h3_4 h3_5 h3_6 h3_7 h3_8 h3_9 h3_10 h3_11 h3_12 h3_13 h3_14 h3_15 h3_16
    obtain ⟨k1a, k1b, k1c, k1d, k1e, k1f, k1g, k1h, k1i, k1j, k1k, k1l, k1m⟩ := p1.cells13
    obtain ⟨k3a, k3b, k3c, k3d, k3e, k3f⟩ := p3.c6
    obtain ⟨k5a, k5b⟩ := p5.c2
    obtain ⟨k6a, k6b, k6c, k6d⟩ := p6.c4
    obtain ⟨k8a, k8b, k8c, k8d⟩ := p8.c4
    go_wp2; go_ret
    exact ⟨rfl, E0⟩
   ·rw [Bool.and_eq_true, mayB_iff, mayB_iff] at hm
    have hR2 := HRR.out
    rw [Int.toNat_natCast] at hR2
    obtain ⟨pa, hx⟩ : ∃ pa, mulO K pw0 b1 = some pa := ⟨mulZ K pw0 b1, okZ_in (by have := mulZ_nonneg (K := K) hm.1.1 hR2.2.2.2.2.1; omega) (by have := mulZ_le (K := K) (Int.le_of_lt hm.1.2) hR2.2.2.2.2.1; have := HQ.out.2.2.1.2; omega)⟩
    obtain ⟨pb, hy⟩ : ∃ pb, mulO K pw1 b2 = some pb := ⟨mulZ K pw1 b2, okZ_in (by have := mulZ_nonneg (K := K) hm.2.1 hR2.2.2.2.2.2.2.1; omega) (by have := mulZ_le (K := K) (Int.le_of_lt hm.2.2) hR2.2.2.2.2.2.2.1; have := HQ.out.2.2.2.2; omega)⟩
    have HX := Lib.hid hx
    have HY := Lib.hid hy
    have HX2 : Hid (mulP K (pw0, true) (b1, true) = (pa, true)) := Lib.hid (toO_some (by rw [toO_mul]; exact hx))
    have HY2 : Hid (mulP K (pw1, true) (b2, true) = (pb, true)) := Lib.hid (toO_some (by rw [toO_mul]; exact hy))
    clear hm hR2 hx hy
    have heq : ∀ W, (Op.equalIn 10000 24 (.agg #[.int .i64 pa, .int .i64 pb]) (.agg #[.int .i64 pa, .int .i64 pb])).run Tryz.prog W = .ok true W := fun W => by
     have := run_eqPair (P := Tryz.prog) (t := 24) (e := 2) (k := .i64) 9998 Tryz.underlying24 (by kernel_rfl) (by kernel_rfl) Tryz.underlying2 pa pb pa pb W
     simpa using this
    obtain ⟨k1a, k1b, k1c, k1d, k1e, k1f, k1g, k1h, k1i, k1j, k1k, k1l, k1m⟩ := p1.cells13
    obtain ⟨k3a, k3b, k3c, k3d, k3e, k3f⟩ := p3.c6
    obtain ⟨k5a, k5b⟩ := p5.c2
    obtain ⟨k6a, k6b, k6c, k6d⟩ := p6.c4
    obtain ⟨k8a, k8b, k8c, k8d⟩ := p8.c4
    go_upto_region 10 with (fail)
    clear k1a k1b k1c k1d k1e k1f k1g k1h k1i k1j k1k k1l k1m k3a k3b k3c k3d k3e k3f k5a k5b k6a k6b k6c k6d k8a k8b k8c k8d; have ltp3 := p3.lt; have ltp5 := p5.lt; have ltp6 := p6.lt; have ltp8 := p8.lt; have szw4 := Ext.size E0
    refine region_gk [isV (.bool true), isV (.bool true), isV (.bool true), isV (.bool false), isV (.bool false), isV (.agg #[.int .i64 lr, .int .i64 b1, .int .i64 b2, .int .i64 eps, .int .i64 wd, .bool ap]), isV (.int .i64 (K : Int)), isV (.agg #[.int .i64 pw0, .int .i64 pw1]), isV (.agg #[.int .i64 pa, .int .i64 pb]), isV (.agg #[.int .i64 lr, .int .i64 b1, .int .i64 b2, .int .i64 eps, .int .i64 wd, .bool ap]), isV (.int .i64 (K : Int)), isV (.agg #[.int .i64 pw0, .int .i64 pw1]), isV (.agg #[.int .i64 pa, .int .i64 pb]), isV (.bool true), isV (.bool true), isV (.bool true),
      .one fun v _ => v = .bool true] ⟨Good.is _, Good.is _, Good.is _, Good.is _, Good.is _, Good.is _, Good.is _, Good.is _, Good.is _, Good.is _, Good.is _, Good.is _, Good.is _, Good.is _, Good.is _, Good.is _, Good.is _, trivial⟩ (E0.s.k (p1.s.k (p3.s.k (p5.s.k (p6.s.k (p8.s)))))) (A := ?A4) ?hA4 ?howe4 ?hfin4
    case hA4 =>
     intro vs
     simp only [putAll, Act.put, sA, sZ, sS, Nat.zero_add, Nat.reduceAdd]
     exact rfl
    case howe4 =>
     clear E0 p1 p3 p5 p6 p8
     intro hf
     refine ⟨oE 0 [] hf rfl ?_, oP1 1 [0] hf rfl, oP1 2 [1] hf rfl, oP2 3 [1, 2] hf rfl, oP2 4 [1, 3] hf rfl, oE 5 [4] hf rfl ?_, oP1 6 [4] hf rfl, oE 7 [4] hf rfl ?_, oE 8 [4, 5, 6, 7] hf rfl ?_, oE 9 [4] hf rfl ?_, oP1 10 [4] hf rfl, oE 11 [4] hf rfl ?_, oE 12 [4, 9, 10, 11] hf rfl ?_, oP3 13 [4, 8, 12] hf rfl, oP3 14 [1, 4, 13] hf rfl, oP2 15 [1, 14] hf rfl, oP1 16 [15] hf rfl, trivial⟩
     all_goals intro vs W hS hp hx KO hKO
     all_goals simp only [Act.put, sA, sZ, sS] at hKO
     ·go_simp
      refine (Tryz.alive18 _).mono ?_
      rintro e W1 ⟨rfl, hE⟩
      exact hKO _ W1 hE rfl
     ·have e4 := isOf hp.1; simp only [e4] at hKO; have fc0 := BxA.cell (hS.1.2.2.1) 0 (v := .int .i64 lr) rfl; have fc1 := BxA.cell (hS.1.2.2.1) 1 (v := .int .i64 b1) rfl; have fc2 := BxA.cell (hS.1.2.2.1) 2 (v := .int .i64 b2) rfl; have fc3 := BxA.cell (hS.1.2.2.1) 3 (v := .int .i64 eps) rfl; have fc4 := BxA.cell (hS.1.2.2.1) 4 (v := .int .i64 wd) rfl; have fc5 := BxA.cell (hS.1.2.2.1) 5 (v := .bool ap) rfl; go_simp; exact hKO _ W (.refl W) rfl
     ·have e4 := isOf hp.1; simp only [e4] at hKO; have fc0 := hS.1.2.2.2.1.cell0; have fc1 := hS.1.2.2.2.1.cell1; go_simp; exact hKO _ W (.refl W) rfl
     ·have e4 := isOf hp.1; have e5 := isOf hp.2.1; have e6 := isOf hp.2.2.1; have e7 := isOf hp.2.2.2.1; simp only [e4, e5, e6, e7] at hKO; go_simp
      refine (Tryz.adamPowers lr b1 b2 eps wd pw0 pw1 ap K HK.out HQP.out.1 HQP.out.2 HQ.out.2.2.1 HQ.out.2.2.2 HX.out HY.out _).mono ?_
      rintro e W1 ⟨rfl, hE⟩
      exact hKO _ W1 hE rfl
     ·have e4 := isOf hp.1; simp only [e4] at hKO; have fc0 := BxA.cell (hS.1.2.2.1) 0 (v := .int .i64 lr) rfl; have fc1 := BxA.cell (hS.1.2.2.1) 1 (v := .int .i64 b1) rfl; have fc2 := BxA.cell (hS.1.2.2.1) 2 (v := .int .i64 b2) rfl; have fc3 := BxA.cell (hS.1.2.2.1) 3 (v := .int .i64 eps) rfl; have fc4 := BxA.cell (hS.1.2.2.1) 4 (v := .int .i64 wd) rfl; have fc5 := BxA.cell (hS.1.2.2.1) 5 (v := .bool ap) rfl; go_simp; exact hKO _ W (.refl W) rfl
     ·have e4 := isOf hp.1; simp only [e4] at hKO; have fc0 := hS.1.2.2.2.1.cell0; have fc1 := hS.1.2.2.2.1.cell1; go_simp; exact hKO _ W (.refl W) rfl
     ·have e4 := isOf hp.1; have e9 := isOf hp.2.1; have e10 := isOf hp.2.2.1; have e11 := isOf hp.2.2.2.1; simp only [e4, e9, e10, e11] at hKO; go_simp
      refine (Tryz.refPowers18 lr b1 b2 eps wd pw0 pw1 ap K HK.out (X := (pa, true)) (Y := (pb, true)) _ HX2.out HY2.out HQP.out.1 HQP.out.2 HQ.out.2.2.1 HQ.out.2.2.2).mono ?_
      rintro e W1 ⟨rfl, hE⟩
      exact hKO _ W1 hE rfl
    intro vs W4 hS hp
    clear szw4 E0 p1 p3 p5 p6 p8
    obtain ⟨⟨E0, p1, p3, p5, p6, p8⟩, sz4⟩ := hS
    obtain ⟨h4_0, h4_1, h4_2, h4_3, h4_4, h4_5, h4_6, h4_7, h4_8, h4_9, h4_10, h4_11, h4_12, h4_13, h4_14, h4_15, h4_16, -⟩ := hp
    simp only [isOf h4_0, isOf h4_1, isOf h4_2, isOf h4_3, isOf h4_4, isOf h4_5, isOf h4_6, isOf h4_7, isOf h4_8, isOf h4_9, isOf h4_10, isOf h4_11, isOf h4_12, isOf h4_13, isOf h4_14, isOf h4_15, isOf h4_16]
    clear h4_0 h4_1 h4_2 h4_3 h4_4 h4_5 h4_6 h4_7 h4_8 h4_9 h4_10 h4_11 h4_12 h4_13 h4_14 h4_15 h4_16
    obtain ⟨k1a, k1b, k1c, k1d, k1e, k1f, k1g, k1h, k1i, k1j, k1k, k1l, k1m⟩ := p1.cells13
    obtain ⟨k3a, k3b, k3c, k3d, k3e, k3f⟩ := p3.c6
    obtain ⟨k5a, k5b⟩ := p5.c2
    obtain ⟨k6a, k6b, k6c, k6d⟩ := p6.c4
    obtain ⟨k8a, k8b, k8c, k8d⟩ := p8.c4
    go_wp2; go_ret
    exact ⟨rfl, E0⟩
 ·rw [decide_eq_false hf]
  clear hf
  obtain ⟨k1a, k1b, k1c, k1d, k1e, k1f, k1g, k1h, k1i, k1j, k1k, k1l, k1m⟩ := p1.cells13
  obtain ⟨k3a, k3b, k3c, k3d, k3e, k3f⟩ := p3.c6
  obtain ⟨k5a, k5b⟩ := p5.c2
  go_wp2_with fail
  clear k1a k1b k1c k1d k1e k1f k1g k1h k1i k1j k1k k1l k1m k3a k3b k3c k3d k3e k3f k5a k5b
  refine (Tryz.alive18 _).mono ?_
  rintro e We ⟨rfl, hE⟩
  replace E0 := (Ext.trans E0 hE); replace hi0 := (hi0.ext hE); replace hi1 := (hi1.ext hE); replace hi2 := (hi2.ext hE); replace hi3 := (hi3.ext hE); replace p1 := (p1.ext hE); replace p3 := (p3.ext hE); replace p5 := (p5.ext hE); clear hE
  obtain ⟨k1a, k1b, k1c, k1d, k1e, k1f, k1g, k1h, k1i, k1j, k1k, k1l, k1m⟩ := p1.cells13
  obtain ⟨k3a, k3b, k3c, k3d, k3e, k3f⟩ := p3.c6
  obtain ⟨k5a, k5b⟩ := p5.c2
  go_wp2; go_ret
  exact ⟨rfl, E0⟩


end Go.Rt
