/-
 The laws of chapter 19 (Adafactor): First: its walk.
-/
import Derived.Test.YtiebflipijcnfaaJL
import Derived.Test.YtiebflipijcnfaaJI
namespace Go.Rt
open Go Go.RowKit Go.Proofs

set_option maxRecDepth 100000 in
set_option maxHeartbeats 16000000 in
theorem Try.lawAdaFirst (lr ep d f tt c : Int) {n0 n1 n2 n3 : Nat} {a0 a1 a2 a3 : Option Addr} {c0 c1 c2 c3 : Nat} {lw lm lv lg : List Int} {am av : Option Addr} {nm nv cm cv : Nat} {ls lt : List Int} (w : World) (hs : n0 + n1 + n2 + n3 ≤ 9223372036854775807) (q1 : I64 lr) (q2 : I64 ep) (q3 : I64 d) (q4 : I64 c) (hi0 : Iw 0 w.heap.size w a0 n0 c0 lw) (hi1 : Iw 0 w.heap.size w a1 n1 c1 lm) (hi2 : Iw 0 w.heap.size w a2 n2 c2 lv) (hi3 : Iw 0 w.heap.size w a3 n3 c3 lg) (him : Iw 0 w.heap.size w am nm cm ls) (hiv : Iw 0 w.heap.size w av nv cv lt) :
  Calls Try.prog 3 #[.agg #[.int .i64 lr, .int .i64 ep, .int .i64 d, .int .i64 f, .int .i64 tt, .int .i64 c, .slice a0 n0 c0, .slice a1 n1 c1, .slice a2 n2 c2, .slice a3 n3 c3], .slice am nm cm, .slice av nv cv] w fun e w' => e = .returned (.bool true) ∧ Ext w w' := by
 have HQ := Lib.hid (And.intro q1 (And.intro q2 (And.intro q3 q4)))
 have HSM := Lib.hid hs
 have HL := Lib.hid (And.intro hi1.len (And.intro hi2.len (And.intro him.len hiv.len)))
 clear q1 q2 q3 q4 hs
 obtain ⟨E1, hE1⟩ : ∃ E, adaE ⟨lr, ep, d⟩ f 1 c lw lm lv lg = E := ⟨_, rfl⟩
 obtain ⟨xw1, hxw1⟩ : ∃ x, stepW ⟨lr, ep, d⟩ f 1 c lw lm lv lg = x := ⟨_, rfl⟩
 obtain ⟨xm1, hxm1⟩ : ∃ x, stepM ⟨lr, ep, d⟩ f 1 c lw lm lv lg = x := ⟨_, rfl⟩
 obtain ⟨xv1, hxv1⟩ : ∃ x, stepV ⟨lr, ep, d⟩ f 1 c lw lm lv lg = x := ⟨_, rfl⟩
 have HST1 := Lib.hid (And.intro hE1 (And.intro hxw1 (And.intro hxm1 hxv1)))
 obtain ⟨E2, hE2⟩ : ∃ E, adaE ⟨lr, ep, d⟩ f 1 c lw ls lt lg = E := ⟨_, rfl⟩
 obtain ⟨xw2, hxw2⟩ : ∃ x, stepW ⟨lr, ep, d⟩ f 1 c lw ls lt lg = x := ⟨_, rfl⟩
 obtain ⟨xm2, hxm2⟩ : ∃ x, stepM ⟨lr, ep, d⟩ f 1 c lw ls lt lg = x := ⟨_, rfl⟩
 obtain ⟨xv2, hxv2⟩ : ∃ x, stepV ⟨lr, ep, d⟩ f 1 c lw ls lt lg = x := ⟨_, rfl⟩
 have HST2 := Lib.hid (And.intro hE2 (And.intro hxw2 (And.intro hxm2 hxv2)))
 have HD : Hid (nm = n1 → nv = n2 → E1 ≠ 1 → E2 ≠ 1 → E1 = E2 ∧ xw1 = xw2 ∧ xm1 = xm2 ∧ xv1 = xv2) := Lib.hid (fun k1 k2 k3 k4 => by
  have hl := HL.out
  rw [← hE1] at k3
  rw [← hE2] at k4
  rw [← hE1, ← hE2, ← hxw1, ← hxw2, ← hxm1, ← hxm2, ← hxv1, ← hxv2]
  exact first_same (by omega) (by omega) k3 k4)
 clear hE1 hxw1 hxm1 hxv1 hE2 hxw2 hxm2 hxv2
 obtain ⟨W0, hW0⟩ : ∃ W0, W0 = (w.alloc (.cells #[.int .i64 lr, .int .i64 ep, .int .i64 d, .int .i64 f, .int .i64 tt, .int .i64 c, .slice a0 n0 c0, .slice a1 n1 c1, .slice a2 n2 c2, .slice a3 n3 c3] 29)) := ⟨_, rfl⟩
 have E0 : Ext w W0 := by rw [hW0]; exact (Ext.alloc1 w (.cells #[.int .i64 lr, .int .i64 ep, .int .i64 d, .int .i64 f, .int .i64 tt, .int .i64 c, .slice a0 n0 c0, .slice a1 n1 c1, .slice a2 n2 c2, .slice a3 n3 c3] 29))
 replace hi0 : Iw 0 w.heap.size W0 a0 n0 c0 (lw) := hi0.ext E0
 replace hi1 : Iw 0 w.heap.size W0 a1 n1 c1 (lm) := hi1.ext E0
 replace hi2 : Iw 0 w.heap.size W0 a2 n2 c2 (lv) := hi2.ext E0
 replace hi3 : Iw 0 w.heap.size W0 a3 n3 c3 (lg) := hi3.ext E0
 replace him : Iw 0 w.heap.size W0 am nm cm (ls) := him.ext E0
 replace hiv : Iw 0 w.heap.size W0 av nv cv (lt) := hiv.ext E0
 have p3 : BxA W0 w.heap.size 29 #[.int .i64 lr, .int .i64 ep, .int .i64 d, .int .i64 f, .int .i64 tt, .int .i64 c, .slice a0 n0 c0, .slice a1 n1 c1, .slice a2 n2 c2, .slice a3 n3 c3] := by rw [hW0]; exact (BxA.new w 29 #[.int .i64 lr, .int .i64 ep, .int .i64 d, .int .i64 f, .int .i64 tt, .int .i64 c, .slice a0 n0 c0, .slice a1 n1 c1, .slice a2 n2 c2, .slice a3 n3 c3])
 go_enter Try.func3, Try.ntmps3
 have kp3_0 := p3.cell 0 (v := .int .i64 lr) rfl
 have kp3_1 := p3.cell 1 (v := .int .i64 ep) rfl
 have kp3_2 := p3.cell 2 (v := .int .i64 d) rfl
 have kp3_3 := p3.cell 3 (v := .int .i64 f) rfl
 have kp3_4 := p3.cell 4 (v := .int .i64 tt) rfl
 have kp3_5 := p3.cell 5 (v := .int .i64 c) rfl
 have kp3_6 := p3.cell 6 (v := .slice a0 n0 c0) rfl
 have kp3_7 := p3.cell 7 (v := .slice a1 n1 c1) rfl
 have kp3_8 := p3.cell 8 (v := .slice a2 n2 c2) rfl
 have kp3_9 := p3.cell 9 (v := .slice a3 n3 c3) rfl
 go_upto_region 1 with (fail)
 rw [← hW0]
 clear hW0
 clear kp3_0 kp3_1 kp3_2 kp3_3 kp3_4 kp3_5 kp3_6 kp3_7 kp3_8 kp3_9
 have kp3_0 := p3.cell 0 (v := .int .i64 lr) rfl
 have kp3_1 := p3.cell 1 (v := .int .i64 ep) rfl
 have kp3_2 := p3.cell 2 (v := .int .i64 d) rfl
 have kp3_3 := p3.cell 3 (v := .int .i64 f) rfl
 have kp3_4 := p3.cell 4 (v := .int .i64 tt) rfl
 have kp3_5 := p3.cell 5 (v := .int .i64 c) rfl
 have kp3_6 := p3.cell 6 (v := .slice a0 n0 c0) rfl
 have kp3_7 := p3.cell 7 (v := .slice a1 n1 c1) rfl
 have kp3_8 := p3.cell 8 (v := .slice a2 n2 c2) rfl
 have kp3_9 := p3.cell 9 (v := .slice a3 n3 c3) rfl
 go_upto_region 2 with (fail)
 clear kp3_0 kp3_1 kp3_2 kp3_3 kp3_4 kp3_5 kp3_6 kp3_7 kp3_8 kp3_9
 have p7 := BxA.new W0 27 #[.slice a0 n0 c0, .slice a1 n1 c1, .slice a2 n2 c2, .slice a3 n3 c3]
 have hE := Ext.alloc1 W0 (.cells #[.slice a0 n0 c0, .slice a1 n1 c1, .slice a2 n2 c2, .slice a3 n3 c3] 27)
 have lt0 := Ext.size E0
 have ltp3 := p3.lt
 obtain ⟨U7, hU7⟩ : ∃ U7, U7 = W0.alloc (.cells #[.slice a0 n0 c0, .slice a1 n1 c1, .slice a2 n2 c2, .slice a3 n3 c3] 27) := ⟨_, rfl⟩
 rw [← hU7] at p7 hE ⊢
 clear hU7
 replace E0 := (Ext.trans E0 hE)
 replace hi0 := (hi0.ext hE)
 replace hi1 := (hi1.ext hE)
 replace hi2 := (hi2.ext hE)
 replace hi3 := (hi3.ext hE)
 replace him := (him.ext hE)
 replace hiv := (hiv.ext hE)
 replace p3 := (p3.ext hE)
 clear hE
 obtain ⟨g7, hg7⟩ : ∃ g, g = W0.heap.size := ⟨_, rfl⟩
 rw [← hg7] at p7 lt0 ltp3 ⊢
 clear hg7
 have HS7 := Lib.hid (And.intro lt0 ltp3)
 clear lt0 ltp3
 have kp3_0 := p3.cell 0 (v := .int .i64 lr) rfl
 have kp3_1 := p3.cell 1 (v := .int .i64 ep) rfl
 have kp3_2 := p3.cell 2 (v := .int .i64 d) rfl
 have kp3_3 := p3.cell 3 (v := .int .i64 f) rfl
 have kp3_4 := p3.cell 4 (v := .int .i64 tt) rfl
 have kp3_5 := p3.cell 5 (v := .int .i64 c) rfl
 have kp3_6 := p3.cell 6 (v := .slice a0 n0 c0) rfl
 have kp3_7 := p3.cell 7 (v := .slice a1 n1 c1) rfl
 have kp3_8 := p3.cell 8 (v := .slice a2 n2 c2) rfl
 have kp3_9 := p3.cell 9 (v := .slice a3 n3 c3) rfl
 obtain ⟨kp7_0, kp7_1, kp7_2, kp7_3⟩ := p7.c4
 go_wp2_with fail
 clear kp3_0 kp3_1 kp3_2 kp3_3 kp3_4 kp3_5 kp3_6 kp3_7 kp3_8 kp3_9 kp7_0 kp7_1 kp7_2 kp7_3
 refine (Try.refFew17 a0 n0 c0 a1 n1 c1 a2 n2 c2 a3 n3 c3 36 _ HSM.out).mono ?_
 rintro e Wc ⟨rfl, hE⟩
 replace E0 := (Ext.trans E0 hE)
 replace hi0 := (hi0.ext hE)
 replace hi1 := (hi1.ext hE)
 replace hi2 := (hi2.ext hE)
 replace hi3 := (hi3.ext hE)
 replace him := (him.ext hE)
 replace hiv := (hiv.ext hE)
 replace p3 := (p3.ext hE)
 replace p7 := (p7.ext hE)
 clear hE
 by_cases hf : n0 + n1 + n2 + n3 ≤ 36
 ·rw [decide_eq_true hf]
  have HN : Hid (n0 ≤ 40) := Lib.hid (by omega)
  by_cases e1 : n1 = nm
  ·have HE1 := Lib.hid e1
   subst e1
   by_cases e2 : n2 = nv
   ·subst e2
    clear hf
    have kp3_0 := p3.cell 0 (v := .int .i64 lr) rfl
    have kp3_1 := p3.cell 1 (v := .int .i64 ep) rfl
    have kp3_2 := p3.cell 2 (v := .int .i64 d) rfl
    have kp3_3 := p3.cell 3 (v := .int .i64 f) rfl
    have kp3_4 := p3.cell 4 (v := .int .i64 tt) rfl
    have kp3_5 := p3.cell 5 (v := .int .i64 c) rfl
    have kp3_6 := p3.cell 6 (v := .slice a0 n0 c0) rfl
    have kp3_7 := p3.cell 7 (v := .slice a1 n1 c1) rfl
    have kp3_8 := p3.cell 8 (v := .slice a2 n2 c2) rfl
    have kp3_9 := p3.cell 9 (v := .slice a3 n3 c3) rfl
    obtain ⟨kp7_0, kp7_1, kp7_2, kp7_3⟩ := p7.c4
    go_upto_region 5 with (fail)
    clear kp3_0 kp3_1 kp3_2 kp3_3 kp3_4 kp3_5 kp3_6 kp3_7 kp3_8 kp3_9 kp7_0 kp7_1 kp7_2 kp7_3
    have p8 := BxA.new Wc 24 #[.int .i64 1, .int .i64 c]
    have hE := Ext.alloc1 Wc (.cells #[.int .i64 1, .int .i64 c] 24)
    have lt0 := Ext.size E0
    have ltp3 := p3.lt
    have ltp7 := p7.lt
    obtain ⟨U8, hU8⟩ : ∃ U8, U8 = Wc.alloc (.cells #[.int .i64 1, .int .i64 c] 24) := ⟨_, rfl⟩
    rw [← hU8] at p8 hE ⊢
    clear hU8
    replace E0 := (Ext.trans E0 hE)
    replace hi0 := (hi0.ext hE)
    replace hi1 := (hi1.ext hE)
    replace hi2 := (hi2.ext hE)
    replace hi3 := (hi3.ext hE)
    replace him := (him.ext hE)
    replace hiv := (hiv.ext hE)
    replace p3 := (p3.ext hE)
    replace p7 := (p7.ext hE)
    clear hE
    obtain ⟨g8, hg8⟩ : ∃ g, g = Wc.heap.size := ⟨_, rfl⟩
    rw [← hg8] at p8 lt0 ltp3 ltp7 ⊢
    clear hg8
    have HS8 := Lib.hid (And.intro lt0 (And.intro ltp3 ltp7))
    clear lt0 ltp3 ltp7
    replace p8 : Bx2 U8 g8 24 (.int .i64 1) (.int .i64 c) := p8
    have kp3_0 := p3.cell 0 (v := .int .i64 lr) rfl
    have kp3_1 := p3.cell 1 (v := .int .i64 ep) rfl
    have kp3_2 := p3.cell 2 (v := .int .i64 d) rfl
    have kp3_3 := p3.cell 3 (v := .int .i64 f) rfl
    have kp3_4 := p3.cell 4 (v := .int .i64 tt) rfl
    have kp3_5 := p3.cell 5 (v := .int .i64 c) rfl
    have kp3_6 := p3.cell 6 (v := .slice a0 n0 c0) rfl
    have kp3_7 := p3.cell 7 (v := .slice a1 n1 c1) rfl
    have kp3_8 := p3.cell 8 (v := .slice a2 n2 c2) rfl
    have kp3_9 := p3.cell 9 (v := .slice a3 n3 c3) rfl
    obtain ⟨kp7_0, kp7_1, kp7_2, kp7_3⟩ := p7.c4
    have kp8_0 := p8.cell0
    have kp8_1 := p8.cell1
    go_wp2_with fail
    clear kp3_0 kp3_1 kp3_2 kp3_3 kp3_4 kp3_5 kp3_6 kp3_7 kp3_8 kp3_9 kp7_0 kp7_1 kp7_2 kp7_3 kp8_0 kp8_1
    have szc := Ext.size E0
    refine (Try.adaStepTo lr ep d f 1 c _ HQ.out.1 HQ.out.2.1 HQ.out.2.2.1 HQ.out.2.2.2 HN.out HST1.out (hi0.mono (Nat.zero_le _) szc) (hi1.mono (Nat.zero_le _) szc) (hi2.mono (Nat.zero_le _) szc) (hi3.mono (Nat.zero_le _) szc)).mono ?_
    rintro e S1 ⟨hE, x11, m11, y11, x12, m12, y12, x13, m13, y13, rfl, i11, i12, i13⟩
    clear szc
    replace E0 := (Ext.trans E0 hE)
    replace hi0 := (hi0.ext hE)
    replace hi1 := (hi1.ext hE)
    replace hi2 := (hi2.ext hE)
    replace hi3 := (hi3.ext hE)
    replace him := (him.ext hE)
    replace hiv := (hiv.ext hE)
    replace p3 := (p3.ext hE)
    replace p7 := (p7.ext hE)
    replace p8 := (p8.ext hE)
    clear hE
    obtain ⟨hx1, hhx⟩ : ∃ n, n = S1.heap.size := ⟨_, rfl⟩
    rw [← hhx] at i11 i12 i13
    have sz1 := Nat.le_of_eq hhx
    clear hhx
    have kp3_0 := p3.cell 0 (v := .int .i64 lr) rfl
    have kp3_1 := p3.cell 1 (v := .int .i64 ep) rfl
    have kp3_2 := p3.cell 2 (v := .int .i64 d) rfl
    have kp3_3 := p3.cell 3 (v := .int .i64 f) rfl
    have kp3_4 := p3.cell 4 (v := .int .i64 tt) rfl
    have kp3_5 := p3.cell 5 (v := .int .i64 c) rfl
    have kp3_6 := p3.cell 6 (v := .slice a0 n0 c0) rfl
    have kp3_7 := p3.cell 7 (v := .slice a1 n1 c1) rfl
    have kp3_8 := p3.cell 8 (v := .slice a2 n2 c2) rfl
    have kp3_9 := p3.cell 9 (v := .slice a3 n3 c3) rfl
    obtain ⟨kp7_0, kp7_1, kp7_2, kp7_3⟩ := p7.c4
    have kp8_0 := p8.cell0
    have kp8_1 := p8.cell1
    go_upto_region 6 with (fail)
    clear kp3_0 kp3_1 kp3_2 kp3_3 kp3_4 kp3_5 kp3_6 kp3_7 kp3_8 kp3_9 kp7_0 kp7_1 kp7_2 kp7_3 kp8_0 kp8_1
    have p9 := BxA.new S1 27 #[.slice x11 m11 y11, .slice x12 m12 y12, .slice x13 m13 y13, .slice none 0 0]
    have hE := Ext.alloc1 S1 (.cells #[.slice x11 m11 y11, .slice x12 m12 y12, .slice x13 m13 y13, .slice none 0 0] 27)
    have lt0 := Ext.size E0
    have ltp3 := p3.lt
    have ltp7 := p7.lt
    have ltp8 := p8.lt
    have ltsz1 := sz1
    obtain ⟨U9, hU9⟩ : ∃ U9, U9 = S1.alloc (.cells #[.slice x11 m11 y11, .slice x12 m12 y12, .slice x13 m13 y13, .slice none 0 0] 27) := ⟨_, rfl⟩
    rw [← hU9] at p9 hE ⊢
    clear hU9
    replace E0 := (Ext.trans E0 hE)
    replace hi0 := (hi0.ext hE)
    replace hi1 := (hi1.ext hE)
    replace hi2 := (hi2.ext hE)
    replace hi3 := (hi3.ext hE)
    replace him := (him.ext hE)
    replace hiv := (hiv.ext hE)
    replace p3 := (p3.ext hE)
    replace p7 := (p7.ext hE)
    replace p8 := (p8.ext hE)
    replace i11 := (i11.ext hE)
    replace i12 := (i12.ext hE)
    replace i13 := (i13.ext hE)
    replace sz1 := (Nat.le_trans sz1 (Ext.size hE))
    clear hE
    obtain ⟨g9, hg9⟩ : ∃ g, g = S1.heap.size := ⟨_, rfl⟩
    rw [← hg9] at p9 lt0 ltp3 ltp7 ltp8 ltsz1 ⊢
    clear hg9
    have HS9 := Lib.hid (And.intro lt0 (And.intro ltp3 (And.intro ltp7 (And.intro ltp8 ltsz1))))
    clear lt0 ltp3 ltp7 ltp8 ltsz1
    have kp3_0 := p3.cell 0 (v := .int .i64 lr) rfl
    have kp3_1 := p3.cell 1 (v := .int .i64 ep) rfl
    have kp3_2 := p3.cell 2 (v := .int .i64 d) rfl
    have kp3_3 := p3.cell 3 (v := .int .i64 f) rfl
    have kp3_4 := p3.cell 4 (v := .int .i64 tt) rfl
    have kp3_5 := p3.cell 5 (v := .int .i64 c) rfl
    have kp3_6 := p3.cell 6 (v := .slice a0 n0 c0) rfl
    have kp3_7 := p3.cell 7 (v := .slice a1 n1 c1) rfl
    have kp3_8 := p3.cell 8 (v := .slice a2 n2 c2) rfl
    have kp3_9 := p3.cell 9 (v := .slice a3 n3 c3) rfl
    obtain ⟨kp7_0, kp7_1, kp7_2, kp7_3⟩ := p7.c4
    have kp8_0 := p8.cell0
    have kp8_1 := p8.cell1
    obtain ⟨kp9_0, kp9_1, kp9_2, kp9_3⟩ := p9.c4
    go_wp2_with fail
    clear kp3_0 kp3_1 kp3_2 kp3_3 kp3_4 kp3_5 kp3_6 kp3_7 kp3_8 kp3_9 kp7_0 kp7_1 kp7_2 kp7_3 kp8_0 kp8_1 kp9_0 kp9_1 kp9_2 kp9_3
    have szc := Ext.size E0
    refine (Try.adaStepTo lr ep d f 1 c _ HQ.out.1 HQ.out.2.1 HQ.out.2.2.1 HQ.out.2.2.2 HN.out HST2.out (hi0.mono (Nat.zero_le _) szc) (him.mono (Nat.zero_le _) szc) (hiv.mono (Nat.zero_le _) szc) (hi3.mono (Nat.zero_le _) szc)).mono ?_
    rintro e S2 ⟨hE, x21, m21, y21, x22, m22, y22, x23, m23, y23, rfl, i21, i22, i23⟩
    clear szc
    replace E0 := (Ext.trans E0 hE)
    replace hi0 := (hi0.ext hE)
    replace hi1 := (hi1.ext hE)
    replace hi2 := (hi2.ext hE)
    replace hi3 := (hi3.ext hE)
    replace him := (him.ext hE)
    replace hiv := (hiv.ext hE)
    replace p3 := (p3.ext hE)
    replace p7 := (p7.ext hE)
    replace p8 := (p8.ext hE)
    replace i11 := (i11.ext hE)
    replace i12 := (i12.ext hE)
    replace i13 := (i13.ext hE)
    replace sz1 := (Nat.le_trans sz1 (Ext.size hE))
    replace p9 := (p9.ext hE)
    clear hE
    obtain ⟨hx2, hhx⟩ : ∃ n, n = S2.heap.size := ⟨_, rfl⟩
    rw [← hhx] at i21 i22 i23
    have sz2 := Nat.le_of_eq hhx
    clear hhx
    have kp3_0 := p3.cell 0 (v := .int .i64 lr) rfl
    have kp3_1 := p3.cell 1 (v := .int .i64 ep) rfl
    have kp3_2 := p3.cell 2 (v := .int .i64 d) rfl
    have kp3_3 := p3.cell 3 (v := .int .i64 f) rfl
    have kp3_4 := p3.cell 4 (v := .int .i64 tt) rfl
    have kp3_5 := p3.cell 5 (v := .int .i64 c) rfl
    have kp3_6 := p3.cell 6 (v := .slice a0 n0 c0) rfl
    have kp3_7 := p3.cell 7 (v := .slice a1 n1 c1) rfl
    have kp3_8 := p3.cell 8 (v := .slice a2 n2 c2) rfl
    have kp3_9 := p3.cell 9 (v := .slice a3 n3 c3) rfl
    obtain ⟨kp7_0, kp7_1, kp7_2, kp7_3⟩ := p7.c4
    have kp8_0 := p8.cell0
    have kp8_1 := p8.cell1
    obtain ⟨kp9_0, kp9_1, kp9_2, kp9_3⟩ := p9.c4
    go_upto_region 7 with (fail)
    clear kp3_0 kp3_1 kp3_2 kp3_3 kp3_4 kp3_5 kp3_6 kp3_7 kp3_8 kp3_9 kp7_0 kp7_1 kp7_2 kp7_3 kp8_0 kp8_1 kp9_0 kp9_1 kp9_2 kp9_3
    have p11 := BxA.new S2 27 #[.slice x21 m21 y21, .slice x22 m22 y22, .slice x23 m23 y23, .slice none 0 0]
    have hE := Ext.alloc1 S2 (.cells #[.slice x21 m21 y21, .slice x22 m22 y22, .slice x23 m23 y23, .slice none 0 0] 27)
    have lt0 := Ext.size E0
    have ltp3 := p3.lt
    have ltp7 := p7.lt
    have ltp8 := p8.lt
    have ltsz1 := sz1
    have ltp9 := p9.lt
    have ltsz2 := sz2
    obtain ⟨U11, hU11⟩ : ∃ U11, U11 = S2.alloc (.cells #[.slice x21 m21 y21, .slice x22 m22 y22, .slice x23 m23 y23, .slice none 0 0] 27) := ⟨_, rfl⟩
    rw [← hU11] at p11 hE ⊢
    clear hU11
    replace E0 := (Ext.trans E0 hE)
    replace hi0 := (hi0.ext hE)
    replace hi1 := (hi1.ext hE)
    replace hi2 := (hi2.ext hE)
    replace hi3 := (hi3.ext hE)
    replace him := (him.ext hE)
    replace hiv := (hiv.ext hE)
    replace p3 := (p3.ext hE)
    replace p7 := (p7.ext hE)
    replace p8 := (p8.ext hE)
    replace i11 := (i11.ext hE)
    replace i12 := (i12.ext hE)
    replace i13 := (i13.ext hE)
    replace sz1 := (Nat.le_trans sz1 (Ext.size hE))
    replace p9 := (p9.ext hE)
    replace i21 := (i21.ext hE)
    replace i22 := (i22.ext hE)
    replace i23 := (i23.ext hE)
    replace sz2 := (Nat.le_trans sz2 (Ext.size hE))
    clear hE
    obtain ⟨g11, hg11⟩ : ∃ g, g = S2.heap.size := ⟨_, rfl⟩
    rw [← hg11] at p11 lt0 ltp3 ltp7 ltp8 ltsz1 ltp9 ltsz2 ⊢
    clear hg11
    have HS11 := Lib.hid (And.intro lt0 (And.intro ltp3 (And.intro ltp7 (And.intro ltp8 (And.intro ltsz1 (And.intro ltp9 ltsz2))))))
    clear lt0 ltp3 ltp7 ltp8 ltsz1 ltp9 ltsz2
    by_cases k1 : E1 = 1
    ·subst k1
     have kp3_0 := p3.cell 0 (v := .int .i64 lr) rfl
     have kp3_1 := p3.cell 1 (v := .int .i64 ep) rfl
     have kp3_2 := p3.cell 2 (v := .int .i64 d) rfl
     have kp3_3 := p3.cell 3 (v := .int .i64 f) rfl
     have kp3_4 := p3.cell 4 (v := .int .i64 tt) rfl
     have kp3_5 := p3.cell 5 (v := .int .i64 c) rfl
     have kp3_6 := p3.cell 6 (v := .slice a0 n0 c0) rfl
     have kp3_7 := p3.cell 7 (v := .slice a1 n1 c1) rfl
     have kp3_8 := p3.cell 8 (v := .slice a2 n2 c2) rfl
     have kp3_9 := p3.cell 9 (v := .slice a3 n3 c3) rfl
     obtain ⟨kp7_0, kp7_1, kp7_2, kp7_3⟩ := p7.c4
     have kp8_0 := p8.cell0
     have kp8_1 := p8.cell1
     obtain ⟨kp9_0, kp9_1, kp9_2, kp9_3⟩ := p9.c4
     obtain ⟨kp11_0, kp11_1, kp11_2, kp11_3⟩ := p11.c4
     go_wp2_with fail
     clear kp3_0 kp3_1 kp3_2 kp3_3 kp3_4 kp3_5 kp3_6 kp3_7 kp3_8 kp3_9 kp7_0 kp7_1 kp7_2 kp7_3 kp8_0 kp8_1 kp9_0 kp9_1 kp9_2 kp9_3 kp11_0 kp11_1 kp11_2 kp11_3
     refine (Try.aliveL _).mono ?_
     rintro e We ⟨rfl, hE⟩
     replace E0 := (Ext.trans E0 hE)
     replace hi0 := (hi0.ext hE)
     replace hi1 := (hi1.ext hE)
     replace hi2 := (hi2.ext hE)
     replace hi3 := (hi3.ext hE)
     replace him := (him.ext hE)
     replace hiv := (hiv.ext hE)
     replace p3 := (p3.ext hE)
     replace p7 := (p7.ext hE)
     replace p8 := (p8.ext hE)
     replace i11 := (i11.ext hE)
     replace i12 := (i12.ext hE)
     replace i13 := (i13.ext hE)
     replace sz1 := (Nat.le_trans sz1 (Ext.size hE))
     replace p9 := (p9.ext hE)
     replace i21 := (i21.ext hE)
     replace i22 := (i22.ext hE)
     replace i23 := (i23.ext hE)
     replace sz2 := (Nat.le_trans sz2 (Ext.size hE))
     replace p11 := (p11.ext hE)
     clear hE
     have kp3_0 := p3.cell 0 (v := .int .i64 lr) rfl
     have kp3_1 := p3.cell 1 (v := .int .i64 ep) rfl
     have kp3_2 := p3.cell 2 (v := .int .i64 d) rfl
     have kp3_3 := p3.cell 3 (v := .int .i64 f) rfl
     have kp3_4 := p3.cell 4 (v := .int .i64 tt) rfl
     have kp3_5 := p3.cell 5 (v := .int .i64 c) rfl
     have kp3_6 := p3.cell 6 (v := .slice a0 n0 c0) rfl
     have kp3_7 := p3.cell 7 (v := .slice a1 n1 c1) rfl
     have kp3_8 := p3.cell 8 (v := .slice a2 n2 c2) rfl
     have kp3_9 := p3.cell 9 (v := .slice a3 n3 c3) rfl
     obtain ⟨kp7_0, kp7_1, kp7_2, kp7_3⟩ := p7.c4
     have kp8_0 := p8.cell0
     have kp8_1 := p8.cell1
     obtain ⟨kp9_0, kp9_1, kp9_2, kp9_3⟩ := p9.c4
     obtain ⟨kp11_0, kp11_1, kp11_2, kp11_3⟩ := p11.c4
     go_wp2
     go_ret
     exact ⟨rfl, E0⟩
    ·have k1b : (E1 == 1) = false := beq_eq_false_iff_ne.2 k1
     by_cases k2 : E2 = 1
     ·subst k2
      have kp3_0 := p3.cell 0 (v := .int .i64 lr) rfl
      have kp3_1 := p3.cell 1 (v := .int .i64 ep) rfl
      have kp3_2 := p3.cell 2 (v := .int .i64 d) rfl
      have kp3_3 := p3.cell 3 (v := .int .i64 f) rfl
      have kp3_4 := p3.cell 4 (v := .int .i64 tt) rfl
      have kp3_5 := p3.cell 5 (v := .int .i64 c) rfl
      have kp3_6 := p3.cell 6 (v := .slice a0 n0 c0) rfl
      have kp3_7 := p3.cell 7 (v := .slice a1 n1 c1) rfl
      have kp3_8 := p3.cell 8 (v := .slice a2 n2 c2) rfl
      have kp3_9 := p3.cell 9 (v := .slice a3 n3 c3) rfl
      obtain ⟨kp7_0, kp7_1, kp7_2, kp7_3⟩ := p7.c4
      have kp8_0 := p8.cell0
      have kp8_1 := p8.cell1
      obtain ⟨kp9_0, kp9_1, kp9_2, kp9_3⟩ := p9.c4
      obtain ⟨kp11_0, kp11_1, kp11_2, kp11_3⟩ := p11.c4
      go_wp2_with fail
      clear kp3_0 kp3_1 kp3_2 kp3_3 kp3_4 kp3_5 kp3_6 kp3_7 kp3_8 kp3_9 kp7_0 kp7_1 kp7_2 kp7_3 kp8_0 kp8_1 kp9_0 kp9_1 kp9_2 kp9_3 kp11_0 kp11_1 kp11_2 kp11_3
      refine (Try.aliveL _).mono ?_
      rintro e We ⟨rfl, hE⟩
      replace E0 := (Ext.trans E0 hE)
      replace hi0 := (hi0.ext hE)
      replace hi1 := (hi1.ext hE)
      replace hi2 := (hi2.ext hE)
      replace hi3 := (hi3.ext hE)
      replace him := (him.ext hE)
      replace hiv := (hiv.ext hE)
      replace p3 := (p3.ext hE)
      replace p7 := (p7.ext hE)
      replace p8 := (p8.ext hE)
      replace i11 := (i11.ext hE)
      replace i12 := (i12.ext hE)
      replace i13 := (i13.ext hE)
      replace sz1 := (Nat.le_trans sz1 (Ext.size hE))
      replace p9 := (p9.ext hE)
      replace i21 := (i21.ext hE)
      replace i22 := (i22.ext hE)
      replace i23 := (i23.ext hE)
      replace sz2 := (Nat.le_trans sz2 (Ext.size hE))
      replace p11 := (p11.ext hE)
      clear hE
      have kp3_0 := p3.cell 0 (v := .int .i64 lr) rfl
      have kp3_1 := p3.cell 1 (v := .int .i64 ep) rfl
      have kp3_2 := p3.cell 2 (v := .int .i64 d) rfl
      have kp3_3 := p3.cell 3 (v := .int .i64 f) rfl
      have kp3_4 := p3.cell 4 (v := .int .i64 tt) rfl
      have kp3_5 := p3.cell 5 (v := .int .i64 c) rfl
      have kp3_6 := p3.cell 6 (v := .slice a0 n0 c0) rfl
      have kp3_7 := p3.cell 7 (v := .slice a1 n1 c1) rfl
      have kp3_8 := p3.cell 8 (v := .slice a2 n2 c2) rfl
      have kp3_9 := p3.cell 9 (v := .slice a3 n3 c3) rfl
      obtain ⟨kp7_0, kp7_1, kp7_2, kp7_3⟩ := p7.c4
      have kp8_0 := p8.cell0
      have kp8_1 := p8.cell1
      obtain ⟨kp9_0, kp9_1, kp9_2, kp9_3⟩ := p9.c4
      obtain ⟨kp11_0, kp11_1, kp11_2, kp11_3⟩ := p11.c4
      go_wp2
      go_ret
      exact ⟨rfl, E0⟩
     ·have k2b : (E2 == 1) = false := beq_eq_false_iff_ne.2 k2
      obtain ⟨k3, HD1, HD2, HD3⟩ := HD.out (by trivial) (by trivial) k1 k2
      subst k3
      replace HD1 := Lib.hid HD1
      replace HD2 := Lib.hid HD2
      replace HD3 := Lib.hid HD3
      clear HD
      have kp3_0 := p3.cell 0 (v := .int .i64 lr) rfl
      have kp3_1 := p3.cell 1 (v := .int .i64 ep) rfl
      have kp3_2 := p3.cell 2 (v := .int .i64 d) rfl
      have kp3_3 := p3.cell 3 (v := .int .i64 f) rfl
      have kp3_4 := p3.cell 4 (v := .int .i64 tt) rfl
      have kp3_5 := p3.cell 5 (v := .int .i64 c) rfl
      have kp3_6 := p3.cell 6 (v := .slice a0 n0 c0) rfl
      have kp3_7 := p3.cell 7 (v := .slice a1 n1 c1) rfl
      have kp3_8 := p3.cell 8 (v := .slice a2 n2 c2) rfl
      have kp3_9 := p3.cell 9 (v := .slice a3 n3 c3) rfl
      obtain ⟨kp7_0, kp7_1, kp7_2, kp7_3⟩ := p7.c4
      have kp8_0 := p8.cell0
      have kp8_1 := p8.cell1
      obtain ⟨kp9_0, kp9_1, kp9_2, kp9_3⟩ := p9.c4
      obtain ⟨kp11_0, kp11_1, kp11_2, kp11_3⟩ := p11.c4
      go_wp2_with fail
      clear kp3_0 kp3_1 kp3_2 kp3_3 kp3_4 kp3_5 kp3_6 kp3_7 kp3_8 kp3_9 kp7_0 kp7_1 kp7_2 kp7_3 kp8_0 kp8_1 kp9_0 kp9_1 kp9_2 kp9_3 kp11_0 kp11_1 kp11_2 kp11_3
      refine (Try.aliveL _).mono ?_
      rintro e We ⟨rfl, hE⟩
      replace E0 := (Ext.trans E0 hE)
      replace hi0 := (hi0.ext hE)
      replace hi1 := (hi1.ext hE)
      replace hi2 := (hi2.ext hE)
      replace hi3 := (hi3.ext hE)
      replace him := (him.ext hE)
      replace hiv := (hiv.ext hE)
      replace p3 := (p3.ext hE)
      replace p7 := (p7.ext hE)
      replace p8 := (p8.ext hE)
      replace i11 := (i11.ext hE)
      replace i12 := (i12.ext hE)
      replace i13 := (i13.ext hE)
      replace sz1 := (Nat.le_trans sz1 (Ext.size hE))
      replace p9 := (p9.ext hE)
      replace i21 := (i21.ext hE)
      replace i22 := (i22.ext hE)
      replace i23 := (i23.ext hE)
      replace sz2 := (Nat.le_trans sz2 (Ext.size hE))
      replace p11 := (p11.ext hE)
      clear hE
      have kp3_0 := p3.cell 0 (v := .int .i64 lr) rfl
      have kp3_1 := p3.cell 1 (v := .int .i64 ep) rfl
      have kp3_2 := p3.cell 2 (v := .int .i64 d) rfl
      have kp3_3 := p3.cell 3 (v := .int .i64 f) rfl
      have kp3_4 := p3.cell 4 (v := .int .i64 tt) rfl
      have kp3_5 := p3.cell 5 (v := .int .i64 c) rfl
      have kp3_6 := p3.cell 6 (v := .slice a0 n0 c0) rfl
      have kp3_7 := p3.cell 7 (v := .slice a1 n1 c1) rfl
      have kp3_8 := p3.cell 8 (v := .slice a2 n2 c2) rfl
      have kp3_9 := p3.cell 9 (v := .slice a3 n3 c3) rfl
      obtain ⟨kp7_0, kp7_1, kp7_2, kp7_3⟩ := p7.c4
      have kp8_0 := p8.cell0
      have kp8_1 := p8.cell1
      obtain ⟨kp9_0, kp9_1, kp9_2, kp9_3⟩ := p9.c4
      obtain ⟨kp11_0, kp11_1, kp11_2, kp11_3⟩ := p11.c4
      go_wp2_with fail
      clear kp3_0 kp3_1 kp3_2 kp3_3 kp3_4 kp3_5 kp3_6 kp3_7 kp3_8 kp3_9 kp7_0 kp7_1 kp7_2 kp7_3 kp8_0 kp8_1 kp9_0 kp9_1 kp9_2 kp9_3 kp11_0 kp11_1 kp11_2 kp11_3
      refine (Try.refSame17 i11 i21 i12 i22 i13 i23 (Iw.nil 0 0 _) (Iw.nil 0 0 _)).mono ?_
      rintro e Wf ⟨rfl, hE⟩
      rw [decide_eq_true HD1.out, decide_eq_true HD2.out, decide_eq_true HD3.out]
      replace E0 := (Ext.trans E0 hE)
      replace hi0 := (hi0.ext hE)
      replace hi1 := (hi1.ext hE)
      replace hi2 := (hi2.ext hE)
      replace hi3 := (hi3.ext hE)
      replace him := (him.ext hE)
      replace hiv := (hiv.ext hE)
      replace p3 := (p3.ext hE)
      replace p7 := (p7.ext hE)
      replace p8 := (p8.ext hE)
      replace i11 := (i11.ext hE)
      replace i12 := (i12.ext hE)
      replace i13 := (i13.ext hE)
      replace sz1 := (Nat.le_trans sz1 (Ext.size hE))
      replace p9 := (p9.ext hE)
      replace i21 := (i21.ext hE)
      replace i22 := (i22.ext hE)
      replace i23 := (i23.ext hE)
      replace sz2 := (Nat.le_trans sz2 (Ext.size hE))
      replace p11 := (p11.ext hE)
      clear hE
      have kp3_0 := p3.cell 0 (v := .int .i64 lr) rfl
      have kp3_1 := p3.cell 1 (v := .int .i64 ep) rfl
      have kp3_2 := p3.cell 2 (v := .int .i64 d) rfl
      have kp3_3 := p3.cell 3 (v := .int .i64 f) rfl
      have kp3_4 := p3.cell 4 (v := .int .i64 tt) rfl
      have kp3_5 := p3.cell 5 (v := .int .i64 c) rfl
      have kp3_6 := p3.cell 6 (v := .slice a0 n0 c0) rfl
      have kp3_7 := p3.cell 7 (v := .slice a1 n1 c1) rfl
      have kp3_8 := p3.cell 8 (v := .slice a2 n2 c2) rfl
      have kp3_9 := p3.cell 9 (v := .slice a3 n3 c3) rfl
      obtain ⟨kp7_0, kp7_1, kp7_2, kp7_3⟩ := p7.c4
      have kp8_0 := p8.cell0
      have kp8_1 := p8.cell1
      obtain ⟨kp9_0, kp9_1, kp9_2, kp9_3⟩ := p9.c4
      obtain ⟨kp11_0, kp11_1, kp11_2, kp11_3⟩ := p11.c4
      go_wp2
      go_ret
      exact ⟨rfl, E0⟩
   ·have ne : ((nv : Int) != (n2 : Int)) = true := bne_iff_ne.2 (by omega)
    clear e2
    have kp3_0 := p3.cell 0 (v := .int .i64 lr) rfl
    have kp3_1 := p3.cell 1 (v := .int .i64 ep) rfl
    have kp3_2 := p3.cell 2 (v := .int .i64 d) rfl
    have kp3_3 := p3.cell 3 (v := .int .i64 f) rfl
    have kp3_4 := p3.cell 4 (v := .int .i64 tt) rfl
    have kp3_5 := p3.cell 5 (v := .int .i64 c) rfl
    have kp3_6 := p3.cell 6 (v := .slice a0 n0 c0) rfl
    have kp3_7 := p3.cell 7 (v := .slice a1 n1 c1) rfl
    have kp3_8 := p3.cell 8 (v := .slice a2 n2 c2) rfl
    have kp3_9 := p3.cell 9 (v := .slice a3 n3 c3) rfl
    obtain ⟨kp7_0, kp7_1, kp7_2, kp7_3⟩ := p7.c4
    go_wp2_with fail
    clear kp3_0 kp3_1 kp3_2 kp3_3 kp3_4 kp3_5 kp3_6 kp3_7 kp3_8 kp3_9 kp7_0 kp7_1 kp7_2 kp7_3
    refine (Try.aliveL _).mono ?_
    rintro e We ⟨rfl, hE⟩
    replace E0 := (Ext.trans E0 hE)
    replace hi0 := (hi0.ext hE)
    replace hi1 := (hi1.ext hE)
    replace hi2 := (hi2.ext hE)
    replace hi3 := (hi3.ext hE)
    replace him := (him.ext hE)
    replace hiv := (hiv.ext hE)
    replace p3 := (p3.ext hE)
    replace p7 := (p7.ext hE)
    clear hE
    have kp3_0 := p3.cell 0 (v := .int .i64 lr) rfl
    have kp3_1 := p3.cell 1 (v := .int .i64 ep) rfl
    have kp3_2 := p3.cell 2 (v := .int .i64 d) rfl
    have kp3_3 := p3.cell 3 (v := .int .i64 f) rfl
    have kp3_4 := p3.cell 4 (v := .int .i64 tt) rfl
    have kp3_5 := p3.cell 5 (v := .int .i64 c) rfl
    have kp3_6 := p3.cell 6 (v := .slice a0 n0 c0) rfl
    have kp3_7 := p3.cell 7 (v := .slice a1 n1 c1) rfl
    have kp3_8 := p3.cell 8 (v := .slice a2 n2 c2) rfl
    have kp3_9 := p3.cell 9 (v := .slice a3 n3 c3) rfl
    obtain ⟨kp7_0, kp7_1, kp7_2, kp7_3⟩ := p7.c4
    go_wp2
    go_ret
    exact ⟨rfl, E0⟩
  ·have ne : ((nm : Int) != (n1 : Int)) = true := bne_iff_ne.2 (by omega)
   clear e1
   have kp3_0 := p3.cell 0 (v := .int .i64 lr) rfl
   have kp3_1 := p3.cell 1 (v := .int .i64 ep) rfl
   have kp3_2 := p3.cell 2 (v := .int .i64 d) rfl
   have kp3_3 := p3.cell 3 (v := .int .i64 f) rfl
   have kp3_4 := p3.cell 4 (v := .int .i64 tt) rfl
   have kp3_5 := p3.cell 5 (v := .int .i64 c) rfl
   have kp3_6 := p3.cell 6 (v := .slice a0 n0 c0) rfl
   have kp3_7 := p3.cell 7 (v := .slice a1 n1 c1) rfl
   have kp3_8 := p3.cell 8 (v := .slice a2 n2 c2) rfl
   have kp3_9 := p3.cell 9 (v := .slice a3 n3 c3) rfl
   obtain ⟨kp7_0, kp7_1, kp7_2, kp7_3⟩ := p7.c4
   go_wp2_with fail
   clear kp3_0 kp3_1 kp3_2 kp3_3 kp3_4 kp3_5 kp3_6 kp3_7 kp3_8 kp3_9 kp7_0 kp7_1 kp7_2 kp7_3
   refine (Try.aliveL _).mono ?_
   rintro e We ⟨rfl, hE⟩
   replace E0 := (Ext.trans E0 hE)
   replace hi0 := (hi0.ext hE)
   replace hi1 := (hi1.ext hE)
   replace hi2 := (hi2.ext hE)
   replace hi3 := (hi3.ext hE)
   replace him := (him.ext hE)
   replace hiv := (hiv.ext hE)
   replace p3 := (p3.ext hE)
   replace p7 := (p7.ext hE)
   clear hE
   have kp3_0 := p3.cell 0 (v := .int .i64 lr) rfl
   have kp3_1 := p3.cell 1 (v := .int .i64 ep) rfl
   have kp3_2 := p3.cell 2 (v := .int .i64 d) rfl
   have kp3_3 := p3.cell 3 (v := .int .i64 f) rfl
   have kp3_4 := p3.cell 4 (v := .int .i64 tt) rfl
   have kp3_5 := p3.cell 5 (v := .int .i64 c) rfl
   have kp3_6 := p3.cell 6 (v := .slice a0 n0 c0) rfl
   have kp3_7 := p3.cell 7 (v := .slice a1 n1 c1) rfl
   have kp3_8 := p3.cell 8 (v := .slice a2 n2 c2) rfl
   have kp3_9 := p3.cell 9 (v := .slice a3 n3 c3) rfl
   obtain ⟨kp7_0, kp7_1, kp7_2, kp7_3⟩ := p7.c4
   go_wp2
   go_ret
   exact ⟨rfl, E0⟩
 ·rw [decide_eq_false hf]
  clear hf
  have kp3_0 := p3.cell 0 (v := .int .i64 lr) rfl
  have kp3_1 := p3.cell 1 (v := .int .i64 ep) rfl
  have kp3_2 := p3.cell 2 (v := .int .i64 d) rfl
  have kp3_3 := p3.cell 3 (v := .int .i64 f) rfl
  have kp3_4 := p3.cell 4 (v := .int .i64 tt) rfl
  have kp3_5 := p3.cell 5 (v := .int .i64 c) rfl
  have kp3_6 := p3.cell 6 (v := .slice a0 n0 c0) rfl
  have kp3_7 := p3.cell 7 (v := .slice a1 n1 c1) rfl
  have kp3_8 := p3.cell 8 (v := .slice a2 n2 c2) rfl
  have kp3_9 := p3.cell 9 (v := .slice a3 n3 c3) rfl
  obtain ⟨kp7_0, kp7_1, kp7_2, kp7_3⟩ := p7.c4
  go_wp2_with fail
  clear kp3_0 kp3_1 kp3_2 kp3_3 kp3_4 kp3_5 kp3_6 kp3_7 kp3_8 kp3_9 kp7_0 kp7_1 kp7_2 kp7_3
  refine (Try.aliveL _).mono ?_
  rintro e We ⟨rfl, hE⟩
  replace E0 := (Ext.trans E0 hE)
  replace hi0 := (hi0.ext hE)
  replace hi1 := (hi1.ext hE)
  replace hi2 := (hi2.ext hE)
  replace hi3 := (hi3.ext hE)
  replace him := (him.ext hE)
  replace hiv := (hiv.ext hE)
  replace p3 := (p3.ext hE)
  replace p7 := (p7.ext hE)
  clear hE
  have kp3_0 := p3.cell 0 (v := .int .i64 lr) rfl
  have kp3_1 := p3.cell 1 (v := .int .i64 ep) rfl
  have kp3_2 := p3.cell 2 (v := .int .i64 d) rfl
  have kp3_3 := p3.cell 3 (v := .int .i64 f) rfl
  have kp3_4 := p3.cell 4 (v := .int .i64 tt) rfl
  have kp3_5 := p3.cell 5 (v := .int .i64 c) rfl
  have kp3_6 := p3.cell 6 (v := .slice a0 n0 c0) rfl
  have kp3_7 := p3.cell 7 (v := .slice a1 n1 c1) rfl
  have kp3_8 := p3.cell 8 (v := .slice a2 n2 c2) rfl
  have kp3_9 := p3.cell 9 (v := .slice a3 n3 c3) rfl
  obtain ⟨kp7_0, kp7_1, kp7_2, kp7_3⟩ := p7.c4
  go_wp2
  go_ret
  exact ⟨rfl, E0⟩

end Go.Rt
