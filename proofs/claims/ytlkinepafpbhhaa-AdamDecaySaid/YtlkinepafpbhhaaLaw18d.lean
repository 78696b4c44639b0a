/-
  The laws of chapter 18 (Adam): Decay: its walk.
-/
import Derived.Test.YtlkinepafpbhhaaAdamS
import Derived.Test.YtlkinepafpbhhaaBoxN
namespace Go.Rt
open Go Go.RowKit Go.Proofs

set_option maxRecDepth 100000 in
set_option maxHeartbeats 16000000 in
theorem Try.lawAdamDecay (lr b1 b2 eps wd pw0 pw1 f : Int) (ap : Bool) {n0 n1 n2 n3 : Nat} {a0 a1 a2 a3 : Option Addr} {c0 c1 c2 c3 : Nat} {lw lm lv lg : List Int} {aw : Option Addr} {nw cw : Nat} {l2 : List Int} (wd2 : Int) (w : World) (hs : n0 + n1 + n2 + n3 ≤ 9223372036854775807) (q1 : I64 lr) (q2 : I64 eps) (q3 : I64 wd) (hi0 : Iw 0 w.heap.size w a0 n0 c0 lw) (hi1 : Iw 0 w.heap.size w a1 n1 c1 lm) (hi2 : Iw 0 w.heap.size w a2 n2 c2 lv) (hi3 : Iw 0 w.heap.size w a3 n3 c3 lg) (q4 : I64 wd2) (hi4 : Iw 0 w.heap.size w aw nw cw l2) :
    Calls Try.prog 5 #[.agg #[.int .i64 lr, .int .i64 b1, .int .i64 b2, .int .i64 eps, .int .i64 wd, .bool ap, .int .i64 f, .int .i64 pw0, .int .i64 pw1, .slice a0 n0 c0, .slice a1 n1 c1, .slice a2 n2 c2, .slice a3 n3 c3], .slice aw nw cw, .int .i64 wd2] w fun e w' => e = .returned (.bool true) ∧ Ext w w' := by
  have HQ := Lib.hid (And.intro (And.intro q1 q2) (And.intro q3 q4))
  have HSM := Lib.hid hs
  have HL := Lib.hid (And.intro hi0.len hi4.len)
  clear q1 q2 q3 q4
  obtain ⟨E1, hE1⟩ : ∃ E, stepE ⟨lr, b1, b2, eps, wd, true⟩ f pw0 pw1 lw lm lv lg = E := ⟨_, rfl⟩
  obtain ⟨xw1, hxw1⟩ : ∃ x, stepL p1of ⟨lr, b1, b2, eps, wd, true⟩ f pw0 pw1 lw lm lv lg = x := ⟨_, rfl⟩
  obtain ⟨xm1, hxm1⟩ : ∃ x, stepL p2of ⟨lr, b1, b2, eps, wd, true⟩ f pw0 pw1 lw lm lv lg = x := ⟨_, rfl⟩
  obtain ⟨xv1, hxv1⟩ : ∃ x, stepL p3of ⟨lr, b1, b2, eps, wd, true⟩ f pw0 pw1 lw lm lv lg = x := ⟨_, rfl⟩
  have HST1 := Lib.hid (And.intro hE1 (And.intro hxw1 (And.intro hxm1 hxv1)))
  obtain ⟨E2, hE2⟩ : ∃ E, stepE ⟨lr, b1, b2, eps, wd2, true⟩ f pw0 pw1 l2 lm lv lg = E := ⟨_, rfl⟩
  obtain ⟨xw2, hxw2⟩ : ∃ x, stepL p1of ⟨lr, b1, b2, eps, wd2, true⟩ f pw0 pw1 l2 lm lv lg = x := ⟨_, rfl⟩
  obtain ⟨xm2, hxm2⟩ : ∃ x, stepL p2of ⟨lr, b1, b2, eps, wd2, true⟩ f pw0 pw1 l2 lm lv lg = x := ⟨_, rfl⟩
  obtain ⟨xv2, hxv2⟩ : ∃ x, stepL p3of ⟨lr, b1, b2, eps, wd2, true⟩ f pw0 pw1 l2 lm lv lg = x := ⟨_, rfl⟩
  have HST2 := Lib.hid (And.intro hE2 (And.intro hxw2 (And.intro hxm2 hxv2)))
  have HD : Hid (nw = n0 → E1 = 0 → E2 = 0 → xm1 = xm2 ∧ xv1 = xv2) := Lib.hid (fun k0 k1 k2 => by rw [← hxm1, ← hxm2, ← hxv1, ← hxv2]; exact decay_same (by have := HL.out; omega) (hE1.trans k1) (hE2.trans k2))
  clear hE1 hxw1 hxm1 hxv1 hE2 hxw2 hxm2 hxv2 hs
  obtain ⟨W0, hW0⟩ : ∃ W0, W0 = (w.alloc (.cells #[.int .i64 lr, .int .i64 b1, .int .i64 b2, .int .i64 eps, .int .i64 wd, .bool ap, .int .i64 f, .int .i64 pw0, .int .i64 pw1, .slice a0 n0 c0, .slice a1 n1 c1, .slice a2 n2 c2, .slice a3 n3 c3] 29)) := ⟨_, rfl⟩
  have E0 : Ext w W0 := by rw [hW0]; exact (Ext.alloc1 w (.cells #[.int .i64 lr, .int .i64 b1, .int .i64 b2, .int .i64 eps, .int .i64 wd, .bool ap, .int .i64 f, .int .i64 pw0, .int .i64 pw1, .slice a0 n0 c0, .slice a1 n1 c1, .slice a2 n2 c2, .slice a3 n3 c3] 29))
  replace hi0 : Iw 0 w.heap.size W0 a0 n0 c0 (lw) := hi0.ext E0
  replace hi1 : Iw 0 w.heap.size W0 a1 n1 c1 (lm) := hi1.ext E0
  replace hi2 : Iw 0 w.heap.size W0 a2 n2 c2 (lv) := hi2.ext E0
  replace hi3 : Iw 0 w.heap.size W0 a3 n3 c3 (lg) := hi3.ext E0
  replace hi4 : Iw 0 w.heap.size W0 aw nw cw (l2) := hi4.ext E0
  have p3 : BxA W0 w.heap.size 29 #[.int .i64 lr, .int .i64 b1, .int .i64 b2, .int .i64 eps, .int .i64 wd, .bool ap, .int .i64 f, .int .i64 pw0, .int .i64 pw1, .slice a0 n0 c0, .slice a1 n1 c1, .slice a2 n2 c2, .slice a3 n3 c3] := by rw [hW0]; exact (BxA.new w 29 #[.int .i64 lr, .int .i64 b1, .int .i64 b2, .int .i64 eps, .int .i64 wd, .bool ap, .int .i64 f, .int .i64 pw0, .int .i64 pw1, .slice a0 n0 c0, .slice a1 n1 c1, .slice a2 n2 c2, .slice a3 n3 c3])
  go_enter Try.func5, Try.ntmps5
  have kp3_0 := p3.cell 0 (v := .int .i64 lr) rfl
  have kp3_1 := p3.cell 1 (v := .int .i64 b1) rfl
  have kp3_2 := p3.cell 2 (v := .int .i64 b2) rfl
  have kp3_3 := p3.cell 3 (v := .int .i64 eps) rfl
  have kp3_4 := p3.cell 4 (v := .int .i64 wd) rfl
  have kp3_5 := p3.cell 5 (v := .bool ap) rfl
  have kp3_6 := p3.cell 6 (v := .int .i64 f) rfl
  have kp3_7 := p3.cell 7 (v := .int .i64 pw0) rfl
  have kp3_8 := p3.cell 8 (v := .int .i64 pw1) rfl
  have kp3_9 := p3.cell 9 (v := .slice a0 n0 c0) rfl
  have kp3_10 := p3.cell 10 (v := .slice a1 n1 c1) rfl
  have kp3_11 := p3.cell 11 (v := .slice a2 n2 c2) rfl
  have kp3_12 := p3.cell 12 (v := .slice a3 n3 c3) rfl
  go_upto_region 1 with (fail)
  rw [← hW0]
  clear hW0
  clear kp3_0 kp3_1 kp3_2 kp3_3 kp3_4 kp3_5 kp3_6 kp3_7 kp3_8 kp3_9 kp3_10 kp3_11 kp3_12
  have kp3_0 := p3.cell 0 (v := .int .i64 lr) rfl
  have kp3_1 := p3.cell 1 (v := .int .i64 b1) rfl
  have kp3_2 := p3.cell 2 (v := .int .i64 b2) rfl
  have kp3_3 := p3.cell 3 (v := .int .i64 eps) rfl
  have kp3_4 := p3.cell 4 (v := .int .i64 wd) rfl
  have kp3_5 := p3.cell 5 (v := .bool ap) rfl
  have kp3_6 := p3.cell 6 (v := .int .i64 f) rfl
  have kp3_7 := p3.cell 7 (v := .int .i64 pw0) rfl
  have kp3_8 := p3.cell 8 (v := .int .i64 pw1) rfl
  have kp3_9 := p3.cell 9 (v := .slice a0 n0 c0) rfl
  have kp3_10 := p3.cell 10 (v := .slice a1 n1 c1) rfl
  have kp3_11 := p3.cell 11 (v := .slice a2 n2 c2) rfl
  have kp3_12 := p3.cell 12 (v := .slice a3 n3 c3) rfl
  go_upto_region 2 with (fail)
  clear kp3_0 kp3_1 kp3_2 kp3_3 kp3_4 kp3_5 kp3_6 kp3_7 kp3_8 kp3_9 kp3_10 kp3_11 kp3_12
  have p7 := BxA.new W0 27 #[.slice a0 n0 c0, .slice a1 n1 c1, .slice a2 n2 c2, .slice a3 n3 c3]
  have hE := Ext.alloc1 W0 (.cells #[.slice a0 n0 c0, .slice a1 n1 c1, .slice a2 n2 c2, .slice a3 n3 c3] 27)
  have lt0 := Ext.size E0
  have ltp3 := p3.lt
  obtain ⟨U7, hU7⟩ : ∃ U7, U7 = W0.alloc (.cells #[.slice a0 n0 c0, .slice a1 n1 c1, .slice a2 n2 c2, .slice a3 n3 c3] 27) := ⟨_, rfl⟩
  rw [← hU7] at p7 hE ⊢
  clear hU7
  replace E0 := (Ext.trans E0 hE)
  replace hi0 := (hi0.ext hE)
  replace hi1 := (hi1.ext hE)
  replace hi2 := (hi2.ext hE)
  replace hi3 := (hi3.ext hE)
  replace hi4 := (hi4.ext hE)
  replace p3 := (p3.ext hE)
  clear hE
  obtain ⟨g7, hg7⟩ : ∃ g, g = W0.heap.size := ⟨_, rfl⟩
  rw [← hg7] at p7 lt0 ltp3 ⊢
  clear hg7
  have HS7 := Lib.hid (And.intro lt0 ltp3)
  clear lt0 ltp3
  have kp3_0 := p3.cell 0 (v := .int .i64 lr) rfl
  have kp3_1 := p3.cell 1 (v := .int .i64 b1) rfl
  have kp3_2 := p3.cell 2 (v := .int .i64 b2) rfl
  have kp3_3 := p3.cell 3 (v := .int .i64 eps) rfl
  have kp3_4 := p3.cell 4 (v := .int .i64 wd) rfl
  have kp3_5 := p3.cell 5 (v := .bool ap) rfl
  have kp3_6 := p3.cell 6 (v := .int .i64 f) rfl
  have kp3_7 := p3.cell 7 (v := .int .i64 pw0) rfl
  have kp3_8 := p3.cell 8 (v := .int .i64 pw1) rfl
  have kp3_9 := p3.cell 9 (v := .slice a0 n0 c0) rfl
  have kp3_10 := p3.cell 10 (v := .slice a1 n1 c1) rfl
  have kp3_11 := p3.cell 11 (v := .slice a2 n2 c2) rfl
  have kp3_12 := p3.cell 12 (v := .slice a3 n3 c3) rfl
  have kp7_0 := p7.cell 0 (v := .slice a0 n0 c0) rfl
  have kp7_1 := p7.cell 1 (v := .slice a1 n1 c1) rfl
  have kp7_2 := p7.cell 2 (v := .slice a2 n2 c2) rfl
  have kp7_3 := p7.cell 3 (v := .slice a3 n3 c3) rfl
  go_wp2_with fail
  clear kp3_0 kp3_1 kp3_2 kp3_3 kp3_4 kp3_5 kp3_6 kp3_7 kp3_8 kp3_9 kp3_10 kp3_11 kp3_12 kp7_0 kp7_1 kp7_2 kp7_3
  refine (Try.refFew17 a0 n0 c0 a1 n1 c1 a2 n2 c2 a3 n3 c3 32 _ HSM.out).mono ?_
  rintro e Wc ⟨rfl, hE⟩
  replace E0 := (Ext.trans E0 hE)
  replace hi0 := (hi0.ext hE)
  replace hi1 := (hi1.ext hE)
  replace hi2 := (hi2.ext hE)
  replace hi3 := (hi3.ext hE)
  replace hi4 := (hi4.ext hE)
  replace p3 := (p3.ext hE)
  replace p7 := (p7.ext hE)
  clear hE
  by_cases hf : n0 + n1 + n2 + n3 ≤ 32
  · rw [decide_eq_true hf]
    have HN : Hid (n0 ≤ 40) := Lib.hid (by omega)
    clear hf
    by_cases he : nw = n0
    · subst he
      have kp3_0 := p3.cell 0 (v := .int .i64 lr) rfl
      have kp3_1 := p3.cell 1 (v := .int .i64 b1) rfl
      have kp3_2 := p3.cell 2 (v := .int .i64 b2) rfl
      have kp3_3 := p3.cell 3 (v := .int .i64 eps) rfl
      have kp3_4 := p3.cell 4 (v := .int .i64 wd) rfl
      have kp3_5 := p3.cell 5 (v := .bool ap) rfl
      have kp3_6 := p3.cell 6 (v := .int .i64 f) rfl
      have kp3_7 := p3.cell 7 (v := .int .i64 pw0) rfl
      have kp3_8 := p3.cell 8 (v := .int .i64 pw1) rfl
      have kp3_9 := p3.cell 9 (v := .slice a0 nw c0) rfl
      have kp3_10 := p3.cell 10 (v := .slice a1 n1 c1) rfl
      have kp3_11 := p3.cell 11 (v := .slice a2 n2 c2) rfl
      have kp3_12 := p3.cell 12 (v := .slice a3 n3 c3) rfl
      have kp7_0 := p7.cell 0 (v := .slice a0 nw c0) rfl
      have kp7_1 := p7.cell 1 (v := .slice a1 n1 c1) rfl
      have kp7_2 := p7.cell 2 (v := .slice a2 n2 c2) rfl
      have kp7_3 := p7.cell 3 (v := .slice a3 n3 c3) rfl
      go_upto_region 4 with (fail)
      clear kp3_0 kp3_1 kp3_2 kp3_3 kp3_4 kp3_5 kp3_6 kp3_7 kp3_8 kp3_9 kp3_10 kp3_11 kp3_12 kp7_0 kp7_1 kp7_2 kp7_3
      have ltp3 := p3.lt
      have ltp7 := p7.lt
      have szw1 := Ext.size E0
      refine region_go2 [.one fun v _ => v = .pointer (some ⟨w.heap.size, 0, none⟩),
          .one fun v _ => v = .agg #[.int .i64 lr, .int .i64 b1, .int .i64 b2, .int .i64 eps, .int .i64 wd, .bool ap],
          .one fun v _ => v = .pointer (some ⟨w.heap.size, 0, none⟩),
          .one fun v _ => v = .agg #[.int .i64 lr, .int .i64 b1, .int .i64 b2, .int .i64 eps, .int .i64 wd, .bool ap],
          .one fun v W => ∃ g, v = .pointer (some ⟨g, 0, none⟩) ∧ Wc.heap.size ≤ g ∧ Form W g 23 6,
          .one fun v W => ∃ g, v = .pointer (some ⟨g, 0, none⟩) ∧ Wc.heap.size ≤ g ∧ Form W g 23 6,
          .two 4 (fun p _ W => NewA Wc.heap.size 23 #[.int .i64 lr, .int .i64 b1, .int .i64 b2, .int .i64 eps, .int .i64 wd, .bool ap] p W),
          .two 5 (fun p _ W => NewA Wc.heap.size 23 #[.int .i64 lr, .int .i64 b1, .int .i64 b2, .int .i64 eps, .int .i64 wd, .bool ap] p W)]
        (fun W => Ext w W ∧ Iw 0 w.heap.size W a0 nw c0 (lw) ∧ Iw 0 w.heap.size W a1 n1 c1 (lm) ∧ Iw 0 w.heap.size W a2 n2 c2 (lv) ∧ Iw 0 w.heap.size W a3 n3 c3 (lg) ∧ Iw 0 w.heap.size W aw nw cw (l2) ∧ BxA W w.heap.size 29 #[.int .i64 lr, .int .i64 b1, .int .i64 b2, .int .i64 eps, .int .i64 wd, .bool ap, .int .i64 f, .int .i64 pw0, .int .i64 pw1, .slice a0 nw c0, .slice a1 n1 c1, .slice a2 n2 c2, .slice a3 n3 c3] ∧ BxA W g7 27 #[.slice a0 nw c0, .slice a1 n1 c1, .slice a2 n2 c2, .slice a3 n3 c3] ∧ Wc.heap.size ≤ W.heap.size) Wc.heap.size [4, 5] [Tag.any, Tag.any, Tag.any, Tag.any, Tag.any, Tag.any, Tag.new 4, Tag.new 5] ⟨Good.is _, Good.is _, Good.is _, Good.is _, Good.box _ _ _, Good.box _ _ _, tag_newA, tag_newA, trivial⟩ (fun g0 hg => by simp at hg)
        (fun W W1 hS hE => ⟨(Ext.trans hS.1 hE), (hS.2.1.ext hE), (hS.2.2.1.ext hE), (hS.2.2.2.1.ext hE), (hS.2.2.2.2.1.ext hE), (hS.2.2.2.2.2.1.ext hE), (hS.2.2.2.2.2.2.1.ext hE), (hS.2.2.2.2.2.2.2.1.ext hE), (Nat.le_trans hS.2.2.2.2.2.2.2.2 (Ext.size hE))⟩) ⟨E0, hi0, hi1, hi2, hi3, hi4, p3, p7, Nat.le_refl _⟩ (fun m hm => by simp at hm; rcases hm with rfl | rfl <;> rfl) (by kernel_rfl) (by kernel_rfl) (by kernel_rfl) (by kernel_rfl) (A := ?A1) ?hA1 ?howe1 ?hfin1
      case hA1 =>
        intro vs
        simp only [putAll, Act.put, List.setIfInBounds_toArray, List.set_cons_zero, List.set_cons_succ, Nat.zero_add, Nat.reduceAdd]
        exact rfl
      case howe1 =>
        clear E0 hi0 hi1 hi2 hi3 hi4 p3 p7
        intro hf
        refine ⟨owesM 0 [] hf rfl rfl (by kernel_rfl) ?_, owesM 1 [0] hf rfl rfl (by kernel_rfl) ?_, owesM 2 [] hf rfl rfl (by kernel_rfl) ?_, owesM 3 [2] hf rfl rfl (by kernel_rfl) ?_, owesN 4 [] hf rfl (by kernel_rfl) ?_, owesN 5 [] hf rfl (by kernel_rfl) ?_, owesP 6 4 [4, 1] hf rfl rfl (by kernel_rfl) rfl (by kernel_rfl) ?_, owesP 7 5 [5, 3] hf rfl rfl (by kernel_rfl) rfl (by kernel_rfl) ?_, trivial⟩
        all_goals intro vs W hS hp hx KO hKO
        all_goals simp only [Act.put, List.setIfInBounds_toArray, List.set_cons_zero, List.set_cons_succ] at hKO
        · go_simp
          exact hKO _ W (Ext.refl W) rfl
        · have e0 := isOf hp.1
          simp only [e0] at hKO
          have fc0 := BxA.cell (hS.2.2.2.2.2.2.1) 0 (v := .int .i64 lr) rfl
          have fc1 := BxA.cell (hS.2.2.2.2.2.2.1) 1 (v := .int .i64 b1) rfl
          have fc2 := BxA.cell (hS.2.2.2.2.2.2.1) 2 (v := .int .i64 b2) rfl
          have fc3 := BxA.cell (hS.2.2.2.2.2.2.1) 3 (v := .int .i64 eps) rfl
          have fc4 := BxA.cell (hS.2.2.2.2.2.2.1) 4 (v := .int .i64 wd) rfl
          have fc5 := BxA.cell (hS.2.2.2.2.2.2.1) 5 (v := .bool ap) rfl
          go_simp
          exact hKO _ W (Ext.refl W) rfl
        · go_simp
          exact hKO _ W (Ext.refl W) rfl
        · have e2 := isOf hp.1
          simp only [e2] at hKO
          have fc0 := BxA.cell (hS.2.2.2.2.2.2.1) 0 (v := .int .i64 lr) rfl
          have fc1 := BxA.cell (hS.2.2.2.2.2.2.1) 1 (v := .int .i64 b1) rfl
          have fc2 := BxA.cell (hS.2.2.2.2.2.2.1) 2 (v := .int .i64 b2) rfl
          have fc3 := BxA.cell (hS.2.2.2.2.2.2.1) 3 (v := .int .i64 eps) rfl
          have fc4 := BxA.cell (hS.2.2.2.2.2.2.1) 4 (v := .int .i64 wd) rfl
          have fc5 := BxA.cell (hS.2.2.2.2.2.2.1) 5 (v := .bool ap) rfl
          go_simp
          exact hKO _ W (Ext.refl W) rfl
        · have hn := BxA.new W 23 #[.int .i64 0, .int .i64 0, .int .i64 0, .int .i64 0, .int .i64 0, .bool false]
          have hsz := hS.2.2.2.2.2.2.2.2
          go_simp
          exact hKO _ _ rfl ⟨_, rfl, hsz, ⟨_, hn, (noU_adam 0 0 0 0 0 false), rfl⟩⟩
        · have hn := BxA.new W 23 #[.int .i64 0, .int .i64 0, .int .i64 0, .int .i64 0, .int .i64 0, .bool false]
          have hsz := hS.2.2.2.2.2.2.2.2
          go_simp
          exact hKO _ _ rfl ⟨_, rfl, hsz, ⟨_, hn, (noU_adam 0 0 0 0 0 false), rfl⟩⟩
        · have q4 := hp.1
          have e1 := isOf hp.2.1
          simp only [e1] at hKO
          obtain ⟨g, ev, hg, hfo⟩ := q4
          replace ev : vs 4 = _ := ev
          obtain ⟨x0, x1, x2, x3, x4, x5, c0, c1, c2, c3, c4, c5, hfz, W2, hW2, hw, hq⟩ := hfo.put6 (.int .i64 lr) (.int .i64 b1) (.int .i64 b2) (.int .i64 eps) (.int .i64 wd) (.bool ap) (noU_adam lr b1 b2 eps wd ap)
          have z0 := hfz 0
          have z1 := hfz 1
          have z2 := hfz 2
          have z3 := hfz 3
          have z4 := hfz 4
          have z5 := hfz 5
          simp only [ev] at hKO
          go_simp
          rw [← hW2]
          exact hKO _ g rfl hg hw ⟨(Ext.wr hS.1 hw (by omega)), (hS.2.1.wr hw (by omega)), (hS.2.2.1.wr hw (by omega)), (hS.2.2.2.1.wr hw (by omega)), (hS.2.2.2.2.1.wr hw (by omega)), (hS.2.2.2.2.2.1.wr hw (by omega)), (hS.2.2.2.2.2.2.1.wr hw (by omega)), (hS.2.2.2.2.2.2.2.1.wr hw (by omega)), (Nat.le_trans hS.2.2.2.2.2.2.2.2 hw.apart.size)⟩ ⟨g, ev, hg, hq⟩
        · have q5 := hp.1
          have e3 := isOf hp.2.1
          simp only [e3] at hKO
          obtain ⟨g, ev, hg, hfo⟩ := q5
          replace ev : vs 5 = _ := ev
          obtain ⟨x0, x1, x2, x3, x4, x5, c0, c1, c2, c3, c4, c5, hfz, W2, hW2, hw, hq⟩ := hfo.put6 (.int .i64 lr) (.int .i64 b1) (.int .i64 b2) (.int .i64 eps) (.int .i64 wd) (.bool ap) (noU_adam lr b1 b2 eps wd ap)
          have z0 := hfz 0
          have z1 := hfz 1
          have z2 := hfz 2
          have z3 := hfz 3
          have z4 := hfz 4
          have z5 := hfz 5
          simp only [ev] at hKO
          go_simp
          rw [← hW2]
          exact hKO _ g rfl hg hw ⟨(Ext.wr hS.1 hw (by omega)), (hS.2.1.wr hw (by omega)), (hS.2.2.1.wr hw (by omega)), (hS.2.2.2.1.wr hw (by omega)), (hS.2.2.2.2.1.wr hw (by omega)), (hS.2.2.2.2.2.1.wr hw (by omega)), (hS.2.2.2.2.2.2.1.wr hw (by omega)), (hS.2.2.2.2.2.2.2.1.wr hw (by omega)), (Nat.le_trans hS.2.2.2.2.2.2.2.2 hw.apart.size)⟩ ⟨g, ev, hg, hq⟩
      intro vs W1 hS hM hp
      clear szw1 E0 hi0 hi1 hi2 hi3 hi4 p3 p7
      obtain ⟨E0, hi0, hi1, hi2, hi3, hi4, p3, p7, sz1⟩ := hS
      obtain ⟨h1_0, h1_1, h1_2, h1_3, h1_4, h1_5, h1_6, h1_7, -⟩ := hp
      skip
      have hh := h1_6
      obtain ⟨g8, ev8, hg8, p8⟩ := hh
      replace ev8 : vs 4 = _ := ev8
      skip
      have hh := h1_7
      obtain ⟨g9, ev9, hg9, p9⟩ := hh
      replace ev9 : vs 5 = _ := ev9
      have ne8_9 : g8 ≠ g9 := fun e => hM.2 4 (by simp) 5 (by simp) (by decide) g8 (by rw [ev8]; rfl) (by rw [ev9, e]; rfl)
      replace h1_0 : vs 0 = .pointer (some ⟨w.heap.size, 0, none⟩) := h1_0
      replace h1_1 : vs 1 = .agg #[.int .i64 lr, .int .i64 b1, .int .i64 b2, .int .i64 eps, .int .i64 wd, .bool ap] := h1_1
      replace h1_2 : vs 2 = .pointer (some ⟨w.heap.size, 0, none⟩) := h1_2
      replace h1_3 : vs 3 = .agg #[.int .i64 lr, .int .i64 b1, .int .i64 b2, .int .i64 eps, .int .i64 wd, .bool ap] := h1_3
      clear hM
      simp only [ev8, ev9, h1_0, h1_1, h1_2, h1_3]
      clear ev8 ev9 h1_0 h1_1 h1_2 h1_3 h1_4 h1_5 h1_6 h1_7
      have HG8 := Lib.hid hg8
      clear hg8
      have HG9 := Lib.hid hg9
      clear hg9
      have HN8_9 := Lib.hid ne8_9
      clear ne8_9
      have zf := p8.frozN 5
      have kp3_0 := p3.cell 0 (v := .int .i64 lr) rfl
      have kp3_1 := p3.cell 1 (v := .int .i64 b1) rfl
      have kp3_2 := p3.cell 2 (v := .int .i64 b2) rfl
      have kp3_3 := p3.cell 3 (v := .int .i64 eps) rfl
      have kp3_4 := p3.cell 4 (v := .int .i64 wd) rfl
      have kp3_5 := p3.cell 5 (v := .bool ap) rfl
      have kp3_6 := p3.cell 6 (v := .int .i64 f) rfl
      have kp3_7 := p3.cell 7 (v := .int .i64 pw0) rfl
      have kp3_8 := p3.cell 8 (v := .int .i64 pw1) rfl
      have kp3_9 := p3.cell 9 (v := .slice a0 nw c0) rfl
      have kp3_10 := p3.cell 10 (v := .slice a1 n1 c1) rfl
      have kp3_11 := p3.cell 11 (v := .slice a2 n2 c2) rfl
      have kp3_12 := p3.cell 12 (v := .slice a3 n3 c3) rfl
      have kp7_0 := p7.cell 0 (v := .slice a0 nw c0) rfl
      have kp7_1 := p7.cell 1 (v := .slice a1 n1 c1) rfl
      have kp7_2 := p7.cell 2 (v := .slice a2 n2 c2) rfl
      have kp7_3 := p7.cell 3 (v := .slice a3 n3 c3) rfl
      have kp8_0 := p8.cell 0 (v := .int .i64 lr) rfl
      have kp8_1 := p8.cell 1 (v := .int .i64 b1) rfl
      have kp8_2 := p8.cell 2 (v := .int .i64 b2) rfl
      have kp8_3 := p8.cell 3 (v := .int .i64 eps) rfl
      have kp8_4 := p8.cell 4 (v := .int .i64 wd) rfl
      have kp8_5 := p8.cell 5 (v := .bool ap) rfl
      have kp9_0 := p9.cell 0 (v := .int .i64 lr) rfl
      have kp9_1 := p9.cell 1 (v := .int .i64 b1) rfl
      have kp9_2 := p9.cell 2 (v := .int .i64 b2) rfl
      have kp9_3 := p9.cell 3 (v := .int .i64 eps) rfl
      have kp9_4 := p9.cell 4 (v := .int .i64 wd) rfl
      have kp9_5 := p9.cell 5 (v := .bool ap) rfl
      go_upto_region 6 with (fail)
      clear kp3_0 kp3_1 kp3_2 kp3_3 kp3_4 kp3_5 kp3_6 kp3_7 kp3_8 kp3_9 kp3_10 kp3_11 kp3_12 kp7_0 kp7_1 kp7_2 kp7_3 kp8_0 kp8_1 kp8_2 kp8_3 kp8_4 kp8_5 kp9_0 kp9_1 kp9_2 kp9_3 kp9_4 kp9_5
      clear zf
      obtain ⟨V1, hV1⟩ : ∃ V1, V1 = W1.setCell ⟨g8, 5, none⟩ (.bool true) := ⟨_, rfl⟩
      rw [← hV1]
      have hw : Wr g8 W1 V1 := by rw [hV1]; exact Wr.putN p8 (noU_adam lr b1 b2 eps wd ap) 5 _ (noU_adam lr b1 b2 eps wd true)
      have sHS7 := HS7.out
      have sHG8 := HG8.out
      have sHG9 := HG9.out
      have sHN8_9 := HN8_9.out
      replace E0 := (Ext.wr E0 hw (by omega))
      replace hi0 := (hi0.wr hw (by omega))
      replace hi1 := (hi1.wr hw (by omega))
      replace hi2 := (hi2.wr hw (by omega))
      replace hi3 := (hi3.wr hw (by omega))
      replace hi4 := (hi4.wr hw (by omega))
      replace p3 := (p3.wr hw (by omega))
      replace p7 := (p7.wr hw (by omega))
      replace p8 : BxA V1 g8 23 #[.int .i64 lr, .int .i64 b1, .int .i64 b2, .int .i64 eps, .int .i64 wd, .bool true] := by rw [hV1]; exact p8.putN 5 _
      replace p9 := (p9.wr hw (by omega))
      clear sHS7 sHG8 sHG9 sHN8_9
      clear hw hV1
      have zf := p9.frozN 5
      have kp3_0 := p3.cell 0 (v := .int .i64 lr) rfl
      have kp3_1 := p3.cell 1 (v := .int .i64 b1) rfl
      have kp3_2 := p3.cell 2 (v := .int .i64 b2) rfl
      have kp3_3 := p3.cell 3 (v := .int .i64 eps) rfl
      have kp3_4 := p3.cell 4 (v := .int .i64 wd) rfl
      have kp3_5 := p3.cell 5 (v := .bool ap) rfl
      have kp3_6 := p3.cell 6 (v := .int .i64 f) rfl
      have kp3_7 := p3.cell 7 (v := .int .i64 pw0) rfl
      have kp3_8 := p3.cell 8 (v := .int .i64 pw1) rfl
      have kp3_9 := p3.cell 9 (v := .slice a0 nw c0) rfl
      have kp3_10 := p3.cell 10 (v := .slice a1 n1 c1) rfl
      have kp3_11 := p3.cell 11 (v := .slice a2 n2 c2) rfl
      have kp3_12 := p3.cell 12 (v := .slice a3 n3 c3) rfl
      have kp7_0 := p7.cell 0 (v := .slice a0 nw c0) rfl
      have kp7_1 := p7.cell 1 (v := .slice a1 n1 c1) rfl
      have kp7_2 := p7.cell 2 (v := .slice a2 n2 c2) rfl
      have kp7_3 := p7.cell 3 (v := .slice a3 n3 c3) rfl
      have kp8_0 := p8.cell 0 (v := .int .i64 lr) rfl
      have kp8_1 := p8.cell 1 (v := .int .i64 b1) rfl
      have kp8_2 := p8.cell 2 (v := .int .i64 b2) rfl
      have kp8_3 := p8.cell 3 (v := .int .i64 eps) rfl
      have kp8_4 := p8.cell 4 (v := .int .i64 wd) rfl
      have kp8_5 := p8.cell 5 (v := .bool true) rfl
      have kp9_0 := p9.cell 0 (v := .int .i64 lr) rfl
      have kp9_1 := p9.cell 1 (v := .int .i64 b1) rfl
      have kp9_2 := p9.cell 2 (v := .int .i64 b2) rfl
      have kp9_3 := p9.cell 3 (v := .int .i64 eps) rfl
      have kp9_4 := p9.cell 4 (v := .int .i64 wd) rfl
      have kp9_5 := p9.cell 5 (v := .bool ap) rfl
      go_upto_region 7 with (fail)
      clear kp3_0 kp3_1 kp3_2 kp3_3 kp3_4 kp3_5 kp3_6 kp3_7 kp3_8 kp3_9 kp3_10 kp3_11 kp3_12 kp7_0 kp7_1 kp7_2 kp7_3 kp8_0 kp8_1 kp8_2 kp8_3 kp8_4 kp8_5 kp9_0 kp9_1 kp9_2 kp9_3 kp9_4 kp9_5
      clear zf
      obtain ⟨V2, hV2⟩ : ∃ V2, V2 = V1.setCell ⟨g9, 5, none⟩ (.bool true) := ⟨_, rfl⟩
      rw [← hV2]
      have hw : Wr g9 V1 V2 := by rw [hV2]; exact Wr.putN p9 (noU_adam lr b1 b2 eps wd ap) 5 _ (noU_adam lr b1 b2 eps wd true)
      have sHS7 := HS7.out
      have sHG8 := HG8.out
      have sHG9 := HG9.out
      have sHN8_9 := HN8_9.out
      replace E0 := (Ext.wr E0 hw (by omega))
      replace hi0 := (hi0.wr hw (by omega))
      replace hi1 := (hi1.wr hw (by omega))
      replace hi2 := (hi2.wr hw (by omega))
      replace hi3 := (hi3.wr hw (by omega))
      replace hi4 := (hi4.wr hw (by omega))
      replace p3 := (p3.wr hw (by omega))
      replace p7 := (p7.wr hw (by omega))
      replace p8 := (p8.wr hw (by omega))
      replace p9 : BxA V2 g9 23 #[.int .i64 lr, .int .i64 b1, .int .i64 b2, .int .i64 eps, .int .i64 wd, .bool true] := by rw [hV2]; exact p9.putN 5 _
      clear sHS7 sHG8 sHG9 sHN8_9
      clear hw hV2
      have zf := p9.frozN 4
      have kp3_0 := p3.cell 0 (v := .int .i64 lr) rfl
      have kp3_1 := p3.cell 1 (v := .int .i64 b1) rfl
      have kp3_2 := p3.cell 2 (v := .int .i64 b2) rfl
      have kp3_3 := p3.cell 3 (v := .int .i64 eps) rfl
      have kp3_4 := p3.cell 4 (v := .int .i64 wd) rfl
      have kp3_5 := p3.cell 5 (v := .bool ap) rfl
      have kp3_6 := p3.cell 6 (v := .int .i64 f) rfl
      have kp3_7 := p3.cell 7 (v := .int .i64 pw0) rfl
      have kp3_8 := p3.cell 8 (v := .int .i64 pw1) rfl
      have kp3_9 := p3.cell 9 (v := .slice a0 nw c0) rfl
      have kp3_10 := p3.cell 10 (v := .slice a1 n1 c1) rfl
      have kp3_11 := p3.cell 11 (v := .slice a2 n2 c2) rfl
      have kp3_12 := p3.cell 12 (v := .slice a3 n3 c3) rfl
      have kp7_0 := p7.cell 0 (v := .slice a0 nw c0) rfl
      have kp7_1 := p7.cell 1 (v := .slice a1 n1 c1) rfl
      have kp7_2 := p7.cell 2 (v := .slice a2 n2 c2) rfl
      have kp7_3 := p7.cell 3 (v := .slice a3 n3 c3) rfl
      have kp8_0 := p8.cell 0 (v := .int .i64 lr) rfl
      have kp8_1 := p8.cell 1 (v := .int .i64 b1) rfl
      have kp8_2 := p8.cell 2 (v := .int .i64 b2) rfl
      have kp8_3 := p8.cell 3 (v := .int .i64 eps) rfl
      have kp8_4 := p8.cell 4 (v := .int .i64 wd) rfl
      have kp8_5 := p8.cell 5 (v := .bool true) rfl
      have kp9_0 := p9.cell 0 (v := .int .i64 lr) rfl
      have kp9_1 := p9.cell 1 (v := .int .i64 b1) rfl
      have kp9_2 := p9.cell 2 (v := .int .i64 b2) rfl
      have kp9_3 := p9.cell 3 (v := .int .i64 eps) rfl
      have kp9_4 := p9.cell 4 (v := .int .i64 wd) rfl
      have kp9_5 := p9.cell 5 (v := .bool true) rfl
      go_upto_region 8 with (fail)
      clear kp3_0 kp3_1 kp3_2 kp3_3 kp3_4 kp3_5 kp3_6 kp3_7 kp3_8 kp3_9 kp3_10 kp3_11 kp3_12 kp7_0 kp7_1 kp7_2 kp7_3 kp8_0 kp8_1 kp8_2 kp8_3 kp8_4 kp8_5 kp9_0 kp9_1 kp9_2 kp9_3 kp9_4 kp9_5
      clear zf
      obtain ⟨V3, hV3⟩ : ∃ V3, V3 = V2.setCell ⟨g9, 4, none⟩ (.int .i64 wd2) := ⟨_, rfl⟩
      rw [← hV3]
      have hw : Wr g9 V2 V3 := by rw [hV3]; exact Wr.putN p9 (noU_adam lr b1 b2 eps wd true) 4 _ (noU_adam lr b1 b2 eps wd2 true)
      have sHS7 := HS7.out
      have sHG8 := HG8.out
      have sHG9 := HG9.out
      have sHN8_9 := HN8_9.out
      replace E0 := (Ext.wr E0 hw (by omega))
      replace hi0 := (hi0.wr hw (by omega))
      replace hi1 := (hi1.wr hw (by omega))
      replace hi2 := (hi2.wr hw (by omega))
      replace hi3 := (hi3.wr hw (by omega))
      replace hi4 := (hi4.wr hw (by omega))
      replace p3 := (p3.wr hw (by omega))
      replace p7 := (p7.wr hw (by omega))
      replace p8 := (p8.wr hw (by omega))
      replace p9 : BxA V3 g9 23 #[.int .i64 lr, .int .i64 b1, .int .i64 b2, .int .i64 eps, .int .i64 wd2, .bool true] := by rw [hV3]; exact p9.putN 4 _
      clear sHS7 sHG8 sHG9 sHN8_9
      clear hw hV3
      have kp3_0 := p3.cell 0 (v := .int .i64 lr) rfl
      have kp3_1 := p3.cell 1 (v := .int .i64 b1) rfl
      have kp3_2 := p3.cell 2 (v := .int .i64 b2) rfl
      have kp3_3 := p3.cell 3 (v := .int .i64 eps) rfl
      have kp3_4 := p3.cell 4 (v := .int .i64 wd) rfl
      have kp3_5 := p3.cell 5 (v := .bool ap) rfl
      have kp3_6 := p3.cell 6 (v := .int .i64 f) rfl
      have kp3_7 := p3.cell 7 (v := .int .i64 pw0) rfl
      have kp3_8 := p3.cell 8 (v := .int .i64 pw1) rfl
      have kp3_9 := p3.cell 9 (v := .slice a0 nw c0) rfl
      have kp3_10 := p3.cell 10 (v := .slice a1 n1 c1) rfl
      have kp3_11 := p3.cell 11 (v := .slice a2 n2 c2) rfl
      have kp3_12 := p3.cell 12 (v := .slice a3 n3 c3) rfl
      have kp7_0 := p7.cell 0 (v := .slice a0 nw c0) rfl
      have kp7_1 := p7.cell 1 (v := .slice a1 n1 c1) rfl
      have kp7_2 := p7.cell 2 (v := .slice a2 n2 c2) rfl
      have kp7_3 := p7.cell 3 (v := .slice a3 n3 c3) rfl
      have kp8_0 := p8.cell 0 (v := .int .i64 lr) rfl
      have kp8_1 := p8.cell 1 (v := .int .i64 b1) rfl
      have kp8_2 := p8.cell 2 (v := .int .i64 b2) rfl
      have kp8_3 := p8.cell 3 (v := .int .i64 eps) rfl
      have kp8_4 := p8.cell 4 (v := .int .i64 wd) rfl
      have kp8_5 := p8.cell 5 (v := .bool true) rfl
      have kp9_0 := p9.cell 0 (v := .int .i64 lr) rfl
      have kp9_1 := p9.cell 1 (v := .int .i64 b1) rfl
      have kp9_2 := p9.cell 2 (v := .int .i64 b2) rfl
      have kp9_3 := p9.cell 3 (v := .int .i64 eps) rfl
      have kp9_4 := p9.cell 4 (v := .int .i64 wd2) rfl
      have kp9_5 := p9.cell 5 (v := .bool true) rfl
      go_wp2_with fail
      clear kp3_0 kp3_1 kp3_2 kp3_3 kp3_4 kp3_5 kp3_6 kp3_7 kp3_8 kp3_9 kp3_10 kp3_11 kp3_12 kp7_0 kp7_1 kp7_2 kp7_3 kp8_0 kp8_1 kp8_2 kp8_3 kp8_4 kp8_5 kp9_0 kp9_1 kp9_2 kp9_3 kp9_4 kp9_5
      have szc := Ext.size E0
      refine (Try.adamStepIs lr b1 b2 eps wd pw0 pw1 true f _ HST1.out HN.out HQ.out.1.1 HQ.out.1.2 HQ.out.2.1 (hi0.mono (Nat.zero_le _) szc) (hi1.mono (Nat.zero_le _) szc) (hi2.mono (Nat.zero_le _) szc) (hi3.mono (Nat.zero_le _) szc)).mono ?_
      rintro e S1 ⟨⟨v, rfl, x11, x12, x13, m1, rfl, i11, i12, i13⟩, hE⟩
      clear szc
      replace E0 := (Ext.trans E0 hE)
      replace hi0 := (hi0.ext hE)
      replace hi1 := (hi1.ext hE)
      replace hi2 := (hi2.ext hE)
      replace hi3 := (hi3.ext hE)
      replace hi4 := (hi4.ext hE)
      replace p3 := (p3.ext hE)
      replace p7 := (p7.ext hE)
      replace p8 := (p8.ext hE)
      replace p9 := (p9.ext hE)
      clear hE
      obtain ⟨hx1, hhx⟩ : ∃ n, n = S1.heap.size := ⟨_, rfl⟩
      rw [← hhx] at i11 i12 i13
      have sz1 := Nat.le_of_eq hhx
      clear hhx
      have kp3_0 := p3.cell 0 (v := .int .i64 lr) rfl
      have kp3_1 := p3.cell 1 (v := .int .i64 b1) rfl
      have kp3_2 := p3.cell 2 (v := .int .i64 b2) rfl
      have kp3_3 := p3.cell 3 (v := .int .i64 eps) rfl
      have kp3_4 := p3.cell 4 (v := .int .i64 wd) rfl
      have kp3_5 := p3.cell 5 (v := .bool ap) rfl
      have kp3_6 := p3.cell 6 (v := .int .i64 f) rfl
      have kp3_7 := p3.cell 7 (v := .int .i64 pw0) rfl
      have kp3_8 := p3.cell 8 (v := .int .i64 pw1) rfl
      have kp3_9 := p3.cell 9 (v := .slice a0 nw c0) rfl
      have kp3_10 := p3.cell 10 (v := .slice a1 n1 c1) rfl
      have kp3_11 := p3.cell 11 (v := .slice a2 n2 c2) rfl
      have kp3_12 := p3.cell 12 (v := .slice a3 n3 c3) rfl
      have kp7_0 := p7.cell 0 (v := .slice a0 nw c0) rfl
      have kp7_1 := p7.cell 1 (v := .slice a1 n1 c1) rfl
      have kp7_2 := p7.cell 2 (v := .slice a2 n2 c2) rfl
      have kp7_3 := p7.cell 3 (v := .slice a3 n3 c3) rfl
      have kp8_0 := p8.cell 0 (v := .int .i64 lr) rfl
      have kp8_1 := p8.cell 1 (v := .int .i64 b1) rfl
      have kp8_2 := p8.cell 2 (v := .int .i64 b2) rfl
      have kp8_3 := p8.cell 3 (v := .int .i64 eps) rfl
      have kp8_4 := p8.cell 4 (v := .int .i64 wd) rfl
      have kp8_5 := p8.cell 5 (v := .bool true) rfl
      have kp9_0 := p9.cell 0 (v := .int .i64 lr) rfl
      have kp9_1 := p9.cell 1 (v := .int .i64 b1) rfl
      have kp9_2 := p9.cell 2 (v := .int .i64 b2) rfl
      have kp9_3 := p9.cell 3 (v := .int .i64 eps) rfl
      have kp9_4 := p9.cell 4 (v := .int .i64 wd2) rfl
      have kp9_5 := p9.cell 5 (v := .bool true) rfl
      go_upto_region 9 with (fail)
      clear kp3_0 kp3_1 kp3_2 kp3_3 kp3_4 kp3_5 kp3_6 kp3_7 kp3_8 kp3_9 kp3_10 kp3_11 kp3_12 kp7_0 kp7_1 kp7_2 kp7_3 kp8_0 kp8_1 kp8_2 kp8_3 kp8_4 kp8_5 kp9_0 kp9_1 kp9_2 kp9_3 kp9_4 kp9_5
      have p10 := BxA.new S1 27 #[.slice x11 m1 m1, .slice x12 m1 m1, .slice x13 m1 m1, .slice none 0 0]
      have hE := Ext.alloc1 S1 (.cells #[.slice x11 m1 m1, .slice x12 m1 m1, .slice x13 m1 m1, .slice none 0 0] 27)
      have lt0 := Ext.size E0
      have ltp3 := p3.lt
      have ltp7 := p7.lt
      have ltp8 := p8.lt
      have ltp9 := p9.lt
      have ltsz1 := sz1
      obtain ⟨U10, hU10⟩ : ∃ U10, U10 = S1.alloc (.cells #[.slice x11 m1 m1, .slice x12 m1 m1, .slice x13 m1 m1, .slice none 0 0] 27) := ⟨_, rfl⟩
      rw [← hU10] at p10 hE ⊢
      clear hU10
      replace E0 := (Ext.trans E0 hE)
      replace hi0 := (hi0.ext hE)
      replace hi1 := (hi1.ext hE)
      replace hi2 := (hi2.ext hE)
      replace hi3 := (hi3.ext hE)
      replace hi4 := (hi4.ext hE)
      replace p3 := (p3.ext hE)
      replace p7 := (p7.ext hE)
      replace p8 := (p8.ext hE)
      replace p9 := (p9.ext hE)
      replace i11 := (i11.ext hE)
      replace i12 := (i12.ext hE)
      replace i13 := (i13.ext hE)
      replace sz1 := (Nat.le_trans sz1 (Ext.size hE))
      clear hE
      obtain ⟨g10, hg10⟩ : ∃ g, g = S1.heap.size := ⟨_, rfl⟩
      rw [← hg10] at p10 lt0 ltp3 ltp7 ltp8 ltp9 ltsz1 ⊢
      clear hg10
      have HS10 := Lib.hid (And.intro lt0 (And.intro ltp3 (And.intro ltp7 (And.intro ltp8 (And.intro ltp9 ltsz1)))))
      clear lt0 ltp3 ltp7 ltp8 ltp9 ltsz1
      have kp3_0 := p3.cell 0 (v := .int .i64 lr) rfl
      have kp3_1 := p3.cell 1 (v := .int .i64 b1) rfl
      have kp3_2 := p3.cell 2 (v := .int .i64 b2) rfl
      have kp3_3 := p3.cell 3 (v := .int .i64 eps) rfl
      have kp3_4 := p3.cell 4 (v := .int .i64 wd) rfl
      have kp3_5 := p3.cell 5 (v := .bool ap) rfl
      have kp3_6 := p3.cell 6 (v := .int .i64 f) rfl
      have kp3_7 := p3.cell 7 (v := .int .i64 pw0) rfl
      have kp3_8 := p3.cell 8 (v := .int .i64 pw1) rfl
      have kp3_9 := p3.cell 9 (v := .slice a0 nw c0) rfl
      have kp3_10 := p3.cell 10 (v := .slice a1 n1 c1) rfl
      have kp3_11 := p3.cell 11 (v := .slice a2 n2 c2) rfl
      have kp3_12 := p3.cell 12 (v := .slice a3 n3 c3) rfl
      have kp7_0 := p7.cell 0 (v := .slice a0 nw c0) rfl
      have kp7_1 := p7.cell 1 (v := .slice a1 n1 c1) rfl
      have kp7_2 := p7.cell 2 (v := .slice a2 n2 c2) rfl
      have kp7_3 := p7.cell 3 (v := .slice a3 n3 c3) rfl
      have kp8_0 := p8.cell 0 (v := .int .i64 lr) rfl
      have kp8_1 := p8.cell 1 (v := .int .i64 b1) rfl
      have kp8_2 := p8.cell 2 (v := .int .i64 b2) rfl
      have kp8_3 := p8.cell 3 (v := .int .i64 eps) rfl
      have kp8_4 := p8.cell 4 (v := .int .i64 wd) rfl
      have kp8_5 := p8.cell 5 (v := .bool true) rfl
      have kp9_0 := p9.cell 0 (v := .int .i64 lr) rfl
      have kp9_1 := p9.cell 1 (v := .int .i64 b1) rfl
      have kp9_2 := p9.cell 2 (v := .int .i64 b2) rfl
      have kp9_3 := p9.cell 3 (v := .int .i64 eps) rfl
      have kp9_4 := p9.cell 4 (v := .int .i64 wd2) rfl
      have kp9_5 := p9.cell 5 (v := .bool true) rfl
      have kp10_0 := p10.cell 0 (v := .slice x11 m1 m1) rfl
      have kp10_1 := p10.cell 1 (v := .slice x12 m1 m1) rfl
      have kp10_2 := p10.cell 2 (v := .slice x13 m1 m1) rfl
      have kp10_3 := p10.cell 3 (v := .slice none 0 0) rfl
      go_wp2_with fail
      clear kp3_0 kp3_1 kp3_2 kp3_3 kp3_4 kp3_5 kp3_6 kp3_7 kp3_8 kp3_9 kp3_10 kp3_11 kp3_12 kp7_0 kp7_1 kp7_2 kp7_3 kp8_0 kp8_1 kp8_2 kp8_3 kp8_4 kp8_5 kp9_0 kp9_1 kp9_2 kp9_3 kp9_4 kp9_5 kp10_0 kp10_1 kp10_2 kp10_3
      have szc := Ext.size E0
      refine (Try.adamStepIs lr b1 b2 eps wd2 pw0 pw1 true f _ HST2.out HN.out HQ.out.1.1 HQ.out.1.2 HQ.out.2.2 (hi4.mono (Nat.zero_le _) szc) (hi1.mono (Nat.zero_le _) szc) (hi2.mono (Nat.zero_le _) szc) (hi3.mono (Nat.zero_le _) szc)).mono ?_
      rintro e S2 ⟨⟨v, rfl, x21, x22, x23, m2, rfl, i21, i22, i23⟩, hE⟩
      clear szc
      replace E0 := (Ext.trans E0 hE)
      replace hi0 := (hi0.ext hE)
      replace hi1 := (hi1.ext hE)
      replace hi2 := (hi2.ext hE)
      replace hi3 := (hi3.ext hE)
      replace hi4 := (hi4.ext hE)
      replace p3 := (p3.ext hE)
      replace p7 := (p7.ext hE)
      replace p8 := (p8.ext hE)
      replace p9 := (p9.ext hE)
      replace i11 := (i11.ext hE)
      replace i12 := (i12.ext hE)
      replace i13 := (i13.ext hE)
      replace sz1 := (Nat.le_trans sz1 (Ext.size hE))
      replace p10 := (p10.ext hE)
      clear hE
      obtain ⟨hx2, hhx⟩ : ∃ n, n = S2.heap.size := ⟨_, rfl⟩
      rw [← hhx] at i21 i22 i23
      have sz2 := Nat.le_of_eq hhx
      clear hhx
      have kp3_0 := p3.cell 0 (v := .int .i64 lr) rfl
      have kp3_1 := p3.cell 1 (v := .int .i64 b1) rfl
      have kp3_2 := p3.cell 2 (v := .int .i64 b2) rfl
      have kp3_3 := p3.cell 3 (v := .int .i64 eps) rfl
      have kp3_4 := p3.cell 4 (v := .int .i64 wd) rfl
      have kp3_5 := p3.cell 5 (v := .bool ap) rfl
      have kp3_6 := p3.cell 6 (v := .int .i64 f) rfl
      have kp3_7 := p3.cell 7 (v := .int .i64 pw0) rfl
      have kp3_8 := p3.cell 8 (v := .int .i64 pw1) rfl
      have kp3_9 := p3.cell 9 (v := .slice a0 nw c0) rfl
      have kp3_10 := p3.cell 10 (v := .slice a1 n1 c1) rfl
      have kp3_11 := p3.cell 11 (v := .slice a2 n2 c2) rfl
      have kp3_12 := p3.cell 12 (v := .slice a3 n3 c3) rfl
      have kp7_0 := p7.cell 0 (v := .slice a0 nw c0) rfl
      have kp7_1 := p7.cell 1 (v := .slice a1 n1 c1) rfl
      have kp7_2 := p7.cell 2 (v := .slice a2 n2 c2) rfl
      have kp7_3 := p7.cell 3 (v := .slice a3 n3 c3) rfl
      have kp8_0 := p8.cell 0 (v := .int .i64 lr) rfl
      have kp8_1 := p8.cell 1 (v := .int .i64 b1) rfl
      have kp8_2 := p8.cell 2 (v := .int .i64 b2) rfl
      have kp8_3 := p8.cell 3 (v := .int .i64 eps) rfl
      have kp8_4 := p8.cell 4 (v := .int .i64 wd) rfl
      have kp8_5 := p8.cell 5 (v := .bool true) rfl
      have kp9_0 := p9.cell 0 (v := .int .i64 lr) rfl
      have kp9_1 := p9.cell 1 (v := .int .i64 b1) rfl
      have kp9_2 := p9.cell 2 (v := .int .i64 b2) rfl
      have kp9_3 := p9.cell 3 (v := .int .i64 eps) rfl
      have kp9_4 := p9.cell 4 (v := .int .i64 wd2) rfl
      have kp9_5 := p9.cell 5 (v := .bool true) rfl
      have kp10_0 := p10.cell 0 (v := .slice x11 m1 m1) rfl
      have kp10_1 := p10.cell 1 (v := .slice x12 m1 m1) rfl
      have kp10_2 := p10.cell 2 (v := .slice x13 m1 m1) rfl
      have kp10_3 := p10.cell 3 (v := .slice none 0 0) rfl
      go_upto_region 10 with (fail)
      clear kp3_0 kp3_1 kp3_2 kp3_3 kp3_4 kp3_5 kp3_6 kp3_7 kp3_8 kp3_9 kp3_10 kp3_11 kp3_12 kp7_0 kp7_1 kp7_2 kp7_3 kp8_0 kp8_1 kp8_2 kp8_3 kp8_4 kp8_5 kp9_0 kp9_1 kp9_2 kp9_3 kp9_4 kp9_5 kp10_0 kp10_1 kp10_2 kp10_3
      have p12 := BxA.new S2 27 #[.slice x21 m2 m2, .slice x22 m2 m2, .slice x23 m2 m2, .slice none 0 0]
      have hE := Ext.alloc1 S2 (.cells #[.slice x21 m2 m2, .slice x22 m2 m2, .slice x23 m2 m2, .slice none 0 0] 27)
      have lt0 := Ext.size E0
      have ltp3 := p3.lt
      have ltp7 := p7.lt
      have ltp8 := p8.lt
      have ltp9 := p9.lt
      have ltsz1 := sz1
      have ltp10 := p10.lt
      have ltsz2 := sz2
      obtain ⟨U12, hU12⟩ : ∃ U12, U12 = S2.alloc (.cells #[.slice x21 m2 m2, .slice x22 m2 m2, .slice x23 m2 m2, .slice none 0 0] 27) := ⟨_, rfl⟩
      rw [← hU12] at p12 hE ⊢
      clear hU12
      replace E0 := (Ext.trans E0 hE)
      replace hi0 := (hi0.ext hE)
      replace hi1 := (hi1.ext hE)
      replace hi2 := (hi2.ext hE)
      replace hi3 := (hi3.ext hE)
      replace hi4 := (hi4.ext hE)
      replace p3 := (p3.ext hE)
      replace p7 := (p7.ext hE)
      replace p8 := (p8.ext hE)
      replace p9 := (p9.ext hE)
      replace i11 := (i11.ext hE)
      replace i12 := (i12.ext hE)
      replace i13 := (i13.ext hE)
      replace sz1 := (Nat.le_trans sz1 (Ext.size hE))
      replace p10 := (p10.ext hE)
      replace i21 := (i21.ext hE)
      replace i22 := (i22.ext hE)
      replace i23 := (i23.ext hE)
      replace sz2 := (Nat.le_trans sz2 (Ext.size hE))
      clear hE
      obtain ⟨g12, hg12⟩ : ∃ g, g = S2.heap.size := ⟨_, rfl⟩
      rw [← hg12] at p12 lt0 ltp3 ltp7 ltp8 ltp9 ltsz1 ltp10 ltsz2 ⊢
      clear hg12
      have HS12 := Lib.hid (And.intro lt0 (And.intro ltp3 (And.intro ltp7 (And.intro ltp8 (And.intro ltp9 (And.intro ltsz1 (And.intro ltp10 ltsz2)))))))
      clear lt0 ltp3 ltp7 ltp8 ltp9 ltsz1 ltp10 ltsz2
      by_cases k1 : E1 = 0
      · subst k1
        by_cases k2 : E2 = 0
        · subst k2
          have kp3_0 := p3.cell 0 (v := .int .i64 lr) rfl
          have kp3_1 := p3.cell 1 (v := .int .i64 b1) rfl
          have kp3_2 := p3.cell 2 (v := .int .i64 b2) rfl
          have kp3_3 := p3.cell 3 (v := .int .i64 eps) rfl
          have kp3_4 := p3.cell 4 (v := .int .i64 wd) rfl
          have kp3_5 := p3.cell 5 (v := .bool ap) rfl
          have kp3_6 := p3.cell 6 (v := .int .i64 f) rfl
          have kp3_7 := p3.cell 7 (v := .int .i64 pw0) rfl
          have kp3_8 := p3.cell 8 (v := .int .i64 pw1) rfl
          have kp3_9 := p3.cell 9 (v := .slice a0 nw c0) rfl
          have kp3_10 := p3.cell 10 (v := .slice a1 n1 c1) rfl
          have kp3_11 := p3.cell 11 (v := .slice a2 n2 c2) rfl
          have kp3_12 := p3.cell 12 (v := .slice a3 n3 c3) rfl
          have kp7_0 := p7.cell 0 (v := .slice a0 nw c0) rfl
          have kp7_1 := p7.cell 1 (v := .slice a1 n1 c1) rfl
          have kp7_2 := p7.cell 2 (v := .slice a2 n2 c2) rfl
          have kp7_3 := p7.cell 3 (v := .slice a3 n3 c3) rfl
          have kp8_0 := p8.cell 0 (v := .int .i64 lr) rfl
          have kp8_1 := p8.cell 1 (v := .int .i64 b1) rfl
          have kp8_2 := p8.cell 2 (v := .int .i64 b2) rfl
          have kp8_3 := p8.cell 3 (v := .int .i64 eps) rfl
          have kp8_4 := p8.cell 4 (v := .int .i64 wd) rfl
          have kp8_5 := p8.cell 5 (v := .bool true) rfl
          have kp9_0 := p9.cell 0 (v := .int .i64 lr) rfl
          have kp9_1 := p9.cell 1 (v := .int .i64 b1) rfl
          have kp9_2 := p9.cell 2 (v := .int .i64 b2) rfl
          have kp9_3 := p9.cell 3 (v := .int .i64 eps) rfl
          have kp9_4 := p9.cell 4 (v := .int .i64 wd2) rfl
          have kp9_5 := p9.cell 5 (v := .bool true) rfl
          have kp10_0 := p10.cell 0 (v := .slice x11 m1 m1) rfl
          have kp10_1 := p10.cell 1 (v := .slice x12 m1 m1) rfl
          have kp10_2 := p10.cell 2 (v := .slice x13 m1 m1) rfl
          have kp10_3 := p10.cell 3 (v := .slice none 0 0) rfl
          have kp12_0 := p12.cell 0 (v := .slice x21 m2 m2) rfl
          have kp12_1 := p12.cell 1 (v := .slice x22 m2 m2) rfl
          have kp12_2 := p12.cell 2 (v := .slice x23 m2 m2) rfl
          have kp12_3 := p12.cell 3 (v := .slice none 0 0) rfl
          go_wp2_with fail
          clear kp3_0 kp3_1 kp3_2 kp3_3 kp3_4 kp3_5 kp3_6 kp3_7 kp3_8 kp3_9 kp3_10 kp3_11 kp3_12 kp7_0 kp7_1 kp7_2 kp7_3 kp8_0 kp8_1 kp8_2 kp8_3 kp8_4 kp8_5 kp9_0 kp9_1 kp9_2 kp9_3 kp9_4 kp9_5 kp10_0 kp10_1 kp10_2 kp10_3 kp12_0 kp12_1 kp12_2 kp12_3
          refine (Try.alive18 _).mono ?_
          rintro e We ⟨rfl, hE⟩
          replace E0 := (Ext.trans E0 hE)
          replace hi0 := (hi0.ext hE)
          replace hi1 := (hi1.ext hE)
          replace hi2 := (hi2.ext hE)
          replace hi3 := (hi3.ext hE)
          replace hi4 := (hi4.ext hE)
          replace p3 := (p3.ext hE)
          replace p7 := (p7.ext hE)
          replace p8 := (p8.ext hE)
          replace p9 := (p9.ext hE)
          replace i11 := (i11.ext hE)
          replace i12 := (i12.ext hE)
          replace i13 := (i13.ext hE)
          replace sz1 := (Nat.le_trans sz1 (Ext.size hE))
          replace p10 := (p10.ext hE)
          replace i21 := (i21.ext hE)
          replace i22 := (i22.ext hE)
          replace i23 := (i23.ext hE)
          replace sz2 := (Nat.le_trans sz2 (Ext.size hE))
          replace p12 := (p12.ext hE)
          clear hE
          have kp3_0 := p3.cell 0 (v := .int .i64 lr) rfl
          have kp3_1 := p3.cell 1 (v := .int .i64 b1) rfl
          have kp3_2 := p3.cell 2 (v := .int .i64 b2) rfl
          have kp3_3 := p3.cell 3 (v := .int .i64 eps) rfl
          have kp3_4 := p3.cell 4 (v := .int .i64 wd) rfl
          have kp3_5 := p3.cell 5 (v := .bool ap) rfl
          have kp3_6 := p3.cell 6 (v := .int .i64 f) rfl
          have kp3_7 := p3.cell 7 (v := .int .i64 pw0) rfl
          have kp3_8 := p3.cell 8 (v := .int .i64 pw1) rfl
          have kp3_9 := p3.cell 9 (v := .slice a0 nw c0) rfl
          have kp3_10 := p3.cell 10 (v := .slice a1 n1 c1) rfl
          have kp3_11 := p3.cell 11 (v := .slice a2 n2 c2) rfl
          have kp3_12 := p3.cell 12 (v := .slice a3 n3 c3) rfl
          have kp7_0 := p7.cell 0 (v := .slice a0 nw c0) rfl
          have kp7_1 := p7.cell 1 (v := .slice a1 n1 c1) rfl
          have kp7_2 := p7.cell 2 (v := .slice a2 n2 c2) rfl
          have kp7_3 := p7.cell 3 (v := .slice a3 n3 c3) rfl
          have kp8_0 := p8.cell 0 (v := .int .i64 lr) rfl
          have kp8_1 := p8.cell 1 (v := .int .i64 b1) rfl
          have kp8_2 := p8.cell 2 (v := .int .i64 b2) rfl
          have kp8_3 := p8.cell 3 (v := .int .i64 eps) rfl
          have kp8_4 := p8.cell 4 (v := .int .i64 wd) rfl
          have kp8_5 := p8.cell 5 (v := .bool true) rfl
          have kp9_0 := p9.cell 0 (v := .int .i64 lr) rfl
          have kp9_1 := p9.cell 1 (v := .int .i64 b1) rfl
          have kp9_2 := p9.cell 2 (v := .int .i64 b2) rfl
          have kp9_3 := p9.cell 3 (v := .int .i64 eps) rfl
          have kp9_4 := p9.cell 4 (v := .int .i64 wd2) rfl
          have kp9_5 := p9.cell 5 (v := .bool true) rfl
          have kp10_0 := p10.cell 0 (v := .slice x11 m1 m1) rfl
          have kp10_1 := p10.cell 1 (v := .slice x12 m1 m1) rfl
          have kp10_2 := p10.cell 2 (v := .slice x13 m1 m1) rfl
          have kp10_3 := p10.cell 3 (v := .slice none 0 0) rfl
          have kp12_0 := p12.cell 0 (v := .slice x21 m2 m2) rfl
          have kp12_1 := p12.cell 1 (v := .slice x22 m2 m2) rfl
          have kp12_2 := p12.cell 2 (v := .slice x23 m2 m2) rfl
          have kp12_3 := p12.cell 3 (v := .slice none 0 0) rfl
          go_wp2_with fail
          clear kp3_0 kp3_1 kp3_2 kp3_3 kp3_4 kp3_5 kp3_6 kp3_7 kp3_8 kp3_9 kp3_10 kp3_11 kp3_12 kp7_0 kp7_1 kp7_2 kp7_3 kp8_0 kp8_1 kp8_2 kp8_3 kp8_4 kp8_5 kp9_0 kp9_1 kp9_2 kp9_3 kp9_4 kp9_5 kp10_0 kp10_1 kp10_2 kp10_3 kp12_0 kp12_1 kp12_2 kp12_3
          refine (Try.refSame09 i12 i22).mono ?_
          rintro e Wf ⟨rfl, hE⟩
          rw [decide_eq_true (HD.out (by trivial) (by trivial) (by trivial)).1]
          replace E0 := (Ext.trans E0 hE)
          replace hi0 := (hi0.ext hE)
          replace hi1 := (hi1.ext hE)
          replace hi2 := (hi2.ext hE)
          replace hi3 := (hi3.ext hE)
          replace hi4 := (hi4.ext hE)
          replace p3 := (p3.ext hE)
          replace p7 := (p7.ext hE)
          replace p8 := (p8.ext hE)
          replace p9 := (p9.ext hE)
          replace i11 := (i11.ext hE)
          replace i12 := (i12.ext hE)
          replace i13 := (i13.ext hE)
          replace sz1 := (Nat.le_trans sz1 (Ext.size hE))
          replace p10 := (p10.ext hE)
          replace i21 := (i21.ext hE)
          replace i22 := (i22.ext hE)
          replace i23 := (i23.ext hE)
          replace sz2 := (Nat.le_trans sz2 (Ext.size hE))
          replace p12 := (p12.ext hE)
          clear hE
          have kp3_0 := p3.cell 0 (v := .int .i64 lr) rfl
          have kp3_1 := p3.cell 1 (v := .int .i64 b1) rfl
          have kp3_2 := p3.cell 2 (v := .int .i64 b2) rfl
          have kp3_3 := p3.cell 3 (v := .int .i64 eps) rfl
          have kp3_4 := p3.cell 4 (v := .int .i64 wd) rfl
          have kp3_5 := p3.cell 5 (v := .bool ap) rfl
          have kp3_6 := p3.cell 6 (v := .int .i64 f) rfl
          have kp3_7 := p3.cell 7 (v := .int .i64 pw0) rfl
          have kp3_8 := p3.cell 8 (v := .int .i64 pw1) rfl
          have kp3_9 := p3.cell 9 (v := .slice a0 nw c0) rfl
          have kp3_10 := p3.cell 10 (v := .slice a1 n1 c1) rfl
          have kp3_11 := p3.cell 11 (v := .slice a2 n2 c2) rfl
          have kp3_12 := p3.cell 12 (v := .slice a3 n3 c3) rfl
          have kp7_0 := p7.cell 0 (v := .slice a0 nw c0) rfl
          have kp7_1 := p7.cell 1 (v := .slice a1 n1 c1) rfl
          have kp7_2 := p7.cell 2 (v := .slice a2 n2 c2) rfl
          have kp7_3 := p7.cell 3 (v := .slice a3 n3 c3) rfl
          have kp8_0 := p8.cell 0 (v := .int .i64 lr) rfl
          have kp8_1 := p8.cell 1 (v := .int .i64 b1) rfl
          have kp8_2 := p8.cell 2 (v := .int .i64 b2) rfl
          have kp8_3 := p8.cell 3 (v := .int .i64 eps) rfl
          have kp8_4 := p8.cell 4 (v := .int .i64 wd) rfl
          have kp8_5 := p8.cell 5 (v := .bool true) rfl
          have kp9_0 := p9.cell 0 (v := .int .i64 lr) rfl
          have kp9_1 := p9.cell 1 (v := .int .i64 b1) rfl
          have kp9_2 := p9.cell 2 (v := .int .i64 b2) rfl
          have kp9_3 := p9.cell 3 (v := .int .i64 eps) rfl
          have kp9_4 := p9.cell 4 (v := .int .i64 wd2) rfl
          have kp9_5 := p9.cell 5 (v := .bool true) rfl
          have kp10_0 := p10.cell 0 (v := .slice x11 m1 m1) rfl
          have kp10_1 := p10.cell 1 (v := .slice x12 m1 m1) rfl
          have kp10_2 := p10.cell 2 (v := .slice x13 m1 m1) rfl
          have kp10_3 := p10.cell 3 (v := .slice none 0 0) rfl
          have kp12_0 := p12.cell 0 (v := .slice x21 m2 m2) rfl
          have kp12_1 := p12.cell 1 (v := .slice x22 m2 m2) rfl
          have kp12_2 := p12.cell 2 (v := .slice x23 m2 m2) rfl
          have kp12_3 := p12.cell 3 (v := .slice none 0 0) rfl
          go_wp2_with fail
          clear kp3_0 kp3_1 kp3_2 kp3_3 kp3_4 kp3_5 kp3_6 kp3_7 kp3_8 kp3_9 kp3_10 kp3_11 kp3_12 kp7_0 kp7_1 kp7_2 kp7_3 kp8_0 kp8_1 kp8_2 kp8_3 kp8_4 kp8_5 kp9_0 kp9_1 kp9_2 kp9_3 kp9_4 kp9_5 kp10_0 kp10_1 kp10_2 kp10_3 kp12_0 kp12_1 kp12_2 kp12_3
          refine (Try.refSame09 i13 i23).mono ?_
          rintro e Wg ⟨rfl, hE⟩
          rw [decide_eq_true (HD.out (by trivial) (by trivial) (by trivial)).2]
          replace E0 := (Ext.trans E0 hE)
          replace hi0 := (hi0.ext hE)
          replace hi1 := (hi1.ext hE)
          replace hi2 := (hi2.ext hE)
          replace hi3 := (hi3.ext hE)
          replace hi4 := (hi4.ext hE)
          replace p3 := (p3.ext hE)
          replace p7 := (p7.ext hE)
          replace p8 := (p8.ext hE)
          replace p9 := (p9.ext hE)
          replace i11 := (i11.ext hE)
          replace i12 := (i12.ext hE)
          replace i13 := (i13.ext hE)
          replace sz1 := (Nat.le_trans sz1 (Ext.size hE))
          replace p10 := (p10.ext hE)
          replace i21 := (i21.ext hE)
          replace i22 := (i22.ext hE)
          replace i23 := (i23.ext hE)
          replace sz2 := (Nat.le_trans sz2 (Ext.size hE))
          replace p12 := (p12.ext hE)
          clear hE
          have kp3_0 := p3.cell 0 (v := .int .i64 lr) rfl
          have kp3_1 := p3.cell 1 (v := .int .i64 b1) rfl
          have kp3_2 := p3.cell 2 (v := .int .i64 b2) rfl
          have kp3_3 := p3.cell 3 (v := .int .i64 eps) rfl
          have kp3_4 := p3.cell 4 (v := .int .i64 wd) rfl
          have kp3_5 := p3.cell 5 (v := .bool ap) rfl
          have kp3_6 := p3.cell 6 (v := .int .i64 f) rfl
          have kp3_7 := p3.cell 7 (v := .int .i64 pw0) rfl
          have kp3_8 := p3.cell 8 (v := .int .i64 pw1) rfl
          have kp3_9 := p3.cell 9 (v := .slice a0 nw c0) rfl
          have kp3_10 := p3.cell 10 (v := .slice a1 n1 c1) rfl
          have kp3_11 := p3.cell 11 (v := .slice a2 n2 c2) rfl
          have kp3_12 := p3.cell 12 (v := .slice a3 n3 c3) rfl
          have kp7_0 := p7.cell 0 (v := .slice a0 nw c0) rfl
          have kp7_1 := p7.cell 1 (v := .slice a1 n1 c1) rfl
          have kp7_2 := p7.cell 2 (v := .slice a2 n2 c2) rfl
          have kp7_3 := p7.cell 3 (v := .slice a3 n3 c3) rfl
          have kp8_0 := p8.cell 0 (v := .int .i64 lr) rfl
          have kp8_1 := p8.cell 1 (v := .int .i64 b1) rfl
          have kp8_2 := p8.cell 2 (v := .int .i64 b2) rfl
          have kp8_3 := p8.cell 3 (v := .int .i64 eps) rfl
          have kp8_4 := p8.cell 4 (v := .int .i64 wd) rfl
          have kp8_5 := p8.cell 5 (v := .bool true) rfl
          have kp9_0 := p9.cell 0 (v := .int .i64 lr) rfl
          have kp9_1 := p9.cell 1 (v := .int .i64 b1) rfl
          have kp9_2 := p9.cell 2 (v := .int .i64 b2) rfl
          have kp9_3 := p9.cell 3 (v := .int .i64 eps) rfl
          have kp9_4 := p9.cell 4 (v := .int .i64 wd2) rfl
          have kp9_5 := p9.cell 5 (v := .bool true) rfl
          have kp10_0 := p10.cell 0 (v := .slice x11 m1 m1) rfl
          have kp10_1 := p10.cell 1 (v := .slice x12 m1 m1) rfl
          have kp10_2 := p10.cell 2 (v := .slice x13 m1 m1) rfl
          have kp10_3 := p10.cell 3 (v := .slice none 0 0) rfl
          have kp12_0 := p12.cell 0 (v := .slice x21 m2 m2) rfl
          have kp12_1 := p12.cell 1 (v := .slice x22 m2 m2) rfl
          have kp12_2 := p12.cell 2 (v := .slice x23 m2 m2) rfl
          have kp12_3 := p12.cell 3 (v := .slice none 0 0) rfl
          go_wp2
          go_ret
          exact ⟨rfl, E0⟩
        · have k2b : (E2 != 0) = true := bne_iff_ne.2 k2
          clear k2
          have kp3_0 := p3.cell 0 (v := .int .i64 lr) rfl
          have kp3_1 := p3.cell 1 (v := .int .i64 b1) rfl
          have kp3_2 := p3.cell 2 (v := .int .i64 b2) rfl
          have kp3_3 := p3.cell 3 (v := .int .i64 eps) rfl
          have kp3_4 := p3.cell 4 (v := .int .i64 wd) rfl
          have kp3_5 := p3.cell 5 (v := .bool ap) rfl
          have kp3_6 := p3.cell 6 (v := .int .i64 f) rfl
          have kp3_7 := p3.cell 7 (v := .int .i64 pw0) rfl
          have kp3_8 := p3.cell 8 (v := .int .i64 pw1) rfl
          have kp3_9 := p3.cell 9 (v := .slice a0 nw c0) rfl
          have kp3_10 := p3.cell 10 (v := .slice a1 n1 c1) rfl
          have kp3_11 := p3.cell 11 (v := .slice a2 n2 c2) rfl
          have kp3_12 := p3.cell 12 (v := .slice a3 n3 c3) rfl
          have kp7_0 := p7.cell 0 (v := .slice a0 nw c0) rfl
          have kp7_1 := p7.cell 1 (v := .slice a1 n1 c1) rfl
          have kp7_2 := p7.cell 2 (v := .slice a2 n2 c2) rfl
          have kp7_3 := p7.cell 3 (v := .slice a3 n3 c3) rfl
          have kp8_0 := p8.cell 0 (v := .int .i64 lr) rfl
          have kp8_1 := p8.cell 1 (v := .int .i64 b1) rfl
          have kp8_2 := p8.cell 2 (v := .int .i64 b2) rfl
          have kp8_3 := p8.cell 3 (v := .int .i64 eps) rfl
          have kp8_4 := p8.cell 4 (v := .int .i64 wd) rfl
          have kp8_5 := p8.cell 5 (v := .bool true) rfl
          have kp9_0 := p9.cell 0 (v := .int .i64 lr) rfl
          have kp9_1 := p9.cell 1 (v := .int .i64 b1) rfl
          have kp9_2 := p9.cell 2 (v := .int .i64 b2) rfl
          have kp9_3 := p9.cell 3 (v := .int .i64 eps) rfl
          have kp9_4 := p9.cell 4 (v := .int .i64 wd2) rfl
          have kp9_5 := p9.cell 5 (v := .bool true) rfl
          have kp10_0 := p10.cell 0 (v := .slice x11 m1 m1) rfl
          have kp10_1 := p10.cell 1 (v := .slice x12 m1 m1) rfl
          have kp10_2 := p10.cell 2 (v := .slice x13 m1 m1) rfl
          have kp10_3 := p10.cell 3 (v := .slice none 0 0) rfl
          have kp12_0 := p12.cell 0 (v := .slice x21 m2 m2) rfl
          have kp12_1 := p12.cell 1 (v := .slice x22 m2 m2) rfl
          have kp12_2 := p12.cell 2 (v := .slice x23 m2 m2) rfl
          have kp12_3 := p12.cell 3 (v := .slice none 0 0) rfl
          go_wp2_with fail
          clear kp3_0 kp3_1 kp3_2 kp3_3 kp3_4 kp3_5 kp3_6 kp3_7 kp3_8 kp3_9 kp3_10 kp3_11 kp3_12 kp7_0 kp7_1 kp7_2 kp7_3 kp8_0 kp8_1 kp8_2 kp8_3 kp8_4 kp8_5 kp9_0 kp9_1 kp9_2 kp9_3 kp9_4 kp9_5 kp10_0 kp10_1 kp10_2 kp10_3 kp12_0 kp12_1 kp12_2 kp12_3
          refine (Try.alive18 _).mono ?_
          rintro e We ⟨rfl, hE⟩
          replace E0 := (Ext.trans E0 hE)
          replace hi0 := (hi0.ext hE)
          replace hi1 := (hi1.ext hE)
          replace hi2 := (hi2.ext hE)
          replace hi3 := (hi3.ext hE)
          replace hi4 := (hi4.ext hE)
          replace p3 := (p3.ext hE)
          replace p7 := (p7.ext hE)
          replace p8 := (p8.ext hE)
          replace p9 := (p9.ext hE)
          replace i11 := (i11.ext hE)
          replace i12 := (i12.ext hE)
          replace i13 := (i13.ext hE)
          replace sz1 := (Nat.le_trans sz1 (Ext.size hE))
          replace p10 := (p10.ext hE)
          replace i21 := (i21.ext hE)
          replace i22 := (i22.ext hE)
          replace i23 := (i23.ext hE)
          replace sz2 := (Nat.le_trans sz2 (Ext.size hE))
          replace p12 := (p12.ext hE)
          clear hE
          have kp3_0 := p3.cell 0 (v := .int .i64 lr) rfl
          have kp3_1 := p3.cell 1 (v := .int .i64 b1) rfl
          have kp3_2 := p3.cell 2 (v := .int .i64 b2) rfl
          have kp3_3 := p3.cell 3 (v := .int .i64 eps) rfl
          have kp3_4 := p3.cell 4 (v := .int .i64 wd) rfl
          have kp3_5 := p3.cell 5 (v := .bool ap) rfl
          have kp3_6 := p3.cell 6 (v := .int .i64 f) rfl
          have kp3_7 := p3.cell 7 (v := .int .i64 pw0) rfl
          have kp3_8 := p3.cell 8 (v := .int .i64 pw1) rfl
          have kp3_9 := p3.cell 9 (v := .slice a0 nw c0) rfl
          have kp3_10 := p3.cell 10 (v := .slice a1 n1 c1) rfl
          have kp3_11 := p3.cell 11 (v := .slice a2 n2 c2) rfl
          have kp3_12 := p3.cell 12 (v := .slice a3 n3 c3) rfl
          have kp7_0 := p7.cell 0 (v := .slice a0 nw c0) rfl
          have kp7_1 := p7.cell 1 (v := .slice a1 n1 c1) rfl
          have kp7_2 := p7.cell 2 (v := .slice a2 n2 c2) rfl
          have kp7_3 := p7.cell 3 (v := .slice a3 n3 c3) rfl
          have kp8_0 := p8.cell 0 (v := .int .i64 lr) rfl
          have kp8_1 := p8.cell 1 (v := .int .i64 b1) rfl
          have kp8_2 := p8.cell 2 (v := .int .i64 b2) rfl
          have kp8_3 := p8.cell 3 (v := .int .i64 eps) rfl
          have kp8_4 := p8.cell 4 (v := .int .i64 wd) rfl
          have kp8_5 := p8.cell 5 (v := .bool true) rfl
          have kp9_0 := p9.cell 0 (v := .int .i64 lr) rfl
          have kp9_1 := p9.cell 1 (v := .int .i64 b1) rfl
          have kp9_2 := p9.cell 2 (v := .int .i64 b2) rfl
          have kp9_3 := p9.cell 3 (v := .int .i64 eps) rfl
          have kp9_4 := p9.cell 4 (v := .int .i64 wd2) rfl
          have kp9_5 := p9.cell 5 (v := .bool true) rfl
          have kp10_0 := p10.cell 0 (v := .slice x11 m1 m1) rfl
          have kp10_1 := p10.cell 1 (v := .slice x12 m1 m1) rfl
          have kp10_2 := p10.cell 2 (v := .slice x13 m1 m1) rfl
          have kp10_3 := p10.cell 3 (v := .slice none 0 0) rfl
          have kp12_0 := p12.cell 0 (v := .slice x21 m2 m2) rfl
          have kp12_1 := p12.cell 1 (v := .slice x22 m2 m2) rfl
          have kp12_2 := p12.cell 2 (v := .slice x23 m2 m2) rfl
          have kp12_3 := p12.cell 3 (v := .slice none 0 0) rfl
          go_wp2
          go_ret
          exact ⟨rfl, E0⟩
      · have k1b : (E1 != 0) = true := bne_iff_ne.2 k1
        clear k1
        have kp3_0 := p3.cell 0 (v := .int .i64 lr) rfl
        have kp3_1 := p3.cell 1 (v := .int .i64 b1) rfl
        have kp3_2 := p3.cell 2 (v := .int .i64 b2) rfl
        have kp3_3 := p3.cell 3 (v := .int .i64 eps) rfl
        have kp3_4 := p3.cell 4 (v := .int .i64 wd) rfl
        have kp3_5 := p3.cell 5 (v := .bool ap) rfl
        have kp3_6 := p3.cell 6 (v := .int .i64 f) rfl
        have kp3_7 := p3.cell 7 (v := .int .i64 pw0) rfl
        have kp3_8 := p3.cell 8 (v := .int .i64 pw1) rfl
        have kp3_9 := p3.cell 9 (v := .slice a0 nw c0) rfl
        have kp3_10 := p3.cell 10 (v := .slice a1 n1 c1) rfl
        have kp3_11 := p3.cell 11 (v := .slice a2 n2 c2) rfl
        have kp3_12 := p3.cell 12 (v := .slice a3 n3 c3) rfl
        have kp7_0 := p7.cell 0 (v := .slice a0 nw c0) rfl
        have kp7_1 := p7.cell 1 (v := .slice a1 n1 c1) rfl
        have kp7_2 := p7.cell 2 (v := .slice a2 n2 c2) rfl
        have kp7_3 := p7.cell 3 (v := .slice a3 n3 c3) rfl
        have kp8_0 := p8.cell 0 (v := .int .i64 lr) rfl
        have kp8_1 := p8.cell 1 (v := .int .i64 b1) rfl
        have kp8_2 := p8.cell 2 (v := .int .i64 b2) rfl
        have kp8_3 := p8.cell 3 (v := .int .i64 eps) rfl
        have kp8_4 := p8.cell 4 (v := .int .i64 wd) rfl
        have kp8_5 := p8.cell 5 (v := .bool true) rfl
        have kp9_0 := p9.cell 0 (v := .int .i64 lr) rfl
        have kp9_1 := p9.cell 1 (v := .int .i64 b1) rfl
        have kp9_2 := p9.cell 2 (v := .int .i64 b2) rfl
        have kp9_3 := p9.cell 3 (v := .int .i64 eps) rfl
        have kp9_4 := p9.cell 4 (v := .int .i64 wd2) rfl
        have kp9_5 := p9.cell 5 (v := .bool true) rfl
        have kp10_0 := p10.cell 0 (v := .slice x11 m1 m1) rfl
        have kp10_1 := p10.cell 1 (v := .slice x12 m1 m1) rfl
        have kp10_2 := p10.cell 2 (v := .slice x13 m1 m1) rfl
        have kp10_3 := p10.cell 3 (v := .slice none 0 0) rfl
        have kp12_0 := p12.cell 0 (v := .slice x21 m2 m2) rfl
        have kp12_1 := p12.cell 1 (v := .slice x22 m2 m2) rfl
        have kp12_2 := p12.cell 2 (v := .slice x23 m2 m2) rfl
        have kp12_3 := p12.cell 3 (v := .slice none 0 0) rfl
        go_wp2_with fail
        clear kp3_0 kp3_1 kp3_2 kp3_3 kp3_4 kp3_5 kp3_6 kp3_7 kp3_8 kp3_9 kp3_10 kp3_11 kp3_12 kp7_0 kp7_1 kp7_2 kp7_3 kp8_0 kp8_1 kp8_2 kp8_3 kp8_4 kp8_5 kp9_0 kp9_1 kp9_2 kp9_3 kp9_4 kp9_5 kp10_0 kp10_1 kp10_2 kp10_3 kp12_0 kp12_1 kp12_2 kp12_3
        refine (Try.alive18 _).mono ?_
        rintro e We ⟨rfl, hE⟩
        replace E0 := (Ext.trans E0 hE)
        replace hi0 := (hi0.ext hE)
        replace hi1 := (hi1.ext hE)
        replace hi2 := (hi2.ext hE)
        replace hi3 := (hi3.ext hE)
        replace hi4 := (hi4.ext hE)
        replace p3 := (p3.ext hE)
        replace p7 := (p7.ext hE)
        replace p8 := (p8.ext hE)
        replace p9 := (p9.ext hE)
        replace i11 := (i11.ext hE)
        replace i12 := (i12.ext hE)
        replace i13 := (i13.ext hE)
        replace sz1 := (Nat.le_trans sz1 (Ext.size hE))
        replace p10 := (p10.ext hE)
        replace i21 := (i21.ext hE)
        replace i22 := (i22.ext hE)
        replace i23 := (i23.ext hE)
        replace sz2 := (Nat.le_trans sz2 (Ext.size hE))
        replace p12 := (p12.ext hE)
        clear hE
        have kp3_0 := p3.cell 0 (v := .int .i64 lr) rfl
        have kp3_1 := p3.cell 1 (v := .int .i64 b1) rfl
        have kp3_2 := p3.cell 2 (v := .int .i64 b2) rfl
        have kp3_3 := p3.cell 3 (v := .int .i64 eps) rfl
        have kp3_4 := p3.cell 4 (v := .int .i64 wd) rfl
        have kp3_5 := p3.cell 5 (v := .bool ap) rfl
        have kp3_6 := p3.cell 6 (v := .int .i64 f) rfl
        have kp3_7 := p3.cell 7 (v := .int .i64 pw0) rfl
        have kp3_8 := p3.cell 8 (v := .int .i64 pw1) rfl
        have kp3_9 := p3.cell 9 (v := .slice a0 nw c0) rfl
        have kp3_10 := p3.cell 10 (v := .slice a1 n1 c1) rfl
        have kp3_11 := p3.cell 11 (v := .slice a2 n2 c2) rfl
        have kp3_12 := p3.cell 12 (v := .slice a3 n3 c3) rfl
        have kp7_0 := p7.cell 0 (v := .slice a0 nw c0) rfl
        have kp7_1 := p7.cell 1 (v := .slice a1 n1 c1) rfl
        have kp7_2 := p7.cell 2 (v := .slice a2 n2 c2) rfl
        have kp7_3 := p7.cell 3 (v := .slice a3 n3 c3) rfl
        have kp8_0 := p8.cell 0 (v := .int .i64 lr) rfl
        have kp8_1 := p8.cell 1 (v := .int .i64 b1) rfl
        have kp8_2 := p8.cell 2 (v := .int .i64 b2) rfl
        have kp8_3 := p8.cell 3 (v := .int .i64 eps) rfl
        have kp8_4 := p8.cell 4 (v := .int .i64 wd) rfl
        have kp8_5 := p8.cell 5 (v := .bool true) rfl
        have kp9_0 := p9.cell 0 (v := .int .i64 lr) rfl
        have kp9_1 := p9.cell 1 (v := .int .i64 b1) rfl
        have kp9_2 := p9.cell 2 (v := .int .i64 b2) rfl
        have kp9_3 := p9.cell 3 (v := .int .i64 eps) rfl
        have kp9_4 := p9.cell 4 (v := .int .i64 wd2) rfl
        have kp9_5 := p9.cell 5 (v := .bool true) rfl
        have kp10_0 := p10.cell 0 (v := .slice x11 m1 m1) rfl
        have kp10_1 := p10.cell 1 (v := .slice x12 m1 m1) rfl
        have kp10_2 := p10.cell 2 (v := .slice x13 m1 m1) rfl
        have kp10_3 := p10.cell 3 (v := .slice none 0 0) rfl
        have kp12_0 := p12.cell 0 (v := .slice x21 m2 m2) rfl
        have kp12_1 := p12.cell 1 (v := .slice x22 m2 m2) rfl
        have kp12_2 := p12.cell 2 (v := .slice x23 m2 m2) rfl
        have kp12_3 := p12.cell 3 (v := .slice none 0 0) rfl
        go_wp2
        go_ret
        exact ⟨rfl, E0⟩
    · have heI : ((nw : Int) != (n0 : Int)) = true := bne_iff_ne.2 (by omega)
      clear he
      have kp3_0 := p3.cell 0 (v := .int .i64 lr) rfl
      have kp3_1 := p3.cell 1 (v := .int .i64 b1) rfl
      have kp3_2 := p3.cell 2 (v := .int .i64 b2) rfl
      have kp3_3 := p3.cell 3 (v := .int .i64 eps) rfl
      have kp3_4 := p3.cell 4 (v := .int .i64 wd) rfl
      have kp3_5 := p3.cell 5 (v := .bool ap) rfl
      have kp3_6 := p3.cell 6 (v := .int .i64 f) rfl
      have kp3_7 := p3.cell 7 (v := .int .i64 pw0) rfl
      have kp3_8 := p3.cell 8 (v := .int .i64 pw1) rfl
      have kp3_9 := p3.cell 9 (v := .slice a0 n0 c0) rfl
      have kp3_10 := p3.cell 10 (v := .slice a1 n1 c1) rfl
      have kp3_11 := p3.cell 11 (v := .slice a2 n2 c2) rfl
      have kp3_12 := p3.cell 12 (v := .slice a3 n3 c3) rfl
      have kp7_0 := p7.cell 0 (v := .slice a0 n0 c0) rfl
      have kp7_1 := p7.cell 1 (v := .slice a1 n1 c1) rfl
      have kp7_2 := p7.cell 2 (v := .slice a2 n2 c2) rfl
      have kp7_3 := p7.cell 3 (v := .slice a3 n3 c3) rfl
      go_wp2_with fail
      clear kp3_0 kp3_1 kp3_2 kp3_3 kp3_4 kp3_5 kp3_6 kp3_7 kp3_8 kp3_9 kp3_10 kp3_11 kp3_12 kp7_0 kp7_1 kp7_2 kp7_3
      refine (Try.alive18 _).mono ?_
      rintro e We ⟨rfl, hE⟩
      replace E0 := (Ext.trans E0 hE)
      replace hi0 := (hi0.ext hE)
      replace hi1 := (hi1.ext hE)
      replace hi2 := (hi2.ext hE)
      replace hi3 := (hi3.ext hE)
      replace hi4 := (hi4.ext hE)
      replace p3 := (p3.ext hE)
      replace p7 := (p7.ext hE)
      clear hE
      have kp3_0 := p3.cell 0 (v := .int .i64 lr) rfl
      have kp3_1 := p3.cell 1 (v := .int .i64 b1) rfl
      have kp3_2 := p3.cell 2 (v := .int .i64 b2) rfl
      have kp3_3 := p3.cell 3 (v := .int .i64 eps) rfl
      have kp3_4 := p3.cell 4 (v := .int .i64 wd) rfl
      have kp3_5 := p3.cell 5 (v := .bool ap) rfl
      have kp3_6 := p3.cell 6 (v := .int .i64 f) rfl
      have kp3_7 := p3.cell 7 (v := .int .i64 pw0) rfl
      have kp3_8 := p3.cell 8 (v := .int .i64 pw1) rfl
      have kp3_9 := p3.cell 9 (v := .slice a0 n0 c0) rfl
      have kp3_10 := p3.cell 10 (v := .slice a1 n1 c1) rfl
      have kp3_11 := p3.cell 11 (v := .slice a2 n2 c2) rfl
      have kp3_12 := p3.cell 12 (v := .slice a3 n3 c3) rfl
      have kp7_0 := p7.cell 0 (v := .slice a0 n0 c0) rfl
      have kp7_1 := p7.cell 1 (v := .slice a1 n1 c1) rfl
      have kp7_2 := p7.cell 2 (v := .slice a2 n2 c2) rfl
      have kp7_3 := p7.cell 3 (v := .slice a3 n3 c3) rfl
      go_wp2
      go_ret
      exact ⟨rfl, E0⟩
  · rw [decide_eq_false hf]
    clear hf
    have kp3_0 := p3.cell 0 (v := .int .i64 lr) rfl
    have kp3_1 := p3.cell 1 (v := .int .i64 b1) rfl
    have kp3_2 := p3.cell 2 (v := .int .i64 b2) rfl
    have kp3_3 := p3.cell 3 (v := .int .i64 eps) rfl
    have kp3_4 := p3.cell 4 (v := .int .i64 wd) rfl
    have kp3_5 := p3.cell 5 (v := .bool ap) rfl
    have kp3_6 := p3.cell 6 (v := .int .i64 f) rfl
    have kp3_7 := p3.cell 7 (v := .int .i64 pw0) rfl
    have kp3_8 := p3.cell 8 (v := .int .i64 pw1) rfl
    have kp3_9 := p3.cell 9 (v := .slice a0 n0 c0) rfl
    have kp3_10 := p3.cell 10 (v := .slice a1 n1 c1) rfl
    have kp3_11 := p3.cell 11 (v := .slice a2 n2 c2) rfl
    have kp3_12 := p3.cell 12 (v := .slice a3 n3 c3) rfl
    have kp7_0 := p7.cell 0 (v := .slice a0 n0 c0) rfl
    have kp7_1 := p7.cell 1 (v := .slice a1 n1 c1) rfl
    have kp7_2 := p7.cell 2 (v := .slice a2 n2 c2) rfl
    have kp7_3 := p7.cell 3 (v := .slice a3 n3 c3) rfl
    go_wp2_with fail
    clear kp3_0 kp3_1 kp3_2 kp3_3 kp3_4 kp3_5 kp3_6 kp3_7 kp3_8 kp3_9 kp3_10 kp3_11 kp3_12 kp7_0 kp7_1 kp7_2 kp7_3
    refine (Try.alive18 _).mono ?_
    rintro e We ⟨rfl, hE⟩
    replace E0 := (Ext.trans E0 hE)
    replace hi0 := (hi0.ext hE)
    replace hi1 := (hi1.ext hE)
    replace hi2 := (hi2.ext hE)
    replace hi3 := (hi3.ext hE)
    replace hi4 := (hi4.ext hE)
    replace p3 := (p3.ext hE)
    replace p7 := (p7.ext hE)
    clear hE
    have kp3_0 := p3.cell 0 (v := .int .i64 lr) rfl
    have kp3_1 := p3.cell 1 (v := .int .i64 b1) rfl
    have kp3_2 := p3.cell 2 (v := .int .i64 b2) rfl
    have kp3_3 := p3.cell 3 (v := .int .i64 eps) rfl
    have kp3_4 := p3.cell 4 (v := .int .i64 wd) rfl
    have kp3_5 := p3.cell 5 (v := .bool ap) rfl
    have kp3_6 := p3.cell 6 (v := .int .i64 f) rfl
    have kp3_7 := p3.cell 7 (v := .int .i64 pw0) rfl
    have kp3_8 := p3.cell 8 (v := .int .i64 pw1) rfl
    have kp3_9 := p3.cell 9 (v := .slice a0 n0 c0) rfl
    have kp3_10 := p3.cell 10 (v := .slice a1 n1 c1) rfl
    have kp3_11 := p3.cell 11 (v := .slice a2 n2 c2) rfl
    have kp3_12 := p3.cell 12 (v := .slice a3 n3 c3) rfl
    have kp7_0 := p7.cell 0 (v := .slice a0 n0 c0) rfl
    have kp7_1 := p7.cell 1 (v := .slice a1 n1 c1) rfl
    have kp7_2 := p7.cell 2 (v := .slice a2 n2 c2) rfl
    have kp7_3 := p7.cell 3 (v := .slice a3 n3 c3) rfl
    go_wp2
    go_ret
    exact ⟨rfl, E0⟩


end Go.Rt
