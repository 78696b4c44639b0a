/-
  The laws of chapter 18 (Adam): Still: its walk.
-/
import Derived.Test.YtlkinepafpbhhaaAdamI
namespace Go.Rt
open Go Go.RowKit Go.Proofs

set_option maxRecDepth 100000 in
set_option maxHeartbeats 16000000 in
theorem Try.lawAdamStill (lr b1 b2 eps wd pw0 pw1 f : Int) (ap : Bool) {n0 n1 n2 n3 : Nat} {a0 a1 a2 a3 : Option Addr} {c0 c1 c2 c3 : Nat} {lw lm lv lg : List Int} (w : World) (hs : n0 + n1 + n2 + n3 ≤ 9223372036854775807) (q1 : I64 lr) (q2 : I64 eps) (q3 : I64 wd) (hi0 : Iw 0 w.heap.size w a0 n0 c0 lw) (hi1 : Iw 0 w.heap.size w a1 n1 c1 lm) (hi2 : Iw 0 w.heap.size w a2 n2 c2 lv) (hi3 : Iw 0 w.heap.size w a3 n3 c3 lg) :
    Calls Try.prog 4 #[.agg #[.int .i64 lr, .int .i64 b1, .int .i64 b2, .int .i64 eps, .int .i64 wd, .bool ap, .int .i64 f, .int .i64 pw0, .int .i64 pw1, .slice a0 n0 c0, .slice a1 n1 c1, .slice a2 n2 c2, .slice a3 n3 c3]] w fun e w' => e = .returned (.bool true) ∧ Ext w w' := by
  have HQ := Lib.hid (And.intro (And.intro q1 q2) q3)
  have HZ : Hid (I64 0) := Lib.hid (by unfold I64; omega)
  have HSM := Lib.hid hs
  have HL := Lib.hid (And.intro hi0.len hi0.in64)
  obtain ⟨E1, hE1⟩ : ∃ E, stepE ⟨lr, b1, b2, eps, 0, ap⟩ f pw0 pw1 lw (List.replicate n0 0) (List.replicate n0 0) (List.replicate n0 0) = E := ⟨_, rfl⟩
  obtain ⟨xw1, hxw1⟩ : ∃ x, stepL p1of ⟨lr, b1, b2, eps, 0, ap⟩ f pw0 pw1 lw (List.replicate n0 0) (List.replicate n0 0) (List.replicate n0 0) = x := ⟨_, rfl⟩
  obtain ⟨xm1, hxm1⟩ : ∃ x, stepL p2of ⟨lr, b1, b2, eps, 0, ap⟩ f pw0 pw1 lw (List.replicate n0 0) (List.replicate n0 0) (List.replicate n0 0) = x := ⟨_, rfl⟩
  obtain ⟨xv1, hxv1⟩ : ∃ x, stepL p3of ⟨lr, b1, b2, eps, 0, ap⟩ f pw0 pw1 lw (List.replicate n0 0) (List.replicate n0 0) (List.replicate n0 0) = x := ⟨_, rfl⟩
  have HST1 := Lib.hid (And.intro hE1 (And.intro hxw1 (And.intro hxm1 hxv1)))
  obtain ⟨E2, hE2⟩ : ∃ E, stepE ⟨0, b1, b2, eps, wd, ap⟩ f pw0 pw1 lw lm lv lg = E := ⟨_, rfl⟩
  obtain ⟨xw2, hxw2⟩ : ∃ x, stepL p1of ⟨0, b1, b2, eps, wd, ap⟩ f pw0 pw1 lw lm lv lg = x := ⟨_, rfl⟩
  obtain ⟨xm2, hxm2⟩ : ∃ x, stepL p2of ⟨0, b1, b2, eps, wd, ap⟩ f pw0 pw1 lw lm lv lg = x := ⟨_, rfl⟩
  obtain ⟨xv2, hxv2⟩ : ∃ x, stepL p3of ⟨0, b1, b2, eps, wd, ap⟩ f pw0 pw1 lw lm lv lg = x := ⟨_, rfl⟩
  have HST2 := Lib.hid (And.intro hE2 (And.intro hxw2 (And.intro hxm2 hxv2)))
  obtain ⟨K, hKK⟩ : ∃ K : Nat, max (min f 40) 0 = (K : Int) := ⟨(max (min f 40) 0).toNat, by omega⟩
  have HK : Hid (K ≤ 40) := Lib.hid (by omega)
  have HD1 : Hid ((mayB K pw0 && mayB K pw1) = true → rightA ⟨lr, b1, b2, eps, 0, ap⟩ f = decide (E1 = 0)) := Lib.hid (fun k0 => by
    rw [Bool.and_eq_true] at k0
    rw [Bool.eq_iff_iff, decide_eq_true_iff]
    constructor
    · intro k1
      have k2 := rightA_iff.1 k1
      have k3 : f.toNat = K := by omega
      rw [← hE1]
      exact still_E (hi0.len) (by rw [k3]; exact k0.1) (by rw [k3]; exact k0.2) q2 hi0.in64 k1
    · intro k1
      exact (stepE_zero.1 (hE1.trans k1)).right)
  have HD2 : Hid (E1 = 0 → xw1 = lw ∧ xm1 = (List.replicate n0 0) ∧ xv1 = (List.replicate n0 0)) := Lib.hid (fun k1 => by rw [← hxw1, ← hxm1, ← hxv1]; exact still_L hi0.len q2 hi0.in64 (hE1.trans k1))
  have HD3 : Hid (E2 = 0 → xw2 = lw) := Lib.hid (fun k1 => by rw [← hxw2]; exact slow_L (hE2.trans k1))
  clear hE1 hxw1 hxm1 hxv1 hE2 hxw2 hxm2 hxv2 hs q1 q2 q3
  obtain ⟨W0, hW0⟩ : ∃ W0, W0 = (w.alloc (.cells #[.int .i64 lr, .int .i64 b1, .int .i64 b2, .int .i64 eps, .int .i64 wd, .bool ap, .int .i64 f, .int .i64 pw0, .int .i64 pw1, .slice a0 n0 c0, .slice a1 n1 c1, .slice a2 n2 c2, .slice a3 n3 c3] 29)) := ⟨_, rfl⟩
  have E0 : Ext w W0 := by rw [hW0]; exact (Ext.alloc1 w (.cells #[.int .i64 lr, .int .i64 b1, .int .i64 b2, .int .i64 eps, .int .i64 wd, .bool ap, .int .i64 f, .int .i64 pw0, .int .i64 pw1, .slice a0 n0 c0, .slice a1 n1 c1, .slice a2 n2 c2, .slice a3 n3 c3] 29))
  replace hi0 : Iw 0 w.heap.size W0 a0 n0 c0 (lw) := hi0.ext E0
  replace hi1 : Iw 0 w.heap.size W0 a1 n1 c1 (lm) := hi1.ext E0
  replace hi2 : Iw 0 w.heap.size W0 a2 n2 c2 (lv) := hi2.ext E0
  replace hi3 : Iw 0 w.heap.size W0 a3 n3 c3 (lg) := hi3.ext E0
  have p1 : BxA W0 w.heap.size 29 #[.int .i64 lr, .int .i64 b1, .int .i64 b2, .int .i64 eps, .int .i64 wd, .bool ap, .int .i64 f, .int .i64 pw0, .int .i64 pw1, .slice a0 n0 c0, .slice a1 n1 c1, .slice a2 n2 c2, .slice a3 n3 c3] := by rw [hW0]; exact (BxA.new w 29 #[.int .i64 lr, .int .i64 b1, .int .i64 b2, .int .i64 eps, .int .i64 wd, .bool ap, .int .i64 f, .int .i64 pw0, .int .i64 pw1, .slice a0 n0 c0, .slice a1 n1 c1, .slice a2 n2 c2, .slice a3 n3 c3])
  go_enter Try.func4, Try.ntmps4
  have kp1_0 := p1.cell 0 (v := .int .i64 lr) rfl
  have kp1_1 := p1.cell 1 (v := .int .i64 b1) rfl
  have kp1_2 := p1.cell 2 (v := .int .i64 b2) rfl
  have kp1_3 := p1.cell 3 (v := .int .i64 eps) rfl
  have kp1_4 := p1.cell 4 (v := .int .i64 wd) rfl
  have kp1_5 := p1.cell 5 (v := .bool ap) rfl
  have kp1_6 := p1.cell 6 (v := .int .i64 f) rfl
  have kp1_7 := p1.cell 7 (v := .int .i64 pw0) rfl
  have kp1_8 := p1.cell 8 (v := .int .i64 pw1) rfl
  have kp1_9 := p1.cell 9 (v := .slice a0 n0 c0) rfl
  have kp1_10 := p1.cell 10 (v := .slice a1 n1 c1) rfl
  have kp1_11 := p1.cell 11 (v := .slice a2 n2 c2) rfl
  have kp1_12 := p1.cell 12 (v := .slice a3 n3 c3) rfl
  go_upto_region 1 with (fail)
  rw [← hW0]
  clear hW0
  clear kp1_0 kp1_1 kp1_2 kp1_3 kp1_4 kp1_5 kp1_6 kp1_7 kp1_8 kp1_9 kp1_10 kp1_11 kp1_12
  have ltp1 := p1.lt
  have szw1 := Ext.size E0
  refine region_go2 [.one fun v _ => v = .pointer (some ⟨w.heap.size, 0, none⟩),
      .one fun v _ => v = .agg #[.int .i64 lr, .int .i64 b1, .int .i64 b2, .int .i64 eps, .int .i64 wd, .bool ap],
      .one fun v _ => v = .pointer (some ⟨w.heap.size, 6, none⟩),
      .one fun v _ => v = .int .i64 f,
      .one fun v _ => v = .pointer (some ⟨w.heap.size, 9, none⟩),
      .one fun v _ => v = .agg #[.slice a0 n0 c0, .slice a1 n1 c1, .slice a2 n2 c2, .slice a3 n3 c3],
      .one fun v W => ∃ g, v = .pointer (some ⟨g, 0, none⟩) ∧ W0.heap.size ≤ g ∧ Form W g 23 6,
      .one fun v W => ∃ g, v = .pointer (some ⟨g, 0, none⟩) ∧ W0.heap.size ≤ g ∧ Form W g 27 4,
      .two 6 (fun p _ W => NewA W0.heap.size 23 #[.int .i64 lr, .int .i64 b1, .int .i64 b2, .int .i64 eps, .int .i64 wd, .bool ap] p W),
      .one fun v _ => v = .int .i64 f,
      .two 7 (fun p _ W => NewA W0.heap.size 27 #[.slice a0 n0 c0, .slice a1 n1 c1, .slice a2 n2 c2, .slice a3 n3 c3] p W)]
    (fun W => Ext w W ∧ Iw 0 w.heap.size W a0 n0 c0 (lw) ∧ Iw 0 w.heap.size W a1 n1 c1 (lm) ∧ Iw 0 w.heap.size W a2 n2 c2 (lv) ∧ Iw 0 w.heap.size W a3 n3 c3 (lg) ∧ BxA W w.heap.size 29 #[.int .i64 lr, .int .i64 b1, .int .i64 b2, .int .i64 eps, .int .i64 wd, .bool ap, .int .i64 f, .int .i64 pw0, .int .i64 pw1, .slice a0 n0 c0, .slice a1 n1 c1, .slice a2 n2 c2, .slice a3 n3 c3] ∧ W0.heap.size ≤ W.heap.size) W0.heap.size [6, 7] [Tag.any, Tag.any, Tag.any, Tag.any, Tag.any, Tag.any, Tag.any, Tag.any, Tag.new 6, Tag.any, Tag.new 7] ⟨Good.is _, Good.is _, Good.is _, Good.is _, Good.is _, Good.is _, Good.box _ _ _, Good.box _ _ _, tag_newA, Good.is _, tag_newA, trivial⟩ (fun g0 hg => by simp at hg)
    (fun W W1 hS hE => ⟨(Ext.trans hS.1 hE), (hS.2.1.ext hE), (hS.2.2.1.ext hE), (hS.2.2.2.1.ext hE), (hS.2.2.2.2.1.ext hE), (hS.2.2.2.2.2.1.ext hE), (Nat.le_trans hS.2.2.2.2.2.2 (Ext.size hE))⟩) ⟨E0, hi0, hi1, hi2, hi3, p1, Nat.le_refl _⟩ (fun m hm => by simp at hm; rcases hm with rfl | rfl <;> rfl) (by kernel_rfl) (by kernel_rfl) (by kernel_rfl) (by kernel_rfl) (A := ?A1) ?hA1 ?howe1 ?hfin1
  case hA1 =>
    intro vs
    simp only [putAll, Act.put, List.setIfInBounds_toArray, List.set_cons_zero, List.set_cons_succ, Nat.zero_add, Nat.reduceAdd]
    exact rfl
  case howe1 =>
    clear E0 hi0 hi1 hi2 hi3 p1
    intro hf
    refine ⟨owesM 0 [] hf rfl rfl (by kernel_rfl) ?_, owesM 1 [0] hf rfl rfl (by kernel_rfl) ?_, owesM 2 [] hf rfl rfl (by kernel_rfl) ?_, owesM 3 [2] hf rfl rfl (by kernel_rfl) ?_, owesM 4 [] hf rfl rfl (by kernel_rfl) ?_, owesM 5 [4] hf rfl rfl (by kernel_rfl) ?_, owesN 6 [] hf rfl (by kernel_rfl) ?_, owesN 7 [] hf rfl (by kernel_rfl) ?_, owesP 8 6 [6, 1] hf rfl rfl (by kernel_rfl) rfl (by kernel_rfl) ?_, owesM 9 [3] hf rfl rfl (by kernel_rfl) ?_, owesP 10 7 [7, 5] hf rfl rfl (by kernel_rfl) rfl (by kernel_rfl) ?_, trivial⟩
    all_goals intro vs W hS hp hx KO hKO
    all_goals simp only [Act.put, List.setIfInBounds_toArray, List.set_cons_zero, List.set_cons_succ] at hKO
    · go_simp
      exact hKO _ W (Ext.refl W) rfl
    · have e0 := isOf hp.1
      simp only [e0] at hKO
      have fc0 := BxA.cell (hS.2.2.2.2.2.1) 0 (v := .int .i64 lr) rfl
      have fc1 := BxA.cell (hS.2.2.2.2.2.1) 1 (v := .int .i64 b1) rfl
      have fc2 := BxA.cell (hS.2.2.2.2.2.1) 2 (v := .int .i64 b2) rfl
      have fc3 := BxA.cell (hS.2.2.2.2.2.1) 3 (v := .int .i64 eps) rfl
      have fc4 := BxA.cell (hS.2.2.2.2.2.1) 4 (v := .int .i64 wd) rfl
      have fc5 := BxA.cell (hS.2.2.2.2.2.1) 5 (v := .bool ap) rfl
      go_simp
      exact hKO _ W (Ext.refl W) rfl
    · go_simp
      exact hKO _ W (Ext.refl W) rfl
    · have e2 := isOf hp.1
      simp only [e2] at hKO
      have fc6 := BxA.cell (hS.2.2.2.2.2.1) 6 (v := .int .i64 f) rfl
      go_simp
      exact hKO _ W (Ext.refl W) rfl
    · go_simp
      exact hKO _ W (Ext.refl W) rfl
    · have e4 := isOf hp.1
      simp only [e4] at hKO
      have fc9 := BxA.cell (hS.2.2.2.2.2.1) 9 (v := .slice a0 n0 c0) rfl
      have fc10 := BxA.cell (hS.2.2.2.2.2.1) 10 (v := .slice a1 n1 c1) rfl
      have fc11 := BxA.cell (hS.2.2.2.2.2.1) 11 (v := .slice a2 n2 c2) rfl
      have fc12 := BxA.cell (hS.2.2.2.2.2.1) 12 (v := .slice a3 n3 c3) rfl
      go_simp
      exact hKO _ W (Ext.refl W) rfl
    · have hn := BxA.new W 23 #[.int .i64 0, .int .i64 0, .int .i64 0, .int .i64 0, .int .i64 0, .bool false]
      have hsz := hS.2.2.2.2.2.2
      go_simp
      exact hKO _ _ rfl ⟨_, rfl, hsz, ⟨_, hn, (noU_adam 0 0 0 0 0 false), rfl⟩⟩
    · have hn := BxA.new W 27 #[.slice none 0 0, .slice none 0 0, .slice none 0 0, .slice none 0 0]
      have hsz := hS.2.2.2.2.2.2
      go_simp
      exact hKO _ _ rfl ⟨_, rfl, hsz, ⟨_, hn, (noU4 none 0 0 none 0 0 none 0 0 none 0 0), rfl⟩⟩
    · have q6 := hp.1
      have e1 := isOf hp.2.1
      simp only [e1] at hKO
      obtain ⟨g, ev, hg, hfo⟩ := q6
      replace ev : vs 6 = _ := ev
      obtain ⟨x0, x1, x2, x3, x4, x5, c0, c1, c2, c3, c4, c5, hfz, W2, hW2, hw, hq⟩ := hfo.put6 (.int .i64 lr) (.int .i64 b1) (.int .i64 b2) (.int .i64 eps) (.int .i64 wd) (.bool ap) (noU_adam lr b1 b2 eps wd ap)
      have z0 := hfz 0
      have z1 := hfz 1
      have z2 := hfz 2
      have z3 := hfz 3
      have z4 := hfz 4
      have z5 := hfz 5
      simp only [ev] at hKO
      go_simp
      rw [← hW2]
      exact hKO _ g rfl hg hw ⟨(Ext.wr hS.1 hw (by omega)), (hS.2.1.wr hw (by omega)), (hS.2.2.1.wr hw (by omega)), (hS.2.2.2.1.wr hw (by omega)), (hS.2.2.2.2.1.wr hw (by omega)), (hS.2.2.2.2.2.1.wr hw (by omega)), (Nat.le_trans hS.2.2.2.2.2.2 hw.apart.size)⟩ ⟨g, ev, hg, hq⟩
    · have e3 := isOf hp.1
      simp only [e3] at hKO
      go_simp
      exact hKO _ W (Ext.refl W) rfl
    · have q7 := hp.1
      have e5 := isOf hp.2.1
      simp only [e5] at hKO
      obtain ⟨g, ev, hg, hfo⟩ := q7
      replace ev : vs 7 = _ := ev
      obtain ⟨x0, x1, x2, x3, c0, c1, c2, c3, hfz, W2, hW2, hw, hq⟩ := hfo.put4 (.slice a0 n0 c0) (.slice a1 n1 c1) (.slice a2 n2 c2) (.slice a3 n3 c3) (noU4 _ _ _ _ _ _ _ _ _ _ _ _)
      have z0 := hfz 0
      have z1 := hfz 1
      have z2 := hfz 2
      have z3 := hfz 3
      simp only [ev] at hKO
      go_simp
      rw [← hW2]
      exact hKO _ g rfl hg hw ⟨(Ext.wr hS.1 hw (by omega)), (hS.2.1.wr hw (by omega)), (hS.2.2.1.wr hw (by omega)), (hS.2.2.2.1.wr hw (by omega)), (hS.2.2.2.2.1.wr hw (by omega)), (hS.2.2.2.2.2.1.wr hw (by omega)), (Nat.le_trans hS.2.2.2.2.2.2 hw.apart.size)⟩ ⟨g, ev, hg, hq⟩
  intro vs W1 hS hM hp
  clear szw1 E0 hi0 hi1 hi2 hi3 p1
  obtain ⟨E0, hi0, hi1, hi2, hi3, p1, sz1⟩ := hS
  obtain ⟨h1_0, h1_1, h1_2, h1_3, h1_4, h1_5, h1_6, h1_7, h1_8, h1_9, h1_10, -⟩ := hp
  skip
  have hh := h1_8
  obtain ⟨g3, ev3, hg3, p3⟩ := hh
  replace ev3 : vs 6 = _ := ev3
  skip
  have hh := h1_10
  obtain ⟨g5, ev5, hg5, p5⟩ := hh
  replace ev5 : vs 7 = _ := ev5
  have ne3_5 : g3 ≠ g5 := fun e => hM.2 6 (by simp) 7 (by simp) (by decide) g3 (by rw [ev3]; rfl) (by rw [ev5, e]; rfl)
  replace h1_0 : vs 0 = .pointer (some ⟨w.heap.size, 0, none⟩) := h1_0
  replace h1_1 : vs 1 = .agg #[.int .i64 lr, .int .i64 b1, .int .i64 b2, .int .i64 eps, .int .i64 wd, .bool ap] := h1_1
  replace h1_2 : vs 2 = .pointer (some ⟨w.heap.size, 6, none⟩) := h1_2
  replace h1_3 : vs 3 = .int .i64 f := h1_3
  replace h1_4 : vs 4 = .pointer (some ⟨w.heap.size, 9, none⟩) := h1_4
  replace h1_5 : vs 5 = .agg #[.slice a0 n0 c0, .slice a1 n1 c1, .slice a2 n2 c2, .slice a3 n3 c3] := h1_5
  replace h1_9 : vs 9 = .int .i64 f := h1_9
  clear hM
  simp only [ev3, ev5, h1_0, h1_1, h1_2, h1_3, h1_4, h1_5, h1_9]
  clear ev3 ev5 h1_0 h1_1 h1_2 h1_3 h1_4 h1_5 h1_9 h1_6 h1_7 h1_8 h1_10
  have HG3 := Lib.hid hg3
  clear hg3
  have HG5 := Lib.hid hg5
  clear hg5
  have HN3_5 := Lib.hid ne3_5
  clear ne3_5
  have kp1_0 := p1.cell 0 (v := .int .i64 lr) rfl
  have kp1_1 := p1.cell 1 (v := .int .i64 b1) rfl
  have kp1_2 := p1.cell 2 (v := .int .i64 b2) rfl
  have kp1_3 := p1.cell 3 (v := .int .i64 eps) rfl
  have kp1_4 := p1.cell 4 (v := .int .i64 wd) rfl
  have kp1_5 := p1.cell 5 (v := .bool ap) rfl
  have kp1_6 := p1.cell 6 (v := .int .i64 f) rfl
  have kp1_7 := p1.cell 7 (v := .int .i64 pw0) rfl
  have kp1_8 := p1.cell 8 (v := .int .i64 pw1) rfl
  have kp1_9 := p1.cell 9 (v := .slice a0 n0 c0) rfl
  have kp1_10 := p1.cell 10 (v := .slice a1 n1 c1) rfl
  have kp1_11 := p1.cell 11 (v := .slice a2 n2 c2) rfl
  have kp1_12 := p1.cell 12 (v := .slice a3 n3 c3) rfl
  have kp3_0 := p3.cell 0 (v := .int .i64 lr) rfl
  have kp3_1 := p3.cell 1 (v := .int .i64 b1) rfl
  have kp3_2 := p3.cell 2 (v := .int .i64 b2) rfl
  have kp3_3 := p3.cell 3 (v := .int .i64 eps) rfl
  have kp3_4 := p3.cell 4 (v := .int .i64 wd) rfl
  have kp3_5 := p3.cell 5 (v := .bool ap) rfl
  have kp5_0 := p5.cell 0 (v := .slice a0 n0 c0) rfl
  have kp5_1 := p5.cell 1 (v := .slice a1 n1 c1) rfl
  have kp5_2 := p5.cell 2 (v := .slice a2 n2 c2) rfl
  have kp5_3 := p5.cell 3 (v := .slice a3 n3 c3) rfl
  go_wp2_with fail
  clear kp1_0 kp1_1 kp1_2 kp1_3 kp1_4 kp1_5 kp1_6 kp1_7 kp1_8 kp1_9 kp1_10 kp1_11 kp1_12 kp3_0 kp3_1 kp3_2 kp3_3 kp3_4 kp3_5 kp5_0 kp5_1 kp5_2 kp5_3
  refine (Try.refFew17 a0 n0 c0 a1 n1 c1 a2 n2 c2 a3 n3 c3 32 _ HSM.out).mono ?_
  rintro e Wc ⟨rfl, hE⟩
  replace E0 := (Ext.trans E0 hE)
  replace hi0 := (hi0.ext hE)
  replace hi1 := (hi1.ext hE)
  replace hi2 := (hi2.ext hE)
  replace hi3 := (hi3.ext hE)
  replace p1 := (p1.ext hE)
  replace p3 := (p3.ext hE)
  replace p5 := (p5.ext hE)
  clear hE
  by_cases hf : n0 + n1 + n2 + n3 ≤ 32
  · rw [decide_eq_true hf]
    have hn0 : n0 ≤ 32 := by omega
    have HN : Hid (n0 ≤ 40) := Lib.hid (by omega)
    clear hf
    have kp1_0 := p1.cell 0 (v := .int .i64 lr) rfl
    have kp1_1 := p1.cell 1 (v := .int .i64 b1) rfl
    have kp1_2 := p1.cell 2 (v := .int .i64 b2) rfl
    have kp1_3 := p1.cell 3 (v := .int .i64 eps) rfl
    have kp1_4 := p1.cell 4 (v := .int .i64 wd) rfl
    have kp1_5 := p1.cell 5 (v := .bool ap) rfl
    have kp1_6 := p1.cell 6 (v := .int .i64 f) rfl
    have kp1_7 := p1.cell 7 (v := .int .i64 pw0) rfl
    have kp1_8 := p1.cell 8 (v := .int .i64 pw1) rfl
    have kp1_9 := p1.cell 9 (v := .slice a0 n0 c0) rfl
    have kp1_10 := p1.cell 10 (v := .slice a1 n1 c1) rfl
    have kp1_11 := p1.cell 11 (v := .slice a2 n2 c2) rfl
    have kp1_12 := p1.cell 12 (v := .slice a3 n3 c3) rfl
    have kp3_0 := p3.cell 0 (v := .int .i64 lr) rfl
    have kp3_1 := p3.cell 1 (v := .int .i64 b1) rfl
    have kp3_2 := p3.cell 2 (v := .int .i64 b2) rfl
    have kp3_3 := p3.cell 3 (v := .int .i64 eps) rfl
    have kp3_4 := p3.cell 4 (v := .int .i64 wd) rfl
    have kp3_5 := p3.cell 5 (v := .bool ap) rfl
    have kp5_0 := p5.cell 0 (v := .slice a0 n0 c0) rfl
    have kp5_1 := p5.cell 1 (v := .slice a1 n1 c1) rfl
    have kp5_2 := p5.cell 2 (v := .slice a2 n2 c2) rfl
    have kp5_3 := p5.cell 3 (v := .slice a3 n3 c3) rfl
    go_wp2_with fail
    clear kp1_0 kp1_1 kp1_2 kp1_3 kp1_4 kp1_5 kp1_6 kp1_7 kp1_8 kp1_9 kp1_10 kp1_11 kp1_12 kp3_0 kp3_1 kp3_2 kp3_3 kp3_4 kp3_5 kp5_0 kp5_1 kp5_2 kp5_3
    have hmm : min f 40 = f ∨ True := .inr trivial
    clear hmm
    skip
    refine (Try.refMay18 K HK.out pw0 pw1 _ (Iw.nil _ _ _)).mono ?_
    rintro e Wm ⟨rfl, hE⟩
    replace E0 := (Ext.trans E0 hE)
    replace hi0 := (hi0.ext hE)
    replace hi1 := (hi1.ext hE)
    replace hi2 := (hi2.ext hE)
    replace hi3 := (hi3.ext hE)
    replace p1 := (p1.ext hE)
    replace p3 := (p3.ext hE)
    replace p5 := (p5.ext hE)
    clear hE
    rw [show negB [] = false from rfl, Bool.not_false, Bool.true_and]
    cases hm : (mayB K pw0 && mayB K pw1)
    · clear hm
      have kp1_0 := p1.cell 0 (v := .int .i64 lr) rfl
      have kp1_1 := p1.cell 1 (v := .int .i64 b1) rfl
      have kp1_2 := p1.cell 2 (v := .int .i64 b2) rfl
      have kp1_3 := p1.cell 3 (v := .int .i64 eps) rfl
      have kp1_4 := p1.cell 4 (v := .int .i64 wd) rfl
      have kp1_5 := p1.cell 5 (v := .bool ap) rfl
      have kp1_6 := p1.cell 6 (v := .int .i64 f) rfl
      have kp1_7 := p1.cell 7 (v := .int .i64 pw0) rfl
      have kp1_8 := p1.cell 8 (v := .int .i64 pw1) rfl
      have kp1_9 := p1.cell 9 (v := .slice a0 n0 c0) rfl
      have kp1_10 := p1.cell 10 (v := .slice a1 n1 c1) rfl
      have kp1_11 := p1.cell 11 (v := .slice a2 n2 c2) rfl
      have kp1_12 := p1.cell 12 (v := .slice a3 n3 c3) rfl
      have kp3_0 := p3.cell 0 (v := .int .i64 lr) rfl
      have kp3_1 := p3.cell 1 (v := .int .i64 b1) rfl
      have kp3_2 := p3.cell 2 (v := .int .i64 b2) rfl
      have kp3_3 := p3.cell 3 (v := .int .i64 eps) rfl
      have kp3_4 := p3.cell 4 (v := .int .i64 wd) rfl
      have kp3_5 := p3.cell 5 (v := .bool ap) rfl
      have kp5_0 := p5.cell 0 (v := .slice a0 n0 c0) rfl
      have kp5_1 := p5.cell 1 (v := .slice a1 n1 c1) rfl
      have kp5_2 := p5.cell 2 (v := .slice a2 n2 c2) rfl
      have kp5_3 := p5.cell 3 (v := .slice a3 n3 c3) rfl
      go_wp2_with fail
      clear kp1_0 kp1_1 kp1_2 kp1_3 kp1_4 kp1_5 kp1_6 kp1_7 kp1_8 kp1_9 kp1_10 kp1_11 kp1_12 kp3_0 kp3_1 kp3_2 kp3_3 kp3_4 kp3_5 kp5_0 kp5_1 kp5_2 kp5_3
      refine (Try.alive18 _).mono ?_
      rintro e We ⟨rfl, hE⟩
      replace E0 := (Ext.trans E0 hE)
      replace hi0 := (hi0.ext hE)
      replace hi1 := (hi1.ext hE)
      replace hi2 := (hi2.ext hE)
      replace hi3 := (hi3.ext hE)
      replace p1 := (p1.ext hE)
      replace p3 := (p3.ext hE)
      replace p5 := (p5.ext hE)
      clear hE
      have kp1_0 := p1.cell 0 (v := .int .i64 lr) rfl
      have kp1_1 := p1.cell 1 (v := .int .i64 b1) rfl
      have kp1_2 := p1.cell 2 (v := .int .i64 b2) rfl
      have kp1_3 := p1.cell 3 (v := .int .i64 eps) rfl
      have kp1_4 := p1.cell 4 (v := .int .i64 wd) rfl
      have kp1_5 := p1.cell 5 (v := .bool ap) rfl
      have kp1_6 := p1.cell 6 (v := .int .i64 f) rfl
      have kp1_7 := p1.cell 7 (v := .int .i64 pw0) rfl
      have kp1_8 := p1.cell 8 (v := .int .i64 pw1) rfl
      have kp1_9 := p1.cell 9 (v := .slice a0 n0 c0) rfl
      have kp1_10 := p1.cell 10 (v := .slice a1 n1 c1) rfl
      have kp1_11 := p1.cell 11 (v := .slice a2 n2 c2) rfl
      have kp1_12 := p1.cell 12 (v := .slice a3 n3 c3) rfl
      have kp3_0 := p3.cell 0 (v := .int .i64 lr) rfl
      have kp3_1 := p3.cell 1 (v := .int .i64 b1) rfl
      have kp3_2 := p3.cell 2 (v := .int .i64 b2) rfl
      have kp3_3 := p3.cell 3 (v := .int .i64 eps) rfl
      have kp3_4 := p3.cell 4 (v := .int .i64 wd) rfl
      have kp3_5 := p3.cell 5 (v := .bool ap) rfl
      have kp5_0 := p5.cell 0 (v := .slice a0 n0 c0) rfl
      have kp5_1 := p5.cell 1 (v := .slice a1 n1 c1) rfl
      have kp5_2 := p5.cell 2 (v := .slice a2 n2 c2) rfl
      have kp5_3 := p5.cell 3 (v := .slice a3 n3 c3) rfl
      go_wp2
      go_ret
      exact ⟨rfl, E0⟩
    · have HD := Lib.hid (HD1.out hm)
      clear hm
      have kp1_0 := p1.cell 0 (v := .int .i64 lr) rfl
      have kp1_1 := p1.cell 1 (v := .int .i64 b1) rfl
      have kp1_2 := p1.cell 2 (v := .int .i64 b2) rfl
      have kp1_3 := p1.cell 3 (v := .int .i64 eps) rfl
      have kp1_4 := p1.cell 4 (v := .int .i64 wd) rfl
      have kp1_5 := p1.cell 5 (v := .bool ap) rfl
      have kp1_6 := p1.cell 6 (v := .int .i64 f) rfl
      have kp1_7 := p1.cell 7 (v := .int .i64 pw0) rfl
      have kp1_8 := p1.cell 8 (v := .int .i64 pw1) rfl
      have kp1_9 := p1.cell 9 (v := .slice a0 n0 c0) rfl
      have kp1_10 := p1.cell 10 (v := .slice a1 n1 c1) rfl
      have kp1_11 := p1.cell 11 (v := .slice a2 n2 c2) rfl
      have kp1_12 := p1.cell 12 (v := .slice a3 n3 c3) rfl
      have kp3_0 := p3.cell 0 (v := .int .i64 lr) rfl
      have kp3_1 := p3.cell 1 (v := .int .i64 b1) rfl
      have kp3_2 := p3.cell 2 (v := .int .i64 b2) rfl
      have kp3_3 := p3.cell 3 (v := .int .i64 eps) rfl
      have kp3_4 := p3.cell 4 (v := .int .i64 wd) rfl
      have kp3_5 := p3.cell 5 (v := .bool ap) rfl
      have kp5_0 := p5.cell 0 (v := .slice a0 n0 c0) rfl
      have kp5_1 := p5.cell 1 (v := .slice a1 n1 c1) rfl
      have kp5_2 := p5.cell 2 (v := .slice a2 n2 c2) rfl
      have kp5_3 := p5.cell 3 (v := .slice a3 n3 c3) rfl
      go_upto_region 5 with (fail)
      clear kp1_0 kp1_1 kp1_2 kp1_3 kp1_4 kp1_5 kp1_6 kp1_7 kp1_8 kp1_9 kp1_10 kp1_11 kp1_12 kp3_0 kp3_1 kp3_2 kp3_3 kp3_4 kp3_5 kp5_0 kp5_1 kp5_2 kp5_3
      have p6 := BxA.new Wm 23 #[.int .i64 lr, .int .i64 b1, .int .i64 b2, .int .i64 eps, .int .i64 wd, .bool ap]
      have hE := Ext.alloc1 Wm (.cells #[.int .i64 lr, .int .i64 b1, .int .i64 b2, .int .i64 eps, .int .i64 wd, .bool ap] 23)
      have lt0 := Ext.size E0
      have ltp1 := p1.lt
      have ltp3 := p3.lt
      have ltp5 := p5.lt
      obtain ⟨U6, hU6⟩ : ∃ U6, U6 = Wm.alloc (.cells #[.int .i64 lr, .int .i64 b1, .int .i64 b2, .int .i64 eps, .int .i64 wd, .bool ap] 23) := ⟨_, rfl⟩
      rw [← hU6] at p6 hE ⊢
      clear hU6
      replace E0 := (Ext.trans E0 hE)
      replace hi0 := (hi0.ext hE)
      replace hi1 := (hi1.ext hE)
      replace hi2 := (hi2.ext hE)
      replace hi3 := (hi3.ext hE)
      replace p1 := (p1.ext hE)
      replace p3 := (p3.ext hE)
      replace p5 := (p5.ext hE)
      clear hE
      obtain ⟨g6, hg6⟩ : ∃ g, g = Wm.heap.size := ⟨_, rfl⟩
      rw [← hg6] at p6 lt0 ltp1 ltp3 ltp5 ⊢
      clear hg6
      have HS6 := Lib.hid (And.intro lt0 (And.intro ltp1 (And.intro ltp3 ltp5)))
      clear lt0 ltp1 ltp3 ltp5
      have zf := p6.frozN 4
      have kp1_0 := p1.cell 0 (v := .int .i64 lr) rfl
      have kp1_1 := p1.cell 1 (v := .int .i64 b1) rfl
      have kp1_2 := p1.cell 2 (v := .int .i64 b2) rfl
      have kp1_3 := p1.cell 3 (v := .int .i64 eps) rfl
      have kp1_4 := p1.cell 4 (v := .int .i64 wd) rfl
      have kp1_5 := p1.cell 5 (v := .bool ap) rfl
      have kp1_6 := p1.cell 6 (v := .int .i64 f) rfl
      have kp1_7 := p1.cell 7 (v := .int .i64 pw0) rfl
      have kp1_8 := p1.cell 8 (v := .int .i64 pw1) rfl
      have kp1_9 := p1.cell 9 (v := .slice a0 n0 c0) rfl
      have kp1_10 := p1.cell 10 (v := .slice a1 n1 c1) rfl
      have kp1_11 := p1.cell 11 (v := .slice a2 n2 c2) rfl
      have kp1_12 := p1.cell 12 (v := .slice a3 n3 c3) rfl
      have kp3_0 := p3.cell 0 (v := .int .i64 lr) rfl
      have kp3_1 := p3.cell 1 (v := .int .i64 b1) rfl
      have kp3_2 := p3.cell 2 (v := .int .i64 b2) rfl
      have kp3_3 := p3.cell 3 (v := .int .i64 eps) rfl
      have kp3_4 := p3.cell 4 (v := .int .i64 wd) rfl
      have kp3_5 := p3.cell 5 (v := .bool ap) rfl
      have kp5_0 := p5.cell 0 (v := .slice a0 n0 c0) rfl
      have kp5_1 := p5.cell 1 (v := .slice a1 n1 c1) rfl
      have kp5_2 := p5.cell 2 (v := .slice a2 n2 c2) rfl
      have kp5_3 := p5.cell 3 (v := .slice a3 n3 c3) rfl
      have kp6_0 := p6.cell 0 (v := .int .i64 lr) rfl
      have kp6_1 := p6.cell 1 (v := .int .i64 b1) rfl
      have kp6_2 := p6.cell 2 (v := .int .i64 b2) rfl
      have kp6_3 := p6.cell 3 (v := .int .i64 eps) rfl
      have kp6_4 := p6.cell 4 (v := .int .i64 wd) rfl
      have kp6_5 := p6.cell 5 (v := .bool ap) rfl
      go_upto_region 6 with (fail)
      clear kp1_0 kp1_1 kp1_2 kp1_3 kp1_4 kp1_5 kp1_6 kp1_7 kp1_8 kp1_9 kp1_10 kp1_11 kp1_12 kp3_0 kp3_1 kp3_2 kp3_3 kp3_4 kp3_5 kp5_0 kp5_1 kp5_2 kp5_3 kp6_0 kp6_1 kp6_2 kp6_3 kp6_4 kp6_5
      clear zf
      obtain ⟨V1, hV1⟩ : ∃ V1, V1 = U6.setCell ⟨g6, 4, none⟩ (.int .i64 0) := ⟨_, rfl⟩
      rw [← hV1]
      have hw : Wr g6 U6 V1 := by rw [hV1]; exact Wr.putN p6 (noU_adam lr b1 b2 eps wd ap) 4 _ (noU_adam lr b1 b2 eps 0 ap)
      have sHG3 := HG3.out
      have sHG5 := HG5.out
      have sHN3_5 := HN3_5.out
      have sHS6 := HS6.out
      replace E0 := (Ext.wr E0 hw (by omega))
      replace hi0 := (hi0.wr hw (by omega))
      replace hi1 := (hi1.wr hw (by omega))
      replace hi2 := (hi2.wr hw (by omega))
      replace hi3 := (hi3.wr hw (by omega))
      replace p1 := (p1.wr hw (by omega))
      replace p3 := (p3.wr hw (by omega))
      replace p5 := (p5.wr hw (by omega))
      replace p6 : BxA V1 g6 23 #[.int .i64 lr, .int .i64 b1, .int .i64 b2, .int .i64 eps, .int .i64 0, .bool ap] := by rw [hV1]; exact p6.putN 4 _
      clear sHG3 sHG5 sHN3_5 sHS6
      clear hw hV1
      have hmk := Try.makeI64 n0 (by omega) V1
      have kp1_0 := p1.cell 0 (v := .int .i64 lr) rfl
      have kp1_1 := p1.cell 1 (v := .int .i64 b1) rfl
      have kp1_2 := p1.cell 2 (v := .int .i64 b2) rfl
      have kp1_3 := p1.cell 3 (v := .int .i64 eps) rfl
      have kp1_4 := p1.cell 4 (v := .int .i64 wd) rfl
      have kp1_5 := p1.cell 5 (v := .bool ap) rfl
      have kp1_6 := p1.cell 6 (v := .int .i64 f) rfl
      have kp1_7 := p1.cell 7 (v := .int .i64 pw0) rfl
      have kp1_8 := p1.cell 8 (v := .int .i64 pw1) rfl
      have kp1_9 := p1.cell 9 (v := .slice a0 n0 c0) rfl
      have kp1_10 := p1.cell 10 (v := .slice a1 n1 c1) rfl
      have kp1_11 := p1.cell 11 (v := .slice a2 n2 c2) rfl
      have kp1_12 := p1.cell 12 (v := .slice a3 n3 c3) rfl
      have kp3_0 := p3.cell 0 (v := .int .i64 lr) rfl
      have kp3_1 := p3.cell 1 (v := .int .i64 b1) rfl
      have kp3_2 := p3.cell 2 (v := .int .i64 b2) rfl
      have kp3_3 := p3.cell 3 (v := .int .i64 eps) rfl
      have kp3_4 := p3.cell 4 (v := .int .i64 wd) rfl
      have kp3_5 := p3.cell 5 (v := .bool ap) rfl
      have kp5_0 := p5.cell 0 (v := .slice a0 n0 c0) rfl
      have kp5_1 := p5.cell 1 (v := .slice a1 n1 c1) rfl
      have kp5_2 := p5.cell 2 (v := .slice a2 n2 c2) rfl
      have kp5_3 := p5.cell 3 (v := .slice a3 n3 c3) rfl
      have kp6_0 := p6.cell 0 (v := .int .i64 lr) rfl
      have kp6_1 := p6.cell 1 (v := .int .i64 b1) rfl
      have kp6_2 := p6.cell 2 (v := .int .i64 b2) rfl
      have kp6_3 := p6.cell 3 (v := .int .i64 eps) rfl
      have kp6_4 := p6.cell 4 (v := .int .i64 0) rfl
      have kp6_5 := p6.cell 5 (v := .bool ap) rfl
      go_upto_region 7 with (fail)
      clear kp1_0 kp1_1 kp1_2 kp1_3 kp1_4 kp1_5 kp1_6 kp1_7 kp1_8 kp1_9 kp1_10 kp1_11 kp1_12 kp3_0 kp3_1 kp3_2 kp3_3 kp3_4 kp3_5 kp5_0 kp5_1 kp5_2 kp5_3 kp6_0 kp6_1 kp6_2 kp6_3 kp6_4 kp6_5
      clear hmk
      have rr := RowI.made V1 n0 2
      have hE := Ext.alloc1 V1 (.cells (madeCells #[.int .i64 0] n0) 2)
      have lt0 := Ext.size E0
      obtain ⟨U7, hU7⟩ : ∃ U7, U7 = V1.alloc (.cells (madeCells #[.int .i64 0] n0) 2) := ⟨_, rfl⟩
      rw [← hU7] at rr hE ⊢
      clear hU7
      have ltp1 := p1.lt
      have ltp3 := p3.lt
      have ltp5 := p5.lt
      have ltp6 := p6.lt
      replace E0 := (Ext.trans E0 hE)
      replace hi0 := (hi0.ext hE)
      replace hi1 := (hi1.ext hE)
      replace hi2 := (hi2.ext hE)
      replace hi3 := (hi3.ext hE)
      replace p1 := (p1.ext hE)
      replace p3 := (p3.ext hE)
      replace p5 := (p5.ext hE)
      replace p6 := (p6.ext hE)
      clear hE lt0 ltp1 ltp3 ltp5 ltp6
      have szr := rr.lt
      have ir := rr.iw (n := n0) (fun x hx => by rw [List.eq_of_mem_replicate hx]; unfold I64; omega) (by simp) (by omega)
      clear rr
      obtain ⟨g7, hg7⟩ : ∃ g, g = V1.heap.size := ⟨_, rfl⟩
      rw [← hg7] at szr ir ⊢
      clear hg7
      have kp1_0 := p1.cell 0 (v := .int .i64 lr) rfl
      have kp1_1 := p1.cell 1 (v := .int .i64 b1) rfl
      have kp1_2 := p1.cell 2 (v := .int .i64 b2) rfl
      have kp1_3 := p1.cell 3 (v := .int .i64 eps) rfl
      have kp1_4 := p1.cell 4 (v := .int .i64 wd) rfl
      have kp1_5 := p1.cell 5 (v := .bool ap) rfl
      have kp1_6 := p1.cell 6 (v := .int .i64 f) rfl
      have kp1_7 := p1.cell 7 (v := .int .i64 pw0) rfl
      have kp1_8 := p1.cell 8 (v := .int .i64 pw1) rfl
      have kp1_9 := p1.cell 9 (v := .slice a0 n0 c0) rfl
      have kp1_10 := p1.cell 10 (v := .slice a1 n1 c1) rfl
      have kp1_11 := p1.cell 11 (v := .slice a2 n2 c2) rfl
      have kp1_12 := p1.cell 12 (v := .slice a3 n3 c3) rfl
      have kp3_0 := p3.cell 0 (v := .int .i64 lr) rfl
      have kp3_1 := p3.cell 1 (v := .int .i64 b1) rfl
      have kp3_2 := p3.cell 2 (v := .int .i64 b2) rfl
      have kp3_3 := p3.cell 3 (v := .int .i64 eps) rfl
      have kp3_4 := p3.cell 4 (v := .int .i64 wd) rfl
      have kp3_5 := p3.cell 5 (v := .bool ap) rfl
      have kp5_0 := p5.cell 0 (v := .slice a0 n0 c0) rfl
      have kp5_1 := p5.cell 1 (v := .slice a1 n1 c1) rfl
      have kp5_2 := p5.cell 2 (v := .slice a2 n2 c2) rfl
      have kp5_3 := p5.cell 3 (v := .slice a3 n3 c3) rfl
      have kp6_0 := p6.cell 0 (v := .int .i64 lr) rfl
      have kp6_1 := p6.cell 1 (v := .int .i64 b1) rfl
      have kp6_2 := p6.cell 2 (v := .int .i64 b2) rfl
      have kp6_3 := p6.cell 3 (v := .int .i64 eps) rfl
      have kp6_4 := p6.cell 4 (v := .int .i64 0) rfl
      have kp6_5 := p6.cell 5 (v := .bool ap) rfl
      go_wp2_with fail
      clear kp1_0 kp1_1 kp1_2 kp1_3 kp1_4 kp1_5 kp1_6 kp1_7 kp1_8 kp1_9 kp1_10 kp1_11 kp1_12 kp3_0 kp3_1 kp3_2 kp3_3 kp3_4 kp3_5 kp5_0 kp5_1 kp5_2 kp5_3 kp6_0 kp6_1 kp6_2 kp6_3 kp6_4 kp6_5
      have szc := Ext.size E0
      refine (Try.adamStepIs lr b1 b2 eps 0 pw0 pw1 ap f _ HST1.out HN.out HQ.out.1.1 HQ.out.1.2 HZ.out (hi0.mono (Nat.zero_le _) szc) (ir.mono (Nat.zero_le _) szr) (ir.mono (Nat.zero_le _) szr) (ir.mono (Nat.zero_le _) szr)).mono ?_
      rintro e S1 ⟨⟨v, rfl, x11, x12, x13, m1, rfl, i11, i12, i13⟩, hE⟩
      clear szc
      replace E0 := (Ext.trans E0 hE)
      replace hi0 := (hi0.ext hE)
      replace hi1 := (hi1.ext hE)
      replace hi2 := (hi2.ext hE)
      replace hi3 := (hi3.ext hE)
      replace p1 := (p1.ext hE)
      replace p3 := (p3.ext hE)
      replace p5 := (p5.ext hE)
      replace p6 := (p6.ext hE)
      replace ir := (ir.ext hE)
      replace szr := (Nat.le_trans szr (Ext.size hE))
      clear hE
      obtain ⟨hx1, hhx⟩ : ∃ n, n = S1.heap.size := ⟨_, rfl⟩
      rw [← hhx] at i11 i12 i13
      have sz1 := Nat.le_of_eq hhx
      clear hhx
      have kp1_0 := p1.cell 0 (v := .int .i64 lr) rfl
      have kp1_1 := p1.cell 1 (v := .int .i64 b1) rfl
      have kp1_2 := p1.cell 2 (v := .int .i64 b2) rfl
      have kp1_3 := p1.cell 3 (v := .int .i64 eps) rfl
      have kp1_4 := p1.cell 4 (v := .int .i64 wd) rfl
      have kp1_5 := p1.cell 5 (v := .bool ap) rfl
      have kp1_6 := p1.cell 6 (v := .int .i64 f) rfl
      have kp1_7 := p1.cell 7 (v := .int .i64 pw0) rfl
      have kp1_8 := p1.cell 8 (v := .int .i64 pw1) rfl
      have kp1_9 := p1.cell 9 (v := .slice a0 n0 c0) rfl
      have kp1_10 := p1.cell 10 (v := .slice a1 n1 c1) rfl
      have kp1_11 := p1.cell 11 (v := .slice a2 n2 c2) rfl
      have kp1_12 := p1.cell 12 (v := .slice a3 n3 c3) rfl
      have kp3_0 := p3.cell 0 (v := .int .i64 lr) rfl
      have kp3_1 := p3.cell 1 (v := .int .i64 b1) rfl
      have kp3_2 := p3.cell 2 (v := .int .i64 b2) rfl
      have kp3_3 := p3.cell 3 (v := .int .i64 eps) rfl
      have kp3_4 := p3.cell 4 (v := .int .i64 wd) rfl
      have kp3_5 := p3.cell 5 (v := .bool ap) rfl
      have kp5_0 := p5.cell 0 (v := .slice a0 n0 c0) rfl
      have kp5_1 := p5.cell 1 (v := .slice a1 n1 c1) rfl
      have kp5_2 := p5.cell 2 (v := .slice a2 n2 c2) rfl
      have kp5_3 := p5.cell 3 (v := .slice a3 n3 c3) rfl
      have kp6_0 := p6.cell 0 (v := .int .i64 lr) rfl
      have kp6_1 := p6.cell 1 (v := .int .i64 b1) rfl
      have kp6_2 := p6.cell 2 (v := .int .i64 b2) rfl
      have kp6_3 := p6.cell 3 (v := .int .i64 eps) rfl
      have kp6_4 := p6.cell 4 (v := .int .i64 0) rfl
      have kp6_5 := p6.cell 5 (v := .bool ap) rfl
      go_upto_region 8 with (fail)
      clear kp1_0 kp1_1 kp1_2 kp1_3 kp1_4 kp1_5 kp1_6 kp1_7 kp1_8 kp1_9 kp1_10 kp1_11 kp1_12 kp3_0 kp3_1 kp3_2 kp3_3 kp3_4 kp3_5 kp5_0 kp5_1 kp5_2 kp5_3 kp6_0 kp6_1 kp6_2 kp6_3 kp6_4 kp6_5
      have p8 := BxA.new S1 27 #[.slice x11 m1 m1, .slice x12 m1 m1, .slice x13 m1 m1, .slice none 0 0]
      have hE := Ext.alloc1 S1 (.cells #[.slice x11 m1 m1, .slice x12 m1 m1, .slice x13 m1 m1, .slice none 0 0] 27)
      have lt0 := Ext.size E0
      have ltp1 := p1.lt
      have ltp3 := p3.lt
      have ltp5 := p5.lt
      have ltp6 := p6.lt
      have ltszr := szr
      have ltsz1 := sz1
      obtain ⟨U8, hU8⟩ : ∃ U8, U8 = S1.alloc (.cells #[.slice x11 m1 m1, .slice x12 m1 m1, .slice x13 m1 m1, .slice none 0 0] 27) := ⟨_, rfl⟩
      rw [← hU8] at p8 hE ⊢
      clear hU8
      replace E0 := (Ext.trans E0 hE)
      replace hi0 := (hi0.ext hE)
      replace hi1 := (hi1.ext hE)
      replace hi2 := (hi2.ext hE)
      replace hi3 := (hi3.ext hE)
      replace p1 := (p1.ext hE)
      replace p3 := (p3.ext hE)
      replace p5 := (p5.ext hE)
      replace p6 := (p6.ext hE)
      replace ir := (ir.ext hE)
      replace szr := (Nat.le_trans szr (Ext.size hE))
      replace i11 := (i11.ext hE)
      replace i12 := (i12.ext hE)
      replace i13 := (i13.ext hE)
      replace sz1 := (Nat.le_trans sz1 (Ext.size hE))
      clear hE
      obtain ⟨g8, hg8⟩ : ∃ g, g = S1.heap.size := ⟨_, rfl⟩
      rw [← hg8] at p8 lt0 ltp1 ltp3 ltp5 ltp6 ltszr ltsz1 ⊢
      clear hg8
      have HS8 := Lib.hid (And.intro lt0 (And.intro ltp1 (And.intro ltp3 (And.intro ltp5 (And.intro ltp6 (And.intro ltszr ltsz1))))))
      clear lt0 ltp1 ltp3 ltp5 ltp6 ltszr ltsz1
      have kp1_0 := p1.cell 0 (v := .int .i64 lr) rfl
      have kp1_1 := p1.cell 1 (v := .int .i64 b1) rfl
      have kp1_2 := p1.cell 2 (v := .int .i64 b2) rfl
      have kp1_3 := p1.cell 3 (v := .int .i64 eps) rfl
      have kp1_4 := p1.cell 4 (v := .int .i64 wd) rfl
      have kp1_5 := p1.cell 5 (v := .bool ap) rfl
      have kp1_6 := p1.cell 6 (v := .int .i64 f) rfl
      have kp1_7 := p1.cell 7 (v := .int .i64 pw0) rfl
      have kp1_8 := p1.cell 8 (v := .int .i64 pw1) rfl
      have kp1_9 := p1.cell 9 (v := .slice a0 n0 c0) rfl
      have kp1_10 := p1.cell 10 (v := .slice a1 n1 c1) rfl
      have kp1_11 := p1.cell 11 (v := .slice a2 n2 c2) rfl
      have kp1_12 := p1.cell 12 (v := .slice a3 n3 c3) rfl
      have kp3_0 := p3.cell 0 (v := .int .i64 lr) rfl
      have kp3_1 := p3.cell 1 (v := .int .i64 b1) rfl
      have kp3_2 := p3.cell 2 (v := .int .i64 b2) rfl
      have kp3_3 := p3.cell 3 (v := .int .i64 eps) rfl
      have kp3_4 := p3.cell 4 (v := .int .i64 wd) rfl
      have kp3_5 := p3.cell 5 (v := .bool ap) rfl
      have kp5_0 := p5.cell 0 (v := .slice a0 n0 c0) rfl
      have kp5_1 := p5.cell 1 (v := .slice a1 n1 c1) rfl
      have kp5_2 := p5.cell 2 (v := .slice a2 n2 c2) rfl
      have kp5_3 := p5.cell 3 (v := .slice a3 n3 c3) rfl
      have kp6_0 := p6.cell 0 (v := .int .i64 lr) rfl
      have kp6_1 := p6.cell 1 (v := .int .i64 b1) rfl
      have kp6_2 := p6.cell 2 (v := .int .i64 b2) rfl
      have kp6_3 := p6.cell 3 (v := .int .i64 eps) rfl
      have kp6_4 := p6.cell 4 (v := .int .i64 0) rfl
      have kp6_5 := p6.cell 5 (v := .bool ap) rfl
      have kp8_0 := p8.cell 0 (v := .slice x11 m1 m1) rfl
      have kp8_1 := p8.cell 1 (v := .slice x12 m1 m1) rfl
      have kp8_2 := p8.cell 2 (v := .slice x13 m1 m1) rfl
      have kp8_3 := p8.cell 3 (v := .slice none 0 0) rfl
      go_upto_region 9 with (fail)
      clear kp1_0 kp1_1 kp1_2 kp1_3 kp1_4 kp1_5 kp1_6 kp1_7 kp1_8 kp1_9 kp1_10 kp1_11 kp1_12 kp3_0 kp3_1 kp3_2 kp3_3 kp3_4 kp3_5 kp5_0 kp5_1 kp5_2 kp5_3 kp6_0 kp6_1 kp6_2 kp6_3 kp6_4 kp6_5 kp8_0 kp8_1 kp8_2 kp8_3
      have p10 := BxA.new U8 23 #[.int .i64 lr, .int .i64 b1, .int .i64 b2, .int .i64 eps, .int .i64 wd, .bool ap]
      have hE := Ext.alloc1 U8 (.cells #[.int .i64 lr, .int .i64 b1, .int .i64 b2, .int .i64 eps, .int .i64 wd, .bool ap] 23)
      have lt0 := Ext.size E0
      have ltp1 := p1.lt
      have ltp3 := p3.lt
      have ltp5 := p5.lt
      have ltp6 := p6.lt
      have ltszr := szr
      have ltsz1 := sz1
      have ltp8 := p8.lt
      obtain ⟨U10, hU10⟩ : ∃ U10, U10 = U8.alloc (.cells #[.int .i64 lr, .int .i64 b1, .int .i64 b2, .int .i64 eps, .int .i64 wd, .bool ap] 23) := ⟨_, rfl⟩
      rw [← hU10] at p10 hE ⊢
      clear hU10
      replace E0 := (Ext.trans E0 hE)
      replace hi0 := (hi0.ext hE)
      replace hi1 := (hi1.ext hE)
      replace hi2 := (hi2.ext hE)
      replace hi3 := (hi3.ext hE)
      replace p1 := (p1.ext hE)
      replace p3 := (p3.ext hE)
      replace p5 := (p5.ext hE)
      replace p6 := (p6.ext hE)
      replace ir := (ir.ext hE)
      replace szr := (Nat.le_trans szr (Ext.size hE))
      replace i11 := (i11.ext hE)
      replace i12 := (i12.ext hE)
      replace i13 := (i13.ext hE)
      replace sz1 := (Nat.le_trans sz1 (Ext.size hE))
      replace p8 := (p8.ext hE)
      clear hE
      obtain ⟨g10, hg10⟩ : ∃ g, g = U8.heap.size := ⟨_, rfl⟩
      rw [← hg10] at p10 lt0 ltp1 ltp3 ltp5 ltp6 ltszr ltsz1 ltp8 ⊢
      clear hg10
      have HS10 := Lib.hid (And.intro lt0 (And.intro ltp1 (And.intro ltp3 (And.intro ltp5 (And.intro ltp6 (And.intro ltszr (And.intro ltsz1 ltp8)))))))
      clear lt0 ltp1 ltp3 ltp5 ltp6 ltszr ltsz1 ltp8
      have zf := p10.frozN 0
      have kp1_0 := p1.cell 0 (v := .int .i64 lr) rfl
      have kp1_1 := p1.cell 1 (v := .int .i64 b1) rfl
      have kp1_2 := p1.cell 2 (v := .int .i64 b2) rfl
      have kp1_3 := p1.cell 3 (v := .int .i64 eps) rfl
      have kp1_4 := p1.cell 4 (v := .int .i64 wd) rfl
      have kp1_5 := p1.cell 5 (v := .bool ap) rfl
      have kp1_6 := p1.cell 6 (v := .int .i64 f) rfl
      have kp1_7 := p1.cell 7 (v := .int .i64 pw0) rfl
      have kp1_8 := p1.cell 8 (v := .int .i64 pw1) rfl
      have kp1_9 := p1.cell 9 (v := .slice a0 n0 c0) rfl
      have kp1_10 := p1.cell 10 (v := .slice a1 n1 c1) rfl
      have kp1_11 := p1.cell 11 (v := .slice a2 n2 c2) rfl
      have kp1_12 := p1.cell 12 (v := .slice a3 n3 c3) rfl
      have kp3_0 := p3.cell 0 (v := .int .i64 lr) rfl
      have kp3_1 := p3.cell 1 (v := .int .i64 b1) rfl
      have kp3_2 := p3.cell 2 (v := .int .i64 b2) rfl
      have kp3_3 := p3.cell 3 (v := .int .i64 eps) rfl
      have kp3_4 := p3.cell 4 (v := .int .i64 wd) rfl
      have kp3_5 := p3.cell 5 (v := .bool ap) rfl
      have kp5_0 := p5.cell 0 (v := .slice a0 n0 c0) rfl
      have kp5_1 := p5.cell 1 (v := .slice a1 n1 c1) rfl
      have kp5_2 := p5.cell 2 (v := .slice a2 n2 c2) rfl
      have kp5_3 := p5.cell 3 (v := .slice a3 n3 c3) rfl
      have kp6_0 := p6.cell 0 (v := .int .i64 lr) rfl
      have kp6_1 := p6.cell 1 (v := .int .i64 b1) rfl
      have kp6_2 := p6.cell 2 (v := .int .i64 b2) rfl
      have kp6_3 := p6.cell 3 (v := .int .i64 eps) rfl
      have kp6_4 := p6.cell 4 (v := .int .i64 0) rfl
      have kp6_5 := p6.cell 5 (v := .bool ap) rfl
      have kp8_0 := p8.cell 0 (v := .slice x11 m1 m1) rfl
      have kp8_1 := p8.cell 1 (v := .slice x12 m1 m1) rfl
      have kp8_2 := p8.cell 2 (v := .slice x13 m1 m1) rfl
      have kp8_3 := p8.cell 3 (v := .slice none 0 0) rfl
      have kp10_0 := p10.cell 0 (v := .int .i64 lr) rfl
      have kp10_1 := p10.cell 1 (v := .int .i64 b1) rfl
      have kp10_2 := p10.cell 2 (v := .int .i64 b2) rfl
      have kp10_3 := p10.cell 3 (v := .int .i64 eps) rfl
      have kp10_4 := p10.cell 4 (v := .int .i64 wd) rfl
      have kp10_5 := p10.cell 5 (v := .bool ap) rfl
      go_upto_region 10 with (fail)
      clear kp1_0 kp1_1 kp1_2 kp1_3 kp1_4 kp1_5 kp1_6 kp1_7 kp1_8 kp1_9 kp1_10 kp1_11 kp1_12 kp3_0 kp3_1 kp3_2 kp3_3 kp3_4 kp3_5 kp5_0 kp5_1 kp5_2 kp5_3 kp6_0 kp6_1 kp6_2 kp6_3 kp6_4 kp6_5 kp8_0 kp8_1 kp8_2 kp8_3 kp10_0 kp10_1 kp10_2 kp10_3 kp10_4 kp10_5
      clear zf
      obtain ⟨V2, hV2⟩ : ∃ V2, V2 = U10.setCell ⟨g10, 0, none⟩ (.int .i64 0) := ⟨_, rfl⟩
      rw [← hV2]
      have hw : Wr g10 U10 V2 := by rw [hV2]; exact Wr.putN p10 (noU_adam lr b1 b2 eps wd ap) 0 _ (noU_adam 0 b1 b2 eps wd ap)
      have sHG3 := HG3.out
      have sHG5 := HG5.out
      have sHN3_5 := HN3_5.out
      have sHS6 := HS6.out
      have sHS8 := HS8.out
      have sHS10 := HS10.out
      replace E0 := (Ext.wr E0 hw (by omega))
      replace hi0 := (hi0.wr hw (by omega))
      replace hi1 := (hi1.wr hw (by omega))
      replace hi2 := (hi2.wr hw (by omega))
      replace hi3 := (hi3.wr hw (by omega))
      replace p1 := (p1.wr hw (by omega))
      replace p3 := (p3.wr hw (by omega))
      replace p5 := (p5.wr hw (by omega))
      replace p6 := (p6.wr hw (by omega))
      replace ir := (ir.wr hw (by omega))
      replace szr := (Nat.le_trans szr hw.apart.size)
      replace i11 := (i11.wr hw (by omega))
      replace i12 := (i12.wr hw (by omega))
      replace i13 := (i13.wr hw (by omega))
      replace sz1 := (Nat.le_trans sz1 hw.apart.size)
      replace p8 := (p8.wr hw (by omega))
      replace p10 : BxA V2 g10 23 #[.int .i64 0, .int .i64 b1, .int .i64 b2, .int .i64 eps, .int .i64 wd, .bool ap] := by rw [hV2]; exact p10.putN 0 _
      clear sHG3 sHG5 sHN3_5 sHS6 sHS8 sHS10
      clear hw hV2
      have kp1_0 := p1.cell 0 (v := .int .i64 lr) rfl
      have kp1_1 := p1.cell 1 (v := .int .i64 b1) rfl
      have kp1_2 := p1.cell 2 (v := .int .i64 b2) rfl
      have kp1_3 := p1.cell 3 (v := .int .i64 eps) rfl
      have kp1_4 := p1.cell 4 (v := .int .i64 wd) rfl
      have kp1_5 := p1.cell 5 (v := .bool ap) rfl
      have kp1_6 := p1.cell 6 (v := .int .i64 f) rfl
      have kp1_7 := p1.cell 7 (v := .int .i64 pw0) rfl
      have kp1_8 := p1.cell 8 (v := .int .i64 pw1) rfl
      have kp1_9 := p1.cell 9 (v := .slice a0 n0 c0) rfl
      have kp1_10 := p1.cell 10 (v := .slice a1 n1 c1) rfl
      have kp1_11 := p1.cell 11 (v := .slice a2 n2 c2) rfl
      have kp1_12 := p1.cell 12 (v := .slice a3 n3 c3) rfl
      have kp3_0 := p3.cell 0 (v := .int .i64 lr) rfl
      have kp3_1 := p3.cell 1 (v := .int .i64 b1) rfl
      have kp3_2 := p3.cell 2 (v := .int .i64 b2) rfl
      have kp3_3 := p3.cell 3 (v := .int .i64 eps) rfl
      have kp3_4 := p3.cell 4 (v := .int .i64 wd) rfl
      have kp3_5 := p3.cell 5 (v := .bool ap) rfl
      have kp5_0 := p5.cell 0 (v := .slice a0 n0 c0) rfl
      have kp5_1 := p5.cell 1 (v := .slice a1 n1 c1) rfl
      have kp5_2 := p5.cell 2 (v := .slice a2 n2 c2) rfl
      have kp5_3 := p5.cell 3 (v := .slice a3 n3 c3) rfl
      have kp6_0 := p6.cell 0 (v := .int .i64 lr) rfl
      have kp6_1 := p6.cell 1 (v := .int .i64 b1) rfl
      have kp6_2 := p6.cell 2 (v := .int .i64 b2) rfl
      have kp6_3 := p6.cell 3 (v := .int .i64 eps) rfl
      have kp6_4 := p6.cell 4 (v := .int .i64 0) rfl
      have kp6_5 := p6.cell 5 (v := .bool ap) rfl
      have kp8_0 := p8.cell 0 (v := .slice x11 m1 m1) rfl
      have kp8_1 := p8.cell 1 (v := .slice x12 m1 m1) rfl
      have kp8_2 := p8.cell 2 (v := .slice x13 m1 m1) rfl
      have kp8_3 := p8.cell 3 (v := .slice none 0 0) rfl
      have kp10_0 := p10.cell 0 (v := .int .i64 0) rfl
      have kp10_1 := p10.cell 1 (v := .int .i64 b1) rfl
      have kp10_2 := p10.cell 2 (v := .int .i64 b2) rfl
      have kp10_3 := p10.cell 3 (v := .int .i64 eps) rfl
      have kp10_4 := p10.cell 4 (v := .int .i64 wd) rfl
      have kp10_5 := p10.cell 5 (v := .bool ap) rfl
      go_wp2_with fail
      clear kp1_0 kp1_1 kp1_2 kp1_3 kp1_4 kp1_5 kp1_6 kp1_7 kp1_8 kp1_9 kp1_10 kp1_11 kp1_12 kp3_0 kp3_1 kp3_2 kp3_3 kp3_4 kp3_5 kp5_0 kp5_1 kp5_2 kp5_3 kp6_0 kp6_1 kp6_2 kp6_3 kp6_4 kp6_5 kp8_0 kp8_1 kp8_2 kp8_3 kp10_0 kp10_1 kp10_2 kp10_3 kp10_4 kp10_5
      have szc := Ext.size E0
      refine (Try.adamStepIs 0 b1 b2 eps wd pw0 pw1 ap f _ HST2.out HN.out HZ.out HQ.out.1.2 HQ.out.2 (hi0.mono (Nat.zero_le _) szc) (hi1.mono (Nat.zero_le _) szc) (hi2.mono (Nat.zero_le _) szc) (hi3.mono (Nat.zero_le _) szc)).mono ?_
      rintro e S2 ⟨⟨v, rfl, x21, x22, x23, m2, rfl, i21, i22, i23⟩, hE⟩
      clear szc
      replace E0 := (Ext.trans E0 hE)
      replace hi0 := (hi0.ext hE)
      replace hi1 := (hi1.ext hE)
      replace hi2 := (hi2.ext hE)
      replace hi3 := (hi3.ext hE)
      replace p1 := (p1.ext hE)
      replace p3 := (p3.ext hE)
      replace p5 := (p5.ext hE)
      replace p6 := (p6.ext hE)
      replace ir := (ir.ext hE)
      replace szr := (Nat.le_trans szr (Ext.size hE))
      replace i11 := (i11.ext hE)
      replace i12 := (i12.ext hE)
      replace i13 := (i13.ext hE)
      replace sz1 := (Nat.le_trans sz1 (Ext.size hE))
      replace p8 := (p8.ext hE)
      replace p10 := (p10.ext hE)
      clear hE
      obtain ⟨hx2, hhx⟩ : ∃ n, n = S2.heap.size := ⟨_, rfl⟩
      rw [← hhx] at i21 i22 i23
      have sz2 := Nat.le_of_eq hhx
      clear hhx
      have kp1_0 := p1.cell 0 (v := .int .i64 lr) rfl
      have kp1_1 := p1.cell 1 (v := .int .i64 b1) rfl
      have kp1_2 := p1.cell 2 (v := .int .i64 b2) rfl
      have kp1_3 := p1.cell 3 (v := .int .i64 eps) rfl
      have kp1_4 := p1.cell 4 (v := .int .i64 wd) rfl
      have kp1_5 := p1.cell 5 (v := .bool ap) rfl
      have kp1_6 := p1.cell 6 (v := .int .i64 f) rfl
      have kp1_7 := p1.cell 7 (v := .int .i64 pw0) rfl
      have kp1_8 := p1.cell 8 (v := .int .i64 pw1) rfl
      have kp1_9 := p1.cell 9 (v := .slice a0 n0 c0) rfl
      have kp1_10 := p1.cell 10 (v := .slice a1 n1 c1) rfl
      have kp1_11 := p1.cell 11 (v := .slice a2 n2 c2) rfl
      have kp1_12 := p1.cell 12 (v := .slice a3 n3 c3) rfl
      have kp3_0 := p3.cell 0 (v := .int .i64 lr) rfl
      have kp3_1 := p3.cell 1 (v := .int .i64 b1) rfl
      have kp3_2 := p3.cell 2 (v := .int .i64 b2) rfl
      have kp3_3 := p3.cell 3 (v := .int .i64 eps) rfl
      have kp3_4 := p3.cell 4 (v := .int .i64 wd) rfl
      have kp3_5 := p3.cell 5 (v := .bool ap) rfl
      have kp5_0 := p5.cell 0 (v := .slice a0 n0 c0) rfl
      have kp5_1 := p5.cell 1 (v := .slice a1 n1 c1) rfl
      have kp5_2 := p5.cell 2 (v := .slice a2 n2 c2) rfl
      have kp5_3 := p5.cell 3 (v := .slice a3 n3 c3) rfl
      have kp6_0 := p6.cell 0 (v := .int .i64 lr) rfl
      have kp6_1 := p6.cell 1 (v := .int .i64 b1) rfl
      have kp6_2 := p6.cell 2 (v := .int .i64 b2) rfl
      have kp6_3 := p6.cell 3 (v := .int .i64 eps) rfl
      have kp6_4 := p6.cell 4 (v := .int .i64 0) rfl
      have kp6_5 := p6.cell 5 (v := .bool ap) rfl
      have kp8_0 := p8.cell 0 (v := .slice x11 m1 m1) rfl
      have kp8_1 := p8.cell 1 (v := .slice x12 m1 m1) rfl
      have kp8_2 := p8.cell 2 (v := .slice x13 m1 m1) rfl
      have kp8_3 := p8.cell 3 (v := .slice none 0 0) rfl
      have kp10_0 := p10.cell 0 (v := .int .i64 0) rfl
      have kp10_1 := p10.cell 1 (v := .int .i64 b1) rfl
      have kp10_2 := p10.cell 2 (v := .int .i64 b2) rfl
      have kp10_3 := p10.cell 3 (v := .int .i64 eps) rfl
      have kp10_4 := p10.cell 4 (v := .int .i64 wd) rfl
      have kp10_5 := p10.cell 5 (v := .bool ap) rfl
      go_upto_region 11 with (fail)
      clear kp1_0 kp1_1 kp1_2 kp1_3 kp1_4 kp1_5 kp1_6 kp1_7 kp1_8 kp1_9 kp1_10 kp1_11 kp1_12 kp3_0 kp3_1 kp3_2 kp3_3 kp3_4 kp3_5 kp5_0 kp5_1 kp5_2 kp5_3 kp6_0 kp6_1 kp6_2 kp6_3 kp6_4 kp6_5 kp8_0 kp8_1 kp8_2 kp8_3 kp10_0 kp10_1 kp10_2 kp10_3 kp10_4 kp10_5
      have p11 := BxA.new S2 27 #[.slice x21 m2 m2, .slice x22 m2 m2, .slice x23 m2 m2, .slice none 0 0]
      have hE := Ext.alloc1 S2 (.cells #[.slice x21 m2 m2, .slice x22 m2 m2, .slice x23 m2 m2, .slice none 0 0] 27)
      have lt0 := Ext.size E0
      have ltp1 := p1.lt
      have ltp3 := p3.lt
      have ltp5 := p5.lt
      have ltp6 := p6.lt
      have ltszr := szr
      have ltsz1 := sz1
      have ltp8 := p8.lt
      have ltp10 := p10.lt
      have ltsz2 := sz2
      obtain ⟨U11, hU11⟩ : ∃ U11, U11 = S2.alloc (.cells #[.slice x21 m2 m2, .slice x22 m2 m2, .slice x23 m2 m2, .slice none 0 0] 27) := ⟨_, rfl⟩
      rw [← hU11] at p11 hE ⊢
      clear hU11
      replace E0 := (Ext.trans E0 hE)
      replace hi0 := (hi0.ext hE)
      replace hi1 := (hi1.ext hE)
      replace hi2 := (hi2.ext hE)
      replace hi3 := (hi3.ext hE)
      replace p1 := (p1.ext hE)
      replace p3 := (p3.ext hE)
      replace p5 := (p5.ext hE)
      replace p6 := (p6.ext hE)
      replace ir := (ir.ext hE)
      replace szr := (Nat.le_trans szr (Ext.size hE))
      replace i11 := (i11.ext hE)
      replace i12 := (i12.ext hE)
      replace i13 := (i13.ext hE)
      replace sz1 := (Nat.le_trans sz1 (Ext.size hE))
      replace p8 := (p8.ext hE)
      replace p10 := (p10.ext hE)
      replace i21 := (i21.ext hE)
      replace i22 := (i22.ext hE)
      replace i23 := (i23.ext hE)
      replace sz2 := (Nat.le_trans sz2 (Ext.size hE))
      clear hE
      obtain ⟨g11, hg11⟩ : ∃ g, g = S2.heap.size := ⟨_, rfl⟩
      rw [← hg11] at p11 lt0 ltp1 ltp3 ltp5 ltp6 ltszr ltsz1 ltp8 ltp10 ltsz2 ⊢
      clear hg11
      have HS11 := Lib.hid (And.intro lt0 (And.intro ltp1 (And.intro ltp3 (And.intro ltp5 (And.intro ltp6 (And.intro ltszr (And.intro ltsz1 (And.intro ltp8 (And.intro ltp10 ltsz2)))))))))
      clear lt0 ltp1 ltp3 ltp5 ltp6 ltszr ltsz1 ltp8 ltp10 ltsz2
      by_cases k1 : E1 = 0
      · have HE : Hid (rightA ⟨lr, b1, b2, eps, 0, ap⟩ f = true) := Lib.hid (HD.out.trans (decide_eq_true k1))
        subst k1
        by_cases k2 : E2 = 0
        · subst k2
          have kp1_0 := p1.cell 0 (v := .int .i64 lr) rfl
          have kp1_1 := p1.cell 1 (v := .int .i64 b1) rfl
          have kp1_2 := p1.cell 2 (v := .int .i64 b2) rfl
          have kp1_3 := p1.cell 3 (v := .int .i64 eps) rfl
          have kp1_4 := p1.cell 4 (v := .int .i64 wd) rfl
          have kp1_5 := p1.cell 5 (v := .bool ap) rfl
          have kp1_6 := p1.cell 6 (v := .int .i64 f) rfl
          have kp1_7 := p1.cell 7 (v := .int .i64 pw0) rfl
          have kp1_8 := p1.cell 8 (v := .int .i64 pw1) rfl
          have kp1_9 := p1.cell 9 (v := .slice a0 n0 c0) rfl
          have kp1_10 := p1.cell 10 (v := .slice a1 n1 c1) rfl
          have kp1_11 := p1.cell 11 (v := .slice a2 n2 c2) rfl
          have kp1_12 := p1.cell 12 (v := .slice a3 n3 c3) rfl
          have kp3_0 := p3.cell 0 (v := .int .i64 lr) rfl
          have kp3_1 := p3.cell 1 (v := .int .i64 b1) rfl
          have kp3_2 := p3.cell 2 (v := .int .i64 b2) rfl
          have kp3_3 := p3.cell 3 (v := .int .i64 eps) rfl
          have kp3_4 := p3.cell 4 (v := .int .i64 wd) rfl
          have kp3_5 := p3.cell 5 (v := .bool ap) rfl
          have kp5_0 := p5.cell 0 (v := .slice a0 n0 c0) rfl
          have kp5_1 := p5.cell 1 (v := .slice a1 n1 c1) rfl
          have kp5_2 := p5.cell 2 (v := .slice a2 n2 c2) rfl
          have kp5_3 := p5.cell 3 (v := .slice a3 n3 c3) rfl
          have kp6_0 := p6.cell 0 (v := .int .i64 lr) rfl
          have kp6_1 := p6.cell 1 (v := .int .i64 b1) rfl
          have kp6_2 := p6.cell 2 (v := .int .i64 b2) rfl
          have kp6_3 := p6.cell 3 (v := .int .i64 eps) rfl
          have kp6_4 := p6.cell 4 (v := .int .i64 0) rfl
          have kp6_5 := p6.cell 5 (v := .bool ap) rfl
          have kp8_0 := p8.cell 0 (v := .slice x11 m1 m1) rfl
          have kp8_1 := p8.cell 1 (v := .slice x12 m1 m1) rfl
          have kp8_2 := p8.cell 2 (v := .slice x13 m1 m1) rfl
          have kp8_3 := p8.cell 3 (v := .slice none 0 0) rfl
          have kp10_0 := p10.cell 0 (v := .int .i64 0) rfl
          have kp10_1 := p10.cell 1 (v := .int .i64 b1) rfl
          have kp10_2 := p10.cell 2 (v := .int .i64 b2) rfl
          have kp10_3 := p10.cell 3 (v := .int .i64 eps) rfl
          have kp10_4 := p10.cell 4 (v := .int .i64 wd) rfl
          have kp10_5 := p10.cell 5 (v := .bool ap) rfl
          have kp11_0 := p11.cell 0 (v := .slice x21 m2 m2) rfl
          have kp11_1 := p11.cell 1 (v := .slice x22 m2 m2) rfl
          have kp11_2 := p11.cell 2 (v := .slice x23 m2 m2) rfl
          have kp11_3 := p11.cell 3 (v := .slice none 0 0) rfl
          go_wp2_with fail
          clear kp1_0 kp1_1 kp1_2 kp1_3 kp1_4 kp1_5 kp1_6 kp1_7 kp1_8 kp1_9 kp1_10 kp1_11 kp1_12 kp3_0 kp3_1 kp3_2 kp3_3 kp3_4 kp3_5 kp5_0 kp5_1 kp5_2 kp5_3 kp6_0 kp6_1 kp6_2 kp6_3 kp6_4 kp6_5 kp8_0 kp8_1 kp8_2 kp8_3 kp10_0 kp10_1 kp10_2 kp10_3 kp10_4 kp10_5 kp11_0 kp11_1 kp11_2 kp11_3
          refine (Try.refSame09 i21 hi0).mono ?_
          rintro e Wq ⟨rfl, hE⟩
          rw [decide_eq_true (HD3.out (by trivial))]
          replace E0 := (Ext.trans E0 hE)
          replace hi0 := (hi0.ext hE)
          replace hi1 := (hi1.ext hE)
          replace hi2 := (hi2.ext hE)
          replace hi3 := (hi3.ext hE)
          replace p1 := (p1.ext hE)
          replace p3 := (p3.ext hE)
          replace p5 := (p5.ext hE)
          replace p6 := (p6.ext hE)
          replace ir := (ir.ext hE)
          replace szr := (Nat.le_trans szr (Ext.size hE))
          replace i11 := (i11.ext hE)
          replace i12 := (i12.ext hE)
          replace i13 := (i13.ext hE)
          replace sz1 := (Nat.le_trans sz1 (Ext.size hE))
          replace p8 := (p8.ext hE)
          replace p10 := (p10.ext hE)
          replace i21 := (i21.ext hE)
          replace i22 := (i22.ext hE)
          replace i23 := (i23.ext hE)
          replace sz2 := (Nat.le_trans sz2 (Ext.size hE))
          replace p11 := (p11.ext hE)
          clear hE
          have kp1_0 := p1.cell 0 (v := .int .i64 lr) rfl
          have kp1_1 := p1.cell 1 (v := .int .i64 b1) rfl
          have kp1_2 := p1.cell 2 (v := .int .i64 b2) rfl
          have kp1_3 := p1.cell 3 (v := .int .i64 eps) rfl
          have kp1_4 := p1.cell 4 (v := .int .i64 wd) rfl
          have kp1_5 := p1.cell 5 (v := .bool ap) rfl
          have kp1_6 := p1.cell 6 (v := .int .i64 f) rfl
          have kp1_7 := p1.cell 7 (v := .int .i64 pw0) rfl
          have kp1_8 := p1.cell 8 (v := .int .i64 pw1) rfl
          have kp1_9 := p1.cell 9 (v := .slice a0 n0 c0) rfl
          have kp1_10 := p1.cell 10 (v := .slice a1 n1 c1) rfl
          have kp1_11 := p1.cell 11 (v := .slice a2 n2 c2) rfl
          have kp1_12 := p1.cell 12 (v := .slice a3 n3 c3) rfl
          have kp3_0 := p3.cell 0 (v := .int .i64 lr) rfl
          have kp3_1 := p3.cell 1 (v := .int .i64 b1) rfl
          have kp3_2 := p3.cell 2 (v := .int .i64 b2) rfl
          have kp3_3 := p3.cell 3 (v := .int .i64 eps) rfl
          have kp3_4 := p3.cell 4 (v := .int .i64 wd) rfl
          have kp3_5 := p3.cell 5 (v := .bool ap) rfl
          have kp5_0 := p5.cell 0 (v := .slice a0 n0 c0) rfl
          have kp5_1 := p5.cell 1 (v := .slice a1 n1 c1) rfl
          have kp5_2 := p5.cell 2 (v := .slice a2 n2 c2) rfl
          have kp5_3 := p5.cell 3 (v := .slice a3 n3 c3) rfl
          have kp6_0 := p6.cell 0 (v := .int .i64 lr) rfl
          have kp6_1 := p6.cell 1 (v := .int .i64 b1) rfl
          have kp6_2 := p6.cell 2 (v := .int .i64 b2) rfl
          have kp6_3 := p6.cell 3 (v := .int .i64 eps) rfl
          have kp6_4 := p6.cell 4 (v := .int .i64 0) rfl
          have kp6_5 := p6.cell 5 (v := .bool ap) rfl
          have kp8_0 := p8.cell 0 (v := .slice x11 m1 m1) rfl
          have kp8_1 := p8.cell 1 (v := .slice x12 m1 m1) rfl
          have kp8_2 := p8.cell 2 (v := .slice x13 m1 m1) rfl
          have kp8_3 := p8.cell 3 (v := .slice none 0 0) rfl
          have kp10_0 := p10.cell 0 (v := .int .i64 0) rfl
          have kp10_1 := p10.cell 1 (v := .int .i64 b1) rfl
          have kp10_2 := p10.cell 2 (v := .int .i64 b2) rfl
          have kp10_3 := p10.cell 3 (v := .int .i64 eps) rfl
          have kp10_4 := p10.cell 4 (v := .int .i64 wd) rfl
          have kp10_5 := p10.cell 5 (v := .bool ap) rfl
          have kp11_0 := p11.cell 0 (v := .slice x21 m2 m2) rfl
          have kp11_1 := p11.cell 1 (v := .slice x22 m2 m2) rfl
          have kp11_2 := p11.cell 2 (v := .slice x23 m2 m2) rfl
          have kp11_3 := p11.cell 3 (v := .slice none 0 0) rfl
          go_wp2_with fail
          clear kp1_0 kp1_1 kp1_2 kp1_3 kp1_4 kp1_5 kp1_6 kp1_7 kp1_8 kp1_9 kp1_10 kp1_11 kp1_12 kp3_0 kp3_1 kp3_2 kp3_3 kp3_4 kp3_5 kp5_0 kp5_1 kp5_2 kp5_3 kp6_0 kp6_1 kp6_2 kp6_3 kp6_4 kp6_5 kp8_0 kp8_1 kp8_2 kp8_3 kp10_0 kp10_1 kp10_2 kp10_3 kp10_4 kp10_5 kp11_0 kp11_1 kp11_2 kp11_3
          refine (Try.refRight18 lr b1 b2 eps 0 f ap _).mono ?_
          rintro e Wr ⟨rfl, hE⟩
          rw [HE.out]
          replace E0 := (Ext.trans E0 hE)
          replace hi0 := (hi0.ext hE)
          replace hi1 := (hi1.ext hE)
          replace hi2 := (hi2.ext hE)
          replace hi3 := (hi3.ext hE)
          replace p1 := (p1.ext hE)
          replace p3 := (p3.ext hE)
          replace p5 := (p5.ext hE)
          replace p6 := (p6.ext hE)
          replace ir := (ir.ext hE)
          replace szr := (Nat.le_trans szr (Ext.size hE))
          replace i11 := (i11.ext hE)
          replace i12 := (i12.ext hE)
          replace i13 := (i13.ext hE)
          replace sz1 := (Nat.le_trans sz1 (Ext.size hE))
          replace p8 := (p8.ext hE)
          replace p10 := (p10.ext hE)
          replace i21 := (i21.ext hE)
          replace i22 := (i22.ext hE)
          replace i23 := (i23.ext hE)
          replace sz2 := (Nat.le_trans sz2 (Ext.size hE))
          replace p11 := (p11.ext hE)
          clear hE
          have kp1_0 := p1.cell 0 (v := .int .i64 lr) rfl
          have kp1_1 := p1.cell 1 (v := .int .i64 b1) rfl
          have kp1_2 := p1.cell 2 (v := .int .i64 b2) rfl
          have kp1_3 := p1.cell 3 (v := .int .i64 eps) rfl
          have kp1_4 := p1.cell 4 (v := .int .i64 wd) rfl
          have kp1_5 := p1.cell 5 (v := .bool ap) rfl
          have kp1_6 := p1.cell 6 (v := .int .i64 f) rfl
          have kp1_7 := p1.cell 7 (v := .int .i64 pw0) rfl
          have kp1_8 := p1.cell 8 (v := .int .i64 pw1) rfl
          have kp1_9 := p1.cell 9 (v := .slice a0 n0 c0) rfl
          have kp1_10 := p1.cell 10 (v := .slice a1 n1 c1) rfl
          have kp1_11 := p1.cell 11 (v := .slice a2 n2 c2) rfl
          have kp1_12 := p1.cell 12 (v := .slice a3 n3 c3) rfl
          have kp3_0 := p3.cell 0 (v := .int .i64 lr) rfl
          have kp3_1 := p3.cell 1 (v := .int .i64 b1) rfl
          have kp3_2 := p3.cell 2 (v := .int .i64 b2) rfl
          have kp3_3 := p3.cell 3 (v := .int .i64 eps) rfl
          have kp3_4 := p3.cell 4 (v := .int .i64 wd) rfl
          have kp3_5 := p3.cell 5 (v := .bool ap) rfl
          have kp5_0 := p5.cell 0 (v := .slice a0 n0 c0) rfl
          have kp5_1 := p5.cell 1 (v := .slice a1 n1 c1) rfl
          have kp5_2 := p5.cell 2 (v := .slice a2 n2 c2) rfl
          have kp5_3 := p5.cell 3 (v := .slice a3 n3 c3) rfl
          have kp6_0 := p6.cell 0 (v := .int .i64 lr) rfl
          have kp6_1 := p6.cell 1 (v := .int .i64 b1) rfl
          have kp6_2 := p6.cell 2 (v := .int .i64 b2) rfl
          have kp6_3 := p6.cell 3 (v := .int .i64 eps) rfl
          have kp6_4 := p6.cell 4 (v := .int .i64 0) rfl
          have kp6_5 := p6.cell 5 (v := .bool ap) rfl
          have kp8_0 := p8.cell 0 (v := .slice x11 m1 m1) rfl
          have kp8_1 := p8.cell 1 (v := .slice x12 m1 m1) rfl
          have kp8_2 := p8.cell 2 (v := .slice x13 m1 m1) rfl
          have kp8_3 := p8.cell 3 (v := .slice none 0 0) rfl
          have kp10_0 := p10.cell 0 (v := .int .i64 0) rfl
          have kp10_1 := p10.cell 1 (v := .int .i64 b1) rfl
          have kp10_2 := p10.cell 2 (v := .int .i64 b2) rfl
          have kp10_3 := p10.cell 3 (v := .int .i64 eps) rfl
          have kp10_4 := p10.cell 4 (v := .int .i64 wd) rfl
          have kp10_5 := p10.cell 5 (v := .bool ap) rfl
          have kp11_0 := p11.cell 0 (v := .slice x21 m2 m2) rfl
          have kp11_1 := p11.cell 1 (v := .slice x22 m2 m2) rfl
          have kp11_2 := p11.cell 2 (v := .slice x23 m2 m2) rfl
          have kp11_3 := p11.cell 3 (v := .slice none 0 0) rfl
          go_wp2_with fail
          clear kp1_0 kp1_1 kp1_2 kp1_3 kp1_4 kp1_5 kp1_6 kp1_7 kp1_8 kp1_9 kp1_10 kp1_11 kp1_12 kp3_0 kp3_1 kp3_2 kp3_3 kp3_4 kp3_5 kp5_0 kp5_1 kp5_2 kp5_3 kp6_0 kp6_1 kp6_2 kp6_3 kp6_4 kp6_5 kp8_0 kp8_1 kp8_2 kp8_3 kp10_0 kp10_1 kp10_2 kp10_3 kp10_4 kp10_5 kp11_0 kp11_1 kp11_2 kp11_3
          refine (Try.alive18 _).mono ?_
          rintro e We ⟨rfl, hE⟩
          replace E0 := (Ext.trans E0 hE)
          replace hi0 := (hi0.ext hE)
          replace hi1 := (hi1.ext hE)
          replace hi2 := (hi2.ext hE)
          replace hi3 := (hi3.ext hE)
          replace p1 := (p1.ext hE)
          replace p3 := (p3.ext hE)
          replace p5 := (p5.ext hE)
          replace p6 := (p6.ext hE)
          replace ir := (ir.ext hE)
          replace szr := (Nat.le_trans szr (Ext.size hE))
          replace i11 := (i11.ext hE)
          replace i12 := (i12.ext hE)
          replace i13 := (i13.ext hE)
          replace sz1 := (Nat.le_trans sz1 (Ext.size hE))
          replace p8 := (p8.ext hE)
          replace p10 := (p10.ext hE)
          replace i21 := (i21.ext hE)
          replace i22 := (i22.ext hE)
          replace i23 := (i23.ext hE)
          replace sz2 := (Nat.le_trans sz2 (Ext.size hE))
          replace p11 := (p11.ext hE)
          clear hE
          have kp1_0 := p1.cell 0 (v := .int .i64 lr) rfl
          have kp1_1 := p1.cell 1 (v := .int .i64 b1) rfl
          have kp1_2 := p1.cell 2 (v := .int .i64 b2) rfl
          have kp1_3 := p1.cell 3 (v := .int .i64 eps) rfl
          have kp1_4 := p1.cell 4 (v := .int .i64 wd) rfl
          have kp1_5 := p1.cell 5 (v := .bool ap) rfl
          have kp1_6 := p1.cell 6 (v := .int .i64 f) rfl
          have kp1_7 := p1.cell 7 (v := .int .i64 pw0) rfl
          have kp1_8 := p1.cell 8 (v := .int .i64 pw1) rfl
          have kp1_9 := p1.cell 9 (v := .slice a0 n0 c0) rfl
          have kp1_10 := p1.cell 10 (v := .slice a1 n1 c1) rfl
          have kp1_11 := p1.cell 11 (v := .slice a2 n2 c2) rfl
          have kp1_12 := p1.cell 12 (v := .slice a3 n3 c3) rfl
          have kp3_0 := p3.cell 0 (v := .int .i64 lr) rfl
          have kp3_1 := p3.cell 1 (v := .int .i64 b1) rfl
          have kp3_2 := p3.cell 2 (v := .int .i64 b2) rfl
          have kp3_3 := p3.cell 3 (v := .int .i64 eps) rfl
          have kp3_4 := p3.cell 4 (v := .int .i64 wd) rfl
          have kp3_5 := p3.cell 5 (v := .bool ap) rfl
          have kp5_0 := p5.cell 0 (v := .slice a0 n0 c0) rfl
          have kp5_1 := p5.cell 1 (v := .slice a1 n1 c1) rfl
          have kp5_2 := p5.cell 2 (v := .slice a2 n2 c2) rfl
          have kp5_3 := p5.cell 3 (v := .slice a3 n3 c3) rfl
          have kp6_0 := p6.cell 0 (v := .int .i64 lr) rfl
          have kp6_1 := p6.cell 1 (v := .int .i64 b1) rfl
          have kp6_2 := p6.cell 2 (v := .int .i64 b2) rfl
          have kp6_3 := p6.cell 3 (v := .int .i64 eps) rfl
          have kp6_4 := p6.cell 4 (v := .int .i64 0) rfl
          have kp6_5 := p6.cell 5 (v := .bool ap) rfl
          have kp8_0 := p8.cell 0 (v := .slice x11 m1 m1) rfl
          have kp8_1 := p8.cell 1 (v := .slice x12 m1 m1) rfl
          have kp8_2 := p8.cell 2 (v := .slice x13 m1 m1) rfl
          have kp8_3 := p8.cell 3 (v := .slice none 0 0) rfl
          have kp10_0 := p10.cell 0 (v := .int .i64 0) rfl
          have kp10_1 := p10.cell 1 (v := .int .i64 b1) rfl
          have kp10_2 := p10.cell 2 (v := .int .i64 b2) rfl
          have kp10_3 := p10.cell 3 (v := .int .i64 eps) rfl
          have kp10_4 := p10.cell 4 (v := .int .i64 wd) rfl
          have kp10_5 := p10.cell 5 (v := .bool ap) rfl
          have kp11_0 := p11.cell 0 (v := .slice x21 m2 m2) rfl
          have kp11_1 := p11.cell 1 (v := .slice x22 m2 m2) rfl
          have kp11_2 := p11.cell 2 (v := .slice x23 m2 m2) rfl
          have kp11_3 := p11.cell 3 (v := .slice none 0 0) rfl
          go_wp2_with fail
          clear kp1_0 kp1_1 kp1_2 kp1_3 kp1_4 kp1_5 kp1_6 kp1_7 kp1_8 kp1_9 kp1_10 kp1_11 kp1_12 kp3_0 kp3_1 kp3_2 kp3_3 kp3_4 kp3_5 kp5_0 kp5_1 kp5_2 kp5_3 kp6_0 kp6_1 kp6_2 kp6_3 kp6_4 kp6_5 kp8_0 kp8_1 kp8_2 kp8_3 kp10_0 kp10_1 kp10_2 kp10_3 kp10_4 kp10_5 kp11_0 kp11_1 kp11_2 kp11_3
          refine (Try.refSame09 i11 hi0).mono ?_
          rintro e Wf ⟨rfl, hE⟩
          rw [decide_eq_true (HD2.out (by trivial)).1]
          replace E0 := (Ext.trans E0 hE)
          replace hi0 := (hi0.ext hE)
          replace hi1 := (hi1.ext hE)
          replace hi2 := (hi2.ext hE)
          replace hi3 := (hi3.ext hE)
          replace p1 := (p1.ext hE)
          replace p3 := (p3.ext hE)
          replace p5 := (p5.ext hE)
          replace p6 := (p6.ext hE)
          replace ir := (ir.ext hE)
          replace szr := (Nat.le_trans szr (Ext.size hE))
          replace i11 := (i11.ext hE)
          replace i12 := (i12.ext hE)
          replace i13 := (i13.ext hE)
          replace sz1 := (Nat.le_trans sz1 (Ext.size hE))
          replace p8 := (p8.ext hE)
          replace p10 := (p10.ext hE)
          replace i21 := (i21.ext hE)
          replace i22 := (i22.ext hE)
          replace i23 := (i23.ext hE)
          replace sz2 := (Nat.le_trans sz2 (Ext.size hE))
          replace p11 := (p11.ext hE)
          clear hE
          have kp1_0 := p1.cell 0 (v := .int .i64 lr) rfl
          have kp1_1 := p1.cell 1 (v := .int .i64 b1) rfl
          have kp1_2 := p1.cell 2 (v := .int .i64 b2) rfl
          have kp1_3 := p1.cell 3 (v := .int .i64 eps) rfl
          have kp1_4 := p1.cell 4 (v := .int .i64 wd) rfl
          have kp1_5 := p1.cell 5 (v := .bool ap) rfl
          have kp1_6 := p1.cell 6 (v := .int .i64 f) rfl
          have kp1_7 := p1.cell 7 (v := .int .i64 pw0) rfl
          have kp1_8 := p1.cell 8 (v := .int .i64 pw1) rfl
          have kp1_9 := p1.cell 9 (v := .slice a0 n0 c0) rfl
          have kp1_10 := p1.cell 10 (v := .slice a1 n1 c1) rfl
          have kp1_11 := p1.cell 11 (v := .slice a2 n2 c2) rfl
          have kp1_12 := p1.cell 12 (v := .slice a3 n3 c3) rfl
          have kp3_0 := p3.cell 0 (v := .int .i64 lr) rfl
          have kp3_1 := p3.cell 1 (v := .int .i64 b1) rfl
          have kp3_2 := p3.cell 2 (v := .int .i64 b2) rfl
          have kp3_3 := p3.cell 3 (v := .int .i64 eps) rfl
          have kp3_4 := p3.cell 4 (v := .int .i64 wd) rfl
          have kp3_5 := p3.cell 5 (v := .bool ap) rfl
          have kp5_0 := p5.cell 0 (v := .slice a0 n0 c0) rfl
          have kp5_1 := p5.cell 1 (v := .slice a1 n1 c1) rfl
          have kp5_2 := p5.cell 2 (v := .slice a2 n2 c2) rfl
          have kp5_3 := p5.cell 3 (v := .slice a3 n3 c3) rfl
          have kp6_0 := p6.cell 0 (v := .int .i64 lr) rfl
          have kp6_1 := p6.cell 1 (v := .int .i64 b1) rfl
          have kp6_2 := p6.cell 2 (v := .int .i64 b2) rfl
          have kp6_3 := p6.cell 3 (v := .int .i64 eps) rfl
          have kp6_4 := p6.cell 4 (v := .int .i64 0) rfl
          have kp6_5 := p6.cell 5 (v := .bool ap) rfl
          have kp8_0 := p8.cell 0 (v := .slice x11 m1 m1) rfl
          have kp8_1 := p8.cell 1 (v := .slice x12 m1 m1) rfl
          have kp8_2 := p8.cell 2 (v := .slice x13 m1 m1) rfl
          have kp8_3 := p8.cell 3 (v := .slice none 0 0) rfl
          have kp10_0 := p10.cell 0 (v := .int .i64 0) rfl
          have kp10_1 := p10.cell 1 (v := .int .i64 b1) rfl
          have kp10_2 := p10.cell 2 (v := .int .i64 b2) rfl
          have kp10_3 := p10.cell 3 (v := .int .i64 eps) rfl
          have kp10_4 := p10.cell 4 (v := .int .i64 wd) rfl
          have kp10_5 := p10.cell 5 (v := .bool ap) rfl
          have kp11_0 := p11.cell 0 (v := .slice x21 m2 m2) rfl
          have kp11_1 := p11.cell 1 (v := .slice x22 m2 m2) rfl
          have kp11_2 := p11.cell 2 (v := .slice x23 m2 m2) rfl
          have kp11_3 := p11.cell 3 (v := .slice none 0 0) rfl
          go_wp2_with fail
          clear kp1_0 kp1_1 kp1_2 kp1_3 kp1_4 kp1_5 kp1_6 kp1_7 kp1_8 kp1_9 kp1_10 kp1_11 kp1_12 kp3_0 kp3_1 kp3_2 kp3_3 kp3_4 kp3_5 kp5_0 kp5_1 kp5_2 kp5_3 kp6_0 kp6_1 kp6_2 kp6_3 kp6_4 kp6_5 kp8_0 kp8_1 kp8_2 kp8_3 kp10_0 kp10_1 kp10_2 kp10_3 kp10_4 kp10_5 kp11_0 kp11_1 kp11_2 kp11_3
          refine (Try.refSame09 i12 ir).mono ?_
          rintro e Wg ⟨rfl, hE⟩
          rw [decide_eq_true (HD2.out (by trivial)).2.1]
          replace E0 := (Ext.trans E0 hE)
          replace hi0 := (hi0.ext hE)
          replace hi1 := (hi1.ext hE)
          replace hi2 := (hi2.ext hE)
          replace hi3 := (hi3.ext hE)
          replace p1 := (p1.ext hE)
          replace p3 := (p3.ext hE)
          replace p5 := (p5.ext hE)
          replace p6 := (p6.ext hE)
          replace ir := (ir.ext hE)
          replace szr := (Nat.le_trans szr (Ext.size hE))
          replace i11 := (i11.ext hE)
          replace i12 := (i12.ext hE)
          replace i13 := (i13.ext hE)
          replace sz1 := (Nat.le_trans sz1 (Ext.size hE))
          replace p8 := (p8.ext hE)
          replace p10 := (p10.ext hE)
          replace i21 := (i21.ext hE)
          replace i22 := (i22.ext hE)
          replace i23 := (i23.ext hE)
          replace sz2 := (Nat.le_trans sz2 (Ext.size hE))
          replace p11 := (p11.ext hE)
          clear hE
          have kp1_0 := p1.cell 0 (v := .int .i64 lr) rfl
          have kp1_1 := p1.cell 1 (v := .int .i64 b1) rfl
          have kp1_2 := p1.cell 2 (v := .int .i64 b2) rfl
          have kp1_3 := p1.cell 3 (v := .int .i64 eps) rfl
          have kp1_4 := p1.cell 4 (v := .int .i64 wd) rfl
          have kp1_5 := p1.cell 5 (v := .bool ap) rfl
          have kp1_6 := p1.cell 6 (v := .int .i64 f) rfl
          have kp1_7 := p1.cell 7 (v := .int .i64 pw0) rfl
          have kp1_8 := p1.cell 8 (v := .int .i64 pw1) rfl
          have kp1_9 := p1.cell 9 (v := .slice a0 n0 c0) rfl
          have kp1_10 := p1.cell 10 (v := .slice a1 n1 c1) rfl
          have kp1_11 := p1.cell 11 (v := .slice a2 n2 c2) rfl
          have kp1_12 := p1.cell 12 (v := .slice a3 n3 c3) rfl
          have kp3_0 := p3.cell 0 (v := .int .i64 lr) rfl
          have kp3_1 := p3.cell 1 (v := .int .i64 b1) rfl
          have kp3_2 := p3.cell 2 (v := .int .i64 b2) rfl
          have kp3_3 := p3.cell 3 (v := .int .i64 eps) rfl
          have kp3_4 := p3.cell 4 (v := .int .i64 wd) rfl
          have kp3_5 := p3.cell 5 (v := .bool ap) rfl
          have kp5_0 := p5.cell 0 (v := .slice a0 n0 c0) rfl
          have kp5_1 := p5.cell 1 (v := .slice a1 n1 c1) rfl
          have kp5_2 := p5.cell 2 (v := .slice a2 n2 c2) rfl
          have kp5_3 := p5.cell 3 (v := .slice a3 n3 c3) rfl
          have kp6_0 := p6.cell 0 (v := .int .i64 lr) rfl
          have kp6_1 := p6.cell 1 (v := .int .i64 b1) rfl
          have kp6_2 := p6.cell 2 (v := .int .i64 b2) rfl
          have kp6_3 := p6.cell 3 (v := .int .i64 eps) rfl
          have kp6_4 := p6.cell 4 (v := .int .i64 0) rfl
          have kp6_5 := p6.cell 5 (v := .bool ap) rfl
          have kp8_0 := p8.cell 0 (v := .slice x11 m1 m1) rfl
          have kp8_1 := p8.cell 1 (v := .slice x12 m1 m1) rfl
          have kp8_2 := p8.cell 2 (v := .slice x13 m1 m1) rfl
          have kp8_3 := p8.cell 3 (v := .slice none 0 0) rfl
          have kp10_0 := p10.cell 0 (v := .int .i64 0) rfl
          have kp10_1 := p10.cell 1 (v := .int .i64 b1) rfl
          have kp10_2 := p10.cell 2 (v := .int .i64 b2) rfl
          have kp10_3 := p10.cell 3 (v := .int .i64 eps) rfl
          have kp10_4 := p10.cell 4 (v := .int .i64 wd) rfl
          have kp10_5 := p10.cell 5 (v := .bool ap) rfl
          have kp11_0 := p11.cell 0 (v := .slice x21 m2 m2) rfl
          have kp11_1 := p11.cell 1 (v := .slice x22 m2 m2) rfl
          have kp11_2 := p11.cell 2 (v := .slice x23 m2 m2) rfl
          have kp11_3 := p11.cell 3 (v := .slice none 0 0) rfl
          go_wp2_with fail
          clear kp1_0 kp1_1 kp1_2 kp1_3 kp1_4 kp1_5 kp1_6 kp1_7 kp1_8 kp1_9 kp1_10 kp1_11 kp1_12 kp3_0 kp3_1 kp3_2 kp3_3 kp3_4 kp3_5 kp5_0 kp5_1 kp5_2 kp5_3 kp6_0 kp6_1 kp6_2 kp6_3 kp6_4 kp6_5 kp8_0 kp8_1 kp8_2 kp8_3 kp10_0 kp10_1 kp10_2 kp10_3 kp10_4 kp10_5 kp11_0 kp11_1 kp11_2 kp11_3
          refine (Try.refSame09 i13 ir).mono ?_
          rintro e Wh ⟨rfl, hE⟩
          rw [decide_eq_true (HD2.out (by trivial)).2.2]
          replace E0 := (Ext.trans E0 hE)
          replace hi0 := (hi0.ext hE)
          replace hi1 := (hi1.ext hE)
          replace hi2 := (hi2.ext hE)
          replace hi3 := (hi3.ext hE)
          replace p1 := (p1.ext hE)
          replace p3 := (p3.ext hE)
          replace p5 := (p5.ext hE)
          replace p6 := (p6.ext hE)
          replace ir := (ir.ext hE)
          replace szr := (Nat.le_trans szr (Ext.size hE))
          replace i11 := (i11.ext hE)
          replace i12 := (i12.ext hE)
          replace i13 := (i13.ext hE)
          replace sz1 := (Nat.le_trans sz1 (Ext.size hE))
          replace p8 := (p8.ext hE)
          replace p10 := (p10.ext hE)
          replace i21 := (i21.ext hE)
          replace i22 := (i22.ext hE)
          replace i23 := (i23.ext hE)
          replace sz2 := (Nat.le_trans sz2 (Ext.size hE))
          replace p11 := (p11.ext hE)
          clear hE
          have kp1_0 := p1.cell 0 (v := .int .i64 lr) rfl
          have kp1_1 := p1.cell 1 (v := .int .i64 b1) rfl
          have kp1_2 := p1.cell 2 (v := .int .i64 b2) rfl
          have kp1_3 := p1.cell 3 (v := .int .i64 eps) rfl
          have kp1_4 := p1.cell 4 (v := .int .i64 wd) rfl
          have kp1_5 := p1.cell 5 (v := .bool ap) rfl
          have kp1_6 := p1.cell 6 (v := .int .i64 f) rfl
          have kp1_7 := p1.cell 7 (v := .int .i64 pw0) rfl
          have kp1_8 := p1.cell 8 (v := .int .i64 pw1) rfl
          have kp1_9 := p1.cell 9 (v := .slice a0 n0 c0) rfl
          have kp1_10 := p1.cell 10 (v := .slice a1 n1 c1) rfl
          have kp1_11 := p1.cell 11 (v := .slice a2 n2 c2) rfl
          have kp1_12 := p1.cell 12 (v := .slice a3 n3 c3) rfl
          have kp3_0 := p3.cell 0 (v := .int .i64 lr) rfl
          have kp3_1 := p3.cell 1 (v := .int .i64 b1) rfl
          have kp3_2 := p3.cell 2 (v := .int .i64 b2) rfl
          have kp3_3 := p3.cell 3 (v := .int .i64 eps) rfl
          have kp3_4 := p3.cell 4 (v := .int .i64 wd) rfl
          have kp3_5 := p3.cell 5 (v := .bool ap) rfl
          have kp5_0 := p5.cell 0 (v := .slice a0 n0 c0) rfl
          have kp5_1 := p5.cell 1 (v := .slice a1 n1 c1) rfl
          have kp5_2 := p5.cell 2 (v := .slice a2 n2 c2) rfl
          have kp5_3 := p5.cell 3 (v := .slice a3 n3 c3) rfl
          have kp6_0 := p6.cell 0 (v := .int .i64 lr) rfl
          have kp6_1 := p6.cell 1 (v := .int .i64 b1) rfl
          have kp6_2 := p6.cell 2 (v := .int .i64 b2) rfl
          have kp6_3 := p6.cell 3 (v := .int .i64 eps) rfl
          have kp6_4 := p6.cell 4 (v := .int .i64 0) rfl
          have kp6_5 := p6.cell 5 (v := .bool ap) rfl
          have kp8_0 := p8.cell 0 (v := .slice x11 m1 m1) rfl
          have kp8_1 := p8.cell 1 (v := .slice x12 m1 m1) rfl
          have kp8_2 := p8.cell 2 (v := .slice x13 m1 m1) rfl
          have kp8_3 := p8.cell 3 (v := .slice none 0 0) rfl
          have kp10_0 := p10.cell 0 (v := .int .i64 0) rfl
          have kp10_1 := p10.cell 1 (v := .int .i64 b1) rfl
          have kp10_2 := p10.cell 2 (v := .int .i64 b2) rfl
          have kp10_3 := p10.cell 3 (v := .int .i64 eps) rfl
          have kp10_4 := p10.cell 4 (v := .int .i64 wd) rfl
          have kp10_5 := p10.cell 5 (v := .bool ap) rfl
          have kp11_0 := p11.cell 0 (v := .slice x21 m2 m2) rfl
          have kp11_1 := p11.cell 1 (v := .slice x22 m2 m2) rfl
          have kp11_2 := p11.cell 2 (v := .slice x23 m2 m2) rfl
          have kp11_3 := p11.cell 3 (v := .slice none 0 0) rfl
          go_wp2
          go_ret
          exact ⟨rfl, E0⟩
        · have k2b : (E2 == 0) = false := beq_eq_false_iff_ne.2 k2
          clear k2
          have kp1_0 := p1.cell 0 (v := .int .i64 lr) rfl
          have kp1_1 := p1.cell 1 (v := .int .i64 b1) rfl
          have kp1_2 := p1.cell 2 (v := .int .i64 b2) rfl
          have kp1_3 := p1.cell 3 (v := .int .i64 eps) rfl
          have kp1_4 := p1.cell 4 (v := .int .i64 wd) rfl
          have kp1_5 := p1.cell 5 (v := .bool ap) rfl
          have kp1_6 := p1.cell 6 (v := .int .i64 f) rfl
          have kp1_7 := p1.cell 7 (v := .int .i64 pw0) rfl
          have kp1_8 := p1.cell 8 (v := .int .i64 pw1) rfl
          have kp1_9 := p1.cell 9 (v := .slice a0 n0 c0) rfl
          have kp1_10 := p1.cell 10 (v := .slice a1 n1 c1) rfl
          have kp1_11 := p1.cell 11 (v := .slice a2 n2 c2) rfl
          have kp1_12 := p1.cell 12 (v := .slice a3 n3 c3) rfl
          have kp3_0 := p3.cell 0 (v := .int .i64 lr) rfl
          have kp3_1 := p3.cell 1 (v := .int .i64 b1) rfl
          have kp3_2 := p3.cell 2 (v := .int .i64 b2) rfl
          have kp3_3 := p3.cell 3 (v := .int .i64 eps) rfl
          have kp3_4 := p3.cell 4 (v := .int .i64 wd) rfl
          have kp3_5 := p3.cell 5 (v := .bool ap) rfl
          have kp5_0 := p5.cell 0 (v := .slice a0 n0 c0) rfl
          have kp5_1 := p5.cell 1 (v := .slice a1 n1 c1) rfl
          have kp5_2 := p5.cell 2 (v := .slice a2 n2 c2) rfl
          have kp5_3 := p5.cell 3 (v := .slice a3 n3 c3) rfl
          have kp6_0 := p6.cell 0 (v := .int .i64 lr) rfl
          have kp6_1 := p6.cell 1 (v := .int .i64 b1) rfl
          have kp6_2 := p6.cell 2 (v := .int .i64 b2) rfl
          have kp6_3 := p6.cell 3 (v := .int .i64 eps) rfl
          have kp6_4 := p6.cell 4 (v := .int .i64 0) rfl
          have kp6_5 := p6.cell 5 (v := .bool ap) rfl
          have kp8_0 := p8.cell 0 (v := .slice x11 m1 m1) rfl
          have kp8_1 := p8.cell 1 (v := .slice x12 m1 m1) rfl
          have kp8_2 := p8.cell 2 (v := .slice x13 m1 m1) rfl
          have kp8_3 := p8.cell 3 (v := .slice none 0 0) rfl
          have kp10_0 := p10.cell 0 (v := .int .i64 0) rfl
          have kp10_1 := p10.cell 1 (v := .int .i64 b1) rfl
          have kp10_2 := p10.cell 2 (v := .int .i64 b2) rfl
          have kp10_3 := p10.cell 3 (v := .int .i64 eps) rfl
          have kp10_4 := p10.cell 4 (v := .int .i64 wd) rfl
          have kp10_5 := p10.cell 5 (v := .bool ap) rfl
          have kp11_0 := p11.cell 0 (v := .slice x21 m2 m2) rfl
          have kp11_1 := p11.cell 1 (v := .slice x22 m2 m2) rfl
          have kp11_2 := p11.cell 2 (v := .slice x23 m2 m2) rfl
          have kp11_3 := p11.cell 3 (v := .slice none 0 0) rfl
          go_wp2_with fail
          clear kp1_0 kp1_1 kp1_2 kp1_3 kp1_4 kp1_5 kp1_6 kp1_7 kp1_8 kp1_9 kp1_10 kp1_11 kp1_12 kp3_0 kp3_1 kp3_2 kp3_3 kp3_4 kp3_5 kp5_0 kp5_1 kp5_2 kp5_3 kp6_0 kp6_1 kp6_2 kp6_3 kp6_4 kp6_5 kp8_0 kp8_1 kp8_2 kp8_3 kp10_0 kp10_1 kp10_2 kp10_3 kp10_4 kp10_5 kp11_0 kp11_1 kp11_2 kp11_3
          refine (Try.refRight18 lr b1 b2 eps 0 f ap _).mono ?_
          rintro e Wr ⟨rfl, hE⟩
          rw [HE.out]
          replace E0 := (Ext.trans E0 hE)
          replace hi0 := (hi0.ext hE)
          replace hi1 := (hi1.ext hE)
          replace hi2 := (hi2.ext hE)
          replace hi3 := (hi3.ext hE)
          replace p1 := (p1.ext hE)
          replace p3 := (p3.ext hE)
          replace p5 := (p5.ext hE)
          replace p6 := (p6.ext hE)
          replace ir := (ir.ext hE)
          replace szr := (Nat.le_trans szr (Ext.size hE))
          replace i11 := (i11.ext hE)
          replace i12 := (i12.ext hE)
          replace i13 := (i13.ext hE)
          replace sz1 := (Nat.le_trans sz1 (Ext.size hE))
          replace p8 := (p8.ext hE)
          replace p10 := (p10.ext hE)
          replace i21 := (i21.ext hE)
          replace i22 := (i22.ext hE)
          replace i23 := (i23.ext hE)
          replace sz2 := (Nat.le_trans sz2 (Ext.size hE))
          replace p11 := (p11.ext hE)
          clear hE
          have kp1_0 := p1.cell 0 (v := .int .i64 lr) rfl
          have kp1_1 := p1.cell 1 (v := .int .i64 b1) rfl
          have kp1_2 := p1.cell 2 (v := .int .i64 b2) rfl
          have kp1_3 := p1.cell 3 (v := .int .i64 eps) rfl
          have kp1_4 := p1.cell 4 (v := .int .i64 wd) rfl
          have kp1_5 := p1.cell 5 (v := .bool ap) rfl
          have kp1_6 := p1.cell 6 (v := .int .i64 f) rfl
          have kp1_7 := p1.cell 7 (v := .int .i64 pw0) rfl
          have kp1_8 := p1.cell 8 (v := .int .i64 pw1) rfl
          have kp1_9 := p1.cell 9 (v := .slice a0 n0 c0) rfl
          have kp1_10 := p1.cell 10 (v := .slice a1 n1 c1) rfl
          have kp1_11 := p1.cell 11 (v := .slice a2 n2 c2) rfl
          have kp1_12 := p1.cell 12 (v := .slice a3 n3 c3) rfl
          have kp3_0 := p3.cell 0 (v := .int .i64 lr) rfl
          have kp3_1 := p3.cell 1 (v := .int .i64 b1) rfl
          have kp3_2 := p3.cell 2 (v := .int .i64 b2) rfl
          have kp3_3 := p3.cell 3 (v := .int .i64 eps) rfl
          have kp3_4 := p3.cell 4 (v := .int .i64 wd) rfl
          have kp3_5 := p3.cell 5 (v := .bool ap) rfl
          have kp5_0 := p5.cell 0 (v := .slice a0 n0 c0) rfl
          have kp5_1 := p5.cell 1 (v := .slice a1 n1 c1) rfl
          have kp5_2 := p5.cell 2 (v := .slice a2 n2 c2) rfl
          have kp5_3 := p5.cell 3 (v := .slice a3 n3 c3) rfl
          have kp6_0 := p6.cell 0 (v := .int .i64 lr) rfl
          have kp6_1 := p6.cell 1 (v := .int .i64 b1) rfl
          have kp6_2 := p6.cell 2 (v := .int .i64 b2) rfl
          have kp6_3 := p6.cell 3 (v := .int .i64 eps) rfl
          have kp6_4 := p6.cell 4 (v := .int .i64 0) rfl
          have kp6_5 := p6.cell 5 (v := .bool ap) rfl
          have kp8_0 := p8.cell 0 (v := .slice x11 m1 m1) rfl
          have kp8_1 := p8.cell 1 (v := .slice x12 m1 m1) rfl
          have kp8_2 := p8.cell 2 (v := .slice x13 m1 m1) rfl
          have kp8_3 := p8.cell 3 (v := .slice none 0 0) rfl
          have kp10_0 := p10.cell 0 (v := .int .i64 0) rfl
          have kp10_1 := p10.cell 1 (v := .int .i64 b1) rfl
          have kp10_2 := p10.cell 2 (v := .int .i64 b2) rfl
          have kp10_3 := p10.cell 3 (v := .int .i64 eps) rfl
          have kp10_4 := p10.cell 4 (v := .int .i64 wd) rfl
          have kp10_5 := p10.cell 5 (v := .bool ap) rfl
          have kp11_0 := p11.cell 0 (v := .slice x21 m2 m2) rfl
          have kp11_1 := p11.cell 1 (v := .slice x22 m2 m2) rfl
          have kp11_2 := p11.cell 2 (v := .slice x23 m2 m2) rfl
          have kp11_3 := p11.cell 3 (v := .slice none 0 0) rfl
          go_wp2_with fail
          clear kp1_0 kp1_1 kp1_2 kp1_3 kp1_4 kp1_5 kp1_6 kp1_7 kp1_8 kp1_9 kp1_10 kp1_11 kp1_12 kp3_0 kp3_1 kp3_2 kp3_3 kp3_4 kp3_5 kp5_0 kp5_1 kp5_2 kp5_3 kp6_0 kp6_1 kp6_2 kp6_3 kp6_4 kp6_5 kp8_0 kp8_1 kp8_2 kp8_3 kp10_0 kp10_1 kp10_2 kp10_3 kp10_4 kp10_5 kp11_0 kp11_1 kp11_2 kp11_3
          refine (Try.alive18 _).mono ?_
          rintro e We ⟨rfl, hE⟩
          replace E0 := (Ext.trans E0 hE)
          replace hi0 := (hi0.ext hE)
          replace hi1 := (hi1.ext hE)
          replace hi2 := (hi2.ext hE)
          replace hi3 := (hi3.ext hE)
          replace p1 := (p1.ext hE)
          replace p3 := (p3.ext hE)
          replace p5 := (p5.ext hE)
          replace p6 := (p6.ext hE)
          replace ir := (ir.ext hE)
          replace szr := (Nat.le_trans szr (Ext.size hE))
          replace i11 := (i11.ext hE)
          replace i12 := (i12.ext hE)
          replace i13 := (i13.ext hE)
          replace sz1 := (Nat.le_trans sz1 (Ext.size hE))
          replace p8 := (p8.ext hE)
          replace p10 := (p10.ext hE)
          replace i21 := (i21.ext hE)
          replace i22 := (i22.ext hE)
          replace i23 := (i23.ext hE)
          replace sz2 := (Nat.le_trans sz2 (Ext.size hE))
          replace p11 := (p11.ext hE)
          clear hE
          have kp1_0 := p1.cell 0 (v := .int .i64 lr) rfl
          have kp1_1 := p1.cell 1 (v := .int .i64 b1) rfl
          have kp1_2 := p1.cell 2 (v := .int .i64 b2) rfl
          have kp1_3 := p1.cell 3 (v := .int .i64 eps) rfl
          have kp1_4 := p1.cell 4 (v := .int .i64 wd) rfl
          have kp1_5 := p1.cell 5 (v := .bool ap) rfl
          have kp1_6 := p1.cell 6 (v := .int .i64 f) rfl
          have kp1_7 := p1.cell 7 (v := .int .i64 pw0) rfl
          have kp1_8 := p1.cell 8 (v := .int .i64 pw1) rfl
          have kp1_9 := p1.cell 9 (v := .slice a0 n0 c0) rfl
          have kp1_10 := p1.cell 10 (v := .slice a1 n1 c1) rfl
          have kp1_11 := p1.cell 11 (v := .slice a2 n2 c2) rfl
          have kp1_12 := p1.cell 12 (v := .slice a3 n3 c3) rfl
          have kp3_0 := p3.cell 0 (v := .int .i64 lr) rfl
          have kp3_1 := p3.cell 1 (v := .int .i64 b1) rfl
          have kp3_2 := p3.cell 2 (v := .int .i64 b2) rfl
          have kp3_3 := p3.cell 3 (v := .int .i64 eps) rfl
          have kp3_4 := p3.cell 4 (v := .int .i64 wd) rfl
          have kp3_5 := p3.cell 5 (v := .bool ap) rfl
          have kp5_0 := p5.cell 0 (v := .slice a0 n0 c0) rfl
          have kp5_1 := p5.cell 1 (v := .slice a1 n1 c1) rfl
          have kp5_2 := p5.cell 2 (v := .slice a2 n2 c2) rfl
          have kp5_3 := p5.cell 3 (v := .slice a3 n3 c3) rfl
          have kp6_0 := p6.cell 0 (v := .int .i64 lr) rfl
          have kp6_1 := p6.cell 1 (v := .int .i64 b1) rfl
          have kp6_2 := p6.cell 2 (v := .int .i64 b2) rfl
          have kp6_3 := p6.cell 3 (v := .int .i64 eps) rfl
          have kp6_4 := p6.cell 4 (v := .int .i64 0) rfl
          have kp6_5 := p6.cell 5 (v := .bool ap) rfl
          have kp8_0 := p8.cell 0 (v := .slice x11 m1 m1) rfl
          have kp8_1 := p8.cell 1 (v := .slice x12 m1 m1) rfl
          have kp8_2 := p8.cell 2 (v := .slice x13 m1 m1) rfl
          have kp8_3 := p8.cell 3 (v := .slice none 0 0) rfl
          have kp10_0 := p10.cell 0 (v := .int .i64 0) rfl
          have kp10_1 := p10.cell 1 (v := .int .i64 b1) rfl
          have kp10_2 := p10.cell 2 (v := .int .i64 b2) rfl
          have kp10_3 := p10.cell 3 (v := .int .i64 eps) rfl
          have kp10_4 := p10.cell 4 (v := .int .i64 wd) rfl
          have kp10_5 := p10.cell 5 (v := .bool ap) rfl
          have kp11_0 := p11.cell 0 (v := .slice x21 m2 m2) rfl
          have kp11_1 := p11.cell 1 (v := .slice x22 m2 m2) rfl
          have kp11_2 := p11.cell 2 (v := .slice x23 m2 m2) rfl
          have kp11_3 := p11.cell 3 (v := .slice none 0 0) rfl
          go_wp2_with fail
          clear kp1_0 kp1_1 kp1_2 kp1_3 kp1_4 kp1_5 kp1_6 kp1_7 kp1_8 kp1_9 kp1_10 kp1_11 kp1_12 kp3_0 kp3_1 kp3_2 kp3_3 kp3_4 kp3_5 kp5_0 kp5_1 kp5_2 kp5_3 kp6_0 kp6_1 kp6_2 kp6_3 kp6_4 kp6_5 kp8_0 kp8_1 kp8_2 kp8_3 kp10_0 kp10_1 kp10_2 kp10_3 kp10_4 kp10_5 kp11_0 kp11_1 kp11_2 kp11_3
          refine (Try.refSame09 i11 hi0).mono ?_
          rintro e Wf ⟨rfl, hE⟩
          rw [decide_eq_true (HD2.out (by trivial)).1]
          replace E0 := (Ext.trans E0 hE)
          replace hi0 := (hi0.ext hE)
          replace hi1 := (hi1.ext hE)
          replace hi2 := (hi2.ext hE)
          replace hi3 := (hi3.ext hE)
          replace p1 := (p1.ext hE)
          replace p3 := (p3.ext hE)
          replace p5 := (p5.ext hE)
          replace p6 := (p6.ext hE)
          replace ir := (ir.ext hE)
          replace szr := (Nat.le_trans szr (Ext.size hE))
          replace i11 := (i11.ext hE)
          replace i12 := (i12.ext hE)
          replace i13 := (i13.ext hE)
          replace sz1 := (Nat.le_trans sz1 (Ext.size hE))
          replace p8 := (p8.ext hE)
          replace p10 := (p10.ext hE)
          replace i21 := (i21.ext hE)
          replace i22 := (i22.ext hE)
          replace i23 := (i23.ext hE)
          replace sz2 := (Nat.le_trans sz2 (Ext.size hE))
          replace p11 := (p11.ext hE)
          clear hE
          have kp1_0 := p1.cell 0 (v := .int .i64 lr) rfl
          have kp1_1 := p1.cell 1 (v := .int .i64 b1) rfl
          have kp1_2 := p1.cell 2 (v := .int .i64 b2) rfl
          have kp1_3 := p1.cell 3 (v := .int .i64 eps) rfl
          have kp1_4 := p1.cell 4 (v := .int .i64 wd) rfl
          have kp1_5 := p1.cell 5 (v := .bool ap) rfl
          have kp1_6 := p1.cell 6 (v := .int .i64 f) rfl
          have kp1_7 := p1.cell 7 (v := .int .i64 pw0) rfl
          have kp1_8 := p1.cell 8 (v := .int .i64 pw1) rfl
          have kp1_9 := p1.cell 9 (v := .slice a0 n0 c0) rfl
          have kp1_10 := p1.cell 10 (v := .slice a1 n1 c1) rfl
          have kp1_11 := p1.cell 11 (v := .slice a2 n2 c2) rfl
          have kp1_12 := p1.cell 12 (v := .slice a3 n3 c3) rfl
          have kp3_0 := p3.cell 0 (v := .int .i64 lr) rfl
          have kp3_1 := p3.cell 1 (v := .int .i64 b1) rfl
          have kp3_2 := p3.cell 2 (v := .int .i64 b2) rfl
          have kp3_3 := p3.cell 3 (v := .int .i64 eps) rfl
          have kp3_4 := p3.cell 4 (v := .int .i64 wd) rfl
          have kp3_5 := p3.cell 5 (v := .bool ap) rfl
          have kp5_0 := p5.cell 0 (v := .slice a0 n0 c0) rfl
          have kp5_1 := p5.cell 1 (v := .slice a1 n1 c1) rfl
          have kp5_2 := p5.cell 2 (v := .slice a2 n2 c2) rfl
          have kp5_3 := p5.cell 3 (v := .slice a3 n3 c3) rfl
          have kp6_0 := p6.cell 0 (v := .int .i64 lr) rfl
          have kp6_1 := p6.cell 1 (v := .int .i64 b1) rfl
          have kp6_2 := p6.cell 2 (v := .int .i64 b2) rfl
          have kp6_3 := p6.cell 3 (v := .int .i64 eps) rfl
          have kp6_4 := p6.cell 4 (v := .int .i64 0) rfl
          have kp6_5 := p6.cell 5 (v := .bool ap) rfl
          have kp8_0 := p8.cell 0 (v := .slice x11 m1 m1) rfl
          have kp8_1 := p8.cell 1 (v := .slice x12 m1 m1) rfl
          have kp8_2 := p8.cell 2 (v := .slice x13 m1 m1) rfl
          have kp8_3 := p8.cell 3 (v := .slice none 0 0) rfl
          have kp10_0 := p10.cell 0 (v := .int .i64 0) rfl
          have kp10_1 := p10.cell 1 (v := .int .i64 b1) rfl
          have kp10_2 := p10.cell 2 (v := .int .i64 b2) rfl
          have kp10_3 := p10.cell 3 (v := .int .i64 eps) rfl
          have kp10_4 := p10.cell 4 (v := .int .i64 wd) rfl
          have kp10_5 := p10.cell 5 (v := .bool ap) rfl
          have kp11_0 := p11.cell 0 (v := .slice x21 m2 m2) rfl
          have kp11_1 := p11.cell 1 (v := .slice x22 m2 m2) rfl
          have kp11_2 := p11.cell 2 (v := .slice x23 m2 m2) rfl
          have kp11_3 := p11.cell 3 (v := .slice none 0 0) rfl
          go_wp2_with fail
          clear kp1_0 kp1_1 kp1_2 kp1_3 kp1_4 kp1_5 kp1_6 kp1_7 kp1_8 kp1_9 kp1_10 kp1_11 kp1_12 kp3_0 kp3_1 kp3_2 kp3_3 kp3_4 kp3_5 kp5_0 kp5_1 kp5_2 kp5_3 kp6_0 kp6_1 kp6_2 kp6_3 kp6_4 kp6_5 kp8_0 kp8_1 kp8_2 kp8_3 kp10_0 kp10_1 kp10_2 kp10_3 kp10_4 kp10_5 kp11_0 kp11_1 kp11_2 kp11_3
          refine (Try.refSame09 i12 ir).mono ?_
          rintro e Wg ⟨rfl, hE⟩
          rw [decide_eq_true (HD2.out (by trivial)).2.1]
          replace E0 := (Ext.trans E0 hE)
          replace hi0 := (hi0.ext hE)
          replace hi1 := (hi1.ext hE)
          replace hi2 := (hi2.ext hE)
          replace hi3 := (hi3.ext hE)
          replace p1 := (p1.ext hE)
          replace p3 := (p3.ext hE)
          replace p5 := (p5.ext hE)
          replace p6 := (p6.ext hE)
          replace ir := (ir.ext hE)
          replace szr := (Nat.le_trans szr (Ext.size hE))
          replace i11 := (i11.ext hE)
          replace i12 := (i12.ext hE)
          replace i13 := (i13.ext hE)
          replace sz1 := (Nat.le_trans sz1 (Ext.size hE))
          replace p8 := (p8.ext hE)
          replace p10 := (p10.ext hE)
          replace i21 := (i21.ext hE)
          replace i22 := (i22.ext hE)
          replace i23 := (i23.ext hE)
          replace sz2 := (Nat.le_trans sz2 (Ext.size hE))
          replace p11 := (p11.ext hE)
          clear hE
          have kp1_0 := p1.cell 0 (v := .int .i64 lr) rfl
          have kp1_1 := p1.cell 1 (v := .int .i64 b1) rfl
          have kp1_2 := p1.cell 2 (v := .int .i64 b2) rfl
          have kp1_3 := p1.cell 3 (v := .int .i64 eps) rfl
          have kp1_4 := p1.cell 4 (v := .int .i64 wd) rfl
          have kp1_5 := p1.cell 5 (v := .bool ap) rfl
          have kp1_6 := p1.cell 6 (v := .int .i64 f) rfl
          have kp1_7 := p1.cell 7 (v := .int .i64 pw0) rfl
          have kp1_8 := p1.cell 8 (v := .int .i64 pw1) rfl
          have kp1_9 := p1.cell 9 (v := .slice a0 n0 c0) rfl
          have kp1_10 := p1.cell 10 (v := .slice a1 n1 c1) rfl
          have kp1_11 := p1.cell 11 (v := .slice a2 n2 c2) rfl
          have kp1_12 := p1.cell 12 (v := .slice a3 n3 c3) rfl
          have kp3_0 := p3.cell 0 (v := .int .i64 lr) rfl
          have kp3_1 := p3.cell 1 (v := .int .i64 b1) rfl
          have kp3_2 := p3.cell 2 (v := .int .i64 b2) rfl
          have kp3_3 := p3.cell 3 (v := .int .i64 eps) rfl
          have kp3_4 := p3.cell 4 (v := .int .i64 wd) rfl
          have kp3_5 := p3.cell 5 (v := .bool ap) rfl
          have kp5_0 := p5.cell 0 (v := .slice a0 n0 c0) rfl
          have kp5_1 := p5.cell 1 (v := .slice a1 n1 c1) rfl
          have kp5_2 := p5.cell 2 (v := .slice a2 n2 c2) rfl
          have kp5_3 := p5.cell 3 (v := .slice a3 n3 c3) rfl
          have kp6_0 := p6.cell 0 (v := .int .i64 lr) rfl
          have kp6_1 := p6.cell 1 (v := .int .i64 b1) rfl
          have kp6_2 := p6.cell 2 (v := .int .i64 b2) rfl
          have kp6_3 := p6.cell 3 (v := .int .i64 eps) rfl
          have kp6_4 := p6.cell 4 (v := .int .i64 0) rfl
          have kp6_5 := p6.cell 5 (v := .bool ap) rfl
          have kp8_0 := p8.cell 0 (v := .slice x11 m1 m1) rfl
          have kp8_1 := p8.cell 1 (v := .slice x12 m1 m1) rfl
          have kp8_2 := p8.cell 2 (v := .slice x13 m1 m1) rfl
          have kp8_3 := p8.cell 3 (v := .slice none 0 0) rfl
          have kp10_0 := p10.cell 0 (v := .int .i64 0) rfl
          have kp10_1 := p10.cell 1 (v := .int .i64 b1) rfl
          have kp10_2 := p10.cell 2 (v := .int .i64 b2) rfl
          have kp10_3 := p10.cell 3 (v := .int .i64 eps) rfl
          have kp10_4 := p10.cell 4 (v := .int .i64 wd) rfl
          have kp10_5 := p10.cell 5 (v := .bool ap) rfl
          have kp11_0 := p11.cell 0 (v := .slice x21 m2 m2) rfl
          have kp11_1 := p11.cell 1 (v := .slice x22 m2 m2) rfl
          have kp11_2 := p11.cell 2 (v := .slice x23 m2 m2) rfl
          have kp11_3 := p11.cell 3 (v := .slice none 0 0) rfl
          go_wp2_with fail
          clear kp1_0 kp1_1 kp1_2 kp1_3 kp1_4 kp1_5 kp1_6 kp1_7 kp1_8 kp1_9 kp1_10 kp1_11 kp1_12 kp3_0 kp3_1 kp3_2 kp3_3 kp3_4 kp3_5 kp5_0 kp5_1 kp5_2 kp5_3 kp6_0 kp6_1 kp6_2 kp6_3 kp6_4 kp6_5 kp8_0 kp8_1 kp8_2 kp8_3 kp10_0 kp10_1 kp10_2 kp10_3 kp10_4 kp10_5 kp11_0 kp11_1 kp11_2 kp11_3
          refine (Try.refSame09 i13 ir).mono ?_
          rintro e Wh ⟨rfl, hE⟩
          rw [decide_eq_true (HD2.out (by trivial)).2.2]
          replace E0 := (Ext.trans E0 hE)
          replace hi0 := (hi0.ext hE)
          replace hi1 := (hi1.ext hE)
          replace hi2 := (hi2.ext hE)
          replace hi3 := (hi3.ext hE)
          replace p1 := (p1.ext hE)
          replace p3 := (p3.ext hE)
          replace p5 := (p5.ext hE)
          replace p6 := (p6.ext hE)
          replace ir := (ir.ext hE)
          replace szr := (Nat.le_trans szr (Ext.size hE))
          replace i11 := (i11.ext hE)
          replace i12 := (i12.ext hE)
          replace i13 := (i13.ext hE)
          replace sz1 := (Nat.le_trans sz1 (Ext.size hE))
          replace p8 := (p8.ext hE)
          replace p10 := (p10.ext hE)
          replace i21 := (i21.ext hE)
          replace i22 := (i22.ext hE)
          replace i23 := (i23.ext hE)
          replace sz2 := (Nat.le_trans sz2 (Ext.size hE))
          replace p11 := (p11.ext hE)
          clear hE
          have kp1_0 := p1.cell 0 (v := .int .i64 lr) rfl
          have kp1_1 := p1.cell 1 (v := .int .i64 b1) rfl
          have kp1_2 := p1.cell 2 (v := .int .i64 b2) rfl
          have kp1_3 := p1.cell 3 (v := .int .i64 eps) rfl
          have kp1_4 := p1.cell 4 (v := .int .i64 wd) rfl
          have kp1_5 := p1.cell 5 (v := .bool ap) rfl
          have kp1_6 := p1.cell 6 (v := .int .i64 f) rfl
          have kp1_7 := p1.cell 7 (v := .int .i64 pw0) rfl
          have kp1_8 := p1.cell 8 (v := .int .i64 pw1) rfl
          have kp1_9 := p1.cell 9 (v := .slice a0 n0 c0) rfl
          have kp1_10 := p1.cell 10 (v := .slice a1 n1 c1) rfl
          have kp1_11 := p1.cell 11 (v := .slice a2 n2 c2) rfl
          have kp1_12 := p1.cell 12 (v := .slice a3 n3 c3) rfl
          have kp3_0 := p3.cell 0 (v := .int .i64 lr) rfl
          have kp3_1 := p3.cell 1 (v := .int .i64 b1) rfl
          have kp3_2 := p3.cell 2 (v := .int .i64 b2) rfl
          have kp3_3 := p3.cell 3 (v := .int .i64 eps) rfl
          have kp3_4 := p3.cell 4 (v := .int .i64 wd) rfl
          have kp3_5 := p3.cell 5 (v := .bool ap) rfl
          have kp5_0 := p5.cell 0 (v := .slice a0 n0 c0) rfl
          have kp5_1 := p5.cell 1 (v := .slice a1 n1 c1) rfl
          have kp5_2 := p5.cell 2 (v := .slice a2 n2 c2) rfl
          have kp5_3 := p5.cell 3 (v := .slice a3 n3 c3) rfl
          have kp6_0 := p6.cell 0 (v := .int .i64 lr) rfl
          have kp6_1 := p6.cell 1 (v := .int .i64 b1) rfl
          have kp6_2 := p6.cell 2 (v := .int .i64 b2) rfl
          have kp6_3 := p6.cell 3 (v := .int .i64 eps) rfl
          have kp6_4 := p6.cell 4 (v := .int .i64 0) rfl
          have kp6_5 := p6.cell 5 (v := .bool ap) rfl
          have kp8_0 := p8.cell 0 (v := .slice x11 m1 m1) rfl
          have kp8_1 := p8.cell 1 (v := .slice x12 m1 m1) rfl
          have kp8_2 := p8.cell 2 (v := .slice x13 m1 m1) rfl
          have kp8_3 := p8.cell 3 (v := .slice none 0 0) rfl
          have kp10_0 := p10.cell 0 (v := .int .i64 0) rfl
          have kp10_1 := p10.cell 1 (v := .int .i64 b1) rfl
          have kp10_2 := p10.cell 2 (v := .int .i64 b2) rfl
          have kp10_3 := p10.cell 3 (v := .int .i64 eps) rfl
          have kp10_4 := p10.cell 4 (v := .int .i64 wd) rfl
          have kp10_5 := p10.cell 5 (v := .bool ap) rfl
          have kp11_0 := p11.cell 0 (v := .slice x21 m2 m2) rfl
          have kp11_1 := p11.cell 1 (v := .slice x22 m2 m2) rfl
          have kp11_2 := p11.cell 2 (v := .slice x23 m2 m2) rfl
          have kp11_3 := p11.cell 3 (v := .slice none 0 0) rfl
          go_wp2
          go_ret
          exact ⟨rfl, E0⟩
      · have HE : Hid (rightA ⟨lr, b1, b2, eps, 0, ap⟩ f = false) := Lib.hid (HD.out.trans (decide_eq_false k1))
        have k1b : (E1 == 0) = false := beq_eq_false_iff_ne.2 k1
        have k1c : (E1 != 0) = true := bne_iff_ne.2 k1
        have HK1 := Lib.hid k1
        clear k1
        by_cases k2 : E2 = 0
        · subst k2
          have kp1_0 := p1.cell 0 (v := .int .i64 lr) rfl
          have kp1_1 := p1.cell 1 (v := .int .i64 b1) rfl
          have kp1_2 := p1.cell 2 (v := .int .i64 b2) rfl
          have kp1_3 := p1.cell 3 (v := .int .i64 eps) rfl
          have kp1_4 := p1.cell 4 (v := .int .i64 wd) rfl
          have kp1_5 := p1.cell 5 (v := .bool ap) rfl
          have kp1_6 := p1.cell 6 (v := .int .i64 f) rfl
          have kp1_7 := p1.cell 7 (v := .int .i64 pw0) rfl
          have kp1_8 := p1.cell 8 (v := .int .i64 pw1) rfl
          have kp1_9 := p1.cell 9 (v := .slice a0 n0 c0) rfl
          have kp1_10 := p1.cell 10 (v := .slice a1 n1 c1) rfl
          have kp1_11 := p1.cell 11 (v := .slice a2 n2 c2) rfl
          have kp1_12 := p1.cell 12 (v := .slice a3 n3 c3) rfl
          have kp3_0 := p3.cell 0 (v := .int .i64 lr) rfl
          have kp3_1 := p3.cell 1 (v := .int .i64 b1) rfl
          have kp3_2 := p3.cell 2 (v := .int .i64 b2) rfl
          have kp3_3 := p3.cell 3 (v := .int .i64 eps) rfl
          have kp3_4 := p3.cell 4 (v := .int .i64 wd) rfl
          have kp3_5 := p3.cell 5 (v := .bool ap) rfl
          have kp5_0 := p5.cell 0 (v := .slice a0 n0 c0) rfl
          have kp5_1 := p5.cell 1 (v := .slice a1 n1 c1) rfl
          have kp5_2 := p5.cell 2 (v := .slice a2 n2 c2) rfl
          have kp5_3 := p5.cell 3 (v := .slice a3 n3 c3) rfl
          have kp6_0 := p6.cell 0 (v := .int .i64 lr) rfl
          have kp6_1 := p6.cell 1 (v := .int .i64 b1) rfl
          have kp6_2 := p6.cell 2 (v := .int .i64 b2) rfl
          have kp6_3 := p6.cell 3 (v := .int .i64 eps) rfl
          have kp6_4 := p6.cell 4 (v := .int .i64 0) rfl
          have kp6_5 := p6.cell 5 (v := .bool ap) rfl
          have kp8_0 := p8.cell 0 (v := .slice x11 m1 m1) rfl
          have kp8_1 := p8.cell 1 (v := .slice x12 m1 m1) rfl
          have kp8_2 := p8.cell 2 (v := .slice x13 m1 m1) rfl
          have kp8_3 := p8.cell 3 (v := .slice none 0 0) rfl
          have kp10_0 := p10.cell 0 (v := .int .i64 0) rfl
          have kp10_1 := p10.cell 1 (v := .int .i64 b1) rfl
          have kp10_2 := p10.cell 2 (v := .int .i64 b2) rfl
          have kp10_3 := p10.cell 3 (v := .int .i64 eps) rfl
          have kp10_4 := p10.cell 4 (v := .int .i64 wd) rfl
          have kp10_5 := p10.cell 5 (v := .bool ap) rfl
          have kp11_0 := p11.cell 0 (v := .slice x21 m2 m2) rfl
          have kp11_1 := p11.cell 1 (v := .slice x22 m2 m2) rfl
          have kp11_2 := p11.cell 2 (v := .slice x23 m2 m2) rfl
          have kp11_3 := p11.cell 3 (v := .slice none 0 0) rfl
          go_wp2_with fail
          clear kp1_0 kp1_1 kp1_2 kp1_3 kp1_4 kp1_5 kp1_6 kp1_7 kp1_8 kp1_9 kp1_10 kp1_11 kp1_12 kp3_0 kp3_1 kp3_2 kp3_3 kp3_4 kp3_5 kp5_0 kp5_1 kp5_2 kp5_3 kp6_0 kp6_1 kp6_2 kp6_3 kp6_4 kp6_5 kp8_0 kp8_1 kp8_2 kp8_3 kp10_0 kp10_1 kp10_2 kp10_3 kp10_4 kp10_5 kp11_0 kp11_1 kp11_2 kp11_3
          refine (Try.refSame09 i21 hi0).mono ?_
          rintro e Wq ⟨rfl, hE⟩
          rw [decide_eq_true (HD3.out (by trivial))]
          replace E0 := (Ext.trans E0 hE)
          replace hi0 := (hi0.ext hE)
          replace hi1 := (hi1.ext hE)
          replace hi2 := (hi2.ext hE)
          replace hi3 := (hi3.ext hE)
          replace p1 := (p1.ext hE)
          replace p3 := (p3.ext hE)
          replace p5 := (p5.ext hE)
          replace p6 := (p6.ext hE)
          replace ir := (ir.ext hE)
          replace szr := (Nat.le_trans szr (Ext.size hE))
          replace i11 := (i11.ext hE)
          replace i12 := (i12.ext hE)
          replace i13 := (i13.ext hE)
          replace sz1 := (Nat.le_trans sz1 (Ext.size hE))
          replace p8 := (p8.ext hE)
          replace p10 := (p10.ext hE)
          replace i21 := (i21.ext hE)
          replace i22 := (i22.ext hE)
          replace i23 := (i23.ext hE)
          replace sz2 := (Nat.le_trans sz2 (Ext.size hE))
          replace p11 := (p11.ext hE)
          clear hE
          have kp1_0 := p1.cell 0 (v := .int .i64 lr) rfl
          have kp1_1 := p1.cell 1 (v := .int .i64 b1) rfl
          have kp1_2 := p1.cell 2 (v := .int .i64 b2) rfl
          have kp1_3 := p1.cell 3 (v := .int .i64 eps) rfl
          have kp1_4 := p1.cell 4 (v := .int .i64 wd) rfl
          have kp1_5 := p1.cell 5 (v := .bool ap) rfl
          have kp1_6 := p1.cell 6 (v := .int .i64 f) rfl
          have kp1_7 := p1.cell 7 (v := .int .i64 pw0) rfl
          have kp1_8 := p1.cell 8 (v := .int .i64 pw1) rfl
          have kp1_9 := p1.cell 9 (v := .slice a0 n0 c0) rfl
          have kp1_10 := p1.cell 10 (v := .slice a1 n1 c1) rfl
          have kp1_11 := p1.cell 11 (v := .slice a2 n2 c2) rfl
          have kp1_12 := p1.cell 12 (v := .slice a3 n3 c3) rfl
          have kp3_0 := p3.cell 0 (v := .int .i64 lr) rfl
          have kp3_1 := p3.cell 1 (v := .int .i64 b1) rfl
          have kp3_2 := p3.cell 2 (v := .int .i64 b2) rfl
          have kp3_3 := p3.cell 3 (v := .int .i64 eps) rfl
          have kp3_4 := p3.cell 4 (v := .int .i64 wd) rfl
          have kp3_5 := p3.cell 5 (v := .bool ap) rfl
          have kp5_0 := p5.cell 0 (v := .slice a0 n0 c0) rfl
          have kp5_1 := p5.cell 1 (v := .slice a1 n1 c1) rfl
          have kp5_2 := p5.cell 2 (v := .slice a2 n2 c2) rfl
          have kp5_3 := p5.cell 3 (v := .slice a3 n3 c3) rfl
          have kp6_0 := p6.cell 0 (v := .int .i64 lr) rfl
          have kp6_1 := p6.cell 1 (v := .int .i64 b1) rfl
          have kp6_2 := p6.cell 2 (v := .int .i64 b2) rfl
          have kp6_3 := p6.cell 3 (v := .int .i64 eps) rfl
          have kp6_4 := p6.cell 4 (v := .int .i64 0) rfl
          have kp6_5 := p6.cell 5 (v := .bool ap) rfl
          have kp8_0 := p8.cell 0 (v := .slice x11 m1 m1) rfl
          have kp8_1 := p8.cell 1 (v := .slice x12 m1 m1) rfl
          have kp8_2 := p8.cell 2 (v := .slice x13 m1 m1) rfl
          have kp8_3 := p8.cell 3 (v := .slice none 0 0) rfl
          have kp10_0 := p10.cell 0 (v := .int .i64 0) rfl
          have kp10_1 := p10.cell 1 (v := .int .i64 b1) rfl
          have kp10_2 := p10.cell 2 (v := .int .i64 b2) rfl
          have kp10_3 := p10.cell 3 (v := .int .i64 eps) rfl
          have kp10_4 := p10.cell 4 (v := .int .i64 wd) rfl
          have kp10_5 := p10.cell 5 (v := .bool ap) rfl
          have kp11_0 := p11.cell 0 (v := .slice x21 m2 m2) rfl
          have kp11_1 := p11.cell 1 (v := .slice x22 m2 m2) rfl
          have kp11_2 := p11.cell 2 (v := .slice x23 m2 m2) rfl
          have kp11_3 := p11.cell 3 (v := .slice none 0 0) rfl
          go_wp2_with fail
          clear kp1_0 kp1_1 kp1_2 kp1_3 kp1_4 kp1_5 kp1_6 kp1_7 kp1_8 kp1_9 kp1_10 kp1_11 kp1_12 kp3_0 kp3_1 kp3_2 kp3_3 kp3_4 kp3_5 kp5_0 kp5_1 kp5_2 kp5_3 kp6_0 kp6_1 kp6_2 kp6_3 kp6_4 kp6_5 kp8_0 kp8_1 kp8_2 kp8_3 kp10_0 kp10_1 kp10_2 kp10_3 kp10_4 kp10_5 kp11_0 kp11_1 kp11_2 kp11_3
          refine (Try.refRight18 lr b1 b2 eps 0 f ap _).mono ?_
          rintro e Wr ⟨rfl, hE⟩
          rw [HE.out]
          replace E0 := (Ext.trans E0 hE)
          replace hi0 := (hi0.ext hE)
          replace hi1 := (hi1.ext hE)
          replace hi2 := (hi2.ext hE)
          replace hi3 := (hi3.ext hE)
          replace p1 := (p1.ext hE)
          replace p3 := (p3.ext hE)
          replace p5 := (p5.ext hE)
          replace p6 := (p6.ext hE)
          replace ir := (ir.ext hE)
          replace szr := (Nat.le_trans szr (Ext.size hE))
          replace i11 := (i11.ext hE)
          replace i12 := (i12.ext hE)
          replace i13 := (i13.ext hE)
          replace sz1 := (Nat.le_trans sz1 (Ext.size hE))
          replace p8 := (p8.ext hE)
          replace p10 := (p10.ext hE)
          replace i21 := (i21.ext hE)
          replace i22 := (i22.ext hE)
          replace i23 := (i23.ext hE)
          replace sz2 := (Nat.le_trans sz2 (Ext.size hE))
          replace p11 := (p11.ext hE)
          clear hE
          have kp1_0 := p1.cell 0 (v := .int .i64 lr) rfl
          have kp1_1 := p1.cell 1 (v := .int .i64 b1) rfl
          have kp1_2 := p1.cell 2 (v := .int .i64 b2) rfl
          have kp1_3 := p1.cell 3 (v := .int .i64 eps) rfl
          have kp1_4 := p1.cell 4 (v := .int .i64 wd) rfl
          have kp1_5 := p1.cell 5 (v := .bool ap) rfl
          have kp1_6 := p1.cell 6 (v := .int .i64 f) rfl
          have kp1_7 := p1.cell 7 (v := .int .i64 pw0) rfl
          have kp1_8 := p1.cell 8 (v := .int .i64 pw1) rfl
          have kp1_9 := p1.cell 9 (v := .slice a0 n0 c0) rfl
          have kp1_10 := p1.cell 10 (v := .slice a1 n1 c1) rfl
          have kp1_11 := p1.cell 11 (v := .slice a2 n2 c2) rfl
          have kp1_12 := p1.cell 12 (v := .slice a3 n3 c3) rfl
          have kp3_0 := p3.cell 0 (v := .int .i64 lr) rfl
          have kp3_1 := p3.cell 1 (v := .int .i64 b1) rfl
          have kp3_2 := p3.cell 2 (v := .int .i64 b2) rfl
          have kp3_3 := p3.cell 3 (v := .int .i64 eps) rfl
          have kp3_4 := p3.cell 4 (v := .int .i64 wd) rfl
          have kp3_5 := p3.cell 5 (v := .bool ap) rfl
          have kp5_0 := p5.cell 0 (v := .slice a0 n0 c0) rfl
          have kp5_1 := p5.cell 1 (v := .slice a1 n1 c1) rfl
          have kp5_2 := p5.cell 2 (v := .slice a2 n2 c2) rfl
          have kp5_3 := p5.cell 3 (v := .slice a3 n3 c3) rfl
          have kp6_0 := p6.cell 0 (v := .int .i64 lr) rfl
          have kp6_1 := p6.cell 1 (v := .int .i64 b1) rfl
          have kp6_2 := p6.cell 2 (v := .int .i64 b2) rfl
          have kp6_3 := p6.cell 3 (v := .int .i64 eps) rfl
          have kp6_4 := p6.cell 4 (v := .int .i64 0) rfl
          have kp6_5 := p6.cell 5 (v := .bool ap) rfl
          have kp8_0 := p8.cell 0 (v := .slice x11 m1 m1) rfl
          have kp8_1 := p8.cell 1 (v := .slice x12 m1 m1) rfl
          have kp8_2 := p8.cell 2 (v := .slice x13 m1 m1) rfl
          have kp8_3 := p8.cell 3 (v := .slice none 0 0) rfl
          have kp10_0 := p10.cell 0 (v := .int .i64 0) rfl
          have kp10_1 := p10.cell 1 (v := .int .i64 b1) rfl
          have kp10_2 := p10.cell 2 (v := .int .i64 b2) rfl
          have kp10_3 := p10.cell 3 (v := .int .i64 eps) rfl
          have kp10_4 := p10.cell 4 (v := .int .i64 wd) rfl
          have kp10_5 := p10.cell 5 (v := .bool ap) rfl
          have kp11_0 := p11.cell 0 (v := .slice x21 m2 m2) rfl
          have kp11_1 := p11.cell 1 (v := .slice x22 m2 m2) rfl
          have kp11_2 := p11.cell 2 (v := .slice x23 m2 m2) rfl
          have kp11_3 := p11.cell 3 (v := .slice none 0 0) rfl
          go_wp2_with fail
          clear kp1_0 kp1_1 kp1_2 kp1_3 kp1_4 kp1_5 kp1_6 kp1_7 kp1_8 kp1_9 kp1_10 kp1_11 kp1_12 kp3_0 kp3_1 kp3_2 kp3_3 kp3_4 kp3_5 kp5_0 kp5_1 kp5_2 kp5_3 kp6_0 kp6_1 kp6_2 kp6_3 kp6_4 kp6_5 kp8_0 kp8_1 kp8_2 kp8_3 kp10_0 kp10_1 kp10_2 kp10_3 kp10_4 kp10_5 kp11_0 kp11_1 kp11_2 kp11_3
          refine (Try.alive18 _).mono ?_
          rintro e We ⟨rfl, hE⟩
          replace E0 := (Ext.trans E0 hE)
          replace hi0 := (hi0.ext hE)
          replace hi1 := (hi1.ext hE)
          replace hi2 := (hi2.ext hE)
          replace hi3 := (hi3.ext hE)
          replace p1 := (p1.ext hE)
          replace p3 := (p3.ext hE)
          replace p5 := (p5.ext hE)
          replace p6 := (p6.ext hE)
          replace ir := (ir.ext hE)
          replace szr := (Nat.le_trans szr (Ext.size hE))
          replace i11 := (i11.ext hE)
          replace i12 := (i12.ext hE)
          replace i13 := (i13.ext hE)
          replace sz1 := (Nat.le_trans sz1 (Ext.size hE))
          replace p8 := (p8.ext hE)
          replace p10 := (p10.ext hE)
          replace i21 := (i21.ext hE)
          replace i22 := (i22.ext hE)
          replace i23 := (i23.ext hE)
          replace sz2 := (Nat.le_trans sz2 (Ext.size hE))
          replace p11 := (p11.ext hE)
          clear hE
          have kp1_0 := p1.cell 0 (v := .int .i64 lr) rfl
          have kp1_1 := p1.cell 1 (v := .int .i64 b1) rfl
          have kp1_2 := p1.cell 2 (v := .int .i64 b2) rfl
          have kp1_3 := p1.cell 3 (v := .int .i64 eps) rfl
          have kp1_4 := p1.cell 4 (v := .int .i64 wd) rfl
          have kp1_5 := p1.cell 5 (v := .bool ap) rfl
          have kp1_6 := p1.cell 6 (v := .int .i64 f) rfl
          have kp1_7 := p1.cell 7 (v := .int .i64 pw0) rfl
          have kp1_8 := p1.cell 8 (v := .int .i64 pw1) rfl
          have kp1_9 := p1.cell 9 (v := .slice a0 n0 c0) rfl
          have kp1_10 := p1.cell 10 (v := .slice a1 n1 c1) rfl
          have kp1_11 := p1.cell 11 (v := .slice a2 n2 c2) rfl
          have kp1_12 := p1.cell 12 (v := .slice a3 n3 c3) rfl
          have kp3_0 := p3.cell 0 (v := .int .i64 lr) rfl
          have kp3_1 := p3.cell 1 (v := .int .i64 b1) rfl
          have kp3_2 := p3.cell 2 (v := .int .i64 b2) rfl
          have kp3_3 := p3.cell 3 (v := .int .i64 eps) rfl
          have kp3_4 := p3.cell 4 (v := .int .i64 wd) rfl
          have kp3_5 := p3.cell 5 (v := .bool ap) rfl
          have kp5_0 := p5.cell 0 (v := .slice a0 n0 c0) rfl
          have kp5_1 := p5.cell 1 (v := .slice a1 n1 c1) rfl
          have kp5_2 := p5.cell 2 (v := .slice a2 n2 c2) rfl
          have kp5_3 := p5.cell 3 (v := .slice a3 n3 c3) rfl
          have kp6_0 := p6.cell 0 (v := .int .i64 lr) rfl
          have kp6_1 := p6.cell 1 (v := .int .i64 b1) rfl
          have kp6_2 := p6.cell 2 (v := .int .i64 b2) rfl
          have kp6_3 := p6.cell 3 (v := .int .i64 eps) rfl
          have kp6_4 := p6.cell 4 (v := .int .i64 0) rfl
          have kp6_5 := p6.cell 5 (v := .bool ap) rfl
          have kp8_0 := p8.cell 0 (v := .slice x11 m1 m1) rfl
          have kp8_1 := p8.cell 1 (v := .slice x12 m1 m1) rfl
          have kp8_2 := p8.cell 2 (v := .slice x13 m1 m1) rfl
          have kp8_3 := p8.cell 3 (v := .slice none 0 0) rfl
          have kp10_0 := p10.cell 0 (v := .int .i64 0) rfl
          have kp10_1 := p10.cell 1 (v := .int .i64 b1) rfl
          have kp10_2 := p10.cell 2 (v := .int .i64 b2) rfl
          have kp10_3 := p10.cell 3 (v := .int .i64 eps) rfl
          have kp10_4 := p10.cell 4 (v := .int .i64 wd) rfl
          have kp10_5 := p10.cell 5 (v := .bool ap) rfl
          have kp11_0 := p11.cell 0 (v := .slice x21 m2 m2) rfl
          have kp11_1 := p11.cell 1 (v := .slice x22 m2 m2) rfl
          have kp11_2 := p11.cell 2 (v := .slice x23 m2 m2) rfl
          have kp11_3 := p11.cell 3 (v := .slice none 0 0) rfl
          go_wp2
          go_ret
          exact ⟨rfl, E0⟩
        · have k2b : (E2 == 0) = false := beq_eq_false_iff_ne.2 k2
          clear k2
          have kp1_0 := p1.cell 0 (v := .int .i64 lr) rfl
          have kp1_1 := p1.cell 1 (v := .int .i64 b1) rfl
          have kp1_2 := p1.cell 2 (v := .int .i64 b2) rfl
          have kp1_3 := p1.cell 3 (v := .int .i64 eps) rfl
          have kp1_4 := p1.cell 4 (v := .int .i64 wd) rfl
          have kp1_5 := p1.cell 5 (v := .bool ap) rfl
          have kp1_6 := p1.cell 6 (v := .int .i64 f) rfl
          have kp1_7 := p1.cell 7 (v := .int .i64 pw0) rfl
          have kp1_8 := p1.cell 8 (v := .int .i64 pw1) rfl
          have kp1_9 := p1.cell 9 (v := .slice a0 n0 c0) rfl
          have kp1_10 := p1.cell 10 (v := .slice a1 n1 c1) rfl
          have kp1_11 := p1.cell 11 (v := .slice a2 n2 c2) rfl
          have kp1_12 := p1.cell 12 (v := .slice a3 n3 c3) rfl
          have kp3_0 := p3.cell 0 (v := .int .i64 lr) rfl
          have kp3_1 := p3.cell 1 (v := .int .i64 b1) rfl
          have kp3_2 := p3.cell 2 (v := .int .i64 b2) rfl
          have kp3_3 := p3.cell 3 (v := .int .i64 eps) rfl
          have kp3_4 := p3.cell 4 (v := .int .i64 wd) rfl
          have kp3_5 := p3.cell 5 (v := .bool ap) rfl
          have kp5_0 := p5.cell 0 (v := .slice a0 n0 c0) rfl
          have kp5_1 := p5.cell 1 (v := .slice a1 n1 c1) rfl
          have kp5_2 := p5.cell 2 (v := .slice a2 n2 c2) rfl
          have kp5_3 := p5.cell 3 (v := .slice a3 n3 c3) rfl
          have kp6_0 := p6.cell 0 (v := .int .i64 lr) rfl
          have kp6_1 := p6.cell 1 (v := .int .i64 b1) rfl
          have kp6_2 := p6.cell 2 (v := .int .i64 b2) rfl
          have kp6_3 := p6.cell 3 (v := .int .i64 eps) rfl
          have kp6_4 := p6.cell 4 (v := .int .i64 0) rfl
          have kp6_5 := p6.cell 5 (v := .bool ap) rfl
          have kp8_0 := p8.cell 0 (v := .slice x11 m1 m1) rfl
          have kp8_1 := p8.cell 1 (v := .slice x12 m1 m1) rfl
          have kp8_2 := p8.cell 2 (v := .slice x13 m1 m1) rfl
          have kp8_3 := p8.cell 3 (v := .slice none 0 0) rfl
          have kp10_0 := p10.cell 0 (v := .int .i64 0) rfl
          have kp10_1 := p10.cell 1 (v := .int .i64 b1) rfl
          have kp10_2 := p10.cell 2 (v := .int .i64 b2) rfl
          have kp10_3 := p10.cell 3 (v := .int .i64 eps) rfl
          have kp10_4 := p10.cell 4 (v := .int .i64 wd) rfl
          have kp10_5 := p10.cell 5 (v := .bool ap) rfl
          have kp11_0 := p11.cell 0 (v := .slice x21 m2 m2) rfl
          have kp11_1 := p11.cell 1 (v := .slice x22 m2 m2) rfl
          have kp11_2 := p11.cell 2 (v := .slice x23 m2 m2) rfl
          have kp11_3 := p11.cell 3 (v := .slice none 0 0) rfl
          go_wp2_with fail
          clear kp1_0 kp1_1 kp1_2 kp1_3 kp1_4 kp1_5 kp1_6 kp1_7 kp1_8 kp1_9 kp1_10 kp1_11 kp1_12 kp3_0 kp3_1 kp3_2 kp3_3 kp3_4 kp3_5 kp5_0 kp5_1 kp5_2 kp5_3 kp6_0 kp6_1 kp6_2 kp6_3 kp6_4 kp6_5 kp8_0 kp8_1 kp8_2 kp8_3 kp10_0 kp10_1 kp10_2 kp10_3 kp10_4 kp10_5 kp11_0 kp11_1 kp11_2 kp11_3
          refine (Try.refRight18 lr b1 b2 eps 0 f ap _).mono ?_
          rintro e Wr ⟨rfl, hE⟩
          rw [HE.out]
          replace E0 := (Ext.trans E0 hE)
          replace hi0 := (hi0.ext hE)
          replace hi1 := (hi1.ext hE)
          replace hi2 := (hi2.ext hE)
          replace hi3 := (hi3.ext hE)
          replace p1 := (p1.ext hE)
          replace p3 := (p3.ext hE)
          replace p5 := (p5.ext hE)
          replace p6 := (p6.ext hE)
          replace ir := (ir.ext hE)
          replace szr := (Nat.le_trans szr (Ext.size hE))
          replace i11 := (i11.ext hE)
          replace i12 := (i12.ext hE)
          replace i13 := (i13.ext hE)
          replace sz1 := (Nat.le_trans sz1 (Ext.size hE))
          replace p8 := (p8.ext hE)
          replace p10 := (p10.ext hE)
          replace i21 := (i21.ext hE)
          replace i22 := (i22.ext hE)
          replace i23 := (i23.ext hE)
          replace sz2 := (Nat.le_trans sz2 (Ext.size hE))
          replace p11 := (p11.ext hE)
          clear hE
          have kp1_0 := p1.cell 0 (v := .int .i64 lr) rfl
          have kp1_1 := p1.cell 1 (v := .int .i64 b1) rfl
          have kp1_2 := p1.cell 2 (v := .int .i64 b2) rfl
          have kp1_3 := p1.cell 3 (v := .int .i64 eps) rfl
          have kp1_4 := p1.cell 4 (v := .int .i64 wd) rfl
          have kp1_5 := p1.cell 5 (v := .bool ap) rfl
          have kp1_6 := p1.cell 6 (v := .int .i64 f) rfl
          have kp1_7 := p1.cell 7 (v := .int .i64 pw0) rfl
          have kp1_8 := p1.cell 8 (v := .int .i64 pw1) rfl
          have kp1_9 := p1.cell 9 (v := .slice a0 n0 c0) rfl
          have kp1_10 := p1.cell 10 (v := .slice a1 n1 c1) rfl
          have kp1_11 := p1.cell 11 (v := .slice a2 n2 c2) rfl
          have kp1_12 := p1.cell 12 (v := .slice a3 n3 c3) rfl
          have kp3_0 := p3.cell 0 (v := .int .i64 lr) rfl
          have kp3_1 := p3.cell 1 (v := .int .i64 b1) rfl
          have kp3_2 := p3.cell 2 (v := .int .i64 b2) rfl
          have kp3_3 := p3.cell 3 (v := .int .i64 eps) rfl
          have kp3_4 := p3.cell 4 (v := .int .i64 wd) rfl
          have kp3_5 := p3.cell 5 (v := .bool ap) rfl
          have kp5_0 := p5.cell 0 (v := .slice a0 n0 c0) rfl
          have kp5_1 := p5.cell 1 (v := .slice a1 n1 c1) rfl
          have kp5_2 := p5.cell 2 (v := .slice a2 n2 c2) rfl
          have kp5_3 := p5.cell 3 (v := .slice a3 n3 c3) rfl
          have kp6_0 := p6.cell 0 (v := .int .i64 lr) rfl
          have kp6_1 := p6.cell 1 (v := .int .i64 b1) rfl
          have kp6_2 := p6.cell 2 (v := .int .i64 b2) rfl
          have kp6_3 := p6.cell 3 (v := .int .i64 eps) rfl
          have kp6_4 := p6.cell 4 (v := .int .i64 0) rfl
          have kp6_5 := p6.cell 5 (v := .bool ap) rfl
          have kp8_0 := p8.cell 0 (v := .slice x11 m1 m1) rfl
          have kp8_1 := p8.cell 1 (v := .slice x12 m1 m1) rfl
          have kp8_2 := p8.cell 2 (v := .slice x13 m1 m1) rfl
          have kp8_3 := p8.cell 3 (v := .slice none 0 0) rfl
          have kp10_0 := p10.cell 0 (v := .int .i64 0) rfl
          have kp10_1 := p10.cell 1 (v := .int .i64 b1) rfl
          have kp10_2 := p10.cell 2 (v := .int .i64 b2) rfl
          have kp10_3 := p10.cell 3 (v := .int .i64 eps) rfl
          have kp10_4 := p10.cell 4 (v := .int .i64 wd) rfl
          have kp10_5 := p10.cell 5 (v := .bool ap) rfl
          have kp11_0 := p11.cell 0 (v := .slice x21 m2 m2) rfl
          have kp11_1 := p11.cell 1 (v := .slice x22 m2 m2) rfl
          have kp11_2 := p11.cell 2 (v := .slice x23 m2 m2) rfl
          have kp11_3 := p11.cell 3 (v := .slice none 0 0) rfl
          go_wp2_with fail
          clear kp1_0 kp1_1 kp1_2 kp1_3 kp1_4 kp1_5 kp1_6 kp1_7 kp1_8 kp1_9 kp1_10 kp1_11 kp1_12 kp3_0 kp3_1 kp3_2 kp3_3 kp3_4 kp3_5 kp5_0 kp5_1 kp5_2 kp5_3 kp6_0 kp6_1 kp6_2 kp6_3 kp6_4 kp6_5 kp8_0 kp8_1 kp8_2 kp8_3 kp10_0 kp10_1 kp10_2 kp10_3 kp10_4 kp10_5 kp11_0 kp11_1 kp11_2 kp11_3
          refine (Try.alive18 _).mono ?_
          rintro e We ⟨rfl, hE⟩
          replace E0 := (Ext.trans E0 hE)
          replace hi0 := (hi0.ext hE)
          replace hi1 := (hi1.ext hE)
          replace hi2 := (hi2.ext hE)
          replace hi3 := (hi3.ext hE)
          replace p1 := (p1.ext hE)
          replace p3 := (p3.ext hE)
          replace p5 := (p5.ext hE)
          replace p6 := (p6.ext hE)
          replace ir := (ir.ext hE)
          replace szr := (Nat.le_trans szr (Ext.size hE))
          replace i11 := (i11.ext hE)
          replace i12 := (i12.ext hE)
          replace i13 := (i13.ext hE)
          replace sz1 := (Nat.le_trans sz1 (Ext.size hE))
          replace p8 := (p8.ext hE)
          replace p10 := (p10.ext hE)
          replace i21 := (i21.ext hE)
          replace i22 := (i22.ext hE)
          replace i23 := (i23.ext hE)
          replace sz2 := (Nat.le_trans sz2 (Ext.size hE))
          replace p11 := (p11.ext hE)
          clear hE
          have kp1_0 := p1.cell 0 (v := .int .i64 lr) rfl
          have kp1_1 := p1.cell 1 (v := .int .i64 b1) rfl
          have kp1_2 := p1.cell 2 (v := .int .i64 b2) rfl
          have kp1_3 := p1.cell 3 (v := .int .i64 eps) rfl
          have kp1_4 := p1.cell 4 (v := .int .i64 wd) rfl
          have kp1_5 := p1.cell 5 (v := .bool ap) rfl
          have kp1_6 := p1.cell 6 (v := .int .i64 f) rfl
          have kp1_7 := p1.cell 7 (v := .int .i64 pw0) rfl
          have kp1_8 := p1.cell 8 (v := .int .i64 pw1) rfl
          have kp1_9 := p1.cell 9 (v := .slice a0 n0 c0) rfl
          have kp1_10 := p1.cell 10 (v := .slice a1 n1 c1) rfl
          have kp1_11 := p1.cell 11 (v := .slice a2 n2 c2) rfl
          have kp1_12 := p1.cell 12 (v := .slice a3 n3 c3) rfl
          have kp3_0 := p3.cell 0 (v := .int .i64 lr) rfl
          have kp3_1 := p3.cell 1 (v := .int .i64 b1) rfl
          have kp3_2 := p3.cell 2 (v := .int .i64 b2) rfl
          have kp3_3 := p3.cell 3 (v := .int .i64 eps) rfl
          have kp3_4 := p3.cell 4 (v := .int .i64 wd) rfl
          have kp3_5 := p3.cell 5 (v := .bool ap) rfl
          have kp5_0 := p5.cell 0 (v := .slice a0 n0 c0) rfl
          have kp5_1 := p5.cell 1 (v := .slice a1 n1 c1) rfl
          have kp5_2 := p5.cell 2 (v := .slice a2 n2 c2) rfl
          have kp5_3 := p5.cell 3 (v := .slice a3 n3 c3) rfl
          have kp6_0 := p6.cell 0 (v := .int .i64 lr) rfl
          have kp6_1 := p6.cell 1 (v := .int .i64 b1) rfl
          have kp6_2 := p6.cell 2 (v := .int .i64 b2) rfl
          have kp6_3 := p6.cell 3 (v := .int .i64 eps) rfl
          have kp6_4 := p6.cell 4 (v := .int .i64 0) rfl
          have kp6_5 := p6.cell 5 (v := .bool ap) rfl
          have kp8_0 := p8.cell 0 (v := .slice x11 m1 m1) rfl
          have kp8_1 := p8.cell 1 (v := .slice x12 m1 m1) rfl
          have kp8_2 := p8.cell 2 (v := .slice x13 m1 m1) rfl
          have kp8_3 := p8.cell 3 (v := .slice none 0 0) rfl
          have kp10_0 := p10.cell 0 (v := .int .i64 0) rfl
          have kp10_1 := p10.cell 1 (v := .int .i64 b1) rfl
          have kp10_2 := p10.cell 2 (v := .int .i64 b2) rfl
          have kp10_3 := p10.cell 3 (v := .int .i64 eps) rfl
          have kp10_4 := p10.cell 4 (v := .int .i64 wd) rfl
          have kp10_5 := p10.cell 5 (v := .bool ap) rfl
          have kp11_0 := p11.cell 0 (v := .slice x21 m2 m2) rfl
          have kp11_1 := p11.cell 1 (v := .slice x22 m2 m2) rfl
          have kp11_2 := p11.cell 2 (v := .slice x23 m2 m2) rfl
          have kp11_3 := p11.cell 3 (v := .slice none 0 0) rfl
          go_wp2
          go_ret
          exact ⟨rfl, E0⟩
  · rw [decide_eq_false hf]
    clear hf
    have kp1_0 := p1.cell 0 (v := .int .i64 lr) rfl
    have kp1_1 := p1.cell 1 (v := .int .i64 b1) rfl
    have kp1_2 := p1.cell 2 (v := .int .i64 b2) rfl
    have kp1_3 := p1.cell 3 (v := .int .i64 eps) rfl
    have kp1_4 := p1.cell 4 (v := .int .i64 wd) rfl
    have kp1_5 := p1.cell 5 (v := .bool ap) rfl
    have kp1_6 := p1.cell 6 (v := .int .i64 f) rfl
    have kp1_7 := p1.cell 7 (v := .int .i64 pw0) rfl
    have kp1_8 := p1.cell 8 (v := .int .i64 pw1) rfl
    have kp1_9 := p1.cell 9 (v := .slice a0 n0 c0) rfl
    have kp1_10 := p1.cell 10 (v := .slice a1 n1 c1) rfl
    have kp1_11 := p1.cell 11 (v := .slice a2 n2 c2) rfl
    have kp1_12 := p1.cell 12 (v := .slice a3 n3 c3) rfl
    have kp3_0 := p3.cell 0 (v := .int .i64 lr) rfl
    have kp3_1 := p3.cell 1 (v := .int .i64 b1) rfl
    have kp3_2 := p3.cell 2 (v := .int .i64 b2) rfl
    have kp3_3 := p3.cell 3 (v := .int .i64 eps) rfl
    have kp3_4 := p3.cell 4 (v := .int .i64 wd) rfl
    have kp3_5 := p3.cell 5 (v := .bool ap) rfl
    have kp5_0 := p5.cell 0 (v := .slice a0 n0 c0) rfl
    have kp5_1 := p5.cell 1 (v := .slice a1 n1 c1) rfl
    have kp5_2 := p5.cell 2 (v := .slice a2 n2 c2) rfl
    have kp5_3 := p5.cell 3 (v := .slice a3 n3 c3) rfl
    go_wp2_with fail
    clear kp1_0 kp1_1 kp1_2 kp1_3 kp1_4 kp1_5 kp1_6 kp1_7 kp1_8 kp1_9 kp1_10 kp1_11 kp1_12 kp3_0 kp3_1 kp3_2 kp3_3 kp3_4 kp3_5 kp5_0 kp5_1 kp5_2 kp5_3
    refine (Try.alive18 _).mono ?_
    rintro e We ⟨rfl, hE⟩
    replace E0 := (Ext.trans E0 hE)
    replace hi0 := (hi0.ext hE)
    replace hi1 := (hi1.ext hE)
    replace hi2 := (hi2.ext hE)
    replace hi3 := (hi3.ext hE)
    replace p1 := (p1.ext hE)
    replace p3 := (p3.ext hE)
    replace p5 := (p5.ext hE)
    clear hE
    have kp1_0 := p1.cell 0 (v := .int .i64 lr) rfl
    have kp1_1 := p1.cell 1 (v := .int .i64 b1) rfl
    have kp1_2 := p1.cell 2 (v := .int .i64 b2) rfl
    have kp1_3 := p1.cell 3 (v := .int .i64 eps) rfl
    have kp1_4 := p1.cell 4 (v := .int .i64 wd) rfl
    have kp1_5 := p1.cell 5 (v := .bool ap) rfl
    have kp1_6 := p1.cell 6 (v := .int .i64 f) rfl
    have kp1_7 := p1.cell 7 (v := .int .i64 pw0) rfl
    have kp1_8 := p1.cell 8 (v := .int .i64 pw1) rfl
    have kp1_9 := p1.cell 9 (v := .slice a0 n0 c0) rfl
    have kp1_10 := p1.cell 10 (v := .slice a1 n1 c1) rfl
    have kp1_11 := p1.cell 11 (v := .slice a2 n2 c2) rfl
    have kp1_12 := p1.cell 12 (v := .slice a3 n3 c3) rfl
    have kp3_0 := p3.cell 0 (v := .int .i64 lr) rfl
    have kp3_1 := p3.cell 1 (v := .int .i64 b1) rfl
    have kp3_2 := p3.cell 2 (v := .int .i64 b2) rfl
    have kp3_3 := p3.cell 3 (v := .int .i64 eps) rfl
    have kp3_4 := p3.cell 4 (v := .int .i64 wd) rfl
    have kp3_5 := p3.cell 5 (v := .bool ap) rfl
    have kp5_0 := p5.cell 0 (v := .slice a0 n0 c0) rfl
    have kp5_1 := p5.cell 1 (v := .slice a1 n1 c1) rfl
    have kp5_2 := p5.cell 2 (v := .slice a2 n2 c2) rfl
    have kp5_3 := p5.cell 3 (v := .slice a3 n3 c3) rfl
    go_wp2
    go_ret
    exact ⟨rfl, E0⟩


end Go.Rt
