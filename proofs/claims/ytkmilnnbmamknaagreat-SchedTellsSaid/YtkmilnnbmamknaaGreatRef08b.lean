/-
  Numbers of a fixed point by definition: products, quotients, scaled, roots.
-/
import Derived.Test.YtkmilnnbmamknaaGreatRef08

namespace Go.Rt

open Go.RowKit Go.Proofs

theorem SmR.backP {a : Int} (h : Sm 1 a.natAbs) {K : Nat} (hK : K ≤ 41) : SmR 2 ((a : Rat) / P2 K) := by
  rw [← back_eq]
  exact (SmR.back h K).mono (by omega)

theorem mul_back (a b : Int) (K : Nat) : (a : Rat) / P2 K * ((b : Rat) / P2 K) * P2 K = ((a * b : Int) : Rat) / ((2 ^ K : Nat) : Rat) := by
  have h := P2_pos K
  rw [show (((2 ^ K : Nat)) : Rat) = P2 K from rfl, Rat.intCast_mul]
  have h0 : P2 K ≠ 0 := by intro e; rw [e] at h; exact absurd h (by decide)
  generalize P2 K = p at *
  rw [Rat.div_def, Rat.div_def, Rat.div_def]
  have e : p⁻¹ * p = 1 := Rat.inv_mul_cancel _ h0
  grind

set_option maxRecDepth 100000 in
set_option maxHeartbeats 4000000 in
theorem Tryz.ref08Mul (a b : Int) (K : Nat) (hK : K ≤ 40) (w : World) (ha1 : -9223372036854775808 ≤ a) (ha2 : a < 9223372036854775808) (hb1 : -9223372036854775808 ≤ b) (hb2 : b < 9223372036854775808) :
    Calls Tryz.prog 19 #[.int .i64 a, .int .i64 b, .int .i64 (K : Int)] w fun e w' => e = .returned (.tuple #[.int .i64 (fitV (nearR (((a * b : Int) : Rat) / ((2 ^ K : Nat) : Rat)))), .int .i64 (fitE (nearR (((a * b : Int) : Rat) / ((2 ^ K : Nat) : Rat))))]) ∧ Ext w w' := by
  obtain ⟨V, hV⟩ : ∃ V, fitV (nearR (((a * b : Int) : Rat) / ((2 ^ K : Nat) : Rat))) = V := ⟨_, rfl⟩
  obtain ⟨E, hE0⟩ : ∃ V, fitE (nearR (((a * b : Int) : Rat) / ((2 ^ K : Nat) : Rat))) = V := ⟨_, rfl⟩
  rw [hV, hE0]
  have HV := Lib.hid hV
  have HE := Lib.hid hE0
  clear hV hE0
  have SX : Hid (SmR 2 ((a : Rat) / P2 K)) := Lib.hid (SmR.backP (Sm.small (by omega)) (by omega))
  have SY : Hid (SmR 2 ((b : Rat) / P2 K)) := Lib.hid (SmR.backP (Sm.small (by omega)) (by omega))
  have SP : Hid (SmR 4 ((a : Rat) / P2 K * ((b : Rat) / P2 K))) := Lib.hid (SX.out.mul SY.out)
  have HX := Lib.hid (mul_back a b K)
  have HB := Lib.hid (show (-9223372036854775808 ≤ a ∧ a < 9223372036854775808) ∧ (-9223372036854775808 ≤ b ∧ b < 9223372036854775808) from ⟨⟨ha1, ha2⟩, ⟨hb1, hb2⟩⟩)
  have HK := Lib.hid (And.intro hK (show K ≤ 2000 by omega))
  clear ha1 ha2 hb1 hb2 hK
  obtain ⟨W0, hW0⟩ : ∃ W0, W0 = w := ⟨_, rfl⟩
  have E0 : Ext w W0 := by rw [hW0]; exact Ext.refl w
  go_enter Tryz.func19, Tryz.ntmps19
  go_upto_region 1 with (fail)
  rw [← hW0]
  clear hW0
  have szw9 := Ext.size E0
  refine region_go [.one fun v _ => v = .int .i64 a,
      .one fun v _ => v = .int .i64 (K : Int),
      .one fun v W => ∃ v', v = .tuple #[v', .int .i64 0] ∧ (fun v W => Rw W v ((a : Rat) / P2 K)) v' W,
      .one fun v W => ∃ v', v = .tuple #[v', .int .i64 0] ∧ (fun v W => Rw W v ((a : Rat) / P2 K)) v' W,
      .one fun v W => Rw W v ((a : Rat) / P2 K),
      .one fun v _ => v = .int .i64 0,
      .one fun v W => ∃ g, v = .pointer (some ⟨g, 0, none⟩) ∧ W0.heap.size ≤ g ∧ Form W g 56 3,
      .three 6 4 (fun p r _ W => Put3 W0.heap.size 56 p r W),
      .one fun v _ => v = .int .i64 0]
    (fun W => Ext w W ∧ W0.heap.size ≤ W.heap.size) ⟨Good.is _, Good.is _, (Good.rat _).tup _, (Good.rat _).tup _, Good.rat _, Good.is _, Good.box _ _ _, cert_put3, Good.is _, trivial⟩
    (fun W W1 hS hE => ⟨(Ext.trans hS.1 hE), (Nat.le_trans hS.2 (Ext.size hE))⟩) ⟨E0, Nat.le_refl _⟩ (by kernel_rfl) (by kernel_rfl) (by kernel_rfl) (by kernel_rfl) (A := ?A9) ?hA9 ?howe9 ?hfin9
  case hA9 =>
    intro vs
    simp only [putAll, Act.put, List.setIfInBounds_toArray, List.set_cons_zero, List.set_cons_succ, Nat.zero_add, Nat.reduceAdd]
    exact rfl
  case howe9 =>
    clear E0
    intro hf
    refine ⟨owesE 0 [] hf rfl (by kernel_rfl) ?_, owesE 1 [] hf rfl (by kernel_rfl) ?_, owesE 2 [0, 1] hf rfl (by kernel_rfl) ?_, owesE 3 [2] hf rfl (by kernel_rfl) ?_, owesE 4 [3] hf rfl (by kernel_rfl) ?_, owesE 5 [3] hf rfl (by kernel_rfl) ?_, owesE 6 [] hf rfl (by kernel_rfl) ?_, owesW 7 [6, 4] hf rfl (by kernel_rfl) (by kernel_rfl) ?_, owesE 8 [5] hf rfl (by kernel_rfl) ?_, trivial⟩
    all_goals intro vs W hS hp hx KO hKO
    all_goals simp only [Act.put, List.setIfInBounds_toArray, List.set_cons_zero, List.set_cons_succ] at hKO
    · go_simp
      exact hKO _ W (Ext.refl W) rfl
    · go_simp
      exact hKO _ W (Ext.refl W) rfl
    · have e0 := isOf hp.1
      have e1 := isOf hp.2.1
      simp only [e0, e1] at hKO
      go_simp
      refine (Tryz.ref08Rat a K HK.out.1 _ HB.out.1.1 HB.out.1.2).mono ?_
      rintro e W1 ⟨v, rfl, hv, hE⟩
      exact hKO _ W1 hE ⟨_, rfl, hv⟩
    · have q2 := hp.1
      obtain ⟨u, ev, hu⟩ := q2
      replace ev : vs 2 = _ := ev
      simp only [ev] at hKO
      go_simp
      exact hKO _ W (Ext.refl W) ⟨u, rfl, hu⟩
    · have q3 := hp.1
      obtain ⟨u, ev, hu⟩ := q3
      replace ev : vs 3 = _ := ev
      simp only [ev] at hKO
      go_simp
      exact hKO _ W (Ext.refl W) hu
    · have q3 := hp.1
      obtain ⟨u, ev, hu⟩ := q3
      replace ev : vs 3 = _ := ev
      simp only [ev] at hKO
      go_simp
      exact hKO _ W (Ext.refl W) rfl
    · have hn := Bx3.new W 56 (.bool false) (.slice none 0 0) (.slice none 0 0)
      have hE := Ext.alloc1 W (.cells #[.bool false, .slice none 0 0, .slice none 0 0] 56)
      have hsz := hS.2
      go_simp
      exact hKO _ _ hE ⟨_, rfl, hsz, hn.form⟩
    · have q6 := hp.1
      have q4 := hp.2.1
      obtain ⟨g, ev, hg, hf⟩ := q6
      replace ev : vs 6 = _ := ev
      obtain ⟨x0, y0, z0, hx, hno⟩ := hf.bx3
      have qr := q4
      obtain ⟨b3, a3, n3, c3, d3, m3, o3, er, -, -, -⟩ := qr
      replace er : vs 4 = _ := er
      have r0 := hx.froz0
      have t0 := hx.cell0
      have r1 := hx.froz1
      have t1 := hx.cell1
      have r2 := hx.froz2
      have t2 := hx.cell2
      have hw := Wr.set3 hx hno b3 a3 n3 c3 d3 m3 o3
      have hq := hx.set (.bool b3) (.slice a3 n3 c3) (.slice d3 m3 o3)
      simp only [ev, er] at hKO
      go_simp
      exact hKO _ _ hw ⟨(Ext.wr hS.1 hw (by omega)), (Nat.le_trans hS.2 hw.apart.size)⟩ ⟨g, b3, a3, n3, c3, d3, m3, o3, ev, er, hg, hq⟩
    · have e5 := isOf hp.1
      simp only [e5] at hKO
      go_simp
      exact hKO _ W (Ext.refl W) rfl
  intro vs W9 hS hp
  clear szw9 E0
  obtain ⟨E0, sz9⟩ := hS
  obtain ⟨h9_0, h9_1, h9_2, h9_3, h9_4, h9_5, h9_6, h9_7, h9_8, -⟩ := hp
  obtain ⟨g9_7, b9_7, a9_7, n9_7, c9_7, d9_7, m9_7, o9_7, ev9_7, er9_7, hg9_7, p9_7⟩ := h9_7
  replace ev9_7 : vs 6 = _ := ev9_7
  replace er9_7 : vs 4 = _ := er9_7
  replace h9_4 := (show Rw W9 (vs 4) ((a : Rat) / P2 K) from h9_4)
  rw [er9_7] at h9_4
  replace h9_0 : vs 0 = .int .i64 a := h9_0
  replace h9_1 : vs 1 = .int .i64 (K : Int) := h9_1
  replace h9_5 : vs 5 = .int .i64 0 := h9_5
  replace h9_8 : vs 8 = .int .i64 0 := h9_8
  simp only [ev9_7, er9_7, h9_0, h9_1, h9_5, h9_8]
  clear ev9_7 er9_7 h9_0 h9_1 h9_5 h9_8 h9_2 h9_3 h9_6
  have kp9_7_0 := p9_7.cell0
  have kp9_7_1 := p9_7.cell1
  have kp9_7_2 := p9_7.cell2
  go_upto_region 2 with (fail)
  clear kp9_7_0 kp9_7_1 kp9_7_2
  have ltp9_7 := p9_7.lt
  have szw10 := Ext.size E0
  refine region_go [.one fun v _ => v = .int .i64 b,
      .one fun v _ => v = .int .i64 (K : Int),
      .one fun v W => ∃ v', v = .tuple #[v', .int .i64 0] ∧ (fun v W => Rw W v ((b : Rat) / P2 K)) v' W,
      .one fun v W => ∃ v', v = .tuple #[v', .int .i64 0] ∧ (fun v W => Rw W v ((b : Rat) / P2 K)) v' W,
      .one fun v W => Rw W v ((b : Rat) / P2 K),
      .one fun v _ => v = .int .i64 0,
      .one fun v W => ∃ g, v = .pointer (some ⟨g, 0, none⟩) ∧ W9.heap.size ≤ g ∧ Form W g 56 3,
      .three 6 4 (fun p r _ W => Put3 W9.heap.size 56 p r W),
      .one fun v _ => v = .int .i64 0]
    (fun W => Ext w W ∧ Rw W (.agg #[.bool b9_7, .slice a9_7 n9_7 c9_7, .slice d9_7 m9_7 o9_7]) ((a : Rat) / P2 K) ∧ Bx3 W g9_7 56 (.bool b9_7) (.slice a9_7 n9_7 c9_7) (.slice d9_7 m9_7 o9_7) ∧ W9.heap.size ≤ W.heap.size) ⟨Good.is _, Good.is _, (Good.rat _).tup _, (Good.rat _).tup _, Good.rat _, Good.is _, Good.box _ _ _, cert_put3, Good.is _, trivial⟩
    (fun W W1 hS hE => ⟨(Ext.trans hS.1 hE), (hS.2.1.ext hE), (hS.2.2.1.ext hE), (Nat.le_trans hS.2.2.2 (Ext.size hE))⟩) ⟨E0, h9_4, p9_7, Nat.le_refl _⟩ (by kernel_rfl) (by kernel_rfl) (by kernel_rfl) (by kernel_rfl) (A := ?A10) ?hA10 ?howe10 ?hfin10
  case hA10 =>
    intro vs
    simp only [putAll, Act.put, List.setIfInBounds_toArray, List.set_cons_zero, List.set_cons_succ, Nat.zero_add, Nat.reduceAdd]
    exact rfl
  case howe10 =>
    clear E0 h9_4 p9_7
    intro hf
    refine ⟨owesE 0 [] hf rfl (by kernel_rfl) ?_, owesE 1 [] hf rfl (by kernel_rfl) ?_, owesE 2 [0, 1] hf rfl (by kernel_rfl) ?_, owesE 3 [2] hf rfl (by kernel_rfl) ?_, owesE 4 [3] hf rfl (by kernel_rfl) ?_, owesE 5 [3] hf rfl (by kernel_rfl) ?_, owesE 6 [] hf rfl (by kernel_rfl) ?_, owesW 7 [6, 4] hf rfl (by kernel_rfl) (by kernel_rfl) ?_, owesE 8 [5] hf rfl (by kernel_rfl) ?_, trivial⟩
    all_goals intro vs W hS hp hx KO hKO
    all_goals simp only [Act.put, List.setIfInBounds_toArray, List.set_cons_zero, List.set_cons_succ] at hKO
    · go_simp
      exact hKO _ W (Ext.refl W) rfl
    · go_simp
      exact hKO _ W (Ext.refl W) rfl
    · have e0 := isOf hp.1
      have e1 := isOf hp.2.1
      simp only [e0, e1] at hKO
      go_simp
      refine (Tryz.ref08Rat b K HK.out.1 _ HB.out.2.1 HB.out.2.2).mono ?_
      rintro e W1 ⟨v, rfl, hv, hE⟩
      exact hKO _ W1 hE ⟨_, rfl, hv⟩
    · have q2 := hp.1
      obtain ⟨u, ev, hu⟩ := q2
      replace ev : vs 2 = _ := ev
      simp only [ev] at hKO
      go_simp
      exact hKO _ W (Ext.refl W) ⟨u, rfl, hu⟩
    · have q3 := hp.1
      obtain ⟨u, ev, hu⟩ := q3
      replace ev : vs 3 = _ := ev
      simp only [ev] at hKO
      go_simp
      exact hKO _ W (Ext.refl W) hu
    · have q3 := hp.1
      obtain ⟨u, ev, hu⟩ := q3
      replace ev : vs 3 = _ := ev
      simp only [ev] at hKO
      go_simp
      exact hKO _ W (Ext.refl W) rfl
    · have hn := Bx3.new W 56 (.bool false) (.slice none 0 0) (.slice none 0 0)
      have hE := Ext.alloc1 W (.cells #[.bool false, .slice none 0 0, .slice none 0 0] 56)
      have hsz := hS.2.2.2
      go_simp
      exact hKO _ _ hE ⟨_, rfl, hsz, hn.form⟩
    · have q6 := hp.1
      have q4 := hp.2.1
      obtain ⟨g, ev, hg, hf⟩ := q6
      replace ev : vs 6 = _ := ev
      obtain ⟨x0, y0, z0, hx, hno⟩ := hf.bx3
      have qr := q4
      obtain ⟨b3, a3, n3, c3, d3, m3, o3, er, -, -, -⟩ := qr
      replace er : vs 4 = _ := er
      have r0 := hx.froz0
      have t0 := hx.cell0
      have r1 := hx.froz1
      have t1 := hx.cell1
      have r2 := hx.froz2
      have t2 := hx.cell2
      have hw := Wr.set3 hx hno b3 a3 n3 c3 d3 m3 o3
      have hq := hx.set (.bool b3) (.slice a3 n3 c3) (.slice d3 m3 o3)
      simp only [ev, er] at hKO
      go_simp
      exact hKO _ _ hw ⟨(Ext.wr hS.1 hw (by omega)), (hS.2.1.wr hw), (hS.2.2.1.wr hw (by omega)), (Nat.le_trans hS.2.2.2 hw.apart.size)⟩ ⟨g, b3, a3, n3, c3, d3, m3, o3, ev, er, hg, hq⟩
    · have e5 := isOf hp.1
      simp only [e5] at hKO
      go_simp
      exact hKO _ W (Ext.refl W) rfl
  intro vs W10 hS hp
  clear szw10 E0 h9_4 p9_7
  obtain ⟨E0, h9_4, p9_7, sz10⟩ := hS
  obtain ⟨h10_0, h10_1, h10_2, h10_3, h10_4, h10_5, h10_6, h10_7, h10_8, -⟩ := hp
  obtain ⟨g10_7, b10_7, a10_7, n10_7, c10_7, d10_7, m10_7, o10_7, ev10_7, er10_7, hg10_7, p10_7⟩ := h10_7
  replace ev10_7 : vs 6 = _ := ev10_7
  replace er10_7 : vs 4 = _ := er10_7
  replace h10_4 := (show Rw W10 (vs 4) ((b : Rat) / P2 K) from h10_4)
  rw [er10_7] at h10_4
  replace h10_0 : vs 0 = .int .i64 b := h10_0
  replace h10_1 : vs 1 = .int .i64 (K : Int) := h10_1
  replace h10_5 : vs 5 = .int .i64 0 := h10_5
  replace h10_8 : vs 8 = .int .i64 0 := h10_8
  simp only [ev10_7, er10_7, h10_0, h10_1, h10_5, h10_8]
  clear ev10_7 er10_7 h10_0 h10_1 h10_5 h10_8 h10_2 h10_3 h10_6
  have kp9_7_0 := p9_7.cell0
  have kp9_7_1 := p9_7.cell1
  have kp9_7_2 := p9_7.cell2
  have kp10_7_0 := p10_7.cell0
  have kp10_7_1 := p10_7.cell1
  have kp10_7_2 := p10_7.cell2
  go_upto_region 5 with (fail)
  clear kp9_7_0 kp9_7_1 kp9_7_2 kp10_7_0 kp10_7_1 kp10_7_2
  have ltp10_7 := p10_7.lt
  have szw11 := Ext.size E0
  refine region_go [.one fun v _ => v = .agg #[.bool b9_7, .slice a9_7 n9_7 c9_7, .slice d9_7 m9_7 o9_7],
      .one fun v _ => v = .agg #[.bool b10_7, .slice a10_7 n10_7 c10_7, .slice d10_7 m10_7 o10_7],
      .one fun v W => Rw W v ((a : Rat) / P2 K * ((b : Rat) / P2 K)),
      .one fun v _ => v = .int .i64 (K : Int),
      .one fun v _ => v = .tuple #[.int .i64 V, .int .i64 E],
      .one fun v _ => v = .int .i64 V,
      .one fun v _ => v = .int .i64 E,
      .one fun v _ => v = .int .i64 V,
      .one fun v _ => v = .int .i64 E]
    (fun W => Ext w W ∧ Rw W (.agg #[.bool b9_7, .slice a9_7 n9_7 c9_7, .slice d9_7 m9_7 o9_7]) ((a : Rat) / P2 K) ∧ Bx3 W g9_7 56 (.bool b9_7) (.slice a9_7 n9_7 c9_7) (.slice d9_7 m9_7 o9_7) ∧ Rw W (.agg #[.bool b10_7, .slice a10_7 n10_7 c10_7, .slice d10_7 m10_7 o10_7]) ((b : Rat) / P2 K) ∧ Bx3 W g10_7 56 (.bool b10_7) (.slice a10_7 n10_7 c10_7) (.slice d10_7 m10_7 o10_7) ∧ W10.heap.size ≤ W.heap.size) ⟨Good.is _, Good.is _, Good.rat _, Good.is _, Good.is _, Good.is _, Good.is _, Good.is _, Good.is _, trivial⟩
    (fun W W1 hS hE => ⟨(Ext.trans hS.1 hE), (hS.2.1.ext hE), (hS.2.2.1.ext hE), (hS.2.2.2.1.ext hE), (hS.2.2.2.2.1.ext hE), (Nat.le_trans hS.2.2.2.2.2 (Ext.size hE))⟩) ⟨E0, h9_4, p9_7, h10_4, p10_7, Nat.le_refl _⟩ (by kernel_rfl) (by kernel_rfl) (by kernel_rfl) (by kernel_rfl) (A := ?A11) ?hA11 ?howe11 ?hfin11
  case hA11 =>
    intro vs
    simp only [putAll, Act.put, List.setIfInBounds_toArray, List.set_cons_zero, List.set_cons_succ, Nat.zero_add, Nat.reduceAdd]
    exact rfl
  case howe11 =>
    clear E0 h9_4 p9_7 h10_4 p10_7
    intro hf
    refine ⟨owesE 0 [] hf rfl (by kernel_rfl) ?_, owesE 1 [] hf rfl (by kernel_rfl) ?_, owesE 2 [0, 1] hf rfl (by kernel_rfl) ?_, owesE 3 [] hf rfl (by kernel_rfl) ?_, owesE 4 [2, 3] hf rfl (by kernel_rfl) ?_, owesE 5 [4] hf rfl (by kernel_rfl) ?_, owesE 6 [4] hf rfl (by kernel_rfl) ?_, owesE 7 [5] hf rfl (by kernel_rfl) ?_, owesE 8 [6] hf rfl (by kernel_rfl) ?_, trivial⟩
    all_goals intro vs W hS hp hx KO hKO
    all_goals simp only [Act.put, List.setIfInBounds_toArray, List.set_cons_zero, List.set_cons_succ] at hKO
    · have fc0 := hS.2.2.1.cell0
      have fc1 := hS.2.2.1.cell1
      have fc2 := hS.2.2.1.cell2
      go_simp
      exact hKO _ W (Ext.refl W) rfl
    · have fc0 := hS.2.2.2.2.1.cell0
      have fc1 := hS.2.2.2.2.1.cell1
      have fc2 := hS.2.2.2.2.1.cell2
      go_simp
      exact hKO _ W (Ext.refl W) rfl
    · have e0 := isOf hp.1
      have e1 := isOf hp.2.1
      simp only [e0, e1] at hKO
      go_simp
      refine (Tryz.refRMul (hS.2.1) (hS.2.2.2.1) SX.out SY.out (by omega)).mono ?_
      rintro e W1 ⟨v, rfl, hv, hE⟩
      exact hKO _ W1 hE hv
    · go_simp
      exact hKO _ W (Ext.refl W) rfl
    · have q2 := hp.1
      have e3 := isOf hp.2.1
      simp only [e3] at hKO
      go_simp
      refine (Tryz.near08 q2 SP.out (by omega) K HK.out.2).mono ?_
      rintro e W1 ⟨rfl, hE⟩
      rw [HX.out, HV.out, HE.out]
      exact hKO _ W1 hE rfl
    · have e4 := isOf hp.1
      simp only [e4] at hKO
      go_simp
      exact hKO _ W (Ext.refl W) rfl
    · have e4 := isOf hp.1
      simp only [e4] at hKO
      go_simp
      exact hKO _ W (Ext.refl W) rfl
    · have e5 := isOf hp.1
      simp only [e5] at hKO
      go_simp
      exact hKO _ W (Ext.refl W) rfl
    · have e6 := isOf hp.1
      simp only [e6] at hKO
      go_simp
      exact hKO _ W (Ext.refl W) rfl
  intro vs W11 hS hp
  clear szw11 E0 h9_4 p9_7 h10_4 p10_7
  obtain ⟨E0, h9_4, p9_7, h10_4, p10_7, sz11⟩ := hS
  obtain ⟨h11_0, h11_1, h11_2, h11_3, h11_4, h11_5, h11_6, h11_7, h11_8, -⟩ := hp
  replace h11_0 : vs 0 = .agg #[.bool b9_7, .slice a9_7 n9_7 c9_7, .slice d9_7 m9_7 o9_7] := h11_0
  replace h11_1 : vs 1 = .agg #[.bool b10_7, .slice a10_7 n10_7 c10_7, .slice d10_7 m10_7 o10_7] := h11_1
  replace h11_3 : vs 3 = .int .i64 (K : Int) := h11_3
  replace h11_4 : vs 4 = .tuple #[.int .i64 V, .int .i64 E] := h11_4
  replace h11_5 : vs 5 = .int .i64 V := h11_5
  replace h11_6 : vs 6 = .int .i64 E := h11_6
  replace h11_7 : vs 7 = .int .i64 V := h11_7
  replace h11_8 : vs 8 = .int .i64 E := h11_8
  simp only [h11_0, h11_1, h11_3, h11_4, h11_5, h11_6, h11_7, h11_8]
  replace h11_2 : Rw W11 (vs 2) ((a : Rat) / P2 K * ((b : Rat) / P2 K)) := h11_2
  generalize vs 2 = u11_2 at h11_2 ⊢
  clear h11_0 h11_1 h11_3 h11_4 h11_5 h11_6 h11_7 h11_8
  have kp9_7_0 := p9_7.cell0
  have kp9_7_1 := p9_7.cell1
  have kp9_7_2 := p9_7.cell2
  have kp10_7_0 := p10_7.cell0
  have kp10_7_1 := p10_7.cell1
  have kp10_7_2 := p10_7.cell2
  go_wp2
  go_ret2
  exact ⟨rfl, E0⟩

set_option maxRecDepth 100000 in
set_option maxHeartbeats 4000000 in
theorem Tryz.ref08Scale (a b : Int) (d : Nat) (w : World) (ha1 : -9223372036854775808 ≤ a) (ha2 : a < 9223372036854775808) (hb1 : -9223372036854775808 ≤ b) (hb2 : b < 9223372036854775808) (hd0 : 0 < d) (hd : d < 9223372036854775808) :
    Calls Tryz.prog 16 #[.int .i64 a, .int .i64 b, .int .i64 (d : Int)] w fun e w' => e = .returned (.tuple #[.int .i64 (fitV (nearR (((a * b : Int) : Rat) / (d : Rat)))), .int .i64 (fitE (nearR (((a * b : Int) : Rat) / (d : Rat))))]) ∧ Ext w w' := by
  obtain ⟨V, hV⟩ : ∃ V, fitV (nearR (((a * b : Int) : Rat) / (d : Rat))) = V := ⟨_, rfl⟩
  obtain ⟨E, hE0⟩ : ∃ V, fitE (nearR (((a * b : Int) : Rat) / (d : Rat))) = V := ⟨_, rfl⟩
  rw [hV, hE0]
  have HV := Lib.hid hV
  have HE := Lib.hid hE0
  clear hV hE0
  have hd1 : ¬ ((d : Int) < 1) := by omega
  have hd1d : decide ((d : Int) < 1) = false := decide_eq_false hd1
  have SA : Hid (SmR 1 (a : Rat)) := Lib.hid (SmR.int (by omega))
  have SB : Hid (SmR 1 (b : Rat)) := Lib.hid (SmR.int (by omega))
  have SD : Hid (SmR 2 (((d : Int)) : Rat)) := Lib.hid ((SmR.int (by omega)).mono (by omega))
  have HD0 : Hid ((((d : Int)) : Rat) ≠ 0) := Lib.hid (by exact_mod_cast (show d ≠ 0 by omega))
  have SM : Hid (SmR 2 ((a : Rat) * (b : Rat))) := Lib.hid (SA.out.mul SB.out)
  have SP : Hid (SmR 4 ((a : Rat) * (b : Rat) / (((d : Int)) : Rat))) := Lib.hid (SM.out.div SD.out HD0.out)
  have HX : Hid (nearR ((a : Rat) * (b : Rat) / (((d : Int)) : Rat) * P2 0) = nearR (((a * b : Int) : Rat) / (d : Rat))) := Lib.hid (by rw [P2_zero, Rat.mul_one, Rat.intCast_natCast, Rat.intCast_mul])
  have HB := Lib.hid (show (-9223372036854775808 ≤ a ∧ a < 9223372036854775808) ∧ (-9223372036854775808 ≤ b ∧ b < 9223372036854775808) from ⟨⟨ha1, ha2⟩, ⟨hb1, hb2⟩⟩)
  have HDB := Lib.hid (show -9223372036854775808 ≤ (d : Int) ∧ (d : Int) < 9223372036854775808 by omega)
  clear ha1 ha2 hb1 hb2 hd0 hd
  obtain ⟨W0, hW0⟩ : ∃ W0, W0 = w := ⟨_, rfl⟩
  have E0 : Ext w W0 := by rw [hW0]; exact Ext.refl w
  go_enter Tryz.func16, Tryz.ntmps16
  go_upto_region 3 with (fail)
  rw [← hW0]
  clear hW0
  have szw17 := Ext.size E0
  refine region_go [.one fun v _ => v = .int .i64 a,
      .one fun v W => Rw W v ((a : Rat)),
      .one fun v _ => v = .int .i64 b,
      .one fun v W => Rw W v ((b : Rat)),
      .one fun v W => Rw W v ((a : Rat) * (b : Rat)),
      .one fun v _ => v = .int .i64 (d : Int),
      .one fun v W => Rw W v ((((d : Int)) : Rat)),
      .one fun v W => ∃ v', v = .tuple #[v', .int .i64 0] ∧ (fun v W => Rw W v ((a : Rat) * (b : Rat) / (((d : Int)) : Rat))) v' W,
      .one fun v W => ∃ v', v = .tuple #[v', .int .i64 0] ∧ (fun v W => Rw W v ((a : Rat) * (b : Rat) / (((d : Int)) : Rat))) v' W,
      .one fun v W => Rw W v ((a : Rat) * (b : Rat) / (((d : Int)) : Rat)),
      .one fun v _ => v = .int .i64 0,
      .one fun v W => ∃ g, v = .pointer (some ⟨g, 0, none⟩) ∧ W0.heap.size ≤ g ∧ Form W g 56 3,
      .three 11 9 (fun p r _ W => Put3 W0.heap.size 56 p r W),
      .one fun v _ => v = .int .i64 0]
    (fun W => Ext w W ∧ W0.heap.size ≤ W.heap.size) ⟨Good.is _, Good.rat _, Good.is _, Good.rat _, Good.rat _, Good.is _, Good.rat _, (Good.rat _).tup _, (Good.rat _).tup _, Good.rat _, Good.is _, Good.box _ _ _, cert_put3, Good.is _, trivial⟩
    (fun W W1 hS hE => ⟨(Ext.trans hS.1 hE), (Nat.le_trans hS.2 (Ext.size hE))⟩) ⟨E0, Nat.le_refl _⟩ (by kernel_rfl) (by kernel_rfl) (by kernel_rfl) (by kernel_rfl) (A := ?A17) ?hA17 ?howe17 ?hfin17
  case hA17 =>
    intro vs
    simp only [putAll, Act.put, List.setIfInBounds_toArray, List.set_cons_zero, List.set_cons_succ, Nat.zero_add, Nat.reduceAdd]
    exact rfl
  case howe17 =>
    clear E0
    intro hf
    refine ⟨owesE 0 [] hf rfl (by kernel_rfl) ?_, owesE 1 [0] hf rfl (by kernel_rfl) ?_, owesE 2 [] hf rfl (by kernel_rfl) ?_, owesE 3 [2] hf rfl (by kernel_rfl) ?_, owesE 4 [1, 3] hf rfl (by kernel_rfl) ?_, owesE 5 [] hf rfl (by kernel_rfl) ?_, owesE 6 [5] hf rfl (by kernel_rfl) ?_, owesE 7 [4, 6] hf rfl (by kernel_rfl) ?_, owesE 8 [7] hf rfl (by kernel_rfl) ?_, owesE 9 [8] hf rfl (by kernel_rfl) ?_, owesE 10 [8] hf rfl (by kernel_rfl) ?_, owesE 11 [] hf rfl (by kernel_rfl) ?_, owesW 12 [11, 9] hf rfl (by kernel_rfl) (by kernel_rfl) ?_, owesE 13 [10] hf rfl (by kernel_rfl) ?_, trivial⟩
    all_goals intro vs W hS hp hx KO hKO
    all_goals simp only [Act.put, List.setIfInBounds_toArray, List.set_cons_zero, List.set_cons_succ] at hKO
    · go_simp
      exact hKO _ W (Ext.refl W) rfl
    · have e0 := isOf hp.1
      simp only [e0] at hKO
      go_simp
      refine (Tryz.refROf a _ HB.out.1.1 HB.out.1.2).mono ?_
      rintro e W1 ⟨v, rfl, hv, hE⟩
      exact hKO _ W1 hE hv
    · go_simp
      exact hKO _ W (Ext.refl W) rfl
    · have e2 := isOf hp.1
      simp only [e2] at hKO
      go_simp
      refine (Tryz.refROf b _ HB.out.2.1 HB.out.2.2).mono ?_
      rintro e W1 ⟨v, rfl, hv, hE⟩
      exact hKO _ W1 hE hv
    · have q1 := hp.1
      have q3 := hp.2.1
      go_simp
      refine (Tryz.refRMul q1 q3 SA.out SB.out (by omega)).mono ?_
      rintro e W1 ⟨v, rfl, hv, hE⟩
      exact hKO _ W1 hE hv
    · go_simp
      exact hKO _ W (Ext.refl W) rfl
    · have e5 := isOf hp.1
      simp only [e5] at hKO
      go_simp
      refine (Tryz.refROf (d : Int) _ HDB.out.1 HDB.out.2).mono ?_
      rintro e W1 ⟨v, rfl, hv, hE⟩
      exact hKO _ W1 hE hv
    · have q4 := hp.1
      have q6 := hp.2.1
      go_simp
      refine (Tryz.refRDiv q4 q6 SM.out SD.out (by omega) HD0.out).mono ?_
      rintro e W1 ⟨v, rfl, hv, hE⟩
      exact hKO _ W1 hE ⟨_, rfl, hv⟩
    · have q7 := hp.1
      obtain ⟨u, ev, hu⟩ := q7
      replace ev : vs 7 = _ := ev
      simp only [ev] at hKO
      go_simp
      exact hKO _ W (Ext.refl W) ⟨u, rfl, hu⟩
    · have q8 := hp.1
      obtain ⟨u, ev, hu⟩ := q8
      replace ev : vs 8 = _ := ev
      simp only [ev] at hKO
      go_simp
      exact hKO _ W (Ext.refl W) hu
    · have q8 := hp.1
      obtain ⟨u, ev, hu⟩ := q8
      replace ev : vs 8 = _ := ev
      simp only [ev] at hKO
      go_simp
      exact hKO _ W (Ext.refl W) rfl
    · have hn := Bx3.new W 56 (.bool false) (.slice none 0 0) (.slice none 0 0)
      have hE := Ext.alloc1 W (.cells #[.bool false, .slice none 0 0, .slice none 0 0] 56)
      have hsz := hS.2
      go_simp
      exact hKO _ _ hE ⟨_, rfl, hsz, hn.form⟩
    · have q11 := hp.1
      have q9 := hp.2.1
      obtain ⟨g, ev, hg, hf⟩ := q11
      replace ev : vs 11 = _ := ev
      obtain ⟨x0, y0, z0, hx, hno⟩ := hf.bx3
      have qr := q9
      obtain ⟨b3, a3, n3, c3, d3, m3, o3, er, -, -, -⟩ := qr
      replace er : vs 9 = _ := er
      have r0 := hx.froz0
      have t0 := hx.cell0
      have r1 := hx.froz1
      have t1 := hx.cell1
      have r2 := hx.froz2
      have t2 := hx.cell2
      have hw := Wr.set3 hx hno b3 a3 n3 c3 d3 m3 o3
      have hq := hx.set (.bool b3) (.slice a3 n3 c3) (.slice d3 m3 o3)
      simp only [ev, er] at hKO
      go_simp
      exact hKO _ _ hw ⟨(Ext.wr hS.1 hw (by omega)), (Nat.le_trans hS.2 hw.apart.size)⟩ ⟨g, b3, a3, n3, c3, d3, m3, o3, ev, er, hg, hq⟩
    · have e10 := isOf hp.1
      simp only [e10] at hKO
      go_simp
      exact hKO _ W (Ext.refl W) rfl
  intro vs W17 hS hp
  clear szw17 E0
  obtain ⟨E0, sz17⟩ := hS
  obtain ⟨h17_0, h17_1, h17_2, h17_3, h17_4, h17_5, h17_6, h17_7, h17_8, h17_9, h17_10, h17_11, h17_12, h17_13, -⟩ := hp
  obtain ⟨g17_12, b17_12, a17_12, n17_12, c17_12, d17_12, m17_12, o17_12, ev17_12, er17_12, hg17_12, p17_12⟩ := h17_12
  replace ev17_12 : vs 11 = _ := ev17_12
  replace er17_12 : vs 9 = _ := er17_12
  replace h17_9 := (show Rw W17 (vs 9) ((a : Rat) * (b : Rat) / (((d : Int)) : Rat)) from h17_9)
  rw [er17_12] at h17_9
  replace h17_0 : vs 0 = .int .i64 a := h17_0
  replace h17_2 : vs 2 = .int .i64 b := h17_2
  replace h17_5 : vs 5 = .int .i64 (d : Int) := h17_5
  replace h17_10 : vs 10 = .int .i64 0 := h17_10
  replace h17_13 : vs 13 = .int .i64 0 := h17_13
  simp only [ev17_12, er17_12, h17_0, h17_2, h17_5, h17_10, h17_13]
  replace h17_1 : Rw W17 (vs 1) ((a : Rat)) := h17_1
  generalize vs 1 = u17_1 at h17_1 ⊢
  replace h17_3 : Rw W17 (vs 3) ((b : Rat)) := h17_3
  generalize vs 3 = u17_3 at h17_3 ⊢
  replace h17_4 : Rw W17 (vs 4) ((a : Rat) * (b : Rat)) := h17_4
  generalize vs 4 = u17_4 at h17_4 ⊢
  replace h17_6 : Rw W17 (vs 6) ((((d : Int)) : Rat)) := h17_6
  generalize vs 6 = u17_6 at h17_6 ⊢
  clear ev17_12 er17_12 h17_0 h17_2 h17_5 h17_10 h17_13 h17_7 h17_8 h17_11
  have kp17_12_0 := p17_12.cell0
  have kp17_12_1 := p17_12.cell1
  have kp17_12_2 := p17_12.cell2
  go_upto_region 4 with (fail)
  clear kp17_12_0 kp17_12_1 kp17_12_2
  have ltp17_12 := p17_12.lt
  have szw18 := Ext.size E0
  refine region_go [.one fun v _ => v = .agg #[.bool b17_12, .slice a17_12 n17_12 c17_12, .slice d17_12 m17_12 o17_12],
      .one fun v _ => v = .tuple #[.int .i64 V, .int .i64 E],
      .one fun v _ => v = .int .i64 V,
      .one fun v _ => v = .int .i64 E,
      .one fun v _ => v = .int .i64 V,
      .one fun v _ => v = .int .i64 E]
    (fun W => Ext w W ∧ Rw W (.agg #[.bool b17_12, .slice a17_12 n17_12 c17_12, .slice d17_12 m17_12 o17_12]) ((a : Rat) * (b : Rat) / (((d : Int)) : Rat)) ∧ Bx3 W g17_12 56 (.bool b17_12) (.slice a17_12 n17_12 c17_12) (.slice d17_12 m17_12 o17_12) ∧ Rw W u17_1 ((a : Rat)) ∧ Rw W u17_3 ((b : Rat)) ∧ Rw W u17_4 ((a : Rat) * (b : Rat)) ∧ Rw W u17_6 ((((d : Int)) : Rat)) ∧ W17.heap.size ≤ W.heap.size) ⟨Good.is _, Good.is _, Good.is _, Good.is _, Good.is _, Good.is _, trivial⟩
    (fun W W1 hS hE => ⟨(Ext.trans hS.1 hE), (hS.2.1.ext hE), (hS.2.2.1.ext hE), (hS.2.2.2.1.ext hE), (hS.2.2.2.2.1.ext hE), (hS.2.2.2.2.2.1.ext hE), (hS.2.2.2.2.2.2.1.ext hE), (Nat.le_trans hS.2.2.2.2.2.2.2 (Ext.size hE))⟩) ⟨E0, h17_9, p17_12, h17_1, h17_3, h17_4, h17_6, Nat.le_refl _⟩ (by kernel_rfl) (by kernel_rfl) (by kernel_rfl) (by kernel_rfl) (A := ?A18) ?hA18 ?howe18 ?hfin18
  case hA18 =>
    intro vs
    simp only [putAll, Act.put, List.setIfInBounds_toArray, List.set_cons_zero, List.set_cons_succ, Nat.zero_add, Nat.reduceAdd]
    exact rfl
  case howe18 =>
    clear E0 h17_9 p17_12 h17_1 h17_3 h17_4 h17_6
    intro hf
    refine ⟨owesE 0 [] hf rfl (by kernel_rfl) ?_, owesE 1 [0] hf rfl (by kernel_rfl) ?_, owesE 2 [1] hf rfl (by kernel_rfl) ?_, owesE 3 [1] hf rfl (by kernel_rfl) ?_, owesE 4 [2] hf rfl (by kernel_rfl) ?_, owesE 5 [3] hf rfl (by kernel_rfl) ?_, trivial⟩
    all_goals intro vs W hS hp hx KO hKO
    all_goals simp only [Act.put, List.setIfInBounds_toArray, List.set_cons_zero, List.set_cons_succ] at hKO
    · have fc0 := hS.2.2.1.cell0
      have fc1 := hS.2.2.1.cell1
      have fc2 := hS.2.2.1.cell2
      go_simp
      exact hKO _ W (Ext.refl W) rfl
    · have e0 := isOf hp.1
      simp only [e0] at hKO
      go_simp
      refine (Tryz.near08 (hS.2.1) SP.out (by omega) 0 (by omega)).mono ?_
      rintro e W1 ⟨rfl, hE⟩
      rw [HX.out, HV.out, HE.out]
      exact hKO _ W1 hE rfl
    · have e1 := isOf hp.1
      simp only [e1] at hKO
      go_simp
      exact hKO _ W (Ext.refl W) rfl
    · have e1 := isOf hp.1
      simp only [e1] at hKO
      go_simp
      exact hKO _ W (Ext.refl W) rfl
    · have e2 := isOf hp.1
      simp only [e2] at hKO
      go_simp
      exact hKO _ W (Ext.refl W) rfl
    · have e3 := isOf hp.1
      simp only [e3] at hKO
      go_simp
      exact hKO _ W (Ext.refl W) rfl
  intro vs W18 hS hp
  clear szw18 E0 h17_9 p17_12 h17_1 h17_3 h17_4 h17_6
  obtain ⟨E0, h17_9, p17_12, h17_1, h17_3, h17_4, h17_6, sz18⟩ := hS
  obtain ⟨h18_0, h18_1, h18_2, h18_3, h18_4, h18_5, -⟩ := hp
  replace h18_0 : vs 0 = .agg #[.bool b17_12, .slice a17_12 n17_12 c17_12, .slice d17_12 m17_12 o17_12] := h18_0
  replace h18_1 : vs 1 = .tuple #[.int .i64 V, .int .i64 E] := h18_1
  replace h18_2 : vs 2 = .int .i64 V := h18_2
  replace h18_3 : vs 3 = .int .i64 E := h18_3
  replace h18_4 : vs 4 = .int .i64 V := h18_4
  replace h18_5 : vs 5 = .int .i64 E := h18_5
  simp only [h18_0, h18_1, h18_2, h18_3, h18_4, h18_5]
  clear h18_0 h18_1 h18_2 h18_3 h18_4 h18_5
  have kp17_12_0 := p17_12.cell0
  have kp17_12_1 := p17_12.cell1
  have kp17_12_2 := p17_12.cell2
  go_wp2
  go_ret2
  exact ⟨rfl, E0⟩

end Go.Rt
