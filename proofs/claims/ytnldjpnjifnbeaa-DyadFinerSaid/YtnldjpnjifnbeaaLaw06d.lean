/-
 The laws of chapter 06 (dyads): Back, Sums, Finer.
-/
import Derived.Test.YtnldjpnjifnbeaaSqz
import Derived.Test.YtnldjpnjifnbeaaDyadD
namespace Go.Rt
open Go Go.RowKit Go.Proofs


set_option maxRecDepth 100000 in
set_option maxHeartbeats 4000000 in
theorem Try.lawDyadBack {b1 : Bool} {a1 : Option Addr} {n1 c1 : Nat} {xs1 : List Nat} {w : World} (h1 : Nt w (.slice a1 n1 c1) xs1) (kk : Int) :
  Calls Try.prog 6 #[.agg #[.bool b1, .slice a1 n1 c1], .int .i64 kk] w fun e w' => e = .returned (.bool true) ∧ Ext w w' := by
 cases hg0 : fewZ b1 xs1 ((4 : Nat) : Int)
 ·have HG0 := Lib.hid hg0
  clear hg0
  obtain ⟨W0, hW0⟩ : ∃ W0, W0 = (w.alloc (.cells #[.bool b1, .slice a1 n1 c1] 25)) := ⟨_, rfl⟩
  have E0 : Ext w W0 := by rw [hW0]; exact (Ext.alloc1 w (.cells #[.bool b1, .slice a1 n1 c1] 25))
  replace h1 : Nt W0 (.slice a1 n1 c1) xs1 := h1.ext E0
  have p2 : Bx2 W0 w.heap.size 25 (.bool b1) (.slice a1 n1 c1) := by rw [hW0]; exact (Bx2.new w 25 (.bool b1) (.slice a1 n1 c1))
  go_enter Try.func6, Try.ntmps6
  obtain ⟨kp2_0, kp2_1⟩ := p2.c2
  go_wp2_with fail
  rw [← hW0]
  clear hW0; clear kp2_0 kp2_1
  refine (Try.refZFew h1 ((4 : Nat) : Int)).mono ?_
  rintro e Wf0 ⟨rfl, hE⟩
  rw [HG0.out]; replace E0 := (Ext.trans E0 hE); replace h1 := (h1.ext hE); replace p2 := (p2.ext hE); clear hE
  obtain ⟨kp2_0, kp2_1⟩ := p2.c2
  go_wp2_with fail
  clear kp2_0 kp2_1
  refine (Try.alive06 _).mono ?_
  rintro e We ⟨rfl, hE⟩
  replace E0 := (Ext.trans E0 hE); replace h1 := (h1.ext hE); replace p2 := (p2.ext hE); clear hE
  obtain ⟨kp2_0, kp2_1⟩ := p2.c2
  go_wp2; go_ret
  exact ⟨rfl, E0⟩
 ·have HG0 := Lib.hid hg0
  clear hg0
  obtain ⟨W0, hW0⟩ : ∃ W0, W0 = (w.alloc (.cells #[.bool b1, .slice a1 n1 c1] 25)) := ⟨_, rfl⟩
  have E0 : Ext w W0 := by rw [hW0]; exact (Ext.alloc1 w (.cells #[.bool b1, .slice a1 n1 c1] 25))
  replace h1 : Nt W0 (.slice a1 n1 c1) xs1 := h1.ext E0
  have p2 : Bx2 W0 w.heap.size 25 (.bool b1) (.slice a1 n1 c1) := by rw [hW0]; exact (Bx2.new w 25 (.bool b1) (.slice a1 n1 c1))
  go_enter Try.func6, Try.ntmps6
  obtain ⟨kp2_0, kp2_1⟩ := p2.c2
  go_wp2_with fail
  rw [← hW0]
  clear hW0; clear kp2_0 kp2_1
  refine (Try.refZFew h1 ((4 : Nat) : Int)).mono ?_
  rintro e Wf0 ⟨rfl, hE⟩
  rw [HG0.out]; replace E0 := (Ext.trans E0 hE); replace h1 := (h1.ext hE); replace p2 := (p2.ext hE); clear hE
  obtain ⟨z, hx1, s1⟩ := fewZ_zw (L := 4) h1 HG0.out
  clear h1 HG0
  by_cases hk0 : kk < 0
  ·have hk0d := decide_eq_true hk0
   obtain ⟨kp2_0, kp2_1⟩ := p2.c2
   go_wp2_with fail
   clear kp2_0 kp2_1
   refine (Try.alive06 _).mono ?_
   rintro e We ⟨rfl, hE⟩
   replace E0 := (Ext.trans E0 hE); replace p2 := (p2.ext hE); replace hx1 := (hx1.ext hE); clear hE
   obtain ⟨kp2_0, kp2_1⟩ := p2.c2
   go_wp2; go_ret
   exact ⟨rfl, E0⟩
  ·have hk0d := decide_eq_false hk0
   by_cases hk4 : 400 < kk
   ·have hk4d := decide_eq_true hk4
    obtain ⟨kp2_0, kp2_1⟩ := p2.c2
    go_wp2_with fail
    clear kp2_0 kp2_1
    refine (Try.alive06 _).mono ?_
    rintro e We ⟨rfl, hE⟩
    replace E0 := (Ext.trans E0 hE); replace p2 := (p2.ext hE); replace hx1 := (hx1.ext hE); clear hE
    obtain ⟨kp2_0, kp2_1⟩ := p2.c2
    go_wp2; go_ret
    exact ⟨rfl, E0⟩
   ·have hk4d := decide_eq_false hk4
    obtain ⟨K, rfl⟩ := Int.eq_ofNat_of_zero_le (show 0 ≤ kk by omega)
    have hKb : K ≤ 400 := by omega
    have hk4n : ¬ 400 < K := by omega
    have hk0n : 0 ≤ K := Nat.zero_le K
    have SA : Hid (SmR 12 ((z : Rat) / P2 K)) := Lib.hid (by rw [← back_eq]; exact (SmR.back s1 K).mono (by omega))
    have hw1 : IntKind.i64.wrap ((K : Int) + 1) = ((K + 1 : Nat) : Int) := by rw [IntKind.wrap_i64]; omega
    obtain ⟨kp2_0, kp2_1⟩ := p2.c2
    go_upto_region 3 with (fail)
    clear kp2_0 kp2_1; have ltp2 := p2.lt; have szw98 := Ext.size E0
    refine region_gs [.one fun v _ => v = .agg #[.bool b1, .slice a1 n1 c1],
      .one fun v _ => v = .int .i64 (K : Int),
      .one fun v W => ∃ v', v = .tuple #[v', .int .i64 0] ∧ (fun v W => Rw W v ((z : Rat) / P2 K)) v' W,
      .one fun v W => ∃ v', v = .tuple #[v', .int .i64 0] ∧ (fun v W => Rw W v ((z : Rat) / P2 K)) v' W,
      .one fun v W => Rw W v ((z : Rat) / P2 K),
      .one fun v _ => v = .int .i64 0,
      .one fun v W => ∃ g, v = .pointer (some ⟨g, 0, none⟩) ∧ Wf0.heap.size ≤ g ∧ Form W g 27 3,
      .three 6 4 (fun p r _ W => Put3 Wf0.heap.size 27 p r W),
      .one fun v _ => v = .int .i64 0]
     (fun W => Ext w W ∧ Bx2 W w.heap.size 25 (.bool b1) (.slice a1 n1 c1) ∧ Zw W (.agg #[.bool b1, .slice a1 n1 c1]) z ∧ Wf0.heap.size ≤ W.heap.size) ⟨Good.is _, Good.is _, (Good.rat _).tup _, (Good.rat _).tup _, Good.rat _, Good.is _, Good.box _ _ _, cert_put3, Good.is _, trivial⟩
     ⟨E0, p2, hx1, Nat.le_refl _⟩ (A := ?A98) ?hA98 ?howe98 ?hfin98
    case hA98 =>
     intro vs
     simp only [putAll, Act.put, sA, sZ, sS, Nat.zero_add, Nat.reduceAdd]
     exact rfl
    case howe98 =>
     clear E0 p2 hx1
     intro hf
     refine ⟨oE 0 [] hf rfl ?_, oE 1 [] hf rfl ?_, oE 2 [0, 1] hf rfl ?_, oE 3 [2] hf rfl ?_, oE 4 [3] hf rfl ?_, oE 5 [3] hf rfl ?_, oE 6 [] hf rfl ?_, oW 7 [6, 4] hf rfl ?_, oE 8 [5] hf rfl ?_, trivial⟩
     all_goals intro vs W hS hp hx KO hKO
     all_goals simp only [Act.put, sA, sZ, sS] at hKO
     ·have fc0 := hS.2.1.cell0; have fc1 := hS.2.1.cell1; go_simp; exact hKO _ W (.refl W) rfl
     ·go_simp; exact hKO _ W (.refl W) rfl
     ·have e0 := isOf hp.1; have e1 := isOf hp.2.1; simp only [e0, e1] at hKO; go_simp
      refine (Try.dyadBack (hS.2.2.1) s1 (by omega) K (by omega)).mono ?_
      rintro e W1 ⟨v, rfl, hv, hE⟩
      exact hKO _ W1 hE ⟨_, rfl, hv⟩
     ·have q2 := hp.1
      obtain ⟨u, ev, hu⟩ := q2
      replace ev : vs 2 = _ := ev; simp only [ev] at hKO; go_simp; exact hKO _ W (Ext.refl W) ⟨u, rfl, hu⟩
     ·have q3 := hp.1
      obtain ⟨u, ev, hu⟩ := q3
      replace ev : vs 3 = _ := ev; simp only [ev] at hKO; go_simp; exact hKO _ W (Ext.refl W) hu
     ·have q3 := hp.1
      obtain ⟨u, ev, hu⟩ := q3
      replace ev : vs 3 = _ := ev; simp only [ev] at hKO; go_simp; exact hKO _ W (.refl W) rfl
     ·have hn := Bx3.new W 27 (.bool false) (.slice none 0 0) (.slice none 0 0)
      have hE := Ext.alloc1 W (.cells #[.bool false, .slice none 0 0, .slice none 0 0] 27)
      have hsz := hS.2.2.2
      go_simp
      exact hKO _ _ hE ⟨_, rfl, hsz, hn.form⟩
     ·have q6 := hp.1; have q4 := hp.2.1
      obtain ⟨g, ev, hg, hf⟩ := q6
      replace ev : vs 6 = _ := ev
      obtain ⟨x0_0, x0_1, x0_2, hx, hno⟩ := hf.bx3
      have qr := q4
      obtain ⟨b3, a3, n3, c3, d3, m3, o3, er, -, -, -⟩ := qr
      replace er : vs 4 = _ := er
      have r0 := hx.froz0
      have t0 := hx.cell0
      have r1 := hx.froz1
      have t1 := hx.cell1
      have r2 := hx.froz2
      have t2 := hx.cell2
      have hw := Wr.set3 hx hno b3 a3 n3 c3 d3 m3 o3
      have hq := hx.set (.bool b3) (.slice a3 n3 c3) (.slice d3 m3 o3)
      simp only [ev, er] at hKO; go_simp
      exact hKO _ _ hw ⟨(Ext.wr hS.1 hw (by omega)), (hS.2.1.wr hw (by omega)), (hS.2.2.1.wr hw), (Nat.le_trans hS.2.2.2 hw.apart.size)⟩ ⟨g, b3, a3, n3, c3, d3, m3, o3, ev, er, hg, hq⟩
     ·have e5 := isOf hp.1; simp only [e5] at hKO; go_simp; exact hKO _ W (.refl W) rfl
    intro vs W98 hS hp
    clear szw98 E0 p2 hx1
    obtain ⟨E0, p2, hx1, sz98⟩ := hS
    obtain ⟨h98_0, h98_1, h98_2, h98_3, h98_4, h98_5, h98_6, h98_7, h98_8, -⟩ := hp
    obtain ⟨g98_7, b98_7, a98_7, n98_7, c98_7, d98_7, m98_7, o98_7, ev98_7, er98_7, hg98_7, p98_7⟩ := h98_7
    replace ev98_7 : vs 6 = _ := ev98_7; replace er98_7 : vs 4 = _ := er98_7; replace h98_4 := (show Rw W98 (vs 4) ((z : Rat) / P2 K) from h98_4)
    rw [er98_7] at h98_4
    replace h98_0 : vs 0 = .agg #[.bool b1, .slice a1 n1 c1] := h98_0
    replace h98_1 : vs 1 = .int .i64 (K : Int) := h98_1
    replace h98_5 : vs 5 = .int .i64 0 := h98_5
    replace h98_8 : vs 8 = .int .i64 0 := h98_8
    simp only [ev98_7, er98_7, h98_0, h98_1, h98_5, h98_8]
    clear ev98_7 er98_7 h98_0 h98_1 h98_5 h98_8 h98_2 h98_3 h98_6
    obtain ⟨kp2_0, kp2_1⟩ := p2.c2
    obtain ⟨kp98_7_0, kp98_7_1, kp98_7_2⟩ := p98_7.c3
    go_upto_region 4 with (fail)
    clear kp2_0 kp2_1 kp98_7_0 kp98_7_1 kp98_7_2; have ltp98_7 := p98_7.lt; have szw99 := Ext.size E0
    refine region_gs [.one fun v _ => v = .int .i64 0,
      .one fun v _ => v = .bool false,
      .one fun v _ => v = .bool false,
      .one fun v _ => v = .agg #[.bool b98_7, .slice a98_7 n98_7 c98_7, .slice d98_7 m98_7 o98_7],
      .one fun v _ => v = .bool true,
      .one fun v _ => v = .bool false,
      .one fun v _ => v = .bool false]
     (fun W => Ext w W ∧ Bx2 W w.heap.size 25 (.bool b1) (.slice a1 n1 c1) ∧ Zw W (.agg #[.bool b1, .slice a1 n1 c1]) z ∧ Rw W (.agg #[.bool b98_7, .slice a98_7 n98_7 c98_7, .slice d98_7 m98_7 o98_7]) ((z : Rat) / P2 K) ∧ Bx3 W g98_7 27 (.bool b98_7) (.slice a98_7 n98_7 c98_7) (.slice d98_7 m98_7 o98_7) ∧ W98.heap.size ≤ W.heap.size) ⟨Good.is _, Good.is _, Good.is _, Good.is _, Good.is _, Good.is _, Good.is _, trivial⟩
     ⟨E0, p2, hx1, h98_4, p98_7, Nat.le_refl _⟩ (A := ?A99) ?hA99 ?howe99 ?hfin99
    case hA99 =>
     intro vs
     simp only [putAll, Act.put, sA, sZ, sS, Nat.zero_add, Nat.reduceAdd]
     exact rfl
    case howe99 =>
     clear E0 p2 hx1 h98_4 p98_7
     intro hf
     refine ⟨oE 0 [] hf rfl ?_, oE 1 [0] hf rfl ?_, oE 2 [1] hf rfl ?_, oE 3 [2] hf rfl ?_, oE 4 [2, 3] hf rfl ?_, oE 5 [2, 4] hf rfl ?_, oE 6 [2, 5] hf rfl ?_, trivial⟩
     all_goals intro vs W hS hp hx KO hKO
     all_goals simp only [Act.put, sA, sZ, sS] at hKO
     ·go_simp; exact hKO _ W (.refl W) rfl
     ·have e0 := isOf hp.1; simp only [e0] at hKO; go_simp; exact hKO _ W (.refl W) rfl
     ·have e1 := isOf hp.1; simp only [e1] at hKO; go_simp; exact hKO _ W (.refl W) rfl
     ·have e2 := isOf hp.1; simp only [e2] at hKO; have fc0 := hS.2.2.2.2.1.cell0; have fc1 := hS.2.2.2.2.1.cell1; have fc2 := hS.2.2.2.2.1.cell2; go_simp; exact hKO _ W (.refl W) rfl
     ·have e2 := isOf hp.1; have e3 := isOf hp.2.1; simp only [e2, e3] at hKO; go_simp
      refine (Try.refRRightT (hS.2.2.2.1) SA.out (by omega)).mono ?_
      rintro e W1 ⟨rfl, hE⟩
      exact hKO _ W1 hE rfl
     ·have e2 := isOf hp.1; have e4 := isOf hp.2.1; simp only [e2, e4] at hKO; go_simp; exact hKO _ W (.refl W) rfl
     ·have e2 := isOf hp.1; have e5 := isOf hp.2.1; simp only [e2, e5] at hKO; go_simp; exact hKO _ W (.refl W) rfl
    intro vs W99 hS hp
    clear szw99 E0 p2 hx1 h98_4 p98_7
    obtain ⟨E0, p2, hx1, h98_4, p98_7, sz99⟩ := hS
    obtain ⟨h99_0, h99_1, h99_2, h99_3, h99_4, h99_5, h99_6, -⟩ := hp
    replace h99_0 : vs 0 = .int .i64 0 := h99_0
    replace h99_1 : vs 1 = .bool false := h99_1
    replace h99_2 : vs 2 = .bool false := h99_2
    replace h99_3 : vs 3 = .agg #[.bool b98_7, .slice a98_7 n98_7 c98_7, .slice d98_7 m98_7 o98_7] := h99_3
    replace h99_4 : vs 4 = .bool true := h99_4
    replace h99_5 : vs 5 = .bool false := h99_5
    replace h99_6 : vs 6 = .bool false := h99_6
    simp only [h99_0, h99_1, h99_2, h99_3, h99_4, h99_5, h99_6]
    clear h99_0 h99_1 h99_2 h99_3 h99_4 h99_5 h99_6
    obtain ⟨kp2_0, kp2_1⟩ := p2.c2
    obtain ⟨kp98_7_0, kp98_7_1, kp98_7_2⟩ := p98_7.c3
    go_upto_region 6 with (fail)
    clear kp2_0 kp2_1 kp98_7_0 kp98_7_1 kp98_7_2; have szw100 := Ext.size E0
    refine region_gs [.one fun v _ => v = .agg #[.bool b98_7, .slice a98_7 n98_7 c98_7, .slice d98_7 m98_7 o98_7],
      .one fun v _ => v = .int .i64 (K : Int),
      .one fun v W => ∃ v', v = .tuple #[v', .int .i64 0] ∧ (fun v W => Zw W v z) v' W,
      .one fun v W => ∃ v', v = .tuple #[v', .int .i64 0] ∧ (fun v W => Zw W v z) v' W,
      .one fun v W => Zw W v z,
      .one fun v _ => v = .int .i64 0,
      .one fun v W => ∃ g, v = .pointer (some ⟨g, 0, none⟩) ∧ W99.heap.size ≤ g ∧ Form W g 25 2,
      .three 6 4 (fun p r _ W => Put2 W99.heap.size 25 p r W),
      .one fun v _ => v = .int .i64 0]
     (fun W => Ext w W ∧ Bx2 W w.heap.size 25 (.bool b1) (.slice a1 n1 c1) ∧ Zw W (.agg #[.bool b1, .slice a1 n1 c1]) z ∧ Rw W (.agg #[.bool b98_7, .slice a98_7 n98_7 c98_7, .slice d98_7 m98_7 o98_7]) ((z : Rat) / P2 K) ∧ Bx3 W g98_7 27 (.bool b98_7) (.slice a98_7 n98_7 c98_7) (.slice d98_7 m98_7 o98_7) ∧ W99.heap.size ≤ W.heap.size) ⟨Good.is _, Good.is _, (Good.zed _).tup _, (Good.zed _).tup _, Good.zed _, Good.is _, Good.box _ _ _, cert_put2, Good.is _, trivial⟩
     ⟨E0, p2, hx1, h98_4, p98_7, Nat.le_refl _⟩ (A := ?A100) ?hA100 ?howe100 ?hfin100
    case hA100 =>
     intro vs
     simp only [putAll, Act.put, sA, sZ, sS, Nat.zero_add, Nat.reduceAdd]
     exact rfl
    case howe100 =>
     clear E0 p2 hx1 h98_4 p98_7
     intro hf
     refine ⟨oE 0 [] hf rfl ?_, oE 1 [] hf rfl ?_, oE 2 [0, 1] hf rfl ?_, oE 3 [2] hf rfl ?_, oE 4 [3] hf rfl ?_, oE 5 [3] hf rfl ?_, oE 6 [] hf rfl ?_, oW 7 [6, 4] hf rfl ?_, oE 8 [5] hf rfl ?_, trivial⟩
     all_goals intro vs W hS hp hx KO hKO
     all_goals simp only [Act.put, sA, sZ, sS] at hKO
     ·have fc0 := hS.2.2.2.2.1.cell0; have fc1 := hS.2.2.2.2.1.cell1; have fc2 := hS.2.2.2.2.1.cell2; go_simp; exact hKO _ W (.refl W) rfl
     ·go_simp; exact hKO _ W (.refl W) rfl
     ·have e0 := isOf hp.1; have e1 := isOf hp.2.1; simp only [e0, e1] at hKO; go_simp
      refine (Try.dyadFloor (hS.2.2.2.1) SA.out (by omega) K (by omega)).mono ?_
      rintro e W1 ⟨v, rfl, hv, hE⟩
      rw [back_floor] at hv
      exact hKO _ W1 hE ⟨_, rfl, hv⟩
     ·have q2 := hp.1
      obtain ⟨u, ev, hu⟩ := q2
      replace ev : vs 2 = _ := ev; simp only [ev] at hKO; go_simp; exact hKO _ W (Ext.refl W) ⟨u, rfl, hu⟩
     ·have q3 := hp.1
      obtain ⟨u, ev, hu⟩ := q3
      replace ev : vs 3 = _ := ev; simp only [ev] at hKO; go_simp; exact hKO _ W (Ext.refl W) hu
     ·have q3 := hp.1
      obtain ⟨u, ev, hu⟩ := q3
      replace ev : vs 3 = _ := ev; simp only [ev] at hKO; go_simp; exact hKO _ W (.refl W) rfl
     ·have hn := Bx2.new W 25 (.bool false) (.slice none 0 0)
      have hE := Ext.alloc1 W (.cells #[.bool false, .slice none 0 0] 25)
      have hsz := hS.2.2.2.2.2
      go_simp
      exact hKO _ _ hE ⟨_, rfl, hsz, hn.form⟩
     ·have q6 := hp.1; have q4 := hp.2.1
      obtain ⟨g, ev, hg, hf⟩ := q6
      replace ev : vs 6 = _ := ev
      obtain ⟨x0_0, x0_1, hx, hno⟩ := hf.bx2
      have qr := q4
      obtain ⟨b3, a3, n3, c3, er, -, -⟩ := qr
      replace er : vs 4 = _ := er
      have r0 := hx.froz0
      have t0 := hx.cell0
      have r1 := hx.froz1
      have t1 := hx.cell1
      have hw := Wr.set2 hx hno b3 a3 n3 c3
      have hq := hx.set (.bool b3) (.slice a3 n3 c3)
      simp only [ev, er] at hKO; go_simp
      exact hKO _ _ hw ⟨(Ext.wr hS.1 hw (by omega)), (hS.2.1.wr hw (by omega)), (hS.2.2.1.wr hw), (hS.2.2.2.1.wr hw), (hS.2.2.2.2.1.wr hw (by omega)), (Nat.le_trans hS.2.2.2.2.2 hw.apart.size)⟩ ⟨g, b3, a3, n3, c3, ev, er, hg, hq⟩
     ·have e5 := isOf hp.1; simp only [e5] at hKO; go_simp; exact hKO _ W (.refl W) rfl
    intro vs W100 hS hp
    clear szw100 E0 p2 hx1 h98_4 p98_7
    obtain ⟨E0, p2, hx1, h98_4, p98_7, sz100⟩ := hS
    obtain ⟨h100_0, h100_1, h100_2, h100_3, h100_4, h100_5, h100_6, h100_7, h100_8, -⟩ := hp
    obtain ⟨g100_7, b100_7, a100_7, n100_7, c100_7, ev100_7, er100_7, hg100_7, p100_7⟩ := h100_7
    replace ev100_7 : vs 6 = _ := ev100_7; replace er100_7 : vs 4 = _ := er100_7; replace h100_4 := (show Zw W100 (vs 4) z from h100_4)
    rw [er100_7] at h100_4
    replace h100_0 : vs 0 = .agg #[.bool b98_7, .slice a98_7 n98_7 c98_7, .slice d98_7 m98_7 o98_7] := h100_0
    replace h100_1 : vs 1 = .int .i64 (K : Int) := h100_1
    replace h100_5 : vs 5 = .int .i64 0 := h100_5
    replace h100_8 : vs 8 = .int .i64 0 := h100_8
    simp only [ev100_7, er100_7, h100_0, h100_1, h100_5, h100_8]
    clear ev100_7 er100_7 h100_0 h100_1 h100_5 h100_8 h100_2 h100_3 h100_6
    obtain ⟨kp2_0, kp2_1⟩ := p2.c2
    obtain ⟨kp98_7_0, kp98_7_1, kp98_7_2⟩ := p98_7.c3
    obtain ⟨kp100_7_0, kp100_7_1⟩ := p100_7.c2
    go_upto_region 7 with (fail)
    clear kp2_0 kp2_1 kp98_7_0 kp98_7_1 kp98_7_2 kp100_7_0 kp100_7_1; have ltp100_7 := p100_7.lt; have szw101 := Ext.size E0
    refine region_gs [.one fun v _ => v = .agg #[.bool b98_7, .slice a98_7 n98_7 c98_7, .slice d98_7 m98_7 o98_7],
      .one fun v _ => v = .int .i64 (K : Int),
      .one fun v W => ∃ v', v = .tuple #[v', .int .i64 0] ∧ (fun v W => Zw W v z) v' W,
      .one fun v W => ∃ v', v = .tuple #[v', .int .i64 0] ∧ (fun v W => Zw W v z) v' W,
      .one fun v W => Zw W v z,
      .one fun v _ => v = .int .i64 0,
      .one fun v W => ∃ g, v = .pointer (some ⟨g, 0, none⟩) ∧ W100.heap.size ≤ g ∧ Form W g 25 2,
      .three 6 4 (fun p r _ W => Put2 W100.heap.size 25 p r W),
      .one fun v _ => v = .int .i64 0]
     (fun W => Ext w W ∧ Bx2 W w.heap.size 25 (.bool b1) (.slice a1 n1 c1) ∧ Zw W (.agg #[.bool b1, .slice a1 n1 c1]) z ∧ Rw W (.agg #[.bool b98_7, .slice a98_7 n98_7 c98_7, .slice d98_7 m98_7 o98_7]) ((z : Rat) / P2 K) ∧ Bx3 W g98_7 27 (.bool b98_7) (.slice a98_7 n98_7 c98_7) (.slice d98_7 m98_7 o98_7) ∧ Zw W (.agg #[.bool b100_7, .slice a100_7 n100_7 c100_7]) z ∧ Bx2 W g100_7 25 (.bool b100_7) (.slice a100_7 n100_7 c100_7) ∧ W100.heap.size ≤ W.heap.size) ⟨Good.is _, Good.is _, (Good.zed _).tup _, (Good.zed _).tup _, Good.zed _, Good.is _, Good.box _ _ _, cert_put2, Good.is _, trivial⟩
     ⟨E0, p2, hx1, h98_4, p98_7, h100_4, p100_7, Nat.le_refl _⟩ (A := ?A101) ?hA101 ?howe101 ?hfin101
    case hA101 =>
     intro vs
     simp only [putAll, Act.put, sA, sZ, sS, Nat.zero_add, Nat.reduceAdd]
     exact rfl
    case howe101 =>
     clear E0 p2 hx1 h98_4 p98_7 h100_4 p100_7
     intro hf
     refine ⟨oE 0 [] hf rfl ?_, oE 1 [] hf rfl ?_, oE 2 [0, 1] hf rfl ?_, oE 3 [2] hf rfl ?_, oE 4 [3] hf rfl ?_, oE 5 [3] hf rfl ?_, oE 6 [] hf rfl ?_, oW 7 [6, 4] hf rfl ?_, oE 8 [5] hf rfl ?_, trivial⟩
     all_goals intro vs W hS hp hx KO hKO
     all_goals simp only [Act.put, sA, sZ, sS] at hKO
     ·have fc0 := hS.2.2.2.2.1.cell0; have fc1 := hS.2.2.2.2.1.cell1; have fc2 := hS.2.2.2.2.1.cell2; go_simp; exact hKO _ W (.refl W) rfl
     ·go_simp; exact hKO _ W (.refl W) rfl
     ·have e0 := isOf hp.1; have e1 := isOf hp.2.1; simp only [e0, e1] at hKO; go_simp
      refine (Try.dyadCeil (hS.2.2.2.1) SA.out (by omega) K (by omega)).mono ?_
      rintro e W1 ⟨v, rfl, hv, hE⟩
      rw [back_ceil] at hv
      exact hKO _ W1 hE ⟨_, rfl, hv⟩
     ·have q2 := hp.1
      obtain ⟨u, ev, hu⟩ := q2
      replace ev : vs 2 = _ := ev; simp only [ev] at hKO; go_simp; exact hKO _ W (Ext.refl W) ⟨u, rfl, hu⟩
     ·have q3 := hp.1
      obtain ⟨u, ev, hu⟩ := q3
      replace ev : vs 3 = _ := ev; simp only [ev] at hKO; go_simp; exact hKO _ W (Ext.refl W) hu
     ·have q3 := hp.1
      obtain ⟨u, ev, hu⟩ := q3
      replace ev : vs 3 = _ := ev; simp only [ev] at hKO; go_simp; exact hKO _ W (.refl W) rfl
     ·have hn := Bx2.new W 25 (.bool false) (.slice none 0 0)
      have hE := Ext.alloc1 W (.cells #[.bool false, .slice none 0 0] 25)
      have hsz := hS.2.2.2.2.2.2.2
      go_simp
      exact hKO _ _ hE ⟨_, rfl, hsz, hn.form⟩
     ·have q6 := hp.1; have q4 := hp.2.1
      obtain ⟨g, ev, hg, hf⟩ := q6
      replace ev : vs 6 = _ := ev
      obtain ⟨x0_0, x0_1, hx, hno⟩ := hf.bx2
      have qr := q4
      obtain ⟨b3, a3, n3, c3, er, -, -⟩ := qr
      replace er : vs 4 = _ := er
      have r0 := hx.froz0
      have t0 := hx.cell0
      have r1 := hx.froz1
      have t1 := hx.cell1
      have hw := Wr.set2 hx hno b3 a3 n3 c3
      have hq := hx.set (.bool b3) (.slice a3 n3 c3)
      simp only [ev, er] at hKO; go_simp
      exact hKO _ _ hw ⟨(Ext.wr hS.1 hw (by omega)), (hS.2.1.wr hw (by omega)), (hS.2.2.1.wr hw), (hS.2.2.2.1.wr hw), (hS.2.2.2.2.1.wr hw (by omega)), (hS.2.2.2.2.2.1.wr hw), (hS.2.2.2.2.2.2.1.wr hw (by omega)), (Nat.le_trans hS.2.2.2.2.2.2.2 hw.apart.size)⟩ ⟨g, b3, a3, n3, c3, ev, er, hg, hq⟩
     ·have e5 := isOf hp.1; simp only [e5] at hKO; go_simp; exact hKO _ W (.refl W) rfl
    intro vs W101 hS hp
    clear szw101 E0 p2 hx1 h98_4 p98_7 h100_4 p100_7
    obtain ⟨E0, p2, hx1, h98_4, p98_7, h100_4, p100_7, sz101⟩ := hS
    obtain ⟨h101_0, h101_1, h101_2, h101_3, h101_4, h101_5, h101_6, h101_7, h101_8, -⟩ := hp
    obtain ⟨g101_7, b101_7, a101_7, n101_7, c101_7, ev101_7, er101_7, hg101_7, p101_7⟩ := h101_7
    replace ev101_7 : vs 6 = _ := ev101_7; replace er101_7 : vs 4 = _ := er101_7; replace h101_4 := (show Zw W101 (vs 4) z from h101_4)
    rw [er101_7] at h101_4
    replace h101_0 : vs 0 = .agg #[.bool b98_7, .slice a98_7 n98_7 c98_7, .slice d98_7 m98_7 o98_7] := h101_0
    replace h101_1 : vs 1 = .int .i64 (K : Int) := h101_1
    replace h101_5 : vs 5 = .int .i64 0 := h101_5
    replace h101_8 : vs 8 = .int .i64 0 := h101_8
    simp only [ev101_7, er101_7, h101_0, h101_1, h101_5, h101_8]
    clear ev101_7 er101_7 h101_0 h101_1 h101_5 h101_8 h101_2 h101_3 h101_6
    obtain ⟨kp2_0, kp2_1⟩ := p2.c2
    obtain ⟨kp98_7_0, kp98_7_1, kp98_7_2⟩ := p98_7.c3
    obtain ⟨kp100_7_0, kp100_7_1⟩ := p100_7.c2
    obtain ⟨kp101_7_0, kp101_7_1⟩ := p101_7.c2
    go_upto_region 8 with (fail)
    clear kp2_0 kp2_1 kp98_7_0 kp98_7_1 kp98_7_2 kp100_7_0 kp100_7_1 kp101_7_0 kp101_7_1; have ltp101_7 := p101_7.lt; have szw102 := Ext.size E0
    refine region_gs [.one fun v _ => v = .agg #[.bool b98_7, .slice a98_7 n98_7 c98_7, .slice d98_7 m98_7 o98_7],
      .one fun v _ => v = .int .i64 (K : Int),
      .one fun v W => ∃ v', v = .tuple #[v', .int .i64 0] ∧ (fun v W => Zw W v z) v' W,
      .one fun v W => ∃ v', v = .tuple #[v', .int .i64 0] ∧ (fun v W => Zw W v z) v' W,
      .one fun v W => Zw W v z,
      .one fun v _ => v = .int .i64 0,
      .one fun v W => ∃ g, v = .pointer (some ⟨g, 0, none⟩) ∧ W101.heap.size ≤ g ∧ Form W g 25 2,
      .three 6 4 (fun p r _ W => Put2 W101.heap.size 25 p r W),
      .one fun v _ => v = .int .i64 0]
     (fun W => Ext w W ∧ Bx2 W w.heap.size 25 (.bool b1) (.slice a1 n1 c1) ∧ Zw W (.agg #[.bool b1, .slice a1 n1 c1]) z ∧ Rw W (.agg #[.bool b98_7, .slice a98_7 n98_7 c98_7, .slice d98_7 m98_7 o98_7]) ((z : Rat) / P2 K) ∧ Bx3 W g98_7 27 (.bool b98_7) (.slice a98_7 n98_7 c98_7) (.slice d98_7 m98_7 o98_7) ∧ Zw W (.agg #[.bool b100_7, .slice a100_7 n100_7 c100_7]) z ∧ Bx2 W g100_7 25 (.bool b100_7) (.slice a100_7 n100_7 c100_7) ∧ Zw W (.agg #[.bool b101_7, .slice a101_7 n101_7 c101_7]) z ∧ Bx2 W g101_7 25 (.bool b101_7) (.slice a101_7 n101_7 c101_7) ∧ W101.heap.size ≤ W.heap.size) ⟨Good.is _, Good.is _, (Good.zed _).tup _, (Good.zed _).tup _, Good.zed _, Good.is _, Good.box _ _ _, cert_put2, Good.is _, trivial⟩
     ⟨E0, p2, hx1, h98_4, p98_7, h100_4, p100_7, h101_4, p101_7, Nat.le_refl _⟩ (A := ?A102) ?hA102 ?howe102 ?hfin102
    case hA102 =>
     intro vs
     simp only [putAll, Act.put, sA, sZ, sS, Nat.zero_add, Nat.reduceAdd]
     exact rfl
    case howe102 =>
     clear E0 p2 hx1 h98_4 p98_7 h100_4 p100_7 h101_4 p101_7
     intro hf
     refine ⟨oE 0 [] hf rfl ?_, oE 1 [] hf rfl ?_, oE 2 [0, 1] hf rfl ?_, oE 3 [2] hf rfl ?_, oE 4 [3] hf rfl ?_, oE 5 [3] hf rfl ?_, oE 6 [] hf rfl ?_, oW 7 [6, 4] hf rfl ?_, oE 8 [5] hf rfl ?_, trivial⟩
     all_goals intro vs W hS hp hx KO hKO
     all_goals simp only [Act.put, sA, sZ, sS] at hKO
     ·have fc0 := hS.2.2.2.2.1.cell0; have fc1 := hS.2.2.2.2.1.cell1; have fc2 := hS.2.2.2.2.1.cell2; go_simp; exact hKO _ W (.refl W) rfl
     ·go_simp; exact hKO _ W (.refl W) rfl
     ·have e0 := isOf hp.1; have e1 := isOf hp.2.1; simp only [e0, e1] at hKO; go_simp
      refine (Try.dyadNear (hS.2.2.2.1) SA.out (by omega) K (by omega)).mono ?_
      rintro e W1 ⟨v, rfl, hv, hE⟩
      rw [back_near] at hv
      exact hKO _ W1 hE ⟨_, rfl, hv⟩
     ·have q2 := hp.1
      obtain ⟨u, ev, hu⟩ := q2
      replace ev : vs 2 = _ := ev; simp only [ev] at hKO; go_simp; exact hKO _ W (Ext.refl W) ⟨u, rfl, hu⟩
     ·have q3 := hp.1
      obtain ⟨u, ev, hu⟩ := q3
      replace ev : vs 3 = _ := ev; simp only [ev] at hKO; go_simp; exact hKO _ W (Ext.refl W) hu
     ·have q3 := hp.1
      obtain ⟨u, ev, hu⟩ := q3
      replace ev : vs 3 = _ := ev; simp only [ev] at hKO; go_simp; exact hKO _ W (.refl W) rfl
     ·have hn := Bx2.new W 25 (.bool false) (.slice none 0 0)
      have hE := Ext.alloc1 W (.cells #[.bool false, .slice none 0 0] 25)
      have hsz := hS.2.2.2.2.2.2.2.2.2
      go_simp
      exact hKO _ _ hE ⟨_, rfl, hsz, hn.form⟩
     ·have q6 := hp.1; have q4 := hp.2.1
      obtain ⟨g, ev, hg, hf⟩ := q6
      replace ev : vs 6 = _ := ev
      obtain ⟨x0_0, x0_1, hx, hno⟩ := hf.bx2
      have qr := q4
      obtain ⟨b3, a3, n3, c3, er, -, -⟩ := qr
      replace er : vs 4 = _ := er
      have r0 := hx.froz0
      have t0 := hx.cell0
      have r1 := hx.froz1
      have t1 := hx.cell1
      have hw := Wr.set2 hx hno b3 a3 n3 c3
      have hq := hx.set (.bool b3) (.slice a3 n3 c3)
      simp only [ev, er] at hKO; go_simp
      exact hKO _ _ hw ⟨(Ext.wr hS.1 hw (by omega)), (hS.2.1.wr hw (by omega)), (hS.2.2.1.wr hw), (hS.2.2.2.1.wr hw), (hS.2.2.2.2.1.wr hw (by omega)), (hS.2.2.2.2.2.1.wr hw), (hS.2.2.2.2.2.2.1.wr hw (by omega)), (hS.2.2.2.2.2.2.2.1.wr hw), (hS.2.2.2.2.2.2.2.2.1.wr hw (by omega)), (Nat.le_trans hS.2.2.2.2.2.2.2.2.2 hw.apart.size)⟩ ⟨g, b3, a3, n3, c3, ev, er, hg, hq⟩
     ·have e5 := isOf hp.1; simp only [e5] at hKO; go_simp; exact hKO _ W (.refl W) rfl
    intro vs W102 hS hp
    clear szw102 E0 p2 hx1 h98_4 p98_7 h100_4 p100_7 h101_4 p101_7
    obtain ⟨E0, p2, hx1, h98_4, p98_7, h100_4, p100_7, h101_4, p101_7, sz102⟩ := hS
    obtain ⟨h102_0, h102_1, h102_2, h102_3, h102_4, h102_5, h102_6, h102_7, h102_8, -⟩ := hp
    obtain ⟨g102_7, b102_7, a102_7, n102_7, c102_7, ev102_7, er102_7, hg102_7, p102_7⟩ := h102_7
    replace ev102_7 : vs 6 = _ := ev102_7; replace er102_7 : vs 4 = _ := er102_7; replace h102_4 := (show Zw W102 (vs 4) z from h102_4)
    rw [er102_7] at h102_4
    replace h102_0 : vs 0 = .agg #[.bool b98_7, .slice a98_7 n98_7 c98_7, .slice d98_7 m98_7 o98_7] := h102_0
    replace h102_1 : vs 1 = .int .i64 (K : Int) := h102_1
    replace h102_5 : vs 5 = .int .i64 0 := h102_5
    replace h102_8 : vs 8 = .int .i64 0 := h102_8
    simp only [ev102_7, er102_7, h102_0, h102_1, h102_5, h102_8]
    clear ev102_7 er102_7 h102_0 h102_1 h102_5 h102_8 h102_2 h102_3 h102_6
    obtain ⟨kp2_0, kp2_1⟩ := p2.c2
    obtain ⟨kp98_7_0, kp98_7_1, kp98_7_2⟩ := p98_7.c3
    obtain ⟨kp100_7_0, kp100_7_1⟩ := p100_7.c2
    obtain ⟨kp101_7_0, kp101_7_1⟩ := p101_7.c2
    obtain ⟨kp102_7_0, kp102_7_1⟩ := p102_7.c2
    go_upto_region 9 with (fail)
    clear kp2_0 kp2_1 kp98_7_0 kp98_7_1 kp98_7_2 kp100_7_0 kp100_7_1 kp101_7_0 kp101_7_1 kp102_7_0 kp102_7_1; have ltp102_7 := p102_7.lt; have szw103 := Ext.size E0
    refine region_gs [.one fun v _ => v = .agg #[.bool b98_7, .slice a98_7 n98_7 c98_7, .slice d98_7 m98_7 o98_7],
      .one fun v _ => v = .int .i64 (K : Int),
      .one fun v _ => v = .int .i64 ((K + 1 : Nat) : Int),
      .one fun v W => ∃ v', v = .tuple #[v', .int .i64 0] ∧ (fun v W => Zw W v ((z + z))) v' W,
      .one fun v W => ∃ v', v = .tuple #[v', .int .i64 0] ∧ (fun v W => Zw W v ((z + z))) v' W,
      .one fun v W => Zw W v ((z + z)),
      .one fun v _ => v = .int .i64 0,
      .one fun v W => ∃ g, v = .pointer (some ⟨g, 0, none⟩) ∧ W102.heap.size ≤ g ∧ Form W g 25 2,
      .three 7 5 (fun p r _ W => Put2 W102.heap.size 25 p r W),
      .one fun v _ => v = .int .i64 0]
     (fun W => Ext w W ∧ Bx2 W w.heap.size 25 (.bool b1) (.slice a1 n1 c1) ∧ Zw W (.agg #[.bool b1, .slice a1 n1 c1]) z ∧ Rw W (.agg #[.bool b98_7, .slice a98_7 n98_7 c98_7, .slice d98_7 m98_7 o98_7]) ((z : Rat) / P2 K) ∧ Bx3 W g98_7 27 (.bool b98_7) (.slice a98_7 n98_7 c98_7) (.slice d98_7 m98_7 o98_7) ∧ Zw W (.agg #[.bool b100_7, .slice a100_7 n100_7 c100_7]) z ∧ Bx2 W g100_7 25 (.bool b100_7) (.slice a100_7 n100_7 c100_7) ∧ Zw W (.agg #[.bool b101_7, .slice a101_7 n101_7 c101_7]) z ∧ Bx2 W g101_7 25 (.bool b101_7) (.slice a101_7 n101_7 c101_7) ∧ Zw W (.agg #[.bool b102_7, .slice a102_7 n102_7 c102_7]) z ∧ Bx2 W g102_7 25 (.bool b102_7) (.slice a102_7 n102_7 c102_7) ∧ W102.heap.size ≤ W.heap.size) ⟨Good.is _, Good.is _, Good.is _, (Good.zed _).tup _, (Good.zed _).tup _, Good.zed _, Good.is _, Good.box _ _ _, cert_put2, Good.is _, trivial⟩
     ⟨E0, p2, hx1, h98_4, p98_7, h100_4, p100_7, h101_4, p101_7, h102_4, p102_7, Nat.le_refl _⟩ (A := ?A103) ?hA103 ?howe103 ?hfin103
    case hA103 =>
     intro vs
     simp only [putAll, Act.put, sA, sZ, sS, Nat.zero_add, Nat.reduceAdd]
     exact rfl
    case howe103 =>
     clear E0 p2 hx1 h98_4 p98_7 h100_4 p100_7 h101_4 p101_7 h102_4 p102_7
     intro hf
     refine ⟨oE 0 [] hf rfl ?_, oE 1 [] hf rfl ?_, oE 2 [1] hf rfl ?_, oE 3 [0, 2] hf rfl ?_, oE 4 [3] hf rfl ?_, oE 5 [4] hf rfl ?_, oE 6 [4] hf rfl ?_, oE 7 [] hf rfl ?_, oW 8 [7, 5] hf rfl ?_, oE 9 [6] hf rfl ?_, trivial⟩
     all_goals intro vs W hS hp hx KO hKO
     all_goals simp only [Act.put, sA, sZ, sS] at hKO
     ·have fc0 := hS.2.2.2.2.1.cell0; have fc1 := hS.2.2.2.2.1.cell1; have fc2 := hS.2.2.2.2.1.cell2; go_simp; exact hKO _ W (.refl W) rfl
     ·go_simp; exact hKO _ W (.refl W) rfl
     ·have e1 := isOf hp.1; simp only [e1] at hKO; go_simp; exact hKO _ W (.refl W) rfl
     ·have e0 := isOf hp.1; have e2 := isOf hp.2.1; simp only [e0, e2] at hKO; go_simp
      refine (Try.dyadNear (hS.2.2.2.1) SA.out (by omega) (K + 1) (by omega)).mono ?_
      rintro e W1 ⟨v, rfl, hv, hE⟩
      rw [back_fine] at hv
      exact hKO _ W1 hE ⟨_, rfl, hv⟩
     ·have q3 := hp.1
      obtain ⟨u, ev, hu⟩ := q3
      replace ev : vs 3 = _ := ev; simp only [ev] at hKO; go_simp; exact hKO _ W (Ext.refl W) ⟨u, rfl, hu⟩
     ·have q4 := hp.1
      obtain ⟨u, ev, hu⟩ := q4
      replace ev : vs 4 = _ := ev; simp only [ev] at hKO; go_simp; exact hKO _ W (Ext.refl W) hu
     ·have q4 := hp.1
      obtain ⟨u, ev, hu⟩ := q4
      replace ev : vs 4 = _ := ev; simp only [ev] at hKO; go_simp; exact hKO _ W (.refl W) rfl
     ·have hn := Bx2.new W 25 (.bool false) (.slice none 0 0)
      have hE := Ext.alloc1 W (.cells #[.bool false, .slice none 0 0] 25)
      have hsz := hS.2.2.2.2.2.2.2.2.2.2.2
      go_simp
      exact hKO _ _ hE ⟨_, rfl, hsz, hn.form⟩
     ·have q7 := hp.1; have q5 := hp.2.1
      obtain ⟨g, ev, hg, hf⟩ := q7
      replace ev : vs 7 = _ := ev
      obtain ⟨x0_0, x0_1, hx, hno⟩ := hf.bx2
      have qr := q5
      obtain ⟨b3, a3, n3, c3, er, -, -⟩ := qr
      replace er : vs 5 = _ := er
      have r0 := hx.froz0
      have t0 := hx.cell0
      have r1 := hx.froz1
      have t1 := hx.cell1
      have hw := Wr.set2 hx hno b3 a3 n3 c3
      have hq := hx.set (.bool b3) (.slice a3 n3 c3)
      simp only [ev, er] at hKO; go_simp
      exact hKO _ _ hw ⟨(Ext.wr hS.1 hw (by omega)), (hS.2.1.wr hw (by omega)), (hS.2.2.1.wr hw), (hS.2.2.2.1.wr hw), (hS.2.2.2.2.1.wr hw (by omega)), (hS.2.2.2.2.2.1.wr hw), (hS.2.2.2.2.2.2.1.wr hw (by omega)), (hS.2.2.2.2.2.2.2.1.wr hw), (hS.2.2.2.2.2.2.2.2.1.wr hw (by omega)), (hS.2.2.2.2.2.2.2.2.2.1.wr hw), (hS.2.2.2.2.2.2.2.2.2.2.1.wr hw (by omega)), (Nat.le_trans hS.2.2.2.2.2.2.2.2.2.2.2 hw.apart.size)⟩ ⟨g, b3, a3, n3, c3, ev, er, hg, hq⟩
     ·have e6 := isOf hp.1; simp only [e6] at hKO; go_simp; exact hKO _ W (.refl W) rfl
    intro vs W103 hS hp
    clear szw103 E0 p2 hx1 h98_4 p98_7 h100_4 p100_7 h101_4 p101_7 h102_4 p102_7
    obtain ⟨E0, p2, hx1, h98_4, p98_7, h100_4, p100_7, h101_4, p101_7, h102_4, p102_7, sz103⟩ := hS
    obtain ⟨h103_0, h103_1, h103_2, h103_3, h103_4, h103_5, h103_6, h103_7, h103_8, h103_9, -⟩ := hp
    obtain ⟨g103_8, b103_8, a103_8, n103_8, c103_8, ev103_8, er103_8, hg103_8, p103_8⟩ := h103_8
    replace ev103_8 : vs 7 = _ := ev103_8; replace er103_8 : vs 5 = _ := er103_8; replace h103_5 := (show Zw W103 (vs 5) ((z + z)) from h103_5)
    rw [er103_8] at h103_5
    replace h103_0 : vs 0 = .agg #[.bool b98_7, .slice a98_7 n98_7 c98_7, .slice d98_7 m98_7 o98_7] := h103_0
    replace h103_1 : vs 1 = .int .i64 (K : Int) := h103_1
    replace h103_2 : vs 2 = .int .i64 ((K + 1 : Nat) : Int) := h103_2
    replace h103_6 : vs 6 = .int .i64 0 := h103_6
    replace h103_9 : vs 9 = .int .i64 0 := h103_9
    simp only [ev103_8, er103_8, h103_0, h103_1, h103_2, h103_6, h103_9]
    clear ev103_8 er103_8 h103_0 h103_1 h103_2 h103_6 h103_9 h103_3 h103_4 h103_7
    obtain ⟨kp2_0, kp2_1⟩ := p2.c2
    obtain ⟨kp98_7_0, kp98_7_1, kp98_7_2⟩ := p98_7.c3
    obtain ⟨kp100_7_0, kp100_7_1⟩ := p100_7.c2
    obtain ⟨kp101_7_0, kp101_7_1⟩ := p101_7.c2
    obtain ⟨kp102_7_0, kp102_7_1⟩ := p102_7.c2
    obtain ⟨kp103_8_0, kp103_8_1⟩ := p103_8.c2
    go_upto_region 10 with (fail)
    clear kp2_0 kp2_1 kp98_7_0 kp98_7_1 kp98_7_2 kp100_7_0 kp100_7_1 kp101_7_0 kp101_7_1 kp102_7_0 kp102_7_1 kp103_8_0 kp103_8_1; have ltp103_8 := p103_8.lt; have szw104 := Ext.size E0
    refine region_gs [.one fun v _ => v = .bool true,
      .one fun v _ => v = .bool true,
      .one fun v _ => v = .agg #[.bool b100_7, .slice a100_7 n100_7 c100_7],
      .one fun v _ => v = .agg #[.bool b1, .slice a1 n1 c1],
      .one fun v _ => v = .bool true,
      .one fun v _ => v = .bool true,
      .one fun v _ => v = .bool true,
      .one fun v _ => v = .agg #[.bool b101_7, .slice a101_7 n101_7 c101_7],
      .one fun v _ => v = .agg #[.bool b1, .slice a1 n1 c1],
      .one fun v _ => v = .bool true,
      .one fun v _ => v = .bool true,
      .one fun v _ => v = .bool true,
      .one fun v _ => v = .agg #[.bool b102_7, .slice a102_7 n102_7 c102_7],
      .one fun v _ => v = .agg #[.bool b1, .slice a1 n1 c1],
      .one fun v _ => v = .bool true,
      .one fun v _ => v = .bool true,
      .one fun v _ => v = .bool true,
      .one fun v _ => v = .agg #[.bool b103_8, .slice a103_8 n103_8 c103_8],
      .one fun v _ => v = .agg #[.bool b1, .slice a1 n1 c1],
      .one fun v _ => v = .agg #[.bool b1, .slice a1 n1 c1],
      .one fun v W => Zw W v ((z + z)),
      .one fun v _ => v = .bool true,
      .one fun v _ => v = .bool true,
      .one fun v _ => v = .bool true]
     (fun W => Ext w W ∧ Bx2 W w.heap.size 25 (.bool b1) (.slice a1 n1 c1) ∧ Zw W (.agg #[.bool b1, .slice a1 n1 c1]) z ∧ Rw W (.agg #[.bool b98_7, .slice a98_7 n98_7 c98_7, .slice d98_7 m98_7 o98_7]) ((z : Rat) / P2 K) ∧ Bx3 W g98_7 27 (.bool b98_7) (.slice a98_7 n98_7 c98_7) (.slice d98_7 m98_7 o98_7) ∧ Zw W (.agg #[.bool b100_7, .slice a100_7 n100_7 c100_7]) z ∧ Bx2 W g100_7 25 (.bool b100_7) (.slice a100_7 n100_7 c100_7) ∧ Zw W (.agg #[.bool b101_7, .slice a101_7 n101_7 c101_7]) z ∧ Bx2 W g101_7 25 (.bool b101_7) (.slice a101_7 n101_7 c101_7) ∧ Zw W (.agg #[.bool b102_7, .slice a102_7 n102_7 c102_7]) z ∧ Bx2 W g102_7 25 (.bool b102_7) (.slice a102_7 n102_7 c102_7) ∧ Zw W (.agg #[.bool b103_8, .slice a103_8 n103_8 c103_8]) ((z + z)) ∧ Bx2 W g103_8 25 (.bool b103_8) (.slice a103_8 n103_8 c103_8) ∧ W103.heap.size ≤ W.heap.size) ⟨Good.is _, Good.is _, Good.is _, Good.is _, Good.is _, Good.is _, Good.is _, Good.is _, Good.is _, Good.is _, Good.is _, Good.is _, Good.is _, Good.is _, Good.is _, Good.is _, Good.is _, Good.is _, Good.is _, Good.is _, Good.zed _, Good.is _, Good.is _, Good.is _, trivial⟩
     ⟨E0, p2, hx1, h98_4, p98_7, h100_4, p100_7, h101_4, p101_7, h102_4, p102_7, h103_5, p103_8, Nat.le_refl _⟩ (A := ?A104) ?hA104 ?howe104 ?hfin104
    case hA104 =>
     intro vs
     simp only [putAll, Act.put, sA, sZ, sS, Nat.zero_add, Nat.reduceAdd]
     exact rfl
    case howe104 =>
     clear E0 p2 hx1 h98_4 p98_7 h100_4 p100_7 h101_4 p101_7 h102_4 p102_7 h103_5 p103_8
     intro hf
     refine ⟨oE 0 [] hf rfl ?_, oE 1 [0] hf rfl ?_, oE 2 [1] hf rfl ?_, oE 3 [1] hf rfl ?_, oE 4 [1, 2, 3] hf rfl ?_, oE 5 [1, 4] hf rfl ?_, oE 6 [5] hf rfl ?_, oE 7 [6] hf rfl ?_, oE 8 [6] hf rfl ?_, oE 9 [6, 7, 8] hf rfl ?_, oE 10 [6, 9] hf rfl ?_, oE 11 [10] hf rfl ?_, oE 12 [11] hf rfl ?_, oE 13 [11] hf rfl ?_, oE 14 [11, 12, 13] hf rfl ?_, oE 15 [11, 14] hf rfl ?_, oE 16 [15] hf rfl ?_, oE 17 [16] hf rfl ?_, oE 18 [16] hf rfl ?_, oE 19 [16] hf rfl ?_, oE 20 [16, 18, 19] hf rfl ?_, oE 21 [16, 17, 20] hf rfl ?_, oE 22 [16, 21] hf rfl ?_, oE 23 [22] hf rfl ?_, trivial⟩
     all_goals intro vs W hS hp hx KO hKO
     all_goals simp only [Act.put, sA, sZ, sS] at hKO
     ·go_simp
      refine (Try.alive06 _).mono ?_
      rintro e W1 ⟨rfl, hE⟩
      exact hKO _ W1 hE rfl
     ·have e0 := isOf hp.1; simp only [e0] at hKO; go_simp; exact hKO _ W (.refl W) rfl
     ·have e1 := isOf hp.1; simp only [e1] at hKO; have fc0 := hS.2.2.2.2.2.2.1.cell0; have fc1 := hS.2.2.2.2.2.2.1.cell1; go_simp; exact hKO _ W (.refl W) rfl
     ·have e1 := isOf hp.1; simp only [e1] at hKO; have fc0 := hS.2.1.cell0; have fc1 := hS.2.1.cell1; go_simp; exact hKO _ W (.refl W) rfl
     ·have e1 := isOf hp.1; have e2 := isOf hp.2.1; have e3 := isOf hp.2.2.1; simp only [e1, e2, e3] at hKO; go_simp
      refine (Try.refZSameD (hS.2.2.2.2.2.1) (hS.2.2.1) rfl).mono ?_
      rintro e W1 ⟨rfl, hE⟩
      exact hKO _ W1 hE rfl
     ·have e1 := isOf hp.1; have e4 := isOf hp.2.1; simp only [e1, e4] at hKO; go_simp; exact hKO _ W (.refl W) rfl
     ·have e5 := isOf hp.1; simp only [e5] at hKO; go_simp; exact hKO _ W (.refl W) rfl
     ·have e6 := isOf hp.1; simp only [e6] at hKO; have fc0 := hS.2.2.2.2.2.2.2.2.1.cell0; have fc1 := hS.2.2.2.2.2.2.2.2.1.cell1; go_simp; exact hKO _ W (.refl W) rfl
     ·have e6 := isOf hp.1; simp only [e6] at hKO; have fc0 := hS.2.1.cell0; have fc1 := hS.2.1.cell1; go_simp; exact hKO _ W (.refl W) rfl
     ·have e6 := isOf hp.1; have e7 := isOf hp.2.1; have e8 := isOf hp.2.2.1; simp only [e6, e7, e8] at hKO; go_simp
      refine (Try.refZSameD (hS.2.2.2.2.2.2.2.1) (hS.2.2.1) rfl).mono ?_
      rintro e W1 ⟨rfl, hE⟩
      exact hKO _ W1 hE rfl
     ·have e6 := isOf hp.1; have e9 := isOf hp.2.1; simp only [e6, e9] at hKO; go_simp; exact hKO _ W (.refl W) rfl
     ·have e10 := isOf hp.1; simp only [e10] at hKO; go_simp; exact hKO _ W (.refl W) rfl
     ·have e11 := isOf hp.1; simp only [e11] at hKO; have fc0 := hS.2.2.2.2.2.2.2.2.2.2.1.cell0; have fc1 := hS.2.2.2.2.2.2.2.2.2.2.1.cell1; go_simp; exact hKO _ W (.refl W) rfl
     ·have e11 := isOf hp.1; simp only [e11] at hKO; have fc0 := hS.2.1.cell0; have fc1 := hS.2.1.cell1; go_simp; exact hKO _ W (.refl W) rfl
     ·have e11 := isOf hp.1; have e12 := isOf hp.2.1; have e13 := isOf hp.2.2.1; simp only [e11, e12, e13] at hKO; go_simp
      refine (Try.refZSameD (hS.2.2.2.2.2.2.2.2.2.1) (hS.2.2.1) rfl).mono ?_
      rintro e W1 ⟨rfl, hE⟩
      exact hKO _ W1 hE rfl
     ·have e11 := isOf hp.1; have e14 := isOf hp.2.1; simp only [e11, e14] at hKO; go_simp; exact hKO _ W (.refl W) rfl
     ·have e15 := isOf hp.1; simp only [e15] at hKO; go_simp; exact hKO _ W (.refl W) rfl
     ·have e16 := isOf hp.1; simp only [e16] at hKO; have fc0 := hS.2.2.2.2.2.2.2.2.2.2.2.2.1.cell0; have fc1 := hS.2.2.2.2.2.2.2.2.2.2.2.2.1.cell1; go_simp; exact hKO _ W (.refl W) rfl
     ·have e16 := isOf hp.1; simp only [e16] at hKO; have fc0 := hS.2.1.cell0; have fc1 := hS.2.1.cell1; go_simp; exact hKO _ W (.refl W) rfl
     ·have e16 := isOf hp.1; simp only [e16] at hKO; have fc0 := hS.2.1.cell0; have fc1 := hS.2.1.cell1; go_simp; exact hKO _ W (.refl W) rfl
     ·have e16 := isOf hp.1; have e18 := isOf hp.2.1; have e19 := isOf hp.2.2.1; simp only [e16, e18, e19] at hKO; go_simp
      refine (Try.refZAdd (hS.2.2.1) (hS.2.2.1) s1 s1 (by omega)).mono ?_
      rintro e W1 ⟨v, rfl, hv, hE⟩
      exact hKO _ W1 hE hv
     ·have e16 := isOf hp.1; have e17 := isOf hp.2.1; have q20 := hp.2.2.1; simp only [e16, e17] at hKO; go_simp
      refine (Try.refZSameD (hS.2.2.2.2.2.2.2.2.2.2.2.1) q20 rfl).mono ?_
      rintro e W1 ⟨rfl, hE⟩
      exact hKO _ W1 hE rfl
     ·have e16 := isOf hp.1; have e21 := isOf hp.2.1; simp only [e16, e21] at hKO; go_simp; exact hKO _ W (.refl W) rfl
     ·have e22 := isOf hp.1; simp only [e22] at hKO; go_simp; exact hKO _ W (.refl W) rfl
    intro vs W104 hS hp
    clear szw104 E0 p2 hx1 h98_4 p98_7 h100_4 p100_7 h101_4 p101_7 h102_4 p102_7 h103_5 p103_8
    obtain ⟨E0, p2, hx1, h98_4, p98_7, h100_4, p100_7, h101_4, p101_7, h102_4, p102_7, h103_5, p103_8, sz104⟩ := hS
    obtain ⟨h104_0, h104_1, h104_2, h104_3, h104_4, h104_5, h104_6, h104_7, h104_8, h104_9, h104_10, h104_11, h104_12, h104_13, h104_14, h104_15, h104_16, h104_17, h104_18, h104_19, h104_20, h104_21, h104_22, h104_23, -⟩ := hp
    replace h104_0 : vs 0 = .bool true := h104_0
    replace h104_1 : vs 1 = .bool true := h104_1
    replace h104_2 : vs 2 = .agg #[.bool b100_7, .slice a100_7 n100_7 c100_7] := h104_2
    replace h104_3 : vs 3 = .agg #[.bool b1, .slice a1 n1 c1] := h104_3
    replace h104_4 : vs 4 = .bool true := h104_4
    replace h104_5 : vs 5 = .bool true := h104_5
    replace h104_6 : vs 6 = .bool true := h104_6
    replace h104_7 : vs 7 = .agg #[.bool b101_7, .slice a101_7 n101_7 c101_7] := h104_7
    replace h104_8 : vs 8 = .agg #[.bool b1, .slice a1 n1 c1] := h104_8
    replace h104_9 : vs 9 = .bool true := h104_9
    replace h104_10 : vs 10 = .bool true := h104_10
    replace h104_11 : vs 11 = .bool true := h104_11
    replace h104_12 : vs 12 = .agg #[.bool b102_7, .slice a102_7 n102_7 c102_7] := h104_12
    replace h104_13 : vs 13 = .agg #[.bool b1, .slice a1 n1 c1] := h104_13
    replace h104_14 : vs 14 = .bool true := h104_14
    replace h104_15 : vs 15 = .bool true := h104_15
    replace h104_16 : vs 16 = .bool true := h104_16
    replace h104_17 : vs 17 = .agg #[.bool b103_8, .slice a103_8 n103_8 c103_8] := h104_17
    replace h104_18 : vs 18 = .agg #[.bool b1, .slice a1 n1 c1] := h104_18
    replace h104_19 : vs 19 = .agg #[.bool b1, .slice a1 n1 c1] := h104_19
    replace h104_21 : vs 21 = .bool true := h104_21
    replace h104_22 : vs 22 = .bool true := h104_22
    replace h104_23 : vs 23 = .bool true := h104_23
    simp only [h104_0, h104_1, h104_2, h104_3, h104_4, h104_5, h104_6, h104_7, h104_8, h104_9, h104_10, h104_11, h104_12, h104_13, h104_14, h104_15, h104_16, h104_17, h104_18, h104_19, h104_21, h104_22, h104_23]
    replace h104_20 : Zw W104 (vs 20) ((z + z)) := h104_20
    generalize vs 20 = u104_20 at h104_20 ⊢
    clear h104_0 h104_1 h104_2 h104_3 h104_4 h104_5 h104_6 h104_7 h104_8 h104_9 h104_10 h104_11 h104_12 h104_13 h104_14 h104_15 h104_16 h104_17 h104_18 h104_19 h104_21 h104_22 h104_23
    obtain ⟨kp2_0, kp2_1⟩ := p2.c2
    obtain ⟨kp98_7_0, kp98_7_1, kp98_7_2⟩ := p98_7.c3
    obtain ⟨kp100_7_0, kp100_7_1⟩ := p100_7.c2
    obtain ⟨kp101_7_0, kp101_7_1⟩ := p101_7.c2
    obtain ⟨kp102_7_0, kp102_7_1⟩ := p102_7.c2
    obtain ⟨kp103_8_0, kp103_8_1⟩ := p103_8.c2
    go_wp2; go_ret
    exact ⟨rfl, E0⟩

set_option maxRecDepth 100000 in
set_option maxHeartbeats 4000000 in
theorem Try.lawDyadSums {b1 : Bool} {a1 : Option Addr} {n1 c1 : Nat} {d1 : Option Addr} {m1 o1 : Nat} {xs1 ys1 : List Nat} {b2 : Bool} {a2 : Option Addr} {n2 c2 : Nat} {d2 : Option Addr} {m2 o2 : Nat} {xs2 ys2 : List Nat} {w : World} (h1 : Nt w (.slice a1 n1 c1) xs1) (k1 : Nt w (.slice d1 m1 o1) ys1) (h2 : Nt w (.slice a2 n2 c2) xs2) (k2 : Nt w (.slice d2 m2 o2) ys2) (kk : Int) :
  Calls Try.prog 7 #[.agg #[.bool b1, .slice a1 n1 c1, .slice d1 m1 o1], .agg #[.bool b2, .slice a2 n2 c2, .slice d2 m2 o2], .int .i64 kk] w fun e w' => e = .returned (.bool true) ∧ Ext w w' := by
 cases hg0 : fewR b1 xs1 ys1 ((3 : Nat) : Int)
 ·have HG0 := Lib.hid hg0
  clear hg0
  obtain ⟨W0, hW0⟩ : ∃ W0, W0 = ((w.alloc (.cells #[.bool b1, .slice a1 n1 c1, .slice d1 m1 o1] 27)).alloc (.cells #[.bool b2, .slice a2 n2 c2, .slice d2 m2 o2] 27)) := ⟨_, rfl⟩
  have E0 : Ext w W0 := by rw [hW0]; exact ((Ext.alloc1 w (.cells #[.bool b1, .slice a1 n1 c1, .slice d1 m1 o1] 27)).alloc (.cells #[.bool b2, .slice a2 n2 c2, .slice d2 m2 o2] 27))
  replace h1 : Nt W0 (.slice a1 n1 c1) xs1 := h1.ext E0
  replace k1 : Nt W0 (.slice d1 m1 o1) ys1 := k1.ext E0
  replace h2 : Nt W0 (.slice a2 n2 c2) xs2 := h2.ext E0
  replace k2 : Nt W0 (.slice d2 m2 o2) ys2 := k2.ext E0
  have p3 : Bx3 W0 w.heap.size 27 (.bool b1) (.slice a1 n1 c1) (.slice d1 m1 o1) := by rw [hW0]; exact (Bx3.new w 27 (.bool b1) (.slice a1 n1 c1) (.slice d1 m1 o1)).ext (Ext.alloc1 (w.alloc (.cells #[.bool b1, .slice a1 n1 c1, .slice d1 m1 o1] 27)) (.cells #[.bool b2, .slice a2 n2 c2, .slice d2 m2 o2] 27))
  have p4 : Bx3 W0 (w.heap.size + 1) 27 (.bool b2) (.slice a2 n2 c2) (.slice d2 m2 o2) := by rw [hW0]; simpa using (Bx3.new (w.alloc (.cells #[.bool b1, .slice a1 n1 c1, .slice d1 m1 o1] 27)) 27 (.bool b2) (.slice a2 n2 c2) (.slice d2 m2 o2))
  go_enter Try.func7, Try.ntmps7
  obtain ⟨kp3_0, kp3_1, kp3_2⟩ := p3.c3
  obtain ⟨kp4_0, kp4_1, kp4_2⟩ := p4.c3
  go_wp2_with fail
  rw [← hW0]
  clear hW0; clear kp3_0 kp3_1 kp3_2 kp4_0 kp4_1 kp4_2
  refine (Try.refRFew h1 k1 3 (by omega)).mono ?_
  rintro e Wf0 ⟨rfl, hE⟩
  rw [HG0.out]; replace E0 := (Ext.trans E0 hE); replace h1 := (h1.ext hE)
  replace k1 := (k1.ext hE)
  replace h2 := (h2.ext hE)
  replace k2 := (k2.ext hE)
  replace p3 := (p3.ext hE); replace p4 := (p4.ext hE); clear hE
  obtain ⟨kp3_0, kp3_1, kp3_2⟩ := p3.c3
  obtain ⟨kp4_0, kp4_1, kp4_2⟩ := p4.c3
  go_wp2_with fail
  clear kp3_0 kp3_1 kp3_2 kp4_0 kp4_1 kp4_2
  refine (Try.alive06 _).mono ?_
  rintro e We ⟨rfl, hE⟩
  replace E0 := (Ext.trans E0 hE); replace h1 := (h1.ext hE)
  replace k1 := (k1.ext hE)
  replace h2 := (h2.ext hE)
  replace k2 := (k2.ext hE)
  replace p3 := (p3.ext hE); replace p4 := (p4.ext hE); clear hE
  obtain ⟨kp3_0, kp3_1, kp3_2⟩ := p3.c3
  obtain ⟨kp4_0, kp4_1, kp4_2⟩ := p4.c3
  go_wp2; go_ret
  exact ⟨rfl, E0⟩
 ·have HG0 := Lib.hid hg0
  clear hg0
  obtain ⟨W0, hW0⟩ : ∃ W0, W0 = ((w.alloc (.cells #[.bool b1, .slice a1 n1 c1, .slice d1 m1 o1] 27)).alloc (.cells #[.bool b2, .slice a2 n2 c2, .slice d2 m2 o2] 27)) := ⟨_, rfl⟩
  have E0 : Ext w W0 := by rw [hW0]; exact ((Ext.alloc1 w (.cells #[.bool b1, .slice a1 n1 c1, .slice d1 m1 o1] 27)).alloc (.cells #[.bool b2, .slice a2 n2 c2, .slice d2 m2 o2] 27))
  replace h1 : Nt W0 (.slice a1 n1 c1) xs1 := h1.ext E0
  replace k1 : Nt W0 (.slice d1 m1 o1) ys1 := k1.ext E0
  replace h2 : Nt W0 (.slice a2 n2 c2) xs2 := h2.ext E0
  replace k2 : Nt W0 (.slice d2 m2 o2) ys2 := k2.ext E0
  have p3 : Bx3 W0 w.heap.size 27 (.bool b1) (.slice a1 n1 c1) (.slice d1 m1 o1) := by rw [hW0]; exact (Bx3.new w 27 (.bool b1) (.slice a1 n1 c1) (.slice d1 m1 o1)).ext (Ext.alloc1 (w.alloc (.cells #[.bool b1, .slice a1 n1 c1, .slice d1 m1 o1] 27)) (.cells #[.bool b2, .slice a2 n2 c2, .slice d2 m2 o2] 27))
  have p4 : Bx3 W0 (w.heap.size + 1) 27 (.bool b2) (.slice a2 n2 c2) (.slice d2 m2 o2) := by rw [hW0]; simpa using (Bx3.new (w.alloc (.cells #[.bool b1, .slice a1 n1 c1, .slice d1 m1 o1] 27)) 27 (.bool b2) (.slice a2 n2 c2) (.slice d2 m2 o2))
  go_enter Try.func7, Try.ntmps7
  obtain ⟨kp3_0, kp3_1, kp3_2⟩ := p3.c3
  obtain ⟨kp4_0, kp4_1, kp4_2⟩ := p4.c3
  go_wp2_with fail
  rw [← hW0]
  clear hW0; clear kp3_0 kp3_1 kp3_2 kp4_0 kp4_1 kp4_2
  refine (Try.refRFew h1 k1 3 (by omega)).mono ?_
  rintro e Wf0 ⟨rfl, hE⟩
  rw [HG0.out]; replace E0 := (Ext.trans E0 hE); replace h1 := (h1.ext hE)
  replace k1 := (k1.ext hE)
  replace h2 := (h2.ext hE)
  replace k2 := (k2.ext hE)
  replace p3 := (p3.ext hE); replace p4 := (p4.ext hE); clear hE
  cases hg1 : fewR b2 xs2 ys2 ((3 : Nat) : Int)
  ·have HG1 := Lib.hid hg1
   clear hg1
   obtain ⟨kp3_0, kp3_1, kp3_2⟩ := p3.c3
   obtain ⟨kp4_0, kp4_1, kp4_2⟩ := p4.c3
   go_wp2_with fail
   clear kp3_0 kp3_1 kp3_2 kp4_0 kp4_1 kp4_2
   refine (Try.refRFew h2 k2 3 (by omega)).mono ?_
   rintro e Wf1 ⟨rfl, hE⟩
   rw [HG1.out]; replace E0 := (Ext.trans E0 hE); replace h1 := (h1.ext hE)
   replace k1 := (k1.ext hE)
   replace h2 := (h2.ext hE)
   replace k2 := (k2.ext hE)
   replace p3 := (p3.ext hE); replace p4 := (p4.ext hE); clear hE
   obtain ⟨kp3_0, kp3_1, kp3_2⟩ := p3.c3
   obtain ⟨kp4_0, kp4_1, kp4_2⟩ := p4.c3
   go_wp2_with fail
   clear kp3_0 kp3_1 kp3_2 kp4_0 kp4_1 kp4_2
   refine (Try.alive06 _).mono ?_
   rintro e We ⟨rfl, hE⟩
   replace E0 := (Ext.trans E0 hE); replace h1 := (h1.ext hE)
   replace k1 := (k1.ext hE)
   replace h2 := (h2.ext hE)
   replace k2 := (k2.ext hE)
   replace p3 := (p3.ext hE); replace p4 := (p4.ext hE); clear hE
   obtain ⟨kp3_0, kp3_1, kp3_2⟩ := p3.c3
   obtain ⟨kp4_0, kp4_1, kp4_2⟩ := p4.c3
   go_wp2; go_ret
   exact ⟨rfl, E0⟩
  ·have HG1 := Lib.hid hg1
   clear hg1
   obtain ⟨kp3_0, kp3_1, kp3_2⟩ := p3.c3
   obtain ⟨kp4_0, kp4_1, kp4_2⟩ := p4.c3
   go_wp2_with fail
   clear kp3_0 kp3_1 kp3_2 kp4_0 kp4_1 kp4_2
   refine (Try.refRFew h2 k2 3 (by omega)).mono ?_
   rintro e Wf1 ⟨rfl, hE⟩
   rw [HG1.out]; replace E0 := (Ext.trans E0 hE); replace h1 := (h1.ext hE)
   replace k1 := (k1.ext hE)
   replace h2 := (h2.ext hE)
   replace k2 := (k2.ext hE)
   replace p3 := (p3.ext hE); replace p4 := (p4.ext hE); clear hE
   obtain ⟨x, hx1, s1⟩ := fewR_rw (L := 3) h1 k1 HG0.out
   clear h1 k1 HG0
   obtain ⟨y, hx2, s2⟩ := fewR_rw (L := 3) h2 k2 HG1.out
   clear h2 k2 HG1
   by_cases hk0 : kk < 0
   ·have hk0d := decide_eq_true hk0
    obtain ⟨kp3_0, kp3_1, kp3_2⟩ := p3.c3
    obtain ⟨kp4_0, kp4_1, kp4_2⟩ := p4.c3
    go_wp2_with fail
    clear kp3_0 kp3_1 kp3_2 kp4_0 kp4_1 kp4_2
    refine (Try.alive06 _).mono ?_
    rintro e We ⟨rfl, hE⟩
    replace E0 := (Ext.trans E0 hE); replace p3 := (p3.ext hE); replace p4 := (p4.ext hE); replace hx1 := (hx1.ext hE); replace hx2 := (hx2.ext hE); clear hE
    obtain ⟨kp3_0, kp3_1, kp3_2⟩ := p3.c3
    obtain ⟨kp4_0, kp4_1, kp4_2⟩ := p4.c3
    go_wp2; go_ret
    exact ⟨rfl, E0⟩
   ·have hk0d := decide_eq_false hk0
    by_cases hk4 : 400 < kk
    ·have hk4d := decide_eq_true hk4
     obtain ⟨kp3_0, kp3_1, kp3_2⟩ := p3.c3
     obtain ⟨kp4_0, kp4_1, kp4_2⟩ := p4.c3
     go_wp2_with fail
     clear kp3_0 kp3_1 kp3_2 kp4_0 kp4_1 kp4_2
     refine (Try.alive06 _).mono ?_
     rintro e We ⟨rfl, hE⟩
     replace E0 := (Ext.trans E0 hE); replace p3 := (p3.ext hE); replace p4 := (p4.ext hE); replace hx1 := (hx1.ext hE); replace hx2 := (hx2.ext hE); clear hE
     obtain ⟨kp3_0, kp3_1, kp3_2⟩ := p3.c3
     obtain ⟨kp4_0, kp4_1, kp4_2⟩ := p4.c3
     go_wp2; go_ret
     exact ⟨rfl, E0⟩
    ·have hk4d := decide_eq_false hk4
     obtain ⟨K, rfl⟩ := Int.eq_ofNat_of_zero_le (show 0 ≤ kk by omega)
     have hKb : K ≤ 400 := by omega
     have hk4n : ¬ 400 < K := by omega
     have hk0n : 0 ≤ K := Nat.zero_le K
     obtain ⟨F, hF_⟩ : ∃ F : Int, (x * P2 K).floor = F := ⟨_, rfl⟩
     obtain ⟨G, hG_⟩ : ∃ G : Int, (y * P2 K).floor = G := ⟨_, rfl⟩
     obtain ⟨J, hJ_⟩ : ∃ J : Int, ((x + y) * P2 K).floor = J := ⟨_, rfl⟩
     obtain ⟨U, hU_⟩ : ∃ U : Rat, (G : Rat) / P2 K = U := ⟨_, rfl⟩
     obtain ⟨e1, he1_⟩ : ∃ e1 : Int, cmpI (F + G) J = e1 := ⟨_, rfl⟩
     obtain ⟨e2, he2_⟩ : ∃ e2 : Int, cmpI J (F + G + 1) = e2 := ⟨_, rfl⟩
     have HF1 := Lib.hid hF_
     have HF2 := Lib.hid hG_
     have HF3 := Lib.hid hJ_
     have HU := Lib.hid hU_
     have HC1 := Lib.hid he1_
     have HC2 := Lib.hid he2_
     have hsm := sum_floor x y K
     have hso := sum_on x y K
     rw [hF_, hG_, hJ_] at hsm
     rw [hF_, hG_, hU_] at hso
     have HSO := Lib.hid hso
     have he1 : Hid (e1 ≤ 0) := Lib.hid (by rw [← he1_, cmpI_le0]; exact hsm.1)
     have he2 : Hid (e2 ≤ 0) := Lib.hid (by rw [← he2_, cmpI_le0]; exact hsm.2)
     have SF : Hid (Sm 12 F.natAbs) := Lib.hid (by rw [← hF_]; exact (Sm.floor s1 K).mono (by omega))
     have SG : Hid (Sm 12 G.natAbs) := Lib.hid (by rw [← hG_]; exact (Sm.floor s2 K).mono (by omega))
     have SU : Hid (SmR 20 U) := Lib.hid (by rw [← hU_, ← back_eq]; exact (SmR.back SG.out K).mono (by omega))
     have SA : Hid (SmR 7 (x + y)) := Lib.hid (s1.add s2)
     have SX : Hid (SmR 20 x) := Lib.hid (s1.mono (by omega))
     have SAU : Hid (SmR 41 (x + U)) := Lib.hid (SX.out.add SU.out)
     have SFG : Hid (Sm 13 (F + G).natAbs) := Lib.hid (SF.out.addZ SG.out)
     have S1 : Hid (Sm 13 (1 : Int).natAbs) := Lib.hid ((Sm.small (by omega)).mono (by omega))
     clear hsm hso; clear hF_ hG_ hJ_ hU_ he1_ he2_
     have e1le : e1 ≤ 0 := he1.out
     have e1led := decide_eq_true e1le
     have e1gt : ¬ (0 < e1) := by omega
     have e1gtd := decide_eq_false e1gt
     have e2le : e2 ≤ 0 := he2.out
     have e2led := decide_eq_true e2le
     have e2gt : ¬ (0 < e2) := by omega
     have e2gtd := decide_eq_false e2gt
     obtain ⟨kp3_0, kp3_1, kp3_2⟩ := p3.c3
     obtain ⟨kp4_0, kp4_1, kp4_2⟩ := p4.c3
     go_upto_region 3 with (fail)
     clear kp3_0 kp3_1 kp3_2 kp4_0 kp4_1 kp4_2; have ltp3 := p3.lt; have ltp4 := p4.lt; have szw105 := Ext.size E0
     refine region_gs [.one fun v _ => v = .agg #[.bool b1, .slice a1 n1 c1, .slice d1 m1 o1],
       .one fun v _ => v = .int .i64 (K : Int),
       .one fun v W => ∃ v', v = .tuple #[v', .int .i64 0] ∧ (fun v W => Zw W v F) v' W,
       .one fun v W => ∃ v', v = .tuple #[v', .int .i64 0] ∧ (fun v W => Zw W v F) v' W,
       .one fun v W => Zw W v F,
       .one fun v _ => v = .int .i64 0,
       .one fun v W => ∃ g, v = .pointer (some ⟨g, 0, none⟩) ∧ Wf1.heap.size ≤ g ∧ Form W g 25 2,
       .three 6 4 (fun p r _ W => Put2 Wf1.heap.size 25 p r W),
       .one fun v _ => v = .int .i64 0]
      (fun W => Ext w W ∧ Bx3 W w.heap.size 27 (.bool b1) (.slice a1 n1 c1) (.slice d1 m1 o1) ∧ Bx3 W (w.heap.size + 1) 27 (.bool b2) (.slice a2 n2 c2) (.slice d2 m2 o2) ∧ Rw W (.agg #[.bool b1, .slice a1 n1 c1, .slice d1 m1 o1]) x ∧ Rw W (.agg #[.bool b2, .slice a2 n2 c2, .slice d2 m2 o2]) y ∧ Wf1.heap.size ≤ W.heap.size) ⟨Good.is _, Good.is _, (Good.zed _).tup _, (Good.zed _).tup _, Good.zed _, Good.is _, Good.box _ _ _, cert_put2, Good.is _, trivial⟩
      ⟨E0, p3, p4, hx1, hx2, Nat.le_refl _⟩ (A := ?A105) ?hA105 ?howe105 ?hfin105
     case hA105 =>
      intro vs
      simp only [putAll, Act.put, sA, sZ, sS, Nat.zero_add, Nat.reduceAdd]
      exact rfl
     case howe105 =>
      clear E0 p3 p4 hx1 hx2
      intro hf
      refine ⟨oE 0 [] hf rfl ?_, oE 1 [] hf rfl ?_, oE 2 [0, 1] hf rfl ?_, oE 3 [2] hf rfl ?_, oE 4 [3] hf rfl ?_, oE 5 [3] hf rfl ?_, oE 6 [] hf rfl ?_, oW 7 [6, 4] hf rfl ?_, oE 8 [5] hf rfl ?_, trivial⟩
      all_goals intro vs W hS hp hx KO hKO
      all_goals simp only [Act.put, sA, sZ, sS] at hKO
      ·have fc0 := hS.2.1.cell0; have fc1 := hS.2.1.cell1; have fc2 := hS.2.1.cell2; go_simp; exact hKO _ W (.refl W) rfl
      ·go_simp; exact hKO _ W (.refl W) rfl
      ·have e0 := isOf hp.1; have e1 := isOf hp.2.1; simp only [e0, e1] at hKO; go_simp
       refine (Try.dyadFloor (hS.2.2.2.1) s1 (by omega) K (by omega)).mono ?_
       rintro e W1 ⟨v, rfl, hv, hE⟩
       rw [HF1.out] at hv
       exact hKO _ W1 hE ⟨_, rfl, hv⟩
      ·have q2 := hp.1
       obtain ⟨u, ev, hu⟩ := q2
       replace ev : vs 2 = _ := ev; simp only [ev] at hKO; go_simp; exact hKO _ W (Ext.refl W) ⟨u, rfl, hu⟩
      ·have q3 := hp.1
       obtain ⟨u, ev, hu⟩ := q3
       replace ev : vs 3 = _ := ev; simp only [ev] at hKO; go_simp; exact hKO _ W (Ext.refl W) hu
      ·have q3 := hp.1
       obtain ⟨u, ev, hu⟩ := q3
       replace ev : vs 3 = _ := ev; simp only [ev] at hKO; go_simp; exact hKO _ W (.refl W) rfl
      ·have hn := Bx2.new W 25 (.bool false) (.slice none 0 0)
       have hE := Ext.alloc1 W (.cells #[.bool false, .slice none 0 0] 25)
       have hsz := hS.2.2.2.2.2
       go_simp
       exact hKO _ _ hE ⟨_, rfl, hsz, hn.form⟩
      ·have q6 := hp.1; have q4 := hp.2.1
       obtain ⟨g, ev, hg, hf⟩ := q6
       replace ev : vs 6 = _ := ev
       obtain ⟨x0_0, x0_1, hx, hno⟩ := hf.bx2
       have qr := q4
       obtain ⟨b3, a3, n3, c3, er, -, -⟩ := qr
       replace er : vs 4 = _ := er
       have r0 := hx.froz0
       have t0 := hx.cell0
       have r1 := hx.froz1
       have t1 := hx.cell1
       have hw := Wr.set2 hx hno b3 a3 n3 c3
       have hq := hx.set (.bool b3) (.slice a3 n3 c3)
       simp only [ev, er] at hKO; go_simp
       exact hKO _ _ hw ⟨(Ext.wr hS.1 hw (by omega)), (hS.2.1.wr hw (by omega)), (hS.2.2.1.wr hw (by omega)), (hS.2.2.2.1.wr hw), (hS.2.2.2.2.1.wr hw), (Nat.le_trans hS.2.2.2.2.2 hw.apart.size)⟩ ⟨g, b3, a3, n3, c3, ev, er, hg, hq⟩
      ·have e5 := isOf hp.1; simp only [e5] at hKO; go_simp; exact hKO _ W (.refl W) rfl
     intro vs W105 hS hp
     clear szw105 E0 p3 p4 hx1 hx2
     obtain ⟨E0, p3, p4, hx1, hx2, sz105⟩ := hS
     obtain ⟨h105_0, h105_1, h105_2, h105_3, h105_4, h105_5, h105_6, h105_7, h105_8, -⟩ := hp
     obtain ⟨g105_7, b105_7, a105_7, n105_7, c105_7, ev105_7, er105_7, hg105_7, p105_7⟩ := h105_7
     replace ev105_7 : vs 6 = _ := ev105_7; replace er105_7 : vs 4 = _ := er105_7; replace h105_4 := (show Zw W105 (vs 4) F from h105_4)
     rw [er105_7] at h105_4
     replace h105_0 : vs 0 = .agg #[.bool b1, .slice a1 n1 c1, .slice d1 m1 o1] := h105_0
     replace h105_1 : vs 1 = .int .i64 (K : Int) := h105_1
     replace h105_5 : vs 5 = .int .i64 0 := h105_5
     replace h105_8 : vs 8 = .int .i64 0 := h105_8
     simp only [ev105_7, er105_7, h105_0, h105_1, h105_5, h105_8]
     clear ev105_7 er105_7 h105_0 h105_1 h105_5 h105_8 h105_2 h105_3 h105_6
     obtain ⟨kp3_0, kp3_1, kp3_2⟩ := p3.c3
     obtain ⟨kp4_0, kp4_1, kp4_2⟩ := p4.c3
     obtain ⟨kp105_7_0, kp105_7_1⟩ := p105_7.c2
     go_upto_region 4 with (fail)
     clear kp3_0 kp3_1 kp3_2 kp4_0 kp4_1 kp4_2 kp105_7_0 kp105_7_1; have ltp105_7 := p105_7.lt; have szw106 := Ext.size E0
     refine region_gs [.one fun v _ => v = .agg #[.bool b2, .slice a2 n2 c2, .slice d2 m2 o2],
       .one fun v _ => v = .int .i64 (K : Int),
       .one fun v W => ∃ v', v = .tuple #[v', .int .i64 0] ∧ (fun v W => Zw W v G) v' W,
       .one fun v W => ∃ v', v = .tuple #[v', .int .i64 0] ∧ (fun v W => Zw W v G) v' W,
       .one fun v W => Zw W v G,
       .one fun v _ => v = .int .i64 0,
       .one fun v W => ∃ g, v = .pointer (some ⟨g, 0, none⟩) ∧ W105.heap.size ≤ g ∧ Form W g 25 2,
       .three 6 4 (fun p r _ W => Put2 W105.heap.size 25 p r W),
       .one fun v _ => v = .int .i64 0]
      (fun W => Ext w W ∧ Bx3 W w.heap.size 27 (.bool b1) (.slice a1 n1 c1) (.slice d1 m1 o1) ∧ Bx3 W (w.heap.size + 1) 27 (.bool b2) (.slice a2 n2 c2) (.slice d2 m2 o2) ∧ Rw W (.agg #[.bool b1, .slice a1 n1 c1, .slice d1 m1 o1]) x ∧ Rw W (.agg #[.bool b2, .slice a2 n2 c2, .slice d2 m2 o2]) y ∧ Zw W (.agg #[.bool b105_7, .slice a105_7 n105_7 c105_7]) F ∧ Bx2 W g105_7 25 (.bool b105_7) (.slice a105_7 n105_7 c105_7) ∧ W105.heap.size ≤ W.heap.size) ⟨Good.is _, Good.is _, (Good.zed _).tup _, (Good.zed _).tup _, Good.zed _, Good.is _, Good.box _ _ _, cert_put2, Good.is _, trivial⟩
      ⟨E0, p3, p4, hx1, hx2, h105_4, p105_7, Nat.le_refl _⟩ (A := ?A106) ?hA106 ?howe106 ?hfin106
     case hA106 =>
      intro vs
      simp only [putAll, Act.put, sA, sZ, sS, Nat.zero_add, Nat.reduceAdd]
      exact rfl
     case howe106 =>
      clear E0 p3 p4 hx1 hx2 h105_4 p105_7
      intro hf
      refine ⟨oE 0 [] hf rfl ?_, oE 1 [] hf rfl ?_, oE 2 [0, 1] hf rfl ?_, oE 3 [2] hf rfl ?_, oE 4 [3] hf rfl ?_, oE 5 [3] hf rfl ?_, oE 6 [] hf rfl ?_, oW 7 [6, 4] hf rfl ?_, oE 8 [5] hf rfl ?_, trivial⟩
      all_goals intro vs W hS hp hx KO hKO
      all_goals simp only [Act.put, sA, sZ, sS] at hKO
      ·have fc0 := hS.2.2.1.cell0; have fc1 := hS.2.2.1.cell1; have fc2 := hS.2.2.1.cell2; go_simp; exact hKO _ W (.refl W) rfl
      ·go_simp; exact hKO _ W (.refl W) rfl
      ·have e0 := isOf hp.1; have e1 := isOf hp.2.1; simp only [e0, e1] at hKO; go_simp
       refine (Try.dyadFloor (hS.2.2.2.2.1) s2 (by omega) K (by omega)).mono ?_
       rintro e W1 ⟨v, rfl, hv, hE⟩
       rw [HF2.out] at hv
       exact hKO _ W1 hE ⟨_, rfl, hv⟩
      ·have q2 := hp.1
       obtain ⟨u, ev, hu⟩ := q2
       replace ev : vs 2 = _ := ev; simp only [ev] at hKO; go_simp; exact hKO _ W (Ext.refl W) ⟨u, rfl, hu⟩
      ·have q3 := hp.1
       obtain ⟨u, ev, hu⟩ := q3
       replace ev : vs 3 = _ := ev; simp only [ev] at hKO; go_simp; exact hKO _ W (Ext.refl W) hu
      ·have q3 := hp.1
       obtain ⟨u, ev, hu⟩ := q3
       replace ev : vs 3 = _ := ev; simp only [ev] at hKO; go_simp; exact hKO _ W (.refl W) rfl
      ·have hn := Bx2.new W 25 (.bool false) (.slice none 0 0)
       have hE := Ext.alloc1 W (.cells #[.bool false, .slice none 0 0] 25)
       have hsz := hS.2.2.2.2.2.2.2
       go_simp
       exact hKO _ _ hE ⟨_, rfl, hsz, hn.form⟩
      ·have q6 := hp.1; have q4 := hp.2.1
       obtain ⟨g, ev, hg, hf⟩ := q6
       replace ev : vs 6 = _ := ev
       obtain ⟨x0_0, x0_1, hx, hno⟩ := hf.bx2
       have qr := q4
       obtain ⟨b3, a3, n3, c3, er, -, -⟩ := qr
       replace er : vs 4 = _ := er
       have r0 := hx.froz0
       have t0 := hx.cell0
       have r1 := hx.froz1
       have t1 := hx.cell1
       have hw := Wr.set2 hx hno b3 a3 n3 c3
       have hq := hx.set (.bool b3) (.slice a3 n3 c3)
       simp only [ev, er] at hKO; go_simp
       exact hKO _ _ hw ⟨(Ext.wr hS.1 hw (by omega)), (hS.2.1.wr hw (by omega)), (hS.2.2.1.wr hw (by omega)), (hS.2.2.2.1.wr hw), (hS.2.2.2.2.1.wr hw), (hS.2.2.2.2.2.1.wr hw), (hS.2.2.2.2.2.2.1.wr hw (by omega)), (Nat.le_trans hS.2.2.2.2.2.2.2 hw.apart.size)⟩ ⟨g, b3, a3, n3, c3, ev, er, hg, hq⟩
      ·have e5 := isOf hp.1; simp only [e5] at hKO; go_simp; exact hKO _ W (.refl W) rfl
     intro vs W106 hS hp
     clear szw106 E0 p3 p4 hx1 hx2 h105_4 p105_7
     obtain ⟨E0, p3, p4, hx1, hx2, h105_4, p105_7, sz106⟩ := hS
     obtain ⟨h106_0, h106_1, h106_2, h106_3, h106_4, h106_5, h106_6, h106_7, h106_8, -⟩ := hp
     obtain ⟨g106_7, b106_7, a106_7, n106_7, c106_7, ev106_7, er106_7, hg106_7, p106_7⟩ := h106_7
     replace ev106_7 : vs 6 = _ := ev106_7; replace er106_7 : vs 4 = _ := er106_7; replace h106_4 := (show Zw W106 (vs 4) G from h106_4)
     rw [er106_7] at h106_4
     replace h106_0 : vs 0 = .agg #[.bool b2, .slice a2 n2 c2, .slice d2 m2 o2] := h106_0
     replace h106_1 : vs 1 = .int .i64 (K : Int) := h106_1
     replace h106_5 : vs 5 = .int .i64 0 := h106_5
     replace h106_8 : vs 8 = .int .i64 0 := h106_8
     simp only [ev106_7, er106_7, h106_0, h106_1, h106_5, h106_8]
     clear ev106_7 er106_7 h106_0 h106_1 h106_5 h106_8 h106_2 h106_3 h106_6
     obtain ⟨kp3_0, kp3_1, kp3_2⟩ := p3.c3
     obtain ⟨kp4_0, kp4_1, kp4_2⟩ := p4.c3
     obtain ⟨kp105_7_0, kp105_7_1⟩ := p105_7.c2
     obtain ⟨kp106_7_0, kp106_7_1⟩ := p106_7.c2
     go_upto_region 5 with (fail)
     clear kp3_0 kp3_1 kp3_2 kp4_0 kp4_1 kp4_2 kp105_7_0 kp105_7_1 kp106_7_0 kp106_7_1; have ltp106_7 := p106_7.lt; have szw107 := Ext.size E0
     refine region_gs [.one fun v _ => v = .agg #[.bool b1, .slice a1 n1 c1, .slice d1 m1 o1],
       .one fun v _ => v = .agg #[.bool b2, .slice a2 n2 c2, .slice d2 m2 o2],
       .one fun v W => Rw W v (x + y),
       .one fun v _ => v = .int .i64 (K : Int),
       .one fun v W => ∃ v', v = .tuple #[v', .int .i64 0] ∧ (fun v W => Zw W v J) v' W,
       .one fun v W => ∃ v', v = .tuple #[v', .int .i64 0] ∧ (fun v W => Zw W v J) v' W,
       .one fun v W => Zw W v J,
       .one fun v _ => v = .int .i64 0,
       .one fun v W => ∃ g, v = .pointer (some ⟨g, 0, none⟩) ∧ W106.heap.size ≤ g ∧ Form W g 25 2,
       .three 8 6 (fun p r _ W => Put2 W106.heap.size 25 p r W),
       .one fun v _ => v = .int .i64 0]
      (fun W => Ext w W ∧ Bx3 W w.heap.size 27 (.bool b1) (.slice a1 n1 c1) (.slice d1 m1 o1) ∧ Bx3 W (w.heap.size + 1) 27 (.bool b2) (.slice a2 n2 c2) (.slice d2 m2 o2) ∧ Rw W (.agg #[.bool b1, .slice a1 n1 c1, .slice d1 m1 o1]) x ∧ Rw W (.agg #[.bool b2, .slice a2 n2 c2, .slice d2 m2 o2]) y ∧ Zw W (.agg #[.bool b105_7, .slice a105_7 n105_7 c105_7]) F ∧ Bx2 W g105_7 25 (.bool b105_7) (.slice a105_7 n105_7 c105_7) ∧ Zw W (.agg #[.bool b106_7, .slice a106_7 n106_7 c106_7]) G ∧ Bx2 W g106_7 25 (.bool b106_7) (.slice a106_7 n106_7 c106_7) ∧ W106.heap.size ≤ W.heap.size) ⟨Good.is _, Good.is _, Good.rat _, Good.is _, (Good.zed _).tup _, (Good.zed _).tup _, Good.zed _, Good.is _, Good.box _ _ _, cert_put2, Good.is _, trivial⟩
      ⟨E0, p3, p4, hx1, hx2, h105_4, p105_7, h106_4, p106_7, Nat.le_refl _⟩ (A := ?A107) ?hA107 ?howe107 ?hfin107
     case hA107 =>
      intro vs
      simp only [putAll, Act.put, sA, sZ, sS, Nat.zero_add, Nat.reduceAdd]
      exact rfl
     case howe107 =>
      clear E0 p3 p4 hx1 hx2 h105_4 p105_7 h106_4 p106_7
      intro hf
      refine ⟨oE 0 [] hf rfl ?_, oE 1 [] hf rfl ?_, oE 2 [0, 1] hf rfl ?_, oE 3 [] hf rfl ?_, oE 4 [2, 3] hf rfl ?_, oE 5 [4] hf rfl ?_, oE 6 [5] hf rfl ?_, oE 7 [5] hf rfl ?_, oE 8 [] hf rfl ?_, oW 9 [8, 6] hf rfl ?_, oE 10 [7] hf rfl ?_, trivial⟩
      all_goals intro vs W hS hp hx KO hKO
      all_goals simp only [Act.put, sA, sZ, sS] at hKO
      ·have fc0 := hS.2.1.cell0; have fc1 := hS.2.1.cell1; have fc2 := hS.2.1.cell2; go_simp; exact hKO _ W (.refl W) rfl
      ·have fc0 := hS.2.2.1.cell0; have fc1 := hS.2.2.1.cell1; have fc2 := hS.2.2.1.cell2; go_simp; exact hKO _ W (.refl W) rfl
      ·have e0 := isOf hp.1; have e1 := isOf hp.2.1; simp only [e0, e1] at hKO; go_simp
       refine (Try.refRAdd (hS.2.2.2.1) (hS.2.2.2.2.1) s1 s2 (by omega)).mono ?_
       rintro e W1 ⟨v, rfl, hv, hE⟩
       exact hKO _ W1 hE hv
      ·go_simp; exact hKO _ W (.refl W) rfl
      ·have q2 := hp.1; have e3 := isOf hp.2.1; simp only [e3] at hKO; go_simp
       refine (Try.dyadFloor q2 SA.out (by omega) K (by omega)).mono ?_
       rintro e W1 ⟨v, rfl, hv, hE⟩
       rw [HF3.out] at hv
       exact hKO _ W1 hE ⟨_, rfl, hv⟩
      ·have q4 := hp.1
       obtain ⟨u, ev, hu⟩ := q4
       replace ev : vs 4 = _ := ev; simp only [ev] at hKO; go_simp; exact hKO _ W (Ext.refl W) ⟨u, rfl, hu⟩
      ·have q5 := hp.1
       obtain ⟨u, ev, hu⟩ := q5
       replace ev : vs 5 = _ := ev; simp only [ev] at hKO; go_simp; exact hKO _ W (Ext.refl W) hu
      ·have q5 := hp.1
       obtain ⟨u, ev, hu⟩ := q5
       replace ev : vs 5 = _ := ev; simp only [ev] at hKO; go_simp; exact hKO _ W (.refl W) rfl
      ·have hn := Bx2.new W 25 (.bool false) (.slice none 0 0)
       have hE := Ext.alloc1 W (.cells #[.bool false, .slice none 0 0] 25)
       have hsz := hS.2.2.2.2.2.2.2.2.2
       go_simp
       exact hKO _ _ hE ⟨_, rfl, hsz, hn.form⟩
      ·have q8 := hp.1; have q6 := hp.2.1
       obtain ⟨g, ev, hg, hf⟩ := q8
       replace ev : vs 8 = _ := ev
       obtain ⟨x0_0, x0_1, hx, hno⟩ := hf.bx2
       have qr := q6
       obtain ⟨b3, a3, n3, c3, er, -, -⟩ := qr
       replace er : vs 6 = _ := er
       have r0 := hx.froz0
       have t0 := hx.cell0
       have r1 := hx.froz1
       have t1 := hx.cell1
       have hw := Wr.set2 hx hno b3 a3 n3 c3
       have hq := hx.set (.bool b3) (.slice a3 n3 c3)
       simp only [ev, er] at hKO; go_simp
       exact hKO _ _ hw ⟨(Ext.wr hS.1 hw (by omega)), (hS.2.1.wr hw (by omega)), (hS.2.2.1.wr hw (by omega)), (hS.2.2.2.1.wr hw), (hS.2.2.2.2.1.wr hw), (hS.2.2.2.2.2.1.wr hw), (hS.2.2.2.2.2.2.1.wr hw (by omega)), (hS.2.2.2.2.2.2.2.1.wr hw), (hS.2.2.2.2.2.2.2.2.1.wr hw (by omega)), (Nat.le_trans hS.2.2.2.2.2.2.2.2.2 hw.apart.size)⟩ ⟨g, b3, a3, n3, c3, ev, er, hg, hq⟩
      ·have e7 := isOf hp.1; simp only [e7] at hKO; go_simp; exact hKO _ W (.refl W) rfl
     intro vs W107 hS hp
     clear szw107 E0 p3 p4 hx1 hx2 h105_4 p105_7 h106_4 p106_7
     obtain ⟨E0, p3, p4, hx1, hx2, h105_4, p105_7, h106_4, p106_7, sz107⟩ := hS
     obtain ⟨h107_0, h107_1, h107_2, h107_3, h107_4, h107_5, h107_6, h107_7, h107_8, h107_9, h107_10, -⟩ := hp
     obtain ⟨g107_9, b107_9, a107_9, n107_9, c107_9, ev107_9, er107_9, hg107_9, p107_9⟩ := h107_9
     replace ev107_9 : vs 8 = _ := ev107_9; replace er107_9 : vs 6 = _ := er107_9; replace h107_6 := (show Zw W107 (vs 6) J from h107_6)
     rw [er107_9] at h107_6
     replace h107_0 : vs 0 = .agg #[.bool b1, .slice a1 n1 c1, .slice d1 m1 o1] := h107_0
     replace h107_1 : vs 1 = .agg #[.bool b2, .slice a2 n2 c2, .slice d2 m2 o2] := h107_1
     replace h107_3 : vs 3 = .int .i64 (K : Int) := h107_3
     replace h107_7 : vs 7 = .int .i64 0 := h107_7
     replace h107_10 : vs 10 = .int .i64 0 := h107_10
     simp only [ev107_9, er107_9, h107_0, h107_1, h107_3, h107_7, h107_10]
     replace h107_2 : Rw W107 (vs 2) (x + y) := h107_2
     generalize vs 2 = u107_2 at h107_2 ⊢
     clear ev107_9 er107_9 h107_0 h107_1 h107_3 h107_7 h107_10 h107_4 h107_5 h107_8
     obtain ⟨kp3_0, kp3_1, kp3_2⟩ := p3.c3
     obtain ⟨kp4_0, kp4_1, kp4_2⟩ := p4.c3
     obtain ⟨kp105_7_0, kp105_7_1⟩ := p105_7.c2
     obtain ⟨kp106_7_0, kp106_7_1⟩ := p106_7.c2
     obtain ⟨kp107_9_0, kp107_9_1⟩ := p107_9.c2
     go_upto_region 6 with (fail)
     clear kp3_0 kp3_1 kp3_2 kp4_0 kp4_1 kp4_2 kp105_7_0 kp105_7_1 kp106_7_0 kp106_7_1 kp107_9_0 kp107_9_1; have ltp107_9 := p107_9.lt; have szw108 := Ext.size E0
     refine region_gs [.one fun v _ => v = .agg #[.bool b105_7, .slice a105_7 n105_7 c105_7],
       .one fun v _ => v = .agg #[.bool b106_7, .slice a106_7 n106_7 c106_7],
       .one fun v W => Zw W v ((F + G)),
       .one fun v W => ∃ g, v = .pointer (some ⟨g, 0, none⟩) ∧ W107.heap.size ≤ g ∧ Form W g 25 2,
       .three 3 2 (fun p r _ W => Put2 W107.heap.size 25 p r W)]
      (fun W => Ext w W ∧ Bx3 W w.heap.size 27 (.bool b1) (.slice a1 n1 c1) (.slice d1 m1 o1) ∧ Bx3 W (w.heap.size + 1) 27 (.bool b2) (.slice a2 n2 c2) (.slice d2 m2 o2) ∧ Rw W (.agg #[.bool b1, .slice a1 n1 c1, .slice d1 m1 o1]) x ∧ Rw W (.agg #[.bool b2, .slice a2 n2 c2, .slice d2 m2 o2]) y ∧ Zw W (.agg #[.bool b105_7, .slice a105_7 n105_7 c105_7]) F ∧ Bx2 W g105_7 25 (.bool b105_7) (.slice a105_7 n105_7 c105_7) ∧ Zw W (.agg #[.bool b106_7, .slice a106_7 n106_7 c106_7]) G ∧ Bx2 W g106_7 25 (.bool b106_7) (.slice a106_7 n106_7 c106_7) ∧ Zw W (.agg #[.bool b107_9, .slice a107_9 n107_9 c107_9]) J ∧ Bx2 W g107_9 25 (.bool b107_9) (.slice a107_9 n107_9 c107_9) ∧ Rw W u107_2 (x + y) ∧ W107.heap.size ≤ W.heap.size) ⟨Good.is _, Good.is _, Good.zed _, Good.box _ _ _, cert_put2, trivial⟩
      ⟨E0, p3, p4, hx1, hx2, h105_4, p105_7, h106_4, p106_7, h107_6, p107_9, h107_2, Nat.le_refl _⟩ (A := ?A108) ?hA108 ?howe108 ?hfin108
     case hA108 =>
      intro vs
      simp only [putAll, Act.put, sA, sZ, sS, Nat.zero_add, Nat.reduceAdd]
      exact rfl
     case howe108 =>
      clear E0 p3 p4 hx1 hx2 h105_4 p105_7 h106_4 p106_7 h107_6 p107_9 h107_2
      intro hf
      refine ⟨oE 0 [] hf rfl ?_, oE 1 [] hf rfl ?_, oE 2 [0, 1] hf rfl ?_, oE 3 [] hf rfl ?_, oW 4 [3, 2] hf rfl ?_, trivial⟩
      all_goals intro vs W hS hp hx KO hKO
      all_goals simp only [Act.put, sA, sZ, sS] at hKO
      ·have fc0 := hS.2.2.2.2.2.2.1.cell0; have fc1 := hS.2.2.2.2.2.2.1.cell1; go_simp; exact hKO _ W (.refl W) rfl
      ·have fc0 := hS.2.2.2.2.2.2.2.2.1.cell0; have fc1 := hS.2.2.2.2.2.2.2.2.1.cell1; go_simp; exact hKO _ W (.refl W) rfl
      ·have e0 := isOf hp.1; have e1 := isOf hp.2.1; simp only [e0, e1] at hKO; go_simp
       refine (Try.refZAdd (hS.2.2.2.2.2.1) (hS.2.2.2.2.2.2.2.1) SF.out SG.out (by omega)).mono ?_
       rintro e W1 ⟨v, rfl, hv, hE⟩
       exact hKO _ W1 hE hv
      ·have hn := Bx2.new W 25 (.bool false) (.slice none 0 0)
       have hE := Ext.alloc1 W (.cells #[.bool false, .slice none 0 0] 25)
       have hsz := hS.2.2.2.2.2.2.2.2.2.2.2.2
       go_simp
       exact hKO _ _ hE ⟨_, rfl, hsz, hn.form⟩
      ·have q3 := hp.1; have q2 := hp.2.1
       obtain ⟨g, ev, hg, hf⟩ := q3
       replace ev : vs 3 = _ := ev
       obtain ⟨x0_0, x0_1, hx, hno⟩ := hf.bx2
       have qr := q2
       obtain ⟨b3, a3, n3, c3, er, -, -⟩ := qr
       replace er : vs 2 = _ := er
       have r0 := hx.froz0
       have t0 := hx.cell0
       have r1 := hx.froz1
       have t1 := hx.cell1
       have hw := Wr.set2 hx hno b3 a3 n3 c3
       have hq := hx.set (.bool b3) (.slice a3 n3 c3)
       simp only [ev, er] at hKO; go_simp
       exact hKO _ _ hw ⟨(Ext.wr hS.1 hw (by omega)), (hS.2.1.wr hw (by omega)), (hS.2.2.1.wr hw (by omega)), (hS.2.2.2.1.wr hw), (hS.2.2.2.2.1.wr hw), (hS.2.2.2.2.2.1.wr hw), (hS.2.2.2.2.2.2.1.wr hw (by omega)), (hS.2.2.2.2.2.2.2.1.wr hw), (hS.2.2.2.2.2.2.2.2.1.wr hw (by omega)), (hS.2.2.2.2.2.2.2.2.2.1.wr hw), (hS.2.2.2.2.2.2.2.2.2.2.1.wr hw (by omega)), (hS.2.2.2.2.2.2.2.2.2.2.2.1.wr hw), (Nat.le_trans hS.2.2.2.2.2.2.2.2.2.2.2.2 hw.apart.size)⟩ ⟨g, b3, a3, n3, c3, ev, er, hg, hq⟩
     intro vs W108 hS hp
     clear szw108 E0 p3 p4 hx1 hx2 h105_4 p105_7 h106_4 p106_7 h107_6 p107_9 h107_2
     obtain ⟨E0, p3, p4, hx1, hx2, h105_4, p105_7, h106_4, p106_7, h107_6, p107_9, h107_2, sz108⟩ := hS
     obtain ⟨h108_0, h108_1, h108_2, h108_3, h108_4, -⟩ := hp
     obtain ⟨g108_4, b108_4, a108_4, n108_4, c108_4, ev108_4, er108_4, hg108_4, p108_4⟩ := h108_4
     replace ev108_4 : vs 3 = _ := ev108_4; replace er108_4 : vs 2 = _ := er108_4; replace h108_2 := (show Zw W108 (vs 2) ((F + G)) from h108_2)
     rw [er108_4] at h108_2
     replace h108_0 : vs 0 = .agg #[.bool b105_7, .slice a105_7 n105_7 c105_7] := h108_0
     replace h108_1 : vs 1 = .agg #[.bool b106_7, .slice a106_7 n106_7 c106_7] := h108_1
     simp only [ev108_4, er108_4, h108_0, h108_1]
     clear ev108_4 er108_4 h108_0 h108_1 h108_3
     obtain ⟨kp3_0, kp3_1, kp3_2⟩ := p3.c3
     obtain ⟨kp4_0, kp4_1, kp4_2⟩ := p4.c3
     obtain ⟨kp105_7_0, kp105_7_1⟩ := p105_7.c2
     obtain ⟨kp106_7_0, kp106_7_1⟩ := p106_7.c2
     obtain ⟨kp107_9_0, kp107_9_1⟩ := p107_9.c2
     obtain ⟨kp108_4_0, kp108_4_1⟩ := p108_4.c2
     go_upto_region 7 with (fail)
     clear kp3_0 kp3_1 kp3_2 kp4_0 kp4_1 kp4_2 kp105_7_0 kp105_7_1 kp106_7_0 kp106_7_1 kp107_9_0 kp107_9_1 kp108_4_0 kp108_4_1; have ltp108_4 := p108_4.lt; have szw109 := Ext.size E0
     refine region_gs [.one fun v _ => v = .agg #[.bool b108_4, .slice a108_4 n108_4 c108_4],
       .one fun v W => Zw W v 1,
       .one fun v W => Zw W v ((F + G + 1)),
       .one fun v W => ∃ g, v = .pointer (some ⟨g, 0, none⟩) ∧ W108.heap.size ≤ g ∧ Form W g 25 2,
       .three 3 2 (fun p r _ W => Put2 W108.heap.size 25 p r W)]
      (fun W => Ext w W ∧ Bx3 W w.heap.size 27 (.bool b1) (.slice a1 n1 c1) (.slice d1 m1 o1) ∧ Bx3 W (w.heap.size + 1) 27 (.bool b2) (.slice a2 n2 c2) (.slice d2 m2 o2) ∧ Rw W (.agg #[.bool b1, .slice a1 n1 c1, .slice d1 m1 o1]) x ∧ Rw W (.agg #[.bool b2, .slice a2 n2 c2, .slice d2 m2 o2]) y ∧ Zw W (.agg #[.bool b105_7, .slice a105_7 n105_7 c105_7]) F ∧ Bx2 W g105_7 25 (.bool b105_7) (.slice a105_7 n105_7 c105_7) ∧ Zw W (.agg #[.bool b106_7, .slice a106_7 n106_7 c106_7]) G ∧ Bx2 W g106_7 25 (.bool b106_7) (.slice a106_7 n106_7 c106_7) ∧ Zw W (.agg #[.bool b107_9, .slice a107_9 n107_9 c107_9]) J ∧ Bx2 W g107_9 25 (.bool b107_9) (.slice a107_9 n107_9 c107_9) ∧ Rw W u107_2 (x + y) ∧ Zw W (.agg #[.bool b108_4, .slice a108_4 n108_4 c108_4]) ((F + G)) ∧ Bx2 W g108_4 25 (.bool b108_4) (.slice a108_4 n108_4 c108_4) ∧ W108.heap.size ≤ W.heap.size) ⟨Good.is _, Good.zed _, Good.zed _, Good.box _ _ _, cert_put2, trivial⟩
      ⟨E0, p3, p4, hx1, hx2, h105_4, p105_7, h106_4, p106_7, h107_6, p107_9, h107_2, h108_2, p108_4, Nat.le_refl _⟩ (A := ?A109) ?hA109 ?howe109 ?hfin109
     case hA109 =>
      intro vs
      simp only [putAll, Act.put, sA, sZ, sS, Nat.zero_add, Nat.reduceAdd]
      exact rfl
     case howe109 =>
      clear E0 p3 p4 hx1 hx2 h105_4 p105_7 h106_4 p106_7 h107_6 p107_9 h107_2 h108_2 p108_4
      intro hf
      refine ⟨oE 0 [] hf rfl ?_, oE 1 [] hf rfl ?_, oE 2 [0, 1] hf rfl ?_, oE 3 [] hf rfl ?_, oW 4 [3, 2] hf rfl ?_, trivial⟩
      all_goals intro vs W hS hp hx KO hKO
      all_goals simp only [Act.put, sA, sZ, sS] at hKO
      ·have fc0 := hS.2.2.2.2.2.2.2.2.2.2.2.2.2.1.cell0; have fc1 := hS.2.2.2.2.2.2.2.2.2.2.2.2.2.1.cell1; go_simp; exact hKO _ W (.refl W) rfl
      ·go_simp
       refine (Try.refZOf 1 _ (by omega) (by omega)).mono ?_
       rintro e W1 ⟨v, rfl, hv, hE⟩
       exact hKO _ W1 hE hv
      ·have e0 := isOf hp.1; have q1 := hp.2.1; simp only [e0] at hKO; go_simp
       refine (Try.refZAdd (hS.2.2.2.2.2.2.2.2.2.2.2.2.1) q1 SFG.out S1.out (by omega)).mono ?_
       rintro e W1 ⟨v, rfl, hv, hE⟩
       exact hKO _ W1 hE hv
      ·have hn := Bx2.new W 25 (.bool false) (.slice none 0 0)
       have hE := Ext.alloc1 W (.cells #[.bool false, .slice none 0 0] 25)
       have hsz := hS.2.2.2.2.2.2.2.2.2.2.2.2.2.2
       go_simp
       exact hKO _ _ hE ⟨_, rfl, hsz, hn.form⟩
      ·have q3 := hp.1; have q2 := hp.2.1
       obtain ⟨g, ev, hg, hf⟩ := q3
       replace ev : vs 3 = _ := ev
       obtain ⟨x0_0, x0_1, hx, hno⟩ := hf.bx2
       have qr := q2
       obtain ⟨b3, a3, n3, c3, er, -, -⟩ := qr
       replace er : vs 2 = _ := er
       have r0 := hx.froz0
       have t0 := hx.cell0
       have r1 := hx.froz1
       have t1 := hx.cell1
       have hw := Wr.set2 hx hno b3 a3 n3 c3
       have hq := hx.set (.bool b3) (.slice a3 n3 c3)
       simp only [ev, er] at hKO; go_simp
       exact hKO _ _ hw ⟨(Ext.wr hS.1 hw (by omega)), (hS.2.1.wr hw (by omega)), (hS.2.2.1.wr hw (by omega)), (hS.2.2.2.1.wr hw), (hS.2.2.2.2.1.wr hw), (hS.2.2.2.2.2.1.wr hw), (hS.2.2.2.2.2.2.1.wr hw (by omega)), (hS.2.2.2.2.2.2.2.1.wr hw), (hS.2.2.2.2.2.2.2.2.1.wr hw (by omega)), (hS.2.2.2.2.2.2.2.2.2.1.wr hw), (hS.2.2.2.2.2.2.2.2.2.2.1.wr hw (by omega)), (hS.2.2.2.2.2.2.2.2.2.2.2.1.wr hw), (hS.2.2.2.2.2.2.2.2.2.2.2.2.1.wr hw), (hS.2.2.2.2.2.2.2.2.2.2.2.2.2.1.wr hw (by omega)), (Nat.le_trans hS.2.2.2.2.2.2.2.2.2.2.2.2.2.2 hw.apart.size)⟩ ⟨g, b3, a3, n3, c3, ev, er, hg, hq⟩
     intro vs W109 hS hp
     clear szw109 E0 p3 p4 hx1 hx2 h105_4 p105_7 h106_4 p106_7 h107_6 p107_9 h107_2 h108_2 p108_4
     obtain ⟨E0, p3, p4, hx1, hx2, h105_4, p105_7, h106_4, p106_7, h107_6, p107_9, h107_2, h108_2, p108_4, sz109⟩ := hS
     obtain ⟨h109_0, h109_1, h109_2, h109_3, h109_4, -⟩ := hp
     obtain ⟨g109_4, b109_4, a109_4, n109_4, c109_4, ev109_4, er109_4, hg109_4, p109_4⟩ := h109_4
     replace ev109_4 : vs 3 = _ := ev109_4; replace er109_4 : vs 2 = _ := er109_4; replace h109_2 := (show Zw W109 (vs 2) ((F + G + 1)) from h109_2)
     rw [er109_4] at h109_2
     replace h109_0 : vs 0 = .agg #[.bool b108_4, .slice a108_4 n108_4 c108_4] := h109_0
     simp only [ev109_4, er109_4, h109_0]
     replace h109_1 : Zw W109 (vs 1) 1 := h109_1
     generalize vs 1 = u109_1 at h109_1 ⊢
     clear ev109_4 er109_4 h109_0 h109_3
     obtain ⟨kp3_0, kp3_1, kp3_2⟩ := p3.c3
     obtain ⟨kp4_0, kp4_1, kp4_2⟩ := p4.c3
     obtain ⟨kp105_7_0, kp105_7_1⟩ := p105_7.c2
     obtain ⟨kp106_7_0, kp106_7_1⟩ := p106_7.c2
     obtain ⟨kp107_9_0, kp107_9_1⟩ := p107_9.c2
     obtain ⟨kp108_4_0, kp108_4_1⟩ := p108_4.c2
     obtain ⟨kp109_4_0, kp109_4_1⟩ := p109_4.c2
     go_upto_region 8 with (fail)
     clear kp3_0 kp3_1 kp3_2 kp4_0 kp4_1 kp4_2 kp105_7_0 kp105_7_1 kp106_7_0 kp106_7_1 kp107_9_0 kp107_9_1 kp108_4_0 kp108_4_1 kp109_4_0 kp109_4_1; have ltp109_4 := p109_4.lt; have szw110 := Ext.size E0
     refine region_gs [.one fun v _ => v = .agg #[.bool b106_7, .slice a106_7 n106_7 c106_7],
       .one fun v _ => v = .int .i64 (K : Int),
       .one fun v W => ∃ v', v = .tuple #[v', .int .i64 0] ∧ (fun v W => Rw W v U) v' W,
       .one fun v W => ∃ v', v = .tuple #[v', .int .i64 0] ∧ (fun v W => Rw W v U) v' W,
       .one fun v W => Rw W v U,
       .one fun v _ => v = .int .i64 0,
       .one fun v W => ∃ g, v = .pointer (some ⟨g, 0, none⟩) ∧ W109.heap.size ≤ g ∧ Form W g 27 3,
       .three 6 4 (fun p r _ W => Put3 W109.heap.size 27 p r W),
       .one fun v _ => v = .int .i64 0]
      (fun W => Ext w W ∧ Bx3 W w.heap.size 27 (.bool b1) (.slice a1 n1 c1) (.slice d1 m1 o1) ∧ Bx3 W (w.heap.size + 1) 27 (.bool b2) (.slice a2 n2 c2) (.slice d2 m2 o2) ∧ Rw W (.agg #[.bool b1, .slice a1 n1 c1, .slice d1 m1 o1]) x ∧ Rw W (.agg #[.bool b2, .slice a2 n2 c2, .slice d2 m2 o2]) y ∧ Zw W (.agg #[.bool b105_7, .slice a105_7 n105_7 c105_7]) F ∧ Bx2 W g105_7 25 (.bool b105_7) (.slice a105_7 n105_7 c105_7) ∧ Zw W (.agg #[.bool b106_7, .slice a106_7 n106_7 c106_7]) G ∧ Bx2 W g106_7 25 (.bool b106_7) (.slice a106_7 n106_7 c106_7) ∧ Zw W (.agg #[.bool b107_9, .slice a107_9 n107_9 c107_9]) J ∧ Bx2 W g107_9 25 (.bool b107_9) (.slice a107_9 n107_9 c107_9) ∧ Rw W u107_2 (x + y) ∧ Zw W (.agg #[.bool b108_4, .slice a108_4 n108_4 c108_4]) ((F + G)) ∧ Bx2 W g108_4 25 (.bool b108_4) (.slice a108_4 n108_4 c108_4) ∧ Zw W (.agg #[.bool b109_4, .slice a109_4 n109_4 c109_4]) ((F + G + 1)) ∧ Bx2 W g109_4 25 (.bool b109_4) (.slice a109_4 n109_4 c109_4) ∧ Zw W u109_1 1 ∧ W109.heap.size ≤ W.heap.size) ⟨Good.is _, Good.is _, (Good.rat _).tup _, (Good.rat _).tup _, Good.rat _, Good.is _, Good.box _ _ _, cert_put3, Good.is _, trivial⟩
      ⟨E0, p3, p4, hx1, hx2, h105_4, p105_7, h106_4, p106_7, h107_6, p107_9, h107_2, h108_2, p108_4, h109_2, p109_4, h109_1, Nat.le_refl _⟩ (A := ?A110) ?hA110 ?howe110 ?hfin110
     case hA110 =>
      intro vs
      simp only [putAll, Act.put, sA, sZ, sS, Nat.zero_add, Nat.reduceAdd]
      exact rfl
     case howe110 =>
      clear E0 p3 p4 hx1 hx2 h105_4 p105_7 h106_4 p106_7 h107_6 p107_9 h107_2 h108_2 p108_4 h109_2 p109_4 h109_1
      intro hf
      refine ⟨oE 0 [] hf rfl ?_, oE 1 [] hf rfl ?_, oE 2 [0, 1] hf rfl ?_, oE 3 [2] hf rfl ?_, oE 4 [3] hf rfl ?_, oE 5 [3] hf rfl ?_, oE 6 [] hf rfl ?_, oW 7 [6, 4] hf rfl ?_, oE 8 [5] hf rfl ?_, trivial⟩
      all_goals intro vs W hS hp hx KO hKO
      all_goals simp only [Act.put, sA, sZ, sS] at hKO
      ·have fc0 := hS.2.2.2.2.2.2.2.2.1.cell0; have fc1 := hS.2.2.2.2.2.2.2.2.1.cell1; go_simp; exact hKO _ W (.refl W) rfl
      ·go_simp; exact hKO _ W (.refl W) rfl
      ·have e0 := isOf hp.1; have e1 := isOf hp.2.1; simp only [e0, e1] at hKO; go_simp
       refine (Try.refBack (hS.2.2.2.2.2.2.2.1) SG.out (by omega) K (by omega)).mono ?_
       rintro e W1 ⟨v, rfl, hv, hE⟩
       rw [HU.out] at hv
       exact hKO _ W1 hE ⟨_, rfl, hv⟩
      ·have q2 := hp.1
       obtain ⟨u, ev, hu⟩ := q2
       replace ev : vs 2 = _ := ev; simp only [ev] at hKO; go_simp; exact hKO _ W (Ext.refl W) ⟨u, rfl, hu⟩
      ·have q3 := hp.1
       obtain ⟨u, ev, hu⟩ := q3
       replace ev : vs 3 = _ := ev; simp only [ev] at hKO; go_simp; exact hKO _ W (Ext.refl W) hu
      ·have q3 := hp.1
       obtain ⟨u, ev, hu⟩ := q3
       replace ev : vs 3 = _ := ev; simp only [ev] at hKO; go_simp; exact hKO _ W (.refl W) rfl
      ·have hn := Bx3.new W 27 (.bool false) (.slice none 0 0) (.slice none 0 0)
       have hE := Ext.alloc1 W (.cells #[.bool false, .slice none 0 0, .slice none 0 0] 27)
       have hsz := hS.2.2.2.2.2.2.2.2.2.2.2.2.2.2.2.2.2
       go_simp
       exact hKO _ _ hE ⟨_, rfl, hsz, hn.form⟩
      ·have q6 := hp.1; have q4 := hp.2.1
       obtain ⟨g, ev, hg, hf⟩ := q6
       replace ev : vs 6 = _ := ev
       obtain ⟨x0_0, x0_1, x0_2, hx, hno⟩ := hf.bx3
       have qr := q4
       obtain ⟨b3, a3, n3, c3, d3, m3, o3, er, -, -, -⟩ := qr
       replace er : vs 4 = _ := er
       have r0 := hx.froz0
       have t0 := hx.cell0
       have r1 := hx.froz1
       have t1 := hx.cell1
       have r2 := hx.froz2
       have t2 := hx.cell2
       have hw := Wr.set3 hx hno b3 a3 n3 c3 d3 m3 o3
       have hq := hx.set (.bool b3) (.slice a3 n3 c3) (.slice d3 m3 o3)
       simp only [ev, er] at hKO; go_simp
       exact hKO _ _ hw ⟨(Ext.wr hS.1 hw (by omega)), (hS.2.1.wr hw (by omega)), (hS.2.2.1.wr hw (by omega)), (hS.2.2.2.1.wr hw), (hS.2.2.2.2.1.wr hw), (hS.2.2.2.2.2.1.wr hw), (hS.2.2.2.2.2.2.1.wr hw (by omega)), (hS.2.2.2.2.2.2.2.1.wr hw), (hS.2.2.2.2.2.2.2.2.1.wr hw (by omega)), (hS.2.2.2.2.2.2.2.2.2.1.wr hw), (hS.2.2.2.2.2.2.2.2.2.2.1.wr hw (by omega)), (hS.2.2.2.2.2.2.2.2.2.2.2.1.wr hw), (hS.2.2.2.2.2.2.2.2.2.2.2.2.1.wr hw), (hS.2.2.2.2.2.2.2.2.2.2.2.2.2.1.wr hw (by omega)), (hS.2.2.2.2.2.2.2.2.2.2.2.2.2.2.1.wr hw), (hS.2.2.2.2.2.2.2.2.2.2.2.2.2.2.2.1.wr hw (by omega)), (hS.2.2.2.2.2.2.2.2.2.2.2.2.2.2.2.2.1.wr hw), (Nat.le_trans hS.2.2.2.2.2.2.2.2.2.2.2.2.2.2.2.2.2 hw.apart.size)⟩ ⟨g, b3, a3, n3, c3, d3, m3, o3, ev, er, hg, hq⟩
      ·have e5 := isOf hp.1; simp only [e5] at hKO; go_simp; exact hKO _ W (.refl W) rfl
     intro vs W110 hS hp
     clear szw110 E0 p3 p4 hx1 hx2 h105_4 p105_7 h106_4 p106_7 h107_6 p107_9 h107_2 h108_2 p108_4 h109_2 p109_4 h109_1
     obtain ⟨E0, p3, p4, hx1, hx2, h105_4, p105_7, h106_4, p106_7, h107_6, p107_9, h107_2, h108_2, p108_4, h109_2, p109_4, h109_1, sz110⟩ := hS
     obtain ⟨h110_0, h110_1, h110_2, h110_3, h110_4, h110_5, h110_6, h110_7, h110_8, -⟩ := hp
     obtain ⟨g110_7, b110_7, a110_7, n110_7, c110_7, d110_7, m110_7, o110_7, ev110_7, er110_7, hg110_7, p110_7⟩ := h110_7
     replace ev110_7 : vs 6 = _ := ev110_7; replace er110_7 : vs 4 = _ := er110_7; replace h110_4 := (show Rw W110 (vs 4) U from h110_4)
     rw [er110_7] at h110_4
     replace h110_0 : vs 0 = .agg #[.bool b106_7, .slice a106_7 n106_7 c106_7] := h110_0
     replace h110_1 : vs 1 = .int .i64 (K : Int) := h110_1
     replace h110_5 : vs 5 = .int .i64 0 := h110_5
     replace h110_8 : vs 8 = .int .i64 0 := h110_8
     simp only [ev110_7, er110_7, h110_0, h110_1, h110_5, h110_8]
     clear ev110_7 er110_7 h110_0 h110_1 h110_5 h110_8 h110_2 h110_3 h110_6
     obtain ⟨kp3_0, kp3_1, kp3_2⟩ := p3.c3
     obtain ⟨kp4_0, kp4_1, kp4_2⟩ := p4.c3
     obtain ⟨kp105_7_0, kp105_7_1⟩ := p105_7.c2
     obtain ⟨kp106_7_0, kp106_7_1⟩ := p106_7.c2
     obtain ⟨kp107_9_0, kp107_9_1⟩ := p107_9.c2
     obtain ⟨kp108_4_0, kp108_4_1⟩ := p108_4.c2
     obtain ⟨kp109_4_0, kp109_4_1⟩ := p109_4.c2
     obtain ⟨kp110_7_0, kp110_7_1, kp110_7_2⟩ := p110_7.c3
     go_upto_region 9 with (fail)
     clear kp3_0 kp3_1 kp3_2 kp4_0 kp4_1 kp4_2 kp105_7_0 kp105_7_1 kp106_7_0 kp106_7_1 kp107_9_0 kp107_9_1 kp108_4_0 kp108_4_1 kp109_4_0 kp109_4_1 kp110_7_0 kp110_7_1 kp110_7_2; have ltp110_7 := p110_7.lt; have szw111 := Ext.size E0
     refine region_gs [.one fun v _ => v = .agg #[.bool b1, .slice a1 n1 c1, .slice d1 m1 o1],
       .one fun v _ => v = .agg #[.bool b110_7, .slice a110_7 n110_7 c110_7, .slice d110_7 m110_7 o110_7],
       .one fun v W => Rw W v (x + U),
       .one fun v _ => v = .int .i64 (K : Int),
       .one fun v W => ∃ v', v = .tuple #[v', .int .i64 0] ∧ (fun v W => Zw W v ((F + G))) v' W,
       .one fun v W => ∃ v', v = .tuple #[v', .int .i64 0] ∧ (fun v W => Zw W v ((F + G))) v' W,
       .one fun v W => Zw W v ((F + G)),
       .one fun v _ => v = .int .i64 0,
       .one fun v W => ∃ g, v = .pointer (some ⟨g, 0, none⟩) ∧ W110.heap.size ≤ g ∧ Form W g 25 2,
       .three 8 6 (fun p r _ W => Put2 W110.heap.size 25 p r W),
       .one fun v _ => v = .int .i64 0]
      (fun W => Ext w W ∧ Bx3 W w.heap.size 27 (.bool b1) (.slice a1 n1 c1) (.slice d1 m1 o1) ∧ Bx3 W (w.heap.size + 1) 27 (.bool b2) (.slice a2 n2 c2) (.slice d2 m2 o2) ∧ Rw W (.agg #[.bool b1, .slice a1 n1 c1, .slice d1 m1 o1]) x ∧ Rw W (.agg #[.bool b2, .slice a2 n2 c2, .slice d2 m2 o2]) y ∧ Zw W (.agg #[.bool b105_7, .slice a105_7 n105_7 c105_7]) F ∧ Bx2 W g105_7 25 (.bool b105_7) (.slice a105_7 n105_7 c105_7) ∧ Zw W (.agg #[.bool b106_7, .slice a106_7 n106_7 c106_7]) G ∧ Bx2 W g106_7 25 (.bool b106_7) (.slice a106_7 n106_7 c106_7) ∧ Zw W (.agg #[.bool b107_9, .slice a107_9 n107_9 c107_9]) J ∧ Bx2 W g107_9 25 (.bool b107_9) (.slice a107_9 n107_9 c107_9) ∧ Rw W u107_2 (x + y) ∧ Zw W (.agg #[.bool b108_4, .slice a108_4 n108_4 c108_4]) ((F + G)) ∧ Bx2 W g108_4 25 (.bool b108_4) (.slice a108_4 n108_4 c108_4) ∧ Zw W (.agg #[.bool b109_4, .slice a109_4 n109_4 c109_4]) ((F + G + 1)) ∧ Bx2 W g109_4 25 (.bool b109_4) (.slice a109_4 n109_4 c109_4) ∧ Zw W u109_1 1 ∧ Rw W (.agg #[.bool b110_7, .slice a110_7 n110_7 c110_7, .slice d110_7 m110_7 o110_7]) U ∧ Bx3 W g110_7 27 (.bool b110_7) (.slice a110_7 n110_7 c110_7) (.slice d110_7 m110_7 o110_7) ∧ W110.heap.size ≤ W.heap.size) ⟨Good.is _, Good.is _, Good.rat _, Good.is _, (Good.zed _).tup _, (Good.zed _).tup _, Good.zed _, Good.is _, Good.box _ _ _, cert_put2, Good.is _, trivial⟩
      ⟨E0, p3, p4, hx1, hx2, h105_4, p105_7, h106_4, p106_7, h107_6, p107_9, h107_2, h108_2, p108_4, h109_2, p109_4, h109_1, h110_4, p110_7, Nat.le_refl _⟩ (A := ?A111) ?hA111 ?howe111 ?hfin111
     case hA111 =>
      intro vs
      simp only [putAll, Act.put, sA, sZ, sS, Nat.zero_add, Nat.reduceAdd]
      exact rfl
     case howe111 =>
      clear E0 p3 p4 hx1 hx2 h105_4 p105_7 h106_4 p106_7 h107_6 p107_9 h107_2 h108_2 p108_4 h109_2 p109_4 h109_1 h110_4 p110_7
      intro hf
      refine ⟨oE 0 [] hf rfl ?_, oE 1 [] hf rfl ?_, oE 2 [0, 1] hf rfl ?_, oE 3 [] hf rfl ?_, oE 4 [2, 3] hf rfl ?_, oE 5 [4] hf rfl ?_, oE 6 [5] hf rfl ?_, oE 7 [5] hf rfl ?_, oE 8 [] hf rfl ?_, oW 9 [8, 6] hf rfl ?_, oE 10 [7] hf rfl ?_, trivial⟩
      all_goals intro vs W hS hp hx KO hKO
      all_goals simp only [Act.put, sA, sZ, sS] at hKO
      ·have fc0 := hS.2.1.cell0; have fc1 := hS.2.1.cell1; have fc2 := hS.2.1.cell2; go_simp; exact hKO _ W (.refl W) rfl
      ·have fc0 := hS.2.2.2.2.2.2.2.2.2.2.2.2.2.2.2.2.2.2.1.cell0; have fc1 := hS.2.2.2.2.2.2.2.2.2.2.2.2.2.2.2.2.2.2.1.cell1; have fc2 := hS.2.2.2.2.2.2.2.2.2.2.2.2.2.2.2.2.2.2.1.cell2; go_simp; exact hKO _ W (.refl W) rfl
      ·have e0 := isOf hp.1; have e1 := isOf hp.2.1; simp only [e0, e1] at hKO; go_simp
       refine (Try.refRAdd (hS.2.2.2.1) (hS.2.2.2.2.2.2.2.2.2.2.2.2.2.2.2.2.2.1) SX.out SU.out (by omega)).mono ?_
       rintro e W1 ⟨v, rfl, hv, hE⟩
       exact hKO _ W1 hE hv
      ·go_simp; exact hKO _ W (.refl W) rfl
      ·have q2 := hp.1; have e3 := isOf hp.2.1; simp only [e3] at hKO; go_simp
       refine (Try.dyadFloor q2 SAU.out (by omega) K (by omega)).mono ?_
       rintro e W1 ⟨v, rfl, hv, hE⟩
       rw [HSO.out] at hv
       exact hKO _ W1 hE ⟨_, rfl, hv⟩
      ·have q4 := hp.1
       obtain ⟨u, ev, hu⟩ := q4
       replace ev : vs 4 = _ := ev; simp only [ev] at hKO; go_simp; exact hKO _ W (Ext.refl W) ⟨u, rfl, hu⟩
      ·have q5 := hp.1
       obtain ⟨u, ev, hu⟩ := q5
       replace ev : vs 5 = _ := ev; simp only [ev] at hKO; go_simp; exact hKO _ W (Ext.refl W) hu
      ·have q5 := hp.1
       obtain ⟨u, ev, hu⟩ := q5
       replace ev : vs 5 = _ := ev; simp only [ev] at hKO; go_simp; exact hKO _ W (.refl W) rfl
      ·have hn := Bx2.new W 25 (.bool false) (.slice none 0 0)
       have hE := Ext.alloc1 W (.cells #[.bool false, .slice none 0 0] 25)
       have hsz := hS.2.2.2.2.2.2.2.2.2.2.2.2.2.2.2.2.2.2.2
       go_simp
       exact hKO _ _ hE ⟨_, rfl, hsz, hn.form⟩
      ·have q8 := hp.1; have q6 := hp.2.1
       obtain ⟨g, ev, hg, hf⟩ := q8
       replace ev : vs 8 = _ := ev
       obtain ⟨x0_0, x0_1, hx, hno⟩ := hf.bx2
       have qr := q6
       obtain ⟨b3, a3, n3, c3, er, -, -⟩ := qr
       replace er : vs 6 = _ := er
       have r0 := hx.froz0
       have t0 := hx.cell0
       have r1 := hx.froz1
       have t1 := hx.cell1
       have hw := Wr.set2 hx hno b3 a3 n3 c3
       have hq := hx.set (.bool b3) (.slice a3 n3 c3)
       simp only [ev, er] at hKO; go_simp
       exact hKO _ _ hw ⟨(Ext.wr hS.1 hw (by omega)), (hS.2.1.wr hw (by omega)), (hS.2.2.1.wr hw (by omega)), (hS.2.2.2.1.wr hw), (hS.2.2.2.2.1.wr hw), (hS.2.2.2.2.2.1.wr hw), (hS.2.2.2.2.2.2.1.wr hw (by omega)), (hS.2.2.2.2.2.2.2.1.wr hw), (hS.2.2.2.2.2.2.2.2.1.wr hw (by omega)), (hS.2.2.2.2.2.2.2.2.2.1.wr hw), (hS.2.2.2.2.2.2.2.2.2.2.1.wr hw (by omega)), (hS.2.2.2.2.2.2.2.2.2.2.2.1.wr hw), (hS.2.2.2.2.2.2.2.2.2.2.2.2.1.wr hw), (hS.2.2.2.2.2.2.2.2.2.2.2.2.2.1.wr hw (by omega)), (hS.2.2.2.2.2.2.2.2.2.2.2.2.2.2.1.wr hw), (hS.2.2.2.2.2.2.2.2.2.2.2.2.2.2.2.1.wr hw (by omega)), (hS.2.2.2.2.2.2.2.2.2.2.2.2.2.2.2.2.1.wr hw), (hS.2.2.2.2.2.2.2.2.2.2.2.2.2.2.2.2.2.1.wr hw), (hS.2.2.2.2.2.2.2.2.2.2.2.2.2.2.2.2.2.2.1.wr hw (by omega)), (Nat.le_trans hS.2.2.2.2.2.2.2.2.2.2.2.2.2.2.2.2.2.2.2 hw.apart.size)⟩ ⟨g, b3, a3, n3, c3, ev, er, hg, hq⟩
      ·have e7 := isOf hp.1; simp only [e7] at hKO; go_simp; exact hKO _ W (.refl W) rfl
     intro vs W111 hS hp
     clear szw111 E0 p3 p4 hx1 hx2 h105_4 p105_7 h106_4 p106_7 h107_6 p107_9 h107_2 h108_2 p108_4 h109_2 p109_4 h109_1 h110_4 p110_7
     obtain ⟨E0, p3, p4, hx1, hx2, h105_4, p105_7, h106_4, p106_7, h107_6, p107_9, h107_2, h108_2, p108_4, h109_2, p109_4, h109_1, h110_4, p110_7, sz111⟩ := hS
     obtain ⟨h111_0, h111_1, h111_2, h111_3, h111_4, h111_5, h111_6, h111_7, h111_8, h111_9, h111_10, -⟩ := hp
     obtain ⟨g111_9, b111_9, a111_9, n111_9, c111_9, ev111_9, er111_9, hg111_9, p111_9⟩ := h111_9
     replace ev111_9 : vs 8 = _ := ev111_9; replace er111_9 : vs 6 = _ := er111_9; replace h111_6 := (show Zw W111 (vs 6) ((F + G)) from h111_6)
     rw [er111_9] at h111_6
     replace h111_0 : vs 0 = .agg #[.bool b1, .slice a1 n1 c1, .slice d1 m1 o1] := h111_0
     replace h111_1 : vs 1 = .agg #[.bool b110_7, .slice a110_7 n110_7 c110_7, .slice d110_7 m110_7 o110_7] := h111_1
     replace h111_3 : vs 3 = .int .i64 (K : Int) := h111_3
     replace h111_7 : vs 7 = .int .i64 0 := h111_7
     replace h111_10 : vs 10 = .int .i64 0 := h111_10
     simp only [ev111_9, er111_9, h111_0, h111_1, h111_3, h111_7, h111_10]
     replace h111_2 : Rw W111 (vs 2) (x + U) := h111_2
     generalize vs 2 = u111_2 at h111_2 ⊢
     clear ev111_9 er111_9 h111_0 h111_1 h111_3 h111_7 h111_10 h111_4 h111_5 h111_8
     obtain ⟨kp3_0, kp3_1, kp3_2⟩ := p3.c3
     obtain ⟨kp4_0, kp4_1, kp4_2⟩ := p4.c3
     obtain ⟨kp105_7_0, kp105_7_1⟩ := p105_7.c2
     obtain ⟨kp106_7_0, kp106_7_1⟩ := p106_7.c2
     obtain ⟨kp107_9_0, kp107_9_1⟩ := p107_9.c2
     obtain ⟨kp108_4_0, kp108_4_1⟩ := p108_4.c2
     obtain ⟨kp109_4_0, kp109_4_1⟩ := p109_4.c2
     obtain ⟨kp110_7_0, kp110_7_1, kp110_7_2⟩ := p110_7.c3
     obtain ⟨kp111_9_0, kp111_9_1⟩ := p111_9.c2
     go_upto_region 10 with (fail)
     clear kp3_0 kp3_1 kp3_2 kp4_0 kp4_1 kp4_2 kp105_7_0 kp105_7_1 kp106_7_0 kp106_7_1 kp107_9_0 kp107_9_1 kp108_4_0 kp108_4_1 kp109_4_0 kp109_4_1 kp110_7_0 kp110_7_1 kp110_7_2 kp111_9_0 kp111_9_1; have ltp111_9 := p111_9.lt; have szw112 := Ext.size E0
     refine region_gs [.one fun v _ => v = .bool true,
       .one fun v _ => v = .bool true,
       .one fun v _ => v = .int .i64 0,
       .one fun v _ => v = .bool true,
       .one fun v _ => v = .bool true,
       .one fun v _ => v = .bool true,
       .one fun v _ => v = .agg #[.bool b108_4, .slice a108_4 n108_4 c108_4],
       .one fun v _ => v = .agg #[.bool b107_9, .slice a107_9 n107_9 c107_9],
       .one fun v _ => v = .int .i64 e1,
       .one fun v _ => v = .bool true,
       .one fun v _ => v = .bool true,
       .one fun v _ => v = .bool true,
       .one fun v _ => v = .agg #[.bool b107_9, .slice a107_9 n107_9 c107_9],
       .one fun v _ => v = .agg #[.bool b109_4, .slice a109_4 n109_4 c109_4],
       .one fun v _ => v = .int .i64 e2,
       .one fun v _ => v = .bool true,
       .one fun v _ => v = .bool true,
       .one fun v _ => v = .bool true,
       .one fun v _ => v = .agg #[.bool b111_9, .slice a111_9 n111_9 c111_9],
       .one fun v _ => v = .agg #[.bool b108_4, .slice a108_4 n108_4 c108_4],
       .one fun v _ => v = .bool true,
       .one fun v _ => v = .bool true,
       .one fun v _ => v = .bool true]
      (fun W => Ext w W ∧ Bx3 W w.heap.size 27 (.bool b1) (.slice a1 n1 c1) (.slice d1 m1 o1) ∧ Bx3 W (w.heap.size + 1) 27 (.bool b2) (.slice a2 n2 c2) (.slice d2 m2 o2) ∧ Rw W (.agg #[.bool b1, .slice a1 n1 c1, .slice d1 m1 o1]) x ∧ Rw W (.agg #[.bool b2, .slice a2 n2 c2, .slice d2 m2 o2]) y ∧ Zw W (.agg #[.bool b105_7, .slice a105_7 n105_7 c105_7]) F ∧ Bx2 W g105_7 25 (.bool b105_7) (.slice a105_7 n105_7 c105_7) ∧ Zw W (.agg #[.bool b106_7, .slice a106_7 n106_7 c106_7]) G ∧ Bx2 W g106_7 25 (.bool b106_7) (.slice a106_7 n106_7 c106_7) ∧ Zw W (.agg #[.bool b107_9, .slice a107_9 n107_9 c107_9]) J ∧ Bx2 W g107_9 25 (.bool b107_9) (.slice a107_9 n107_9 c107_9) ∧ Rw W u107_2 (x + y) ∧ Zw W (.agg #[.bool b108_4, .slice a108_4 n108_4 c108_4]) ((F + G)) ∧ Bx2 W g108_4 25 (.bool b108_4) (.slice a108_4 n108_4 c108_4) ∧ Zw W (.agg #[.bool b109_4, .slice a109_4 n109_4 c109_4]) ((F + G + 1)) ∧ Bx2 W g109_4 25 (.bool b109_4) (.slice a109_4 n109_4 c109_4) ∧ Zw W u109_1 1 ∧ Rw W (.agg #[.bool b110_7, .slice a110_7 n110_7 c110_7, .slice d110_7 m110_7 o110_7]) U ∧ Bx3 W g110_7 27 (.bool b110_7) (.slice a110_7 n110_7 c110_7) (.slice d110_7 m110_7 o110_7) ∧ Zw W (.agg #[.bool b111_9, .slice a111_9 n111_9 c111_9]) ((F + G)) ∧ Bx2 W g111_9 25 (.bool b111_9) (.slice a111_9 n111_9 c111_9) ∧ Rw W u111_2 (x + U) ∧ W111.heap.size ≤ W.heap.size) ⟨Good.is _, Good.is _, Good.is _, Good.is _, Good.is _, Good.is _, Good.is _, Good.is _, Good.is _, Good.is _, Good.is _, Good.is _, Good.is _, Good.is _, Good.is _, Good.is _, Good.is _, Good.is _, Good.is _, Good.is _, Good.is _, Good.is _, Good.is _, trivial⟩
      ⟨E0, p3, p4, hx1, hx2, h105_4, p105_7, h106_4, p106_7, h107_6, p107_9, h107_2, h108_2, p108_4, h109_2, p109_4, h109_1, h110_4, p110_7, h111_6, p111_9, h111_2, Nat.le_refl _⟩ (A := ?A112) ?hA112 ?howe112 ?hfin112
     case hA112 =>
      intro vs
      simp only [putAll, Act.put, sA, sZ, sS, Nat.zero_add, Nat.reduceAdd]
      exact rfl
     case howe112 =>
      clear E0 p3 p4 hx1 hx2 h105_4 p105_7 h106_4 p106_7 h107_6 p107_9 h107_2 h108_2 p108_4 h109_2 p109_4 h109_1 h110_4 p110_7 h111_6 p111_9 h111_2
      intro hf
      refine ⟨oE 0 [] hf rfl ?_, oE 1 [0] hf rfl ?_, oE 2 [1] hf rfl ?_, oE 3 [1, 2] hf rfl ?_, oE 4 [1, 3] hf rfl ?_, oE 5 [4] hf rfl ?_, oE 6 [5] hf rfl ?_, oE 7 [5] hf rfl ?_, oE 8 [5, 6, 7] hf rfl ?_, oE 9 [5, 8] hf rfl ?_, oE 10 [5, 9] hf rfl ?_, oE 11 [10] hf rfl ?_, oE 12 [11] hf rfl ?_, oE 13 [11] hf rfl ?_, oE 14 [11, 12, 13] hf rfl ?_, oE 15 [11, 14] hf rfl ?_, oE 16 [11, 15] hf rfl ?_, oE 17 [16] hf rfl ?_, oE 18 [17] hf rfl ?_, oE 19 [17] hf rfl ?_, oE 20 [17, 18, 19] hf rfl ?_, oE 21 [17, 20] hf rfl ?_, oE 22 [21] hf rfl ?_, trivial⟩
      all_goals intro vs W hS hp hx KO hKO
      all_goals simp only [Act.put, sA, sZ, sS] at hKO
      ·go_simp
       refine (Try.alive06 _).mono ?_
       rintro e W1 ⟨rfl, hE⟩
       exact hKO _ W1 hE rfl
      ·have e0 := isOf hp.1; simp only [e0] at hKO; go_simp; exact hKO _ W (.refl W) rfl
      ·have e1 := isOf hp.1; simp only [e1] at hKO; go_simp; exact hKO _ W (.refl W) rfl
      ·have e1 := isOf hp.1; have e2 := isOf hp.2.1; simp only [e1, e2] at hKO; go_simp; exact hKO _ W (.refl W) rfl
      ·have e1 := isOf hp.1; have e3 := isOf hp.2.1; simp only [e1, e3] at hKO; go_simp; exact hKO _ W (.refl W) rfl
      ·have e4 := isOf hp.1; simp only [e4] at hKO; go_simp; exact hKO _ W (.refl W) rfl
      ·have e5 := isOf hp.1; simp only [e5] at hKO; have fc0 := hS.2.2.2.2.2.2.2.2.2.2.2.2.2.1.cell0; have fc1 := hS.2.2.2.2.2.2.2.2.2.2.2.2.2.1.cell1; go_simp; exact hKO _ W (.refl W) rfl
      ·have e5 := isOf hp.1; simp only [e5] at hKO; have fc0 := hS.2.2.2.2.2.2.2.2.2.2.1.cell0; have fc1 := hS.2.2.2.2.2.2.2.2.2.2.1.cell1; go_simp; exact hKO _ W (.refl W) rfl
      ·have e5 := isOf hp.1; have e6 := isOf hp.2.1; have e7 := isOf hp.2.2.1; simp only [e5, e6, e7] at hKO; go_simp
       refine (Try.refZCmpV (hS.2.2.2.2.2.2.2.2.2.2.2.2.1) (hS.2.2.2.2.2.2.2.2.2.1) HC1.out).mono ?_
       rintro e W1 ⟨rfl, hE⟩
       exact hKO _ W1 hE rfl
      ·have e5 := isOf hp.1; have e8 := isOf hp.2.1; simp only [e5, e8] at hKO; go_simp; exact hKO _ W (.refl W) rfl
      ·have e5 := isOf hp.1; have e9 := isOf hp.2.1; simp only [e5, e9] at hKO; go_simp; exact hKO _ W (.refl W) rfl
      ·have e10 := isOf hp.1; simp only [e10] at hKO; go_simp; exact hKO _ W (.refl W) rfl
      ·have e11 := isOf hp.1; simp only [e11] at hKO; have fc0 := hS.2.2.2.2.2.2.2.2.2.2.1.cell0; have fc1 := hS.2.2.2.2.2.2.2.2.2.2.1.cell1; go_simp; exact hKO _ W (.refl W) rfl
      ·have e11 := isOf hp.1; simp only [e11] at hKO; have fc0 := hS.2.2.2.2.2.2.2.2.2.2.2.2.2.2.2.1.cell0; have fc1 := hS.2.2.2.2.2.2.2.2.2.2.2.2.2.2.2.1.cell1; go_simp; exact hKO _ W (.refl W) rfl
      ·have e11 := isOf hp.1; have e12 := isOf hp.2.1; have e13 := isOf hp.2.2.1; simp only [e11, e12, e13] at hKO; go_simp
       refine (Try.refZCmpV (hS.2.2.2.2.2.2.2.2.2.1) (hS.2.2.2.2.2.2.2.2.2.2.2.2.2.2.1) HC2.out).mono ?_
       rintro e W1 ⟨rfl, hE⟩
       exact hKO _ W1 hE rfl
      ·have e11 := isOf hp.1; have e14 := isOf hp.2.1; simp only [e11, e14] at hKO; go_simp; exact hKO _ W (.refl W) rfl
      ·have e11 := isOf hp.1; have e15 := isOf hp.2.1; simp only [e11, e15] at hKO; go_simp; exact hKO _ W (.refl W) rfl
      ·have e16 := isOf hp.1; simp only [e16] at hKO; go_simp; exact hKO _ W (.refl W) rfl
      ·have e17 := isOf hp.1; simp only [e17] at hKO; have fc0 := hS.2.2.2.2.2.2.2.2.2.2.2.2.2.2.2.2.2.2.2.2.1.cell0; have fc1 := hS.2.2.2.2.2.2.2.2.2.2.2.2.2.2.2.2.2.2.2.2.1.cell1; go_simp; exact hKO _ W (.refl W) rfl
      ·have e17 := isOf hp.1; simp only [e17] at hKO; have fc0 := hS.2.2.2.2.2.2.2.2.2.2.2.2.2.1.cell0; have fc1 := hS.2.2.2.2.2.2.2.2.2.2.2.2.2.1.cell1; go_simp; exact hKO _ W (.refl W) rfl
      ·have e17 := isOf hp.1; have e18 := isOf hp.2.1; have e19 := isOf hp.2.2.1; simp only [e17, e18, e19] at hKO; go_simp
       refine (Try.refZSameD (hS.2.2.2.2.2.2.2.2.2.2.2.2.2.2.2.2.2.2.2.1) (hS.2.2.2.2.2.2.2.2.2.2.2.2.1) rfl).mono ?_
       rintro e W1 ⟨rfl, hE⟩
       exact hKO _ W1 hE rfl
      ·have e17 := isOf hp.1; have e20 := isOf hp.2.1; simp only [e17, e20] at hKO; go_simp; exact hKO _ W (.refl W) rfl
      ·have e21 := isOf hp.1; simp only [e21] at hKO; go_simp; exact hKO _ W (.refl W) rfl
     intro vs W112 hS hp
     clear szw112 E0 p3 p4 hx1 hx2 h105_4 p105_7 h106_4 p106_7 h107_6 p107_9 h107_2 h108_2 p108_4 h109_2 p109_4 h109_1 h110_4 p110_7 h111_6 p111_9 h111_2
     obtain ⟨E0, p3, p4, hx1, hx2, h105_4, p105_7, h106_4, p106_7, h107_6, p107_9, h107_2, h108_2, p108_4, h109_2, p109_4, h109_1, h110_4, p110_7, h111_6, p111_9, h111_2, sz112⟩ := hS
     obtain ⟨h112_0, h112_1, h112_2, h112_3, h112_4, h112_5, h112_6, h112_7, h112_8, h112_9, h112_10, h112_11, h112_12, h112_13, h112_14, h112_15, h112_16, h112_17, h112_18, h112_19, h112_20, h112_21, h112_22, -⟩ := hp
     replace h112_0 : vs 0 = .bool true := h112_0
     replace h112_1 : vs 1 = .bool true := h112_1
     replace h112_2 : vs 2 = .int .i64 0 := h112_2
     replace h112_3 : vs 3 = .bool true := h112_3
     replace h112_4 : vs 4 = .bool true := h112_4
     replace h112_5 : vs 5 = .bool true := h112_5
     replace h112_6 : vs 6 = .agg #[.bool b108_4, .slice a108_4 n108_4 c108_4] := h112_6
     replace h112_7 : vs 7 = .agg #[.bool b107_9, .slice a107_9 n107_9 c107_9] := h112_7
     replace h112_8 : vs 8 = .int .i64 e1 := h112_8
     replace h112_9 : vs 9 = .bool true := h112_9
     replace h112_10 : vs 10 = .bool true := h112_10
     replace h112_11 : vs 11 = .bool true := h112_11
     replace h112_12 : vs 12 = .agg #[.bool b107_9, .slice a107_9 n107_9 c107_9] := h112_12
     replace h112_13 : vs 13 = .agg #[.bool b109_4, .slice a109_4 n109_4 c109_4] := h112_13
     replace h112_14 : vs 14 = .int .i64 e2 := h112_14
     replace h112_15 : vs 15 = .bool true := h112_15
     replace h112_16 : vs 16 = .bool true := h112_16
     replace h112_17 : vs 17 = .bool true := h112_17
     replace h112_18 : vs 18 = .agg #[.bool b111_9, .slice a111_9 n111_9 c111_9] := h112_18
     replace h112_19 : vs 19 = .agg #[.bool b108_4, .slice a108_4 n108_4 c108_4] := h112_19
     replace h112_20 : vs 20 = .bool true := h112_20
     replace h112_21 : vs 21 = .bool true := h112_21
     replace h112_22 : vs 22 = .bool true := h112_22
     simp only [h112_0, h112_1, h112_2, h112_3, h112_4, h112_5, h112_6, h112_7, h112_8, h112_9, h112_10, h112_11, h112_12, h112_13, h112_14, h112_15, h112_16, h112_17, h112_18, h112_19, h112_20, h112_21, h112_22]
     clear h112_0 h112_1 h112_2 h112_3 h112_4 h112_5 h112_6 h112_7 h112_8 h112_9 h112_10 h112_11 h112_12 h112_13 h112_14 h112_15 h112_16 h112_17 h112_18 h112_19 h112_20 h112_21 h112_22
     obtain ⟨kp3_0, kp3_1, kp3_2⟩ := p3.c3
     obtain ⟨kp4_0, kp4_1, kp4_2⟩ := p4.c3
     obtain ⟨kp105_7_0, kp105_7_1⟩ := p105_7.c2
     obtain ⟨kp106_7_0, kp106_7_1⟩ := p106_7.c2
     obtain ⟨kp107_9_0, kp107_9_1⟩ := p107_9.c2
     obtain ⟨kp108_4_0, kp108_4_1⟩ := p108_4.c2
     obtain ⟨kp109_4_0, kp109_4_1⟩ := p109_4.c2
     obtain ⟨kp110_7_0, kp110_7_1, kp110_7_2⟩ := p110_7.c3
     obtain ⟨kp111_9_0, kp111_9_1⟩ := p111_9.c2
     go_wp2; go_ret
     exact ⟨rfl, E0⟩

theorem Try.refShrK6 {v : Value} {N L : Nat} {w : World} (h : Nw w v N) (s : Sm L N) (hL : L ≤ 10000000) (K : Nat) (hK : K ≤ 20000) :
  Calls Try.prog 37 #[v, .int .i64 (K : Int)] w fun e w' => ∃ v', e = .returned (.tuple #[v', .int .i64 0]) ∧ Nw w' v' (N / 2 ^ K) ∧ Ext w w' :=
 (Try.refShr h s hL K).mono fun _ _ ⟨v', h1, h2, h3, _⟩ => ⟨v', by rw [h1, shE_in hK], by rw [← shrV_in hK]; exact h2, h3⟩

set_option maxRecDepth 100000 in
set_option maxHeartbeats 8000000 in
theorem Try.lawDyadFiner {b1 : Bool} {a1 : Option Addr} {n1 c1 : Nat} {d1 : Option Addr} {m1 o1 : Nat} {xs1 ys1 : List Nat} {w : World} (h1 : Nt w (.slice a1 n1 c1) xs1) (k1 : Nt w (.slice d1 m1 o1) ys1) (kk : Int) (u : Int) (hu1 : 0 ≤ u) (hu2 : u < 256) :
  Calls Try.prog 8 #[.agg #[.bool b1, .slice a1 n1 c1, .slice d1 m1 o1], .int .i64 kk, .int .u8 u] w fun e w' => e = .returned (.bool true) ∧ Ext w w' := by
 cases hg0 : fewR b1 xs1 ys1 ((4 : Nat) : Int)
 ·have HG0 := Lib.hid hg0
  clear hg0
  obtain ⟨W0, hW0⟩ : ∃ W0, W0 = (w.alloc (.cells #[.bool b1, .slice a1 n1 c1, .slice d1 m1 o1] 27)) := ⟨_, rfl⟩
  have E0 : Ext w W0 := by rw [hW0]; exact (Ext.alloc1 w (.cells #[.bool b1, .slice a1 n1 c1, .slice d1 m1 o1] 27))
  replace h1 : Nt W0 (.slice a1 n1 c1) xs1 := h1.ext E0
  replace k1 : Nt W0 (.slice d1 m1 o1) ys1 := k1.ext E0
  have p3 : Bx3 W0 w.heap.size 27 (.bool b1) (.slice a1 n1 c1) (.slice d1 m1 o1) := by rw [hW0]; exact (Bx3.new w 27 (.bool b1) (.slice a1 n1 c1) (.slice d1 m1 o1))
  go_enter Try.func8, Try.ntmps8
  obtain ⟨kp3_0, kp3_1, kp3_2⟩ := p3.c3
  go_wp2_with fail
  rw [← hW0]
  clear hW0; clear kp3_0 kp3_1 kp3_2
  refine (Try.refRFew h1 k1 4 (by omega)).mono ?_
  rintro e Wf0 ⟨rfl, hE⟩
  rw [HG0.out]; replace E0 := (Ext.trans E0 hE); replace h1 := (h1.ext hE)
  replace k1 := (k1.ext hE)
  replace p3 := (p3.ext hE); clear hE
  obtain ⟨kp3_0, kp3_1, kp3_2⟩ := p3.c3
  go_wp2_with fail
  clear kp3_0 kp3_1 kp3_2
  refine (Try.alive06 _).mono ?_
  rintro e We ⟨rfl, hE⟩
  replace E0 := (Ext.trans E0 hE); replace h1 := (h1.ext hE)
  replace k1 := (k1.ext hE)
  replace p3 := (p3.ext hE); clear hE
  obtain ⟨kp3_0, kp3_1, kp3_2⟩ := p3.c3
  go_wp2; go_ret
  exact ⟨rfl, E0⟩
 ·have HG0 := Lib.hid hg0
  clear hg0
  obtain ⟨W0, hW0⟩ : ∃ W0, W0 = (w.alloc (.cells #[.bool b1, .slice a1 n1 c1, .slice d1 m1 o1] 27)) := ⟨_, rfl⟩
  have E0 : Ext w W0 := by rw [hW0]; exact (Ext.alloc1 w (.cells #[.bool b1, .slice a1 n1 c1, .slice d1 m1 o1] 27))
  replace h1 : Nt W0 (.slice a1 n1 c1) xs1 := h1.ext E0
  replace k1 : Nt W0 (.slice d1 m1 o1) ys1 := k1.ext E0
  have p3 : Bx3 W0 w.heap.size 27 (.bool b1) (.slice a1 n1 c1) (.slice d1 m1 o1) := by rw [hW0]; exact (Bx3.new w 27 (.bool b1) (.slice a1 n1 c1) (.slice d1 m1 o1))
  go_enter Try.func8, Try.ntmps8
  obtain ⟨kp3_0, kp3_1, kp3_2⟩ := p3.c3
  go_wp2_with fail
  rw [← hW0]
  clear hW0; clear kp3_0 kp3_1 kp3_2
  refine (Try.refRFew h1 k1 4 (by omega)).mono ?_
  rintro e Wf0 ⟨rfl, hE⟩
  rw [HG0.out]; replace E0 := (Ext.trans E0 hE); replace h1 := (h1.ext hE)
  replace k1 := (k1.ext hE)
  replace p3 := (p3.ext hE); clear hE
  obtain ⟨x, hx1, s1⟩ := fewR_rw (L := 4) h1 k1 HG0.out
  clear h1 k1 HG0
  by_cases hk0 : kk < 0
  ·have hk0d := decide_eq_true hk0
   obtain ⟨kp3_0, kp3_1, kp3_2⟩ := p3.c3
   go_wp2_with fail
   clear kp3_0 kp3_1 kp3_2
   refine (Try.alive06 _).mono ?_
   rintro e We ⟨rfl, hE⟩
   replace E0 := (Ext.trans E0 hE); replace p3 := (p3.ext hE); replace hx1 := (hx1.ext hE); clear hE
   obtain ⟨kp3_0, kp3_1, kp3_2⟩ := p3.c3
   go_wp2; go_ret
   exact ⟨rfl, E0⟩
  ·have hk0d := decide_eq_false hk0
   by_cases hk4 : 300 < kk
   ·have hk4d := decide_eq_true hk4
    obtain ⟨kp3_0, kp3_1, kp3_2⟩ := p3.c3
    go_wp2_with fail
    clear kp3_0 kp3_1 kp3_2
    refine (Try.alive06 _).mono ?_
    rintro e We ⟨rfl, hE⟩
    replace E0 := (Ext.trans E0 hE); replace p3 := (p3.ext hE); replace hx1 := (hx1.ext hE); clear hE
    obtain ⟨kp3_0, kp3_1, kp3_2⟩ := p3.c3
    go_wp2; go_ret
    exact ⟨rfl, E0⟩
   ·have hk4d := decide_eq_false hk4
    obtain ⟨K, rfl⟩ := Int.eq_ofNat_of_zero_le (show 0 ≤ kk by omega)
    have hKb : K ≤ 300 := by omega
    have hk4n : ¬ 300 < K := by omega
    have hk0n : 0 ≤ K := Nat.zero_le K
    obtain ⟨m, rfl⟩ := Int.eq_ofNat_of_zero_le hu1
    obtain ⟨n, hn⟩ : ∃ n, n = m % 64 := ⟨_, rfl⟩
    have hnb : n ≤ 63 := by omega
    have ht1 : ((m : Int)).tmod 64 = (n : Int) := by rw [Int.tmod_eq_emod_of_nonneg (by omega)]; omega
    have ht2 : (m : Int) % 64 = (n : Int) := by omega
    have ht3 : IntKind.u8.wrap (((m : Int)).tmod 64) = (n : Int) := by rw [ht1, IntKind.wrap_u8]; omega
    have ht4 : IntKind.i64.wrap (n : Int) = (n : Int) := by rw [IntKind.wrap_i64]; omega
    have ht5 : IntKind.u8.wrap (n : Int) = (n : Int) := by rw [IntKind.wrap_u8]; omega
    have hw1 : IntKind.i64.wrap ((K : Int) + (n : Int)) = ((K + n : Nat) : Int) := by rw [IntKind.wrap_i64]; omega
    clear hn hu1 hu2
    obtain ⟨F, hF_⟩ : ∃ F : Int, (x * P2 (K + n)).floor = F := ⟨_, rfl⟩
    obtain ⟨C, hC_⟩ : ∃ C : Int, (x * P2 (K + n)).ceil = C := ⟨_, rfl⟩
    obtain ⟨G, hG_⟩ : ∃ G : Int, (x * P2 K).floor = G := ⟨_, rfl⟩
    obtain ⟨J, hJ_⟩ : ∃ J : Int, (x * P2 K).ceil = J := ⟨_, rfl⟩
    obtain ⟨X, hX_⟩ : ∃ X : Rat, (F : Rat) / P2 (K + n) = X := ⟨_, rfl⟩
    obtain ⟨Y, hY_⟩ : ∃ Y : Rat, (C : Rat) / P2 (K + n) = Y := ⟨_, rfl⟩
    have HF1 := Lib.hid hF_
    have HC1 := Lib.hid hC_
    have HF2 := Lib.hid hG_
    have HC2 := Lib.hid hJ_
    have HX := Lib.hid hX_
    have HY := Lib.hid hY_
    have HA1 : Hid ((X * P2 K).floor = G) := Lib.hid (by rw [← hX_, ← hF_, fine_floor, hG_])
    have HA2 : Hid ((Y * P2 K).ceil = J) := Lib.hid (by rw [← hY_, ← hC_, fine_ceil, hJ_])
    have hdv : G = F / ((2 ^ n : Nat) : Int) := by rw [← HA1.out, ← hX_, fine_div]
    have SF : Hid (Sm 12 F.natAbs) := Lib.hid (by rw [← hF_]; exact (Sm.floor s1 (K + n)).mono (by omega))
    have SC : Hid (Sm 12 C.natAbs) := Lib.hid (by rw [← hC_]; exact (Sm.ceil s1 (K + n)).mono (by omega))
    have SX : Hid (SmR 20 X) := Lib.hid (by rw [← hX_, ← back_eq]; exact (SmR.back SF.out (K + n)).mono (by omega))
    have SY : Hid (SmR 20 Y) := Lib.hid (by rw [← hY_, ← back_eq]; exact (SmR.back SC.out (K + n)).mono (by omega))
    clear hF_ hC_ hG_ hJ_ hX_ hY_
    have HD0 := Lib.hid hdv
    clear hdv
    obtain ⟨kp3_0, kp3_1, kp3_2⟩ := p3.c3
    go_upto_region 3 with (fail)
    clear kp3_0 kp3_1 kp3_2; have ltp3 := p3.lt; have szw113 := Ext.size E0
    refine region_gs [.one fun v _ => v = .int .u8 (m : Int),
      .one fun v _ => v = .int .u8 (n : Int),
      .one fun v _ => v = .int .i64 (n : Int),
      .one fun v _ => v = .int .i64 (n : Int)]
     (fun W => Ext w W ∧ Bx3 W w.heap.size 27 (.bool b1) (.slice a1 n1 c1) (.slice d1 m1 o1) ∧ Rw W (.agg #[.bool b1, .slice a1 n1 c1, .slice d1 m1 o1]) x ∧ Wf0.heap.size ≤ W.heap.size) ⟨Good.is _, Good.is _, Good.is _, Good.is _, trivial⟩
     ⟨E0, p3, hx1, Nat.le_refl _⟩ (A := ?A113) ?hA113 ?howe113 ?hfin113
    case hA113 =>
     intro vs
     simp only [putAll, Act.put, sA, sZ, sS, Nat.zero_add, Nat.reduceAdd]
     exact rfl
    case howe113 =>
     clear E0 p3 hx1
     intro hf
     refine ⟨oE 0 [] hf rfl ?_, oE 1 [0] hf rfl ?_, oE 2 [1] hf rfl ?_, oE 3 [2] hf rfl ?_, trivial⟩
     all_goals intro vs W hS hp hx KO hKO
     all_goals simp only [Act.put, sA, sZ, sS] at hKO
     ·go_simp; exact hKO _ W (.refl W) rfl
     ·have e0 := isOf hp.1; simp only [e0] at hKO; go_simp; exact hKO _ W (.refl W) rfl
     ·have e1 := isOf hp.1; simp only [e1] at hKO; go_simp; exact hKO _ W (.refl W) rfl
     ·have e2 := isOf hp.1; simp only [e2] at hKO; go_simp; exact hKO _ W (.refl W) rfl
    intro vs W113 hS hp
    clear szw113 E0 p3 hx1
    obtain ⟨E0, p3, hx1, sz113⟩ := hS
    obtain ⟨h113_0, h113_1, h113_2, h113_3, -⟩ := hp
    replace h113_0 : vs 0 = .int .u8 (m : Int) := h113_0
    replace h113_1 : vs 1 = .int .u8 (n : Int) := h113_1
    replace h113_2 : vs 2 = .int .i64 (n : Int) := h113_2
    replace h113_3 : vs 3 = .int .i64 (n : Int) := h113_3
    simp only [h113_0, h113_1, h113_2, h113_3]
    clear h113_0 h113_1 h113_2 h113_3; clear ht1 ht2 ht3 ht4 ht5
    obtain ⟨kp3_0, kp3_1, kp3_2⟩ := p3.c3
    go_upto_region 4 with (fail)
    clear kp3_0 kp3_1 kp3_2; have szw114 := Ext.size E0
    refine region_gs [.one fun v _ => v = .agg #[.bool b1, .slice a1 n1 c1, .slice d1 m1 o1],
      .one fun v _ => v = .int .i64 (K : Int),
      .one fun v _ => v = .int .i64 (n : Int),
      .one fun v _ => v = .int .i64 ((K + n : Nat) : Int),
      .one fun v W => ∃ v', v = .tuple #[v', .int .i64 0] ∧ (fun v W => Zw W v F) v' W,
      .one fun v W => ∃ v', v = .tuple #[v', .int .i64 0] ∧ (fun v W => Zw W v F) v' W,
      .one fun v W => Zw W v F,
      .one fun v _ => v = .int .i64 0,
      .one fun v W => ∃ g, v = .pointer (some ⟨g, 0, none⟩) ∧ W113.heap.size ≤ g ∧ Form W g 25 2,
      .three 8 6 (fun p r _ W => Put2 W113.heap.size 25 p r W),
      .one fun v _ => v = .int .i64 0]
     (fun W => Ext w W ∧ Bx3 W w.heap.size 27 (.bool b1) (.slice a1 n1 c1) (.slice d1 m1 o1) ∧ Rw W (.agg #[.bool b1, .slice a1 n1 c1, .slice d1 m1 o1]) x ∧ W113.heap.size ≤ W.heap.size) ⟨Good.is _, Good.is _, Good.is _, Good.is _, (Good.zed _).tup _, (Good.zed _).tup _, Good.zed _, Good.is _, Good.box _ _ _, cert_put2, Good.is _, trivial⟩
     ⟨E0, p3, hx1, Nat.le_refl _⟩ (A := ?A114) ?hA114 ?howe114 ?hfin114
    case hA114 =>
     intro vs
     simp only [putAll, Act.put, sA, sZ, sS, Nat.zero_add, Nat.reduceAdd]
     exact rfl
    case howe114 =>
     clear E0 p3 hx1
     intro hf
     refine ⟨oE 0 [] hf rfl ?_, oE 1 [] hf rfl ?_, oE 2 [] hf rfl ?_, oE 3 [1, 2] hf rfl ?_, oE 4 [0, 3] hf rfl ?_, oE 5 [4] hf rfl ?_, oE 6 [5] hf rfl ?_, oE 7 [5] hf rfl ?_, oE 8 [] hf rfl ?_, oW 9 [8, 6] hf rfl ?_, oE 10 [7] hf rfl ?_, trivial⟩
     all_goals intro vs W hS hp hx KO hKO
     all_goals simp only [Act.put, sA, sZ, sS] at hKO
     ·have fc0 := hS.2.1.cell0; have fc1 := hS.2.1.cell1; have fc2 := hS.2.1.cell2; go_simp; exact hKO _ W (.refl W) rfl
     ·go_simp; exact hKO _ W (.refl W) rfl
     ·go_simp; exact hKO _ W (.refl W) rfl
     ·have e1 := isOf hp.1; have e2 := isOf hp.2.1; simp only [e1, e2] at hKO; go_simp; exact hKO _ W (.refl W) rfl
     ·have e0 := isOf hp.1; have e3 := isOf hp.2.1; simp only [e0, e3] at hKO; go_simp
      refine (Try.dyadFloor (hS.2.2.1) s1 (by omega) (K + n) (by omega)).mono ?_
      rintro e W1 ⟨v, rfl, hv, hE⟩
      rw [HF1.out] at hv
      exact hKO _ W1 hE ⟨_, rfl, hv⟩
     ·have q4 := hp.1
      obtain ⟨u, ev, hu⟩ := q4
      replace ev : vs 4 = _ := ev; simp only [ev] at hKO; go_simp; exact hKO _ W (Ext.refl W) ⟨u, rfl, hu⟩
     ·have q5 := hp.1
      obtain ⟨u, ev, hu⟩ := q5
      replace ev : vs 5 = _ := ev; simp only [ev] at hKO; go_simp; exact hKO _ W (Ext.refl W) hu
     ·have q5 := hp.1
      obtain ⟨u, ev, hu⟩ := q5
      replace ev : vs 5 = _ := ev; simp only [ev] at hKO; go_simp; exact hKO _ W (.refl W) rfl
     ·have hn := Bx2.new W 25 (.bool false) (.slice none 0 0)
      have hE := Ext.alloc1 W (.cells #[.bool false, .slice none 0 0] 25)
      have hsz := hS.2.2.2
      go_simp
      exact hKO _ _ hE ⟨_, rfl, hsz, hn.form⟩
     ·have q8 := hp.1; have q6 := hp.2.1
      obtain ⟨g, ev, hg, hf⟩ := q8
      replace ev : vs 8 = _ := ev
      obtain ⟨x0_0, x0_1, hx, hno⟩ := hf.bx2
      have qr := q6
      obtain ⟨b3, a3, n3, c3, er, -, -⟩ := qr
      replace er : vs 6 = _ := er
      have r0 := hx.froz0
      have t0 := hx.cell0
      have r1 := hx.froz1
      have t1 := hx.cell1
      have hw := Wr.set2 hx hno b3 a3 n3 c3
      have hq := hx.set (.bool b3) (.slice a3 n3 c3)
      simp only [ev, er] at hKO; go_simp
      exact hKO _ _ hw ⟨(Ext.wr hS.1 hw (by omega)), (hS.2.1.wr hw (by omega)), (hS.2.2.1.wr hw), (Nat.le_trans hS.2.2.2 hw.apart.size)⟩ ⟨g, b3, a3, n3, c3, ev, er, hg, hq⟩
     ·have e7 := isOf hp.1; simp only [e7] at hKO; go_simp; exact hKO _ W (.refl W) rfl
    intro vs W114 hS hp
    clear szw114 E0 p3 hx1
    obtain ⟨E0, p3, hx1, sz114⟩ := hS
    obtain ⟨h114_0, h114_1, h114_2, h114_3, h114_4, h114_5, h114_6, h114_7, h114_8, h114_9, h114_10, -⟩ := hp
    obtain ⟨g114_9, b114_9, a114_9, n114_9, c114_9, ev114_9, er114_9, hg114_9, p114_9⟩ := h114_9
    replace ev114_9 : vs 8 = _ := ev114_9; replace er114_9 : vs 6 = _ := er114_9; replace h114_6 := (show Zw W114 (vs 6) F from h114_6)
    rw [er114_9] at h114_6
    replace h114_0 : vs 0 = .agg #[.bool b1, .slice a1 n1 c1, .slice d1 m1 o1] := h114_0
    replace h114_1 : vs 1 = .int .i64 (K : Int) := h114_1
    replace h114_2 : vs 2 = .int .i64 (n : Int) := h114_2
    replace h114_3 : vs 3 = .int .i64 ((K + n : Nat) : Int) := h114_3
    replace h114_7 : vs 7 = .int .i64 0 := h114_7
    replace h114_10 : vs 10 = .int .i64 0 := h114_10
    simp only [ev114_9, er114_9, h114_0, h114_1, h114_2, h114_3, h114_7, h114_10]
    clear ev114_9 er114_9 h114_0 h114_1 h114_2 h114_3 h114_7 h114_10 h114_4 h114_5 h114_8
    obtain ⟨kp3_0, kp3_1, kp3_2⟩ := p3.c3
    obtain ⟨kp114_9_0, kp114_9_1⟩ := p114_9.c2
    go_upto_region 5 with (fail)
    clear kp3_0 kp3_1 kp3_2 kp114_9_0 kp114_9_1; have ltp114_9 := p114_9.lt; have szw115 := Ext.size E0
    refine region_gs [.one fun v _ => v = .agg #[.bool b114_9, .slice a114_9 n114_9 c114_9],
      .one fun v _ => v = .int .i64 (K : Int),
      .one fun v _ => v = .int .i64 (n : Int),
      .one fun v _ => v = .int .i64 ((K + n : Nat) : Int),
      .one fun v W => ∃ v', v = .tuple #[v', .int .i64 0] ∧ (fun v W => Rw W v X) v' W,
      .one fun v W => ∃ v', v = .tuple #[v', .int .i64 0] ∧ (fun v W => Rw W v X) v' W,
      .one fun v W => Rw W v X,
      .one fun v _ => v = .int .i64 0,
      .one fun v W => ∃ g, v = .pointer (some ⟨g, 0, none⟩) ∧ W114.heap.size ≤ g ∧ Form W g 27 3,
      .three 8 6 (fun p r _ W => Put3 W114.heap.size 27 p r W),
      .one fun v _ => v = .int .i64 0]
     (fun W => Ext w W ∧ Bx3 W w.heap.size 27 (.bool b1) (.slice a1 n1 c1) (.slice d1 m1 o1) ∧ Rw W (.agg #[.bool b1, .slice a1 n1 c1, .slice d1 m1 o1]) x ∧ Zw W (.agg #[.bool b114_9, .slice a114_9 n114_9 c114_9]) F ∧ Bx2 W g114_9 25 (.bool b114_9) (.slice a114_9 n114_9 c114_9) ∧ W114.heap.size ≤ W.heap.size) ⟨Good.is _, Good.is _, Good.is _, Good.is _, (Good.rat _).tup _, (Good.rat _).tup _, Good.rat _, Good.is _, Good.box _ _ _, cert_put3, Good.is _, trivial⟩
     ⟨E0, p3, hx1, h114_6, p114_9, Nat.le_refl _⟩ (A := ?A115) ?hA115 ?howe115 ?hfin115
    case hA115 =>
     intro vs
     simp only [putAll, Act.put, sA, sZ, sS, Nat.zero_add, Nat.reduceAdd]
     exact rfl
    case howe115 =>
     clear E0 p3 hx1 h114_6 p114_9
     intro hf
     refine ⟨oE 0 [] hf rfl ?_, oE 1 [] hf rfl ?_, oE 2 [] hf rfl ?_, oE 3 [1, 2] hf rfl ?_, oE 4 [0, 3] hf rfl ?_, oE 5 [4] hf rfl ?_, oE 6 [5] hf rfl ?_, oE 7 [5] hf rfl ?_, oE 8 [] hf rfl ?_, oW 9 [8, 6] hf rfl ?_, oE 10 [7] hf rfl ?_, trivial⟩
     all_goals intro vs W hS hp hx KO hKO
     all_goals simp only [Act.put, sA, sZ, sS] at hKO
     ·have fc0 := hS.2.2.2.2.1.cell0; have fc1 := hS.2.2.2.2.1.cell1; go_simp; exact hKO _ W (.refl W) rfl
     ·go_simp; exact hKO _ W (.refl W) rfl
     ·go_simp; exact hKO _ W (.refl W) rfl
     ·have e1 := isOf hp.1; have e2 := isOf hp.2.1; simp only [e1, e2] at hKO; go_simp; exact hKO _ W (.refl W) rfl
     ·have e0 := isOf hp.1; have e3 := isOf hp.2.1; simp only [e0, e3] at hKO; go_simp
      refine (Try.dyadBack (hS.2.2.2.1) SF.out (by omega) (K + n) (by omega)).mono ?_
      rintro e W1 ⟨v, rfl, hv, hE⟩
      rw [HX.out] at hv
      exact hKO _ W1 hE ⟨_, rfl, hv⟩
     ·have q4 := hp.1
      obtain ⟨u, ev, hu⟩ := q4
      replace ev : vs 4 = _ := ev; simp only [ev] at hKO; go_simp; exact hKO _ W (Ext.refl W) ⟨u, rfl, hu⟩
     ·have q5 := hp.1
      obtain ⟨u, ev, hu⟩ := q5
      replace ev : vs 5 = _ := ev; simp only [ev] at hKO; go_simp; exact hKO _ W (Ext.refl W) hu
     ·have q5 := hp.1
      obtain ⟨u, ev, hu⟩ := q5
      replace ev : vs 5 = _ := ev; simp only [ev] at hKO; go_simp; exact hKO _ W (.refl W) rfl
     ·have hn := Bx3.new W 27 (.bool false) (.slice none 0 0) (.slice none 0 0)
      have hE := Ext.alloc1 W (.cells #[.bool false, .slice none 0 0, .slice none 0 0] 27)
      have hsz := hS.2.2.2.2.2
      go_simp
      exact hKO _ _ hE ⟨_, rfl, hsz, hn.form⟩
     ·have q8 := hp.1; have q6 := hp.2.1
      obtain ⟨g, ev, hg, hf⟩ := q8
      replace ev : vs 8 = _ := ev
      obtain ⟨x0_0, x0_1, x0_2, hx, hno⟩ := hf.bx3
      have qr := q6
      obtain ⟨b3, a3, n3, c3, d3, m3, o3, er, -, -, -⟩ := qr
      replace er : vs 6 = _ := er
      have r0 := hx.froz0
      have t0 := hx.cell0
      have r1 := hx.froz1
      have t1 := hx.cell1
      have r2 := hx.froz2
      have t2 := hx.cell2
      have hw := Wr.set3 hx hno b3 a3 n3 c3 d3 m3 o3
      have hq := hx.set (.bool b3) (.slice a3 n3 c3) (.slice d3 m3 o3)
      simp only [ev, er] at hKO; go_simp
      exact hKO _ _ hw ⟨(Ext.wr hS.1 hw (by omega)), (hS.2.1.wr hw (by omega)), (hS.2.2.1.wr hw), (hS.2.2.2.1.wr hw), (hS.2.2.2.2.1.wr hw (by omega)), (Nat.le_trans hS.2.2.2.2.2 hw.apart.size)⟩ ⟨g, b3, a3, n3, c3, d3, m3, o3, ev, er, hg, hq⟩
     ·have e7 := isOf hp.1; simp only [e7] at hKO; go_simp; exact hKO _ W (.refl W) rfl
    intro vs W115 hS hp
    clear szw115 E0 p3 hx1 h114_6 p114_9
    obtain ⟨E0, p3, hx1, h114_6, p114_9, sz115⟩ := hS
    obtain ⟨h115_0, h115_1, h115_2, h115_3, h115_4, h115_5, h115_6, h115_7, h115_8, h115_9, h115_10, -⟩ := hp
    obtain ⟨g115_9, b115_9, a115_9, n115_9, c115_9, d115_9, m115_9, o115_9, ev115_9, er115_9, hg115_9, p115_9⟩ := h115_9
    replace ev115_9 : vs 8 = _ := ev115_9; replace er115_9 : vs 6 = _ := er115_9; replace h115_6 := (show Rw W115 (vs 6) X from h115_6)
    rw [er115_9] at h115_6
    replace h115_0 : vs 0 = .agg #[.bool b114_9, .slice a114_9 n114_9 c114_9] := h115_0
    replace h115_1 : vs 1 = .int .i64 (K : Int) := h115_1
    replace h115_2 : vs 2 = .int .i64 (n : Int) := h115_2
    replace h115_3 : vs 3 = .int .i64 ((K + n : Nat) : Int) := h115_3
    replace h115_7 : vs 7 = .int .i64 0 := h115_7
    replace h115_10 : vs 10 = .int .i64 0 := h115_10
    simp only [ev115_9, er115_9, h115_0, h115_1, h115_2, h115_3, h115_7, h115_10]
    clear ev115_9 er115_9 h115_0 h115_1 h115_2 h115_3 h115_7 h115_10 h115_4 h115_5 h115_8
    obtain ⟨kp3_0, kp3_1, kp3_2⟩ := p3.c3
    obtain ⟨kp114_9_0, kp114_9_1⟩ := p114_9.c2
    obtain ⟨kp115_9_0, kp115_9_1, kp115_9_2⟩ := p115_9.c3
    go_upto_region 6 with (fail)
    clear kp3_0 kp3_1 kp3_2 kp114_9_0 kp114_9_1 kp115_9_0 kp115_9_1 kp115_9_2; have ltp115_9 := p115_9.lt; have szw116 := Ext.size E0
    refine region_gs [.one fun v _ => v = .agg #[.bool b1, .slice a1 n1 c1, .slice d1 m1 o1],
      .one fun v _ => v = .int .i64 (K : Int),
      .one fun v W => ∃ v', v = .tuple #[v', .int .i64 0] ∧ (fun v W => Zw W v G) v' W,
      .one fun v W => ∃ v', v = .tuple #[v', .int .i64 0] ∧ (fun v W => Zw W v G) v' W,
      .one fun v W => Zw W v G,
      .one fun v _ => v = .int .i64 0,
      .one fun v W => ∃ g, v = .pointer (some ⟨g, 0, none⟩) ∧ W115.heap.size ≤ g ∧ Form W g 25 2,
      .three 6 4 (fun p r _ W => Put2 W115.heap.size 25 p r W),
      .one fun v _ => v = .int .i64 0]
     (fun W => Ext w W ∧ Bx3 W w.heap.size 27 (.bool b1) (.slice a1 n1 c1) (.slice d1 m1 o1) ∧ Rw W (.agg #[.bool b1, .slice a1 n1 c1, .slice d1 m1 o1]) x ∧ Zw W (.agg #[.bool b114_9, .slice a114_9 n114_9 c114_9]) F ∧ Bx2 W g114_9 25 (.bool b114_9) (.slice a114_9 n114_9 c114_9) ∧ Rw W (.agg #[.bool b115_9, .slice a115_9 n115_9 c115_9, .slice d115_9 m115_9 o115_9]) X ∧ Bx3 W g115_9 27 (.bool b115_9) (.slice a115_9 n115_9 c115_9) (.slice d115_9 m115_9 o115_9) ∧ W115.heap.size ≤ W.heap.size) ⟨Good.is _, Good.is _, (Good.zed _).tup _, (Good.zed _).tup _, Good.zed _, Good.is _, Good.box _ _ _, cert_put2, Good.is _, trivial⟩
     ⟨E0, p3, hx1, h114_6, p114_9, h115_6, p115_9, Nat.le_refl _⟩ (A := ?A116) ?hA116 ?howe116 ?hfin116
    case hA116 =>
     intro vs
     simp only [putAll, Act.put, sA, sZ, sS, Nat.zero_add, Nat.reduceAdd]
     exact rfl
    case howe116 =>
     clear E0 p3 hx1 h114_6 p114_9 h115_6 p115_9
     intro hf
     refine ⟨oE 0 [] hf rfl ?_, oE 1 [] hf rfl ?_, oE 2 [0, 1] hf rfl ?_, oE 3 [2] hf rfl ?_, oE 4 [3] hf rfl ?_, oE 5 [3] hf rfl ?_, oE 6 [] hf rfl ?_, oW 7 [6, 4] hf rfl ?_, oE 8 [5] hf rfl ?_, trivial⟩
     all_goals intro vs W hS hp hx KO hKO
     all_goals simp only [Act.put, sA, sZ, sS] at hKO
     ·have fc0 := hS.2.1.cell0; have fc1 := hS.2.1.cell1; have fc2 := hS.2.1.cell2; go_simp; exact hKO _ W (.refl W) rfl
     ·go_simp; exact hKO _ W (.refl W) rfl
     ·have e0 := isOf hp.1; have e1 := isOf hp.2.1; simp only [e0, e1] at hKO; go_simp
      refine (Try.dyadFloor (hS.2.2.1) s1 (by omega) K (by omega)).mono ?_
      rintro e W1 ⟨v, rfl, hv, hE⟩
      rw [HF2.out] at hv
      exact hKO _ W1 hE ⟨_, rfl, hv⟩
     ·have q2 := hp.1
      obtain ⟨u, ev, hu⟩ := q2
      replace ev : vs 2 = _ := ev; simp only [ev] at hKO; go_simp; exact hKO _ W (Ext.refl W) ⟨u, rfl, hu⟩
     ·have q3 := hp.1
      obtain ⟨u, ev, hu⟩ := q3
      replace ev : vs 3 = _ := ev; simp only [ev] at hKO; go_simp; exact hKO _ W (Ext.refl W) hu
     ·have q3 := hp.1
      obtain ⟨u, ev, hu⟩ := q3
      replace ev : vs 3 = _ := ev; simp only [ev] at hKO; go_simp; exact hKO _ W (.refl W) rfl
     ·have hn := Bx2.new W 25 (.bool false) (.slice none 0 0)
      have hE := Ext.alloc1 W (.cells #[.bool false, .slice none 0 0] 25)
      have hsz := hS.2.2.2.2.2.2.2
      go_simp
      exact hKO _ _ hE ⟨_, rfl, hsz, hn.form⟩
     ·have q6 := hp.1; have q4 := hp.2.1
      obtain ⟨g, ev, hg, hf⟩ := q6
      replace ev : vs 6 = _ := ev
      obtain ⟨x0_0, x0_1, hx, hno⟩ := hf.bx2
      have qr := q4
      obtain ⟨b3, a3, n3, c3, er, -, -⟩ := qr
      replace er : vs 4 = _ := er
      have r0 := hx.froz0
      have t0 := hx.cell0
      have r1 := hx.froz1
      have t1 := hx.cell1
      have hw := Wr.set2 hx hno b3 a3 n3 c3
      have hq := hx.set (.bool b3) (.slice a3 n3 c3)
      simp only [ev, er] at hKO; go_simp
      exact hKO _ _ hw ⟨(Ext.wr hS.1 hw (by omega)), (hS.2.1.wr hw (by omega)), (hS.2.2.1.wr hw), (hS.2.2.2.1.wr hw), (hS.2.2.2.2.1.wr hw (by omega)), (hS.2.2.2.2.2.1.wr hw), (hS.2.2.2.2.2.2.1.wr hw (by omega)), (Nat.le_trans hS.2.2.2.2.2.2.2 hw.apart.size)⟩ ⟨g, b3, a3, n3, c3, ev, er, hg, hq⟩
     ·have e5 := isOf hp.1; simp only [e5] at hKO; go_simp; exact hKO _ W (.refl W) rfl
    intro vs W116 hS hp
    clear szw116 E0 p3 hx1 h114_6 p114_9 h115_6 p115_9
    obtain ⟨E0, p3, hx1, h114_6, p114_9, h115_6, p115_9, sz116⟩ := hS
    obtain ⟨h116_0, h116_1, h116_2, h116_3, h116_4, h116_5, h116_6, h116_7, h116_8, -⟩ := hp
    obtain ⟨g116_7, b116_7, a116_7, n116_7, c116_7, ev116_7, er116_7, hg116_7, p116_7⟩ := h116_7
    replace ev116_7 : vs 6 = _ := ev116_7; replace er116_7 : vs 4 = _ := er116_7; replace h116_4 := (show Zw W116 (vs 4) G from h116_4)
    rw [er116_7] at h116_4
    replace h116_0 : vs 0 = .agg #[.bool b1, .slice a1 n1 c1, .slice d1 m1 o1] := h116_0
    replace h116_1 : vs 1 = .int .i64 (K : Int) := h116_1
    replace h116_5 : vs 5 = .int .i64 0 := h116_5
    replace h116_8 : vs 8 = .int .i64 0 := h116_8
    simp only [ev116_7, er116_7, h116_0, h116_1, h116_5, h116_8]
    clear ev116_7 er116_7 h116_0 h116_1 h116_5 h116_8 h116_2 h116_3 h116_6
    obtain ⟨kp3_0, kp3_1, kp3_2⟩ := p3.c3
    obtain ⟨kp114_9_0, kp114_9_1⟩ := p114_9.c2
    obtain ⟨kp115_9_0, kp115_9_1, kp115_9_2⟩ := p115_9.c3
    obtain ⟨kp116_7_0, kp116_7_1⟩ := p116_7.c2
    go_upto_region 7 with (fail)
    clear kp3_0 kp3_1 kp3_2 kp114_9_0 kp114_9_1 kp115_9_0 kp115_9_1 kp115_9_2 kp116_7_0 kp116_7_1; have ltp116_7 := p116_7.lt; have szw117 := Ext.size E0
    refine region_gs [.one fun v _ => v = .agg #[.bool b115_9, .slice a115_9 n115_9 c115_9, .slice d115_9 m115_9 o115_9],
      .one fun v _ => v = .int .i64 (K : Int),
      .one fun v W => ∃ v', v = .tuple #[v', .int .i64 0] ∧ (fun v W => Zw W v G) v' W,
      .one fun v W => ∃ v', v = .tuple #[v', .int .i64 0] ∧ (fun v W => Zw W v G) v' W,
      .one fun v W => Zw W v G,
      .one fun v _ => v = .int .i64 0,
      .one fun v W => ∃ g, v = .pointer (some ⟨g, 0, none⟩) ∧ W116.heap.size ≤ g ∧ Form W g 25 2,
      .three 6 4 (fun p r _ W => Put2 W116.heap.size 25 p r W),
      .one fun v _ => v = .int .i64 0]
     (fun W => Ext w W ∧ Bx3 W w.heap.size 27 (.bool b1) (.slice a1 n1 c1) (.slice d1 m1 o1) ∧ Rw W (.agg #[.bool b1, .slice a1 n1 c1, .slice d1 m1 o1]) x ∧ Zw W (.agg #[.bool b114_9, .slice a114_9 n114_9 c114_9]) F ∧ Bx2 W g114_9 25 (.bool b114_9) (.slice a114_9 n114_9 c114_9) ∧ Rw W (.agg #[.bool b115_9, .slice a115_9 n115_9 c115_9, .slice d115_9 m115_9 o115_9]) X ∧ Bx3 W g115_9 27 (.bool b115_9) (.slice a115_9 n115_9 c115_9) (.slice d115_9 m115_9 o115_9) ∧ Zw W (.agg #[.bool b116_7, .slice a116_7 n116_7 c116_7]) G ∧ Bx2 W g116_7 25 (.bool b116_7) (.slice a116_7 n116_7 c116_7) ∧ W116.heap.size ≤ W.heap.size) ⟨Good.is _, Good.is _, (Good.zed _).tup _, (Good.zed _).tup _, Good.zed _, Good.is _, Good.box _ _ _, cert_put2, Good.is _, trivial⟩
     ⟨E0, p3, hx1, h114_6, p114_9, h115_6, p115_9, h116_4, p116_7, Nat.le_refl _⟩ (A := ?A117) ?hA117 ?howe117 ?hfin117
    case hA117 =>
     intro vs
     simp only [putAll, Act.put, sA, sZ, sS, Nat.zero_add, Nat.reduceAdd]
     exact rfl
    case howe117 =>
     clear E0 p3 hx1 h114_6 p114_9 h115_6 p115_9 h116_4 p116_7
     intro hf
     refine ⟨oE 0 [] hf rfl ?_, oE 1 [] hf rfl ?_, oE 2 [0, 1] hf rfl ?_, oE 3 [2] hf rfl ?_, oE 4 [3] hf rfl ?_, oE 5 [3] hf rfl ?_, oE 6 [] hf rfl ?_, oW 7 [6, 4] hf rfl ?_, oE 8 [5] hf rfl ?_, trivial⟩
     all_goals intro vs W hS hp hx KO hKO
     all_goals simp only [Act.put, sA, sZ, sS] at hKO
     ·have fc0 := hS.2.2.2.2.2.2.1.cell0; have fc1 := hS.2.2.2.2.2.2.1.cell1; have fc2 := hS.2.2.2.2.2.2.1.cell2; go_simp; exact hKO _ W (.refl W) rfl
     ·go_simp; exact hKO _ W (.refl W) rfl
     ·have e0 := isOf hp.1; have e1 := isOf hp.2.1; simp only [e0, e1] at hKO; go_simp
      refine (Try.dyadFloor (hS.2.2.2.2.2.1) SX.out (by omega) K (by omega)).mono ?_
      rintro e W1 ⟨v, rfl, hv, hE⟩
      rw [HA1.out] at hv
      exact hKO _ W1 hE ⟨_, rfl, hv⟩
     ·have q2 := hp.1
      obtain ⟨u, ev, hu⟩ := q2
      replace ev : vs 2 = _ := ev; simp only [ev] at hKO; go_simp; exact hKO _ W (Ext.refl W) ⟨u, rfl, hu⟩
     ·have q3 := hp.1
      obtain ⟨u, ev, hu⟩ := q3
      replace ev : vs 3 = _ := ev; simp only [ev] at hKO; go_simp; exact hKO _ W (Ext.refl W) hu
     ·have q3 := hp.1
      obtain ⟨u, ev, hu⟩ := q3
      replace ev : vs 3 = _ := ev; simp only [ev] at hKO; go_simp; exact hKO _ W (.refl W) rfl
     ·have hn := Bx2.new W 25 (.bool false) (.slice none 0 0)
      have hE := Ext.alloc1 W (.cells #[.bool false, .slice none 0 0] 25)
      have hsz := hS.2.2.2.2.2.2.2.2.2
      go_simp
      exact hKO _ _ hE ⟨_, rfl, hsz, hn.form⟩
     ·have q6 := hp.1; have q4 := hp.2.1
      obtain ⟨g, ev, hg, hf⟩ := q6
      replace ev : vs 6 = _ := ev
      obtain ⟨x0_0, x0_1, hx, hno⟩ := hf.bx2
      have qr := q4
      obtain ⟨b3, a3, n3, c3, er, -, -⟩ := qr
      replace er : vs 4 = _ := er
      have r0 := hx.froz0
      have t0 := hx.cell0
      have r1 := hx.froz1
      have t1 := hx.cell1
      have hw := Wr.set2 hx hno b3 a3 n3 c3
      have hq := hx.set (.bool b3) (.slice a3 n3 c3)
      simp only [ev, er] at hKO; go_simp
      exact hKO _ _ hw ⟨(Ext.wr hS.1 hw (by omega)), (hS.2.1.wr hw (by omega)), (hS.2.2.1.wr hw), (hS.2.2.2.1.wr hw), (hS.2.2.2.2.1.wr hw (by omega)), (hS.2.2.2.2.2.1.wr hw), (hS.2.2.2.2.2.2.1.wr hw (by omega)), (hS.2.2.2.2.2.2.2.1.wr hw), (hS.2.2.2.2.2.2.2.2.1.wr hw (by omega)), (Nat.le_trans hS.2.2.2.2.2.2.2.2.2 hw.apart.size)⟩ ⟨g, b3, a3, n3, c3, ev, er, hg, hq⟩
     ·have e5 := isOf hp.1; simp only [e5] at hKO; go_simp; exact hKO _ W (.refl W) rfl
    intro vs W117 hS hp
    clear szw117 E0 p3 hx1 h114_6 p114_9 h115_6 p115_9 h116_4 p116_7
    obtain ⟨E0, p3, hx1, h114_6, p114_9, h115_6, p115_9, h116_4, p116_7, sz117⟩ := hS
    obtain ⟨h117_0, h117_1, h117_2, h117_3, h117_4, h117_5, h117_6, h117_7, h117_8, -⟩ := hp
    obtain ⟨g117_7, b117_7, a117_7, n117_7, c117_7, ev117_7, er117_7, hg117_7, p117_7⟩ := h117_7
    replace ev117_7 : vs 6 = _ := ev117_7; replace er117_7 : vs 4 = _ := er117_7; replace h117_4 := (show Zw W117 (vs 4) G from h117_4)
    rw [er117_7] at h117_4
    replace h117_0 : vs 0 = .agg #[.bool b115_9, .slice a115_9 n115_9 c115_9, .slice d115_9 m115_9 o115_9] := h117_0
    replace h117_1 : vs 1 = .int .i64 (K : Int) := h117_1
    replace h117_5 : vs 5 = .int .i64 0 := h117_5
    replace h117_8 : vs 8 = .int .i64 0 := h117_8
    simp only [ev117_7, er117_7, h117_0, h117_1, h117_5, h117_8]
    clear ev117_7 er117_7 h117_0 h117_1 h117_5 h117_8 h117_2 h117_3 h117_6
    obtain ⟨kp3_0, kp3_1, kp3_2⟩ := p3.c3
    obtain ⟨kp114_9_0, kp114_9_1⟩ := p114_9.c2
    obtain ⟨kp115_9_0, kp115_9_1, kp115_9_2⟩ := p115_9.c3
    obtain ⟨kp116_7_0, kp116_7_1⟩ := p116_7.c2
    obtain ⟨kp117_7_0, kp117_7_1⟩ := p117_7.c2
    go_upto_region 8 with (fail)
    clear kp3_0 kp3_1 kp3_2 kp114_9_0 kp114_9_1 kp115_9_0 kp115_9_1 kp115_9_2 kp116_7_0 kp116_7_1 kp117_7_0 kp117_7_1; have ltp117_7 := p117_7.lt; have szw118 := Ext.size E0
    refine region_gs [.one fun v _ => v = .agg #[.bool b1, .slice a1 n1 c1, .slice d1 m1 o1],
      .one fun v _ => v = .int .i64 (K : Int),
      .one fun v _ => v = .int .i64 (n : Int),
      .one fun v _ => v = .int .i64 ((K + n : Nat) : Int),
      .one fun v W => ∃ v', v = .tuple #[v', .int .i64 0] ∧ (fun v W => Zw W v C) v' W,
      .one fun v W => ∃ v', v = .tuple #[v', .int .i64 0] ∧ (fun v W => Zw W v C) v' W,
      .one fun v W => Zw W v C,
      .one fun v _ => v = .int .i64 0,
      .one fun v W => ∃ g, v = .pointer (some ⟨g, 0, none⟩) ∧ W117.heap.size ≤ g ∧ Form W g 25 2,
      .three 8 6 (fun p r _ W => Put2 W117.heap.size 25 p r W),
      .one fun v _ => v = .int .i64 0]
     (fun W => Ext w W ∧ Bx3 W w.heap.size 27 (.bool b1) (.slice a1 n1 c1) (.slice d1 m1 o1) ∧ Rw W (.agg #[.bool b1, .slice a1 n1 c1, .slice d1 m1 o1]) x ∧ Zw W (.agg #[.bool b114_9, .slice a114_9 n114_9 c114_9]) F ∧ Bx2 W g114_9 25 (.bool b114_9) (.slice a114_9 n114_9 c114_9) ∧ Rw W (.agg #[.bool b115_9, .slice a115_9 n115_9 c115_9, .slice d115_9 m115_9 o115_9]) X ∧ Bx3 W g115_9 27 (.bool b115_9) (.slice a115_9 n115_9 c115_9) (.slice d115_9 m115_9 o115_9) ∧ Zw W (.agg #[.bool b116_7, .slice a116_7 n116_7 c116_7]) G ∧ Bx2 W g116_7 25 (.bool b116_7) (.slice a116_7 n116_7 c116_7) ∧ Zw W (.agg #[.bool b117_7, .slice a117_7 n117_7 c117_7]) G ∧ Bx2 W g117_7 25 (.bool b117_7) (.slice a117_7 n117_7 c117_7) ∧ W117.heap.size ≤ W.heap.size) ⟨Good.is _, Good.is _, Good.is _, Good.is _, (Good.zed _).tup _, (Good.zed _).tup _, Good.zed _, Good.is _, Good.box _ _ _, cert_put2, Good.is _, trivial⟩
     ⟨E0, p3, hx1, h114_6, p114_9, h115_6, p115_9, h116_4, p116_7, h117_4, p117_7, Nat.le_refl _⟩ (A := ?A118) ?hA118 ?howe118 ?hfin118
    case hA118 =>
     intro vs
     simp only [putAll, Act.put, sA, sZ, sS, Nat.zero_add, Nat.reduceAdd]
     exact rfl
    case howe118 =>
     clear E0 p3 hx1 h114_6 p114_9 h115_6 p115_9 h116_4 p116_7 h117_4 p117_7
     intro hf
     refine ⟨oE 0 [] hf rfl ?_, oE 1 [] hf rfl ?_, oE 2 [] hf rfl ?_, oE 3 [1, 2] hf rfl ?_, oE 4 [0, 3] hf rfl ?_, oE 5 [4] hf rfl ?_, oE 6 [5] hf rfl ?_, oE 7 [5] hf rfl ?_, oE 8 [] hf rfl ?_, oW 9 [8, 6] hf rfl ?_, oE 10 [7] hf rfl ?_, trivial⟩
     all_goals intro vs W hS hp hx KO hKO
     all_goals simp only [Act.put, sA, sZ, sS] at hKO
     ·have fc0 := hS.2.1.cell0; have fc1 := hS.2.1.cell1; have fc2 := hS.2.1.cell2; go_simp; exact hKO _ W (.refl W) rfl
     ·go_simp; exact hKO _ W (.refl W) rfl
     ·go_simp; exact hKO _ W (.refl W) rfl
     ·have e1 := isOf hp.1; have e2 := isOf hp.2.1; simp only [e1, e2] at hKO; go_simp; exact hKO _ W (.refl W) rfl
     ·have e0 := isOf hp.1; have e3 := isOf hp.2.1; simp only [e0, e3] at hKO; go_simp
      refine (Try.dyadCeil (hS.2.2.1) s1 (by omega) (K + n) (by omega)).mono ?_
      rintro e W1 ⟨v, rfl, hv, hE⟩
      rw [HC1.out] at hv
      exact hKO _ W1 hE ⟨_, rfl, hv⟩
     ·have q4 := hp.1
      obtain ⟨u, ev, hu⟩ := q4
      replace ev : vs 4 = _ := ev; simp only [ev] at hKO; go_simp; exact hKO _ W (Ext.refl W) ⟨u, rfl, hu⟩
     ·have q5 := hp.1
      obtain ⟨u, ev, hu⟩ := q5
      replace ev : vs 5 = _ := ev; simp only [ev] at hKO; go_simp; exact hKO _ W (Ext.refl W) hu
     ·have q5 := hp.1
      obtain ⟨u, ev, hu⟩ := q5
      replace ev : vs 5 = _ := ev; simp only [ev] at hKO; go_simp; exact hKO _ W (.refl W) rfl
     ·have hn := Bx2.new W 25 (.bool false) (.slice none 0 0)
      have hE := Ext.alloc1 W (.cells #[.bool false, .slice none 0 0] 25)
      have hsz := hS.2.2.2.2.2.2.2.2.2.2.2
      go_simp
      exact hKO _ _ hE ⟨_, rfl, hsz, hn.form⟩
     ·have q8 := hp.1; have q6 := hp.2.1
      obtain ⟨g, ev, hg, hf⟩ := q8
      replace ev : vs 8 = _ := ev
      obtain ⟨x0_0, x0_1, hx, hno⟩ := hf.bx2
      have qr := q6
      obtain ⟨b3, a3, n3, c3, er, -, -⟩ := qr
      replace er : vs 6 = _ := er
      have r0 := hx.froz0
      have t0 := hx.cell0
      have r1 := hx.froz1
      have t1 := hx.cell1
      have hw := Wr.set2 hx hno b3 a3 n3 c3
      have hq := hx.set (.bool b3) (.slice a3 n3 c3)
      simp only [ev, er] at hKO; go_simp
      exact hKO _ _ hw ⟨(Ext.wr hS.1 hw (by omega)), (hS.2.1.wr hw (by omega)), (hS.2.2.1.wr hw), (hS.2.2.2.1.wr hw), (hS.2.2.2.2.1.wr hw (by omega)), (hS.2.2.2.2.2.1.wr hw), (hS.2.2.2.2.2.2.1.wr hw (by omega)), (hS.2.2.2.2.2.2.2.1.wr hw), (hS.2.2.2.2.2.2.2.2.1.wr hw (by omega)), (hS.2.2.2.2.2.2.2.2.2.1.wr hw), (hS.2.2.2.2.2.2.2.2.2.2.1.wr hw (by omega)), (Nat.le_trans hS.2.2.2.2.2.2.2.2.2.2.2 hw.apart.size)⟩ ⟨g, b3, a3, n3, c3, ev, er, hg, hq⟩
     ·have e7 := isOf hp.1; simp only [e7] at hKO; go_simp; exact hKO _ W (.refl W) rfl
    intro vs W118 hS hp
    clear szw118 E0 p3 hx1 h114_6 p114_9 h115_6 p115_9 h116_4 p116_7 h117_4 p117_7
    obtain ⟨E0, p3, hx1, h114_6, p114_9, h115_6, p115_9, h116_4, p116_7, h117_4, p117_7, sz118⟩ := hS
    obtain ⟨h118_0, h118_1, h118_2, h118_3, h118_4, h118_5, h118_6, h118_7, h118_8, h118_9, h118_10, -⟩ := hp
    obtain ⟨g118_9, b118_9, a118_9, n118_9, c118_9, ev118_9, er118_9, hg118_9, p118_9⟩ := h118_9
    replace ev118_9 : vs 8 = _ := ev118_9; replace er118_9 : vs 6 = _ := er118_9; replace h118_6 := (show Zw W118 (vs 6) C from h118_6)
    rw [er118_9] at h118_6
    replace h118_0 : vs 0 = .agg #[.bool b1, .slice a1 n1 c1, .slice d1 m1 o1] := h118_0
    replace h118_1 : vs 1 = .int .i64 (K : Int) := h118_1
    replace h118_2 : vs 2 = .int .i64 (n : Int) := h118_2
    replace h118_3 : vs 3 = .int .i64 ((K + n : Nat) : Int) := h118_3
    replace h118_7 : vs 7 = .int .i64 0 := h118_7
    replace h118_10 : vs 10 = .int .i64 0 := h118_10
    simp only [ev118_9, er118_9, h118_0, h118_1, h118_2, h118_3, h118_7, h118_10]
    clear ev118_9 er118_9 h118_0 h118_1 h118_2 h118_3 h118_7 h118_10 h118_4 h118_5 h118_8
    obtain ⟨kp3_0, kp3_1, kp3_2⟩ := p3.c3
    obtain ⟨kp114_9_0, kp114_9_1⟩ := p114_9.c2
    obtain ⟨kp115_9_0, kp115_9_1, kp115_9_2⟩ := p115_9.c3
    obtain ⟨kp116_7_0, kp116_7_1⟩ := p116_7.c2
    obtain ⟨kp117_7_0, kp117_7_1⟩ := p117_7.c2
    obtain ⟨kp118_9_0, kp118_9_1⟩ := p118_9.c2
    go_upto_region 9 with (fail)
    clear kp3_0 kp3_1 kp3_2 kp114_9_0 kp114_9_1 kp115_9_0 kp115_9_1 kp115_9_2 kp116_7_0 kp116_7_1 kp117_7_0 kp117_7_1 kp118_9_0 kp118_9_1; have ltp118_9 := p118_9.lt; have szw119 := Ext.size E0
    refine region_gs [.one fun v _ => v = .agg #[.bool b118_9, .slice a118_9 n118_9 c118_9],
      .one fun v _ => v = .int .i64 (K : Int),
      .one fun v _ => v = .int .i64 (n : Int),
      .one fun v _ => v = .int .i64 ((K + n : Nat) : Int),
      .one fun v W => ∃ v', v = .tuple #[v', .int .i64 0] ∧ (fun v W => Rw W v Y) v' W,
      .one fun v W => ∃ v', v = .tuple #[v', .int .i64 0] ∧ (fun v W => Rw W v Y) v' W,
      .one fun v W => Rw W v Y,
      .one fun v _ => v = .int .i64 0,
      .one fun v W => ∃ g, v = .pointer (some ⟨g, 0, none⟩) ∧ W118.heap.size ≤ g ∧ Form W g 27 3,
      .three 8 6 (fun p r _ W => Put3 W118.heap.size 27 p r W),
      .one fun v _ => v = .int .i64 0]
     (fun W => Ext w W ∧ Bx3 W w.heap.size 27 (.bool b1) (.slice a1 n1 c1) (.slice d1 m1 o1) ∧ Rw W (.agg #[.bool b1, .slice a1 n1 c1, .slice d1 m1 o1]) x ∧ Zw W (.agg #[.bool b114_9, .slice a114_9 n114_9 c114_9]) F ∧ Bx2 W g114_9 25 (.bool b114_9) (.slice a114_9 n114_9 c114_9) ∧ Rw W (.agg #[.bool b115_9, .slice a115_9 n115_9 c115_9, .slice d115_9 m115_9 o115_9]) X ∧ Bx3 W g115_9 27 (.bool b115_9) (.slice a115_9 n115_9 c115_9) (.slice d115_9 m115_9 o115_9) ∧ Zw W (.agg #[.bool b116_7, .slice a116_7 n116_7 c116_7]) G ∧ Bx2 W g116_7 25 (.bool b116_7) (.slice a116_7 n116_7 c116_7) ∧ Zw W (.agg #[.bool b117_7, .slice a117_7 n117_7 c117_7]) G ∧ Bx2 W g117_7 25 (.bool b117_7) (.slice a117_7 n117_7 c117_7) ∧ Zw W (.agg #[.bool b118_9, .slice a118_9 n118_9 c118_9]) C ∧ Bx2 W g118_9 25 (.bool b118_9) (.slice a118_9 n118_9 c118_9) ∧ W118.heap.size ≤ W.heap.size) ⟨Good.is _, Good.is _, Good.is _, Good.is _, (Good.rat _).tup _, (Good.rat _).tup _, Good.rat _, Good.is _, Good.box _ _ _, cert_put3, Good.is _, trivial⟩
     ⟨E0, p3, hx1, h114_6, p114_9, h115_6, p115_9, h116_4, p116_7, h117_4, p117_7, h118_6, p118_9, Nat.le_refl _⟩ (A := ?A119) ?hA119 ?howe119 ?hfin119
    case hA119 =>
     intro vs
     simp only [putAll, Act.put, sA, sZ, sS, Nat.zero_add, Nat.reduceAdd]
     exact rfl
    case howe119 =>
     clear E0 p3 hx1 h114_6 p114_9 h115_6 p115_9 h116_4 p116_7 h117_4 p117_7 h118_6 p118_9
     intro hf
     refine ⟨oE 0 [] hf rfl ?_, oE 1 [] hf rfl ?_, oE 2 [] hf rfl ?_, oE 3 [1, 2] hf rfl ?_, oE 4 [0, 3] hf rfl ?_, oE 5 [4] hf rfl ?_, oE 6 [5] hf rfl ?_, oE 7 [5] hf rfl ?_, oE 8 [] hf rfl ?_, oW 9 [8, 6] hf rfl ?_, oE 10 [7] hf rfl ?_, trivial⟩
     all_goals intro vs W hS hp hx KO hKO
     all_goals simp only [Act.put, sA, sZ, sS] at hKO
     ·have fc0 := hS.2.2.2.2.2.2.2.2.2.2.2.2.1.cell0; have fc1 := hS.2.2.2.2.2.2.2.2.2.2.2.2.1.cell1; go_simp; exact hKO _ W (.refl W) rfl
     ·go_simp; exact hKO _ W (.refl W) rfl
     ·go_simp; exact hKO _ W (.refl W) rfl
     ·have e1 := isOf hp.1; have e2 := isOf hp.2.1; simp only [e1, e2] at hKO; go_simp; exact hKO _ W (.refl W) rfl
     ·have e0 := isOf hp.1; have e3 := isOf hp.2.1; simp only [e0, e3] at hKO; go_simp
      refine (Try.dyadBack (hS.2.2.2.2.2.2.2.2.2.2.2.1) SC.out (by omega) (K + n) (by omega)).mono ?_
      rintro e W1 ⟨v, rfl, hv, hE⟩
      rw [HY.out] at hv
      exact hKO _ W1 hE ⟨_, rfl, hv⟩
     ·have q4 := hp.1
      obtain ⟨u, ev, hu⟩ := q4
      replace ev : vs 4 = _ := ev; simp only [ev] at hKO; go_simp; exact hKO _ W (Ext.refl W) ⟨u, rfl, hu⟩
     ·have q5 := hp.1
      obtain ⟨u, ev, hu⟩ := q5
      replace ev : vs 5 = _ := ev; simp only [ev] at hKO; go_simp; exact hKO _ W (Ext.refl W) hu
     ·have q5 := hp.1
      obtain ⟨u, ev, hu⟩ := q5
      replace ev : vs 5 = _ := ev; simp only [ev] at hKO; go_simp; exact hKO _ W (.refl W) rfl
     ·have hn := Bx3.new W 27 (.bool false) (.slice none 0 0) (.slice none 0 0)
      have hE := Ext.alloc1 W (.cells #[.bool false, .slice none 0 0, .slice none 0 0] 27)
      have hsz := hS.2.2.2.2.2.2.2.2.2.2.2.2.2
      go_simp
      exact hKO _ _ hE ⟨_, rfl, hsz, hn.form⟩
     ·have q8 := hp.1; have q6 := hp.2.1
      obtain ⟨g, ev, hg, hf⟩ := q8
      replace ev : vs 8 = _ := ev
      obtain ⟨x0_0, x0_1, x0_2, hx, hno⟩ := hf.bx3
      have qr := q6
      obtain ⟨b3, a3, n3, c3, d3, m3, o3, er, -, -, -⟩ := qr
      replace er : vs 6 = _ := er
      have r0 := hx.froz0
      have t0 := hx.cell0
      have r1 := hx.froz1
      have t1 := hx.cell1
      have r2 := hx.froz2
      have t2 := hx.cell2
      have hw := Wr.set3 hx hno b3 a3 n3 c3 d3 m3 o3
      have hq := hx.set (.bool b3) (.slice a3 n3 c3) (.slice d3 m3 o3)
      simp only [ev, er] at hKO; go_simp
      exact hKO _ _ hw ⟨(Ext.wr hS.1 hw (by omega)), (hS.2.1.wr hw (by omega)), (hS.2.2.1.wr hw), (hS.2.2.2.1.wr hw), (hS.2.2.2.2.1.wr hw (by omega)), (hS.2.2.2.2.2.1.wr hw), (hS.2.2.2.2.2.2.1.wr hw (by omega)), (hS.2.2.2.2.2.2.2.1.wr hw), (hS.2.2.2.2.2.2.2.2.1.wr hw (by omega)), (hS.2.2.2.2.2.2.2.2.2.1.wr hw), (hS.2.2.2.2.2.2.2.2.2.2.1.wr hw (by omega)), (hS.2.2.2.2.2.2.2.2.2.2.2.1.wr hw), (hS.2.2.2.2.2.2.2.2.2.2.2.2.1.wr hw (by omega)), (Nat.le_trans hS.2.2.2.2.2.2.2.2.2.2.2.2.2 hw.apart.size)⟩ ⟨g, b3, a3, n3, c3, d3, m3, o3, ev, er, hg, hq⟩
     ·have e7 := isOf hp.1; simp only [e7] at hKO; go_simp; exact hKO _ W (.refl W) rfl
    intro vs W119 hS hp
    clear szw119 E0 p3 hx1 h114_6 p114_9 h115_6 p115_9 h116_4 p116_7 h117_4 p117_7 h118_6 p118_9
    obtain ⟨E0, p3, hx1, h114_6, p114_9, h115_6, p115_9, h116_4, p116_7, h117_4, p117_7, h118_6, p118_9, sz119⟩ := hS
    obtain ⟨h119_0, h119_1, h119_2, h119_3, h119_4, h119_5, h119_6, h119_7, h119_8, h119_9, h119_10, -⟩ := hp
    obtain ⟨g119_9, b119_9, a119_9, n119_9, c119_9, d119_9, m119_9, o119_9, ev119_9, er119_9, hg119_9, p119_9⟩ := h119_9
    replace ev119_9 : vs 8 = _ := ev119_9; replace er119_9 : vs 6 = _ := er119_9; replace h119_6 := (show Rw W119 (vs 6) Y from h119_6)
    rw [er119_9] at h119_6
    replace h119_0 : vs 0 = .agg #[.bool b118_9, .slice a118_9 n118_9 c118_9] := h119_0
    replace h119_1 : vs 1 = .int .i64 (K : Int) := h119_1
    replace h119_2 : vs 2 = .int .i64 (n : Int) := h119_2
    replace h119_3 : vs 3 = .int .i64 ((K + n : Nat) : Int) := h119_3
    replace h119_7 : vs 7 = .int .i64 0 := h119_7
    replace h119_10 : vs 10 = .int .i64 0 := h119_10
    simp only [ev119_9, er119_9, h119_0, h119_1, h119_2, h119_3, h119_7, h119_10]
    clear ev119_9 er119_9 h119_0 h119_1 h119_2 h119_3 h119_7 h119_10 h119_4 h119_5 h119_8
    obtain ⟨kp3_0, kp3_1, kp3_2⟩ := p3.c3
    obtain ⟨kp114_9_0, kp114_9_1⟩ := p114_9.c2
    obtain ⟨kp115_9_0, kp115_9_1, kp115_9_2⟩ := p115_9.c3
    obtain ⟨kp116_7_0, kp116_7_1⟩ := p116_7.c2
    obtain ⟨kp117_7_0, kp117_7_1⟩ := p117_7.c2
    obtain ⟨kp118_9_0, kp118_9_1⟩ := p118_9.c2
    obtain ⟨kp119_9_0, kp119_9_1, kp119_9_2⟩ := p119_9.c3
    go_upto_region 10 with (fail)
    clear kp3_0 kp3_1 kp3_2 kp114_9_0 kp114_9_1 kp115_9_0 kp115_9_1 kp115_9_2 kp116_7_0 kp116_7_1 kp117_7_0 kp117_7_1 kp118_9_0 kp118_9_1 kp119_9_0 kp119_9_1 kp119_9_2; have ltp119_9 := p119_9.lt; have szw120 := Ext.size E0
    refine region_gs [.one fun v _ => v = .agg #[.bool b1, .slice a1 n1 c1, .slice d1 m1 o1],
      .one fun v _ => v = .int .i64 (K : Int),
      .one fun v W => ∃ v', v = .tuple #[v', .int .i64 0] ∧ (fun v W => Zw W v J) v' W,
      .one fun v W => ∃ v', v = .tuple #[v', .int .i64 0] ∧ (fun v W => Zw W v J) v' W,
      .one fun v W => Zw W v J,
      .one fun v _ => v = .int .i64 0,
      .one fun v W => ∃ g, v = .pointer (some ⟨g, 0, none⟩) ∧ W119.heap.size ≤ g ∧ Form W g 25 2,
      .three 6 4 (fun p r _ W => Put2 W119.heap.size 25 p r W),
      .one fun v _ => v = .int .i64 0]
     (fun W => Ext w W ∧ Bx3 W w.heap.size 27 (.bool b1) (.slice a1 n1 c1) (.slice d1 m1 o1) ∧ Rw W (.agg #[.bool b1, .slice a1 n1 c1, .slice d1 m1 o1]) x ∧ Zw W (.agg #[.bool b114_9, .slice a114_9 n114_9 c114_9]) F ∧ Bx2 W g114_9 25 (.bool b114_9) (.slice a114_9 n114_9 c114_9) ∧ Rw W (.agg #[.bool b115_9, .slice a115_9 n115_9 c115_9, .slice d115_9 m115_9 o115_9]) X ∧ Bx3 W g115_9 27 (.bool b115_9) (.slice a115_9 n115_9 c115_9) (.slice d115_9 m115_9 o115_9) ∧ Zw W (.agg #[.bool b116_7, .slice a116_7 n116_7 c116_7]) G ∧ Bx2 W g116_7 25 (.bool b116_7) (.slice a116_7 n116_7 c116_7) ∧ Zw W (.agg #[.bool b117_7, .slice a117_7 n117_7 c117_7]) G ∧ Bx2 W g117_7 25 (.bool b117_7) (.slice a117_7 n117_7 c117_7) ∧ Zw W (.agg #[.bool b118_9, .slice a118_9 n118_9 c118_9]) C ∧ Bx2 W g118_9 25 (.bool b118_9) (.slice a118_9 n118_9 c118_9) ∧ Rw W (.agg #[.bool b119_9, .slice a119_9 n119_9 c119_9, .slice d119_9 m119_9 o119_9]) Y ∧ Bx3 W g119_9 27 (.bool b119_9) (.slice a119_9 n119_9 c119_9) (.slice d119_9 m119_9 o119_9) ∧ W119.heap.size ≤ W.heap.size) ⟨Good.is _, Good.is _, (Good.zed _).tup _, (Good.zed _).tup _, Good.zed _, Good.is _, Good.box _ _ _, cert_put2, Good.is _, trivial⟩
     ⟨E0, p3, hx1, h114_6, p114_9, h115_6, p115_9, h116_4, p116_7, h117_4, p117_7, h118_6, p118_9, h119_6, p119_9, Nat.le_refl _⟩ (A := ?A120) ?hA120 ?howe120 ?hfin120
    case hA120 =>
     intro vs
     simp only [putAll, Act.put, sA, sZ, sS, Nat.zero_add, Nat.reduceAdd]
     exact rfl
    case howe120 =>
     clear E0 p3 hx1 h114_6 p114_9 h115_6 p115_9 h116_4 p116_7 h117_4 p117_7 h118_6 p118_9 h119_6 p119_9
     intro hf
     refine ⟨oE 0 [] hf rfl ?_, oE 1 [] hf rfl ?_, oE 2 [0, 1] hf rfl ?_, oE 3 [2] hf rfl ?_, oE 4 [3] hf rfl ?_, oE 5 [3] hf rfl ?_, oE 6 [] hf rfl ?_, oW 7 [6, 4] hf rfl ?_, oE 8 [5] hf rfl ?_, trivial⟩
     all_goals intro vs W hS hp hx KO hKO
     all_goals simp only [Act.put, sA, sZ, sS] at hKO
     ·have fc0 := hS.2.1.cell0; have fc1 := hS.2.1.cell1; have fc2 := hS.2.1.cell2; go_simp; exact hKO _ W (.refl W) rfl
     ·go_simp; exact hKO _ W (.refl W) rfl
     ·have e0 := isOf hp.1; have e1 := isOf hp.2.1; simp only [e0, e1] at hKO; go_simp
      refine (Try.dyadCeil (hS.2.2.1) s1 (by omega) K (by omega)).mono ?_
      rintro e W1 ⟨v, rfl, hv, hE⟩
      rw [HC2.out] at hv
      exact hKO _ W1 hE ⟨_, rfl, hv⟩
     ·have q2 := hp.1
      obtain ⟨u, ev, hu⟩ := q2
      replace ev : vs 2 = _ := ev; simp only [ev] at hKO; go_simp; exact hKO _ W (Ext.refl W) ⟨u, rfl, hu⟩
     ·have q3 := hp.1
      obtain ⟨u, ev, hu⟩ := q3
      replace ev : vs 3 = _ := ev; simp only [ev] at hKO; go_simp; exact hKO _ W (Ext.refl W) hu
     ·have q3 := hp.1
      obtain ⟨u, ev, hu⟩ := q3
      replace ev : vs 3 = _ := ev; simp only [ev] at hKO; go_simp; exact hKO _ W (.refl W) rfl
     ·have hn := Bx2.new W 25 (.bool false) (.slice none 0 0)
      have hE := Ext.alloc1 W (.cells #[.bool false, .slice none 0 0] 25)
      have hsz := hS.2.2.2.2.2.2.2.2.2.2.2.2.2.2.2
      go_simp
      exact hKO _ _ hE ⟨_, rfl, hsz, hn.form⟩
     ·have q6 := hp.1; have q4 := hp.2.1
      obtain ⟨g, ev, hg, hf⟩ := q6
      replace ev : vs 6 = _ := ev
      obtain ⟨x0_0, x0_1, hx, hno⟩ := hf.bx2
      have qr := q4
      obtain ⟨b3, a3, n3, c3, er, -, -⟩ := qr
      replace er : vs 4 = _ := er
      have r0 := hx.froz0
      have t0 := hx.cell0
      have r1 := hx.froz1
      have t1 := hx.cell1
      have hw := Wr.set2 hx hno b3 a3 n3 c3
      have hq := hx.set (.bool b3) (.slice a3 n3 c3)
      simp only [ev, er] at hKO; go_simp
      exact hKO _ _ hw ⟨(Ext.wr hS.1 hw (by omega)), (hS.2.1.wr hw (by omega)), (hS.2.2.1.wr hw), (hS.2.2.2.1.wr hw), (hS.2.2.2.2.1.wr hw (by omega)), (hS.2.2.2.2.2.1.wr hw), (hS.2.2.2.2.2.2.1.wr hw (by omega)), (hS.2.2.2.2.2.2.2.1.wr hw), (hS.2.2.2.2.2.2.2.2.1.wr hw (by omega)), (hS.2.2.2.2.2.2.2.2.2.1.wr hw), (hS.2.2.2.2.2.2.2.2.2.2.1.wr hw (by omega)), (hS.2.2.2.2.2.2.2.2.2.2.2.1.wr hw), (hS.2.2.2.2.2.2.2.2.2.2.2.2.1.wr hw (by omega)), (hS.2.2.2.2.2.2.2.2.2.2.2.2.2.1.wr hw), (hS.2.2.2.2.2.2.2.2.2.2.2.2.2.2.1.wr hw (by omega)), (Nat.le_trans hS.2.2.2.2.2.2.2.2.2.2.2.2.2.2.2 hw.apart.size)⟩ ⟨g, b3, a3, n3, c3, ev, er, hg, hq⟩
     ·have e5 := isOf hp.1; simp only [e5] at hKO; go_simp; exact hKO _ W (.refl W) rfl
    intro vs W120 hS hp
    clear szw120 E0 p3 hx1 h114_6 p114_9 h115_6 p115_9 h116_4 p116_7 h117_4 p117_7 h118_6 p118_9 h119_6 p119_9
    obtain ⟨E0, p3, hx1, h114_6, p114_9, h115_6, p115_9, h116_4, p116_7, h117_4, p117_7, h118_6, p118_9, h119_6, p119_9, sz120⟩ := hS
    obtain ⟨h120_0, h120_1, h120_2, h120_3, h120_4, h120_5, h120_6, h120_7, h120_8, -⟩ := hp
    obtain ⟨g120_7, b120_7, a120_7, n120_7, c120_7, ev120_7, er120_7, hg120_7, p120_7⟩ := h120_7
    replace ev120_7 : vs 6 = _ := ev120_7; replace er120_7 : vs 4 = _ := er120_7; replace h120_4 := (show Zw W120 (vs 4) J from h120_4)
    rw [er120_7] at h120_4
    replace h120_0 : vs 0 = .agg #[.bool b1, .slice a1 n1 c1, .slice d1 m1 o1] := h120_0
    replace h120_1 : vs 1 = .int .i64 (K : Int) := h120_1
    replace h120_5 : vs 5 = .int .i64 0 := h120_5
    replace h120_8 : vs 8 = .int .i64 0 := h120_8
    simp only [ev120_7, er120_7, h120_0, h120_1, h120_5, h120_8]
    clear ev120_7 er120_7 h120_0 h120_1 h120_5 h120_8 h120_2 h120_3 h120_6
    obtain ⟨kp3_0, kp3_1, kp3_2⟩ := p3.c3
    obtain ⟨kp114_9_0, kp114_9_1⟩ := p114_9.c2
    obtain ⟨kp115_9_0, kp115_9_1, kp115_9_2⟩ := p115_9.c3
    obtain ⟨kp116_7_0, kp116_7_1⟩ := p116_7.c2
    obtain ⟨kp117_7_0, kp117_7_1⟩ := p117_7.c2
    obtain ⟨kp118_9_0, kp118_9_1⟩ := p118_9.c2
    obtain ⟨kp119_9_0, kp119_9_1, kp119_9_2⟩ := p119_9.c3
    obtain ⟨kp120_7_0, kp120_7_1⟩ := p120_7.c2
    go_upto_region 11 with (fail)
    clear kp3_0 kp3_1 kp3_2 kp114_9_0 kp114_9_1 kp115_9_0 kp115_9_1 kp115_9_2 kp116_7_0 kp116_7_1 kp117_7_0 kp117_7_1 kp118_9_0 kp118_9_1 kp119_9_0 kp119_9_1 kp119_9_2 kp120_7_0 kp120_7_1; have ltp120_7 := p120_7.lt; have szw121 := Ext.size E0
    refine region_gs [.one fun v _ => v = .agg #[.bool b119_9, .slice a119_9 n119_9 c119_9, .slice d119_9 m119_9 o119_9],
      .one fun v _ => v = .int .i64 (K : Int),
      .one fun v W => ∃ v', v = .tuple #[v', .int .i64 0] ∧ (fun v W => Zw W v J) v' W,
      .one fun v W => ∃ v', v = .tuple #[v', .int .i64 0] ∧ (fun v W => Zw W v J) v' W,
      .one fun v W => Zw W v J,
      .one fun v _ => v = .int .i64 0,
      .one fun v W => ∃ g, v = .pointer (some ⟨g, 0, none⟩) ∧ W120.heap.size ≤ g ∧ Form W g 25 2,
      .three 6 4 (fun p r _ W => Put2 W120.heap.size 25 p r W),
      .one fun v _ => v = .int .i64 0]
     (fun W => Ext w W ∧ Bx3 W w.heap.size 27 (.bool b1) (.slice a1 n1 c1) (.slice d1 m1 o1) ∧ Rw W (.agg #[.bool b1, .slice a1 n1 c1, .slice d1 m1 o1]) x ∧ Zw W (.agg #[.bool b114_9, .slice a114_9 n114_9 c114_9]) F ∧ Bx2 W g114_9 25 (.bool b114_9) (.slice a114_9 n114_9 c114_9) ∧ Rw W (.agg #[.bool b115_9, .slice a115_9 n115_9 c115_9, .slice d115_9 m115_9 o115_9]) X ∧ Bx3 W g115_9 27 (.bool b115_9) (.slice a115_9 n115_9 c115_9) (.slice d115_9 m115_9 o115_9) ∧ Zw W (.agg #[.bool b116_7, .slice a116_7 n116_7 c116_7]) G ∧ Bx2 W g116_7 25 (.bool b116_7) (.slice a116_7 n116_7 c116_7) ∧ Zw W (.agg #[.bool b117_7, .slice a117_7 n117_7 c117_7]) G ∧ Bx2 W g117_7 25 (.bool b117_7) (.slice a117_7 n117_7 c117_7) ∧ Zw W (.agg #[.bool b118_9, .slice a118_9 n118_9 c118_9]) C ∧ Bx2 W g118_9 25 (.bool b118_9) (.slice a118_9 n118_9 c118_9) ∧ Rw W (.agg #[.bool b119_9, .slice a119_9 n119_9 c119_9, .slice d119_9 m119_9 o119_9]) Y ∧ Bx3 W g119_9 27 (.bool b119_9) (.slice a119_9 n119_9 c119_9) (.slice d119_9 m119_9 o119_9) ∧ Zw W (.agg #[.bool b120_7, .slice a120_7 n120_7 c120_7]) J ∧ Bx2 W g120_7 25 (.bool b120_7) (.slice a120_7 n120_7 c120_7) ∧ W120.heap.size ≤ W.heap.size) ⟨Good.is _, Good.is _, (Good.zed _).tup _, (Good.zed _).tup _, Good.zed _, Good.is _, Good.box _ _ _, cert_put2, Good.is _, trivial⟩
     ⟨E0, p3, hx1, h114_6, p114_9, h115_6, p115_9, h116_4, p116_7, h117_4, p117_7, h118_6, p118_9, h119_6, p119_9, h120_4, p120_7, Nat.le_refl _⟩ (A := ?A121) ?hA121 ?howe121 ?hfin121
    case hA121 =>
     intro vs
     simp only [putAll, Act.put, sA, sZ, sS, Nat.zero_add, Nat.reduceAdd]
     exact rfl
    case howe121 =>
     clear E0 p3 hx1 h114_6 p114_9 h115_6 p115_9 h116_4 p116_7 h117_4 p117_7 h118_6 p118_9 h119_6 p119_9 h120_4 p120_7
     intro hf
     refine ⟨oE 0 [] hf rfl ?_, oE 1 [] hf rfl ?_, oE 2 [0, 1] hf rfl ?_, oE 3 [2] hf rfl ?_, oE 4 [3] hf rfl ?_, oE 5 [3] hf rfl ?_, oE 6 [] hf rfl ?_, oW 7 [6, 4] hf rfl ?_, oE 8 [5] hf rfl ?_, trivial⟩
     all_goals intro vs W hS hp hx KO hKO
     all_goals simp only [Act.put, sA, sZ, sS] at hKO
     ·have fc0 := hS.2.2.2.2.2.2.2.2.2.2.2.2.2.2.1.cell0; have fc1 := hS.2.2.2.2.2.2.2.2.2.2.2.2.2.2.1.cell1; have fc2 := hS.2.2.2.2.2.2.2.2.2.2.2.2.2.2.1.cell2; go_simp; exact hKO _ W (.refl W) rfl
     ·go_simp; exact hKO _ W (.refl W) rfl
     ·have e0 := isOf hp.1; have e1 := isOf hp.2.1; simp only [e0, e1] at hKO; go_simp
      refine (Try.dyadCeil (hS.2.2.2.2.2.2.2.2.2.2.2.2.2.1) SY.out (by omega) K (by omega)).mono ?_
      rintro e W1 ⟨v, rfl, hv, hE⟩
      rw [HA2.out] at hv
      exact hKO _ W1 hE ⟨_, rfl, hv⟩
     ·have q2 := hp.1
      obtain ⟨u, ev, hu⟩ := q2
      replace ev : vs 2 = _ := ev; simp only [ev] at hKO; go_simp; exact hKO _ W (Ext.refl W) ⟨u, rfl, hu⟩
     ·have q3 := hp.1
      obtain ⟨u, ev, hu⟩ := q3
      replace ev : vs 3 = _ := ev; simp only [ev] at hKO; go_simp; exact hKO _ W (Ext.refl W) hu
     ·have q3 := hp.1
      obtain ⟨u, ev, hu⟩ := q3
      replace ev : vs 3 = _ := ev; simp only [ev] at hKO; go_simp; exact hKO _ W (.refl W) rfl
     ·have hn := Bx2.new W 25 (.bool false) (.slice none 0 0)
      have hE := Ext.alloc1 W (.cells #[.bool false, .slice none 0 0] 25)
      have hsz := hS.2.2.2.2.2.2.2.2.2.2.2.2.2.2.2.2.2
      go_simp
      exact hKO _ _ hE ⟨_, rfl, hsz, hn.form⟩
     ·have q6 := hp.1; have q4 := hp.2.1
      obtain ⟨g, ev, hg, hf⟩ := q6
      replace ev : vs 6 = _ := ev
      obtain ⟨x0_0, x0_1, hx, hno⟩ := hf.bx2
      have qr := q4
      obtain ⟨b3, a3, n3, c3, er, -, -⟩ := qr
      replace er : vs 4 = _ := er
      have r0 := hx.froz0
      have t0 := hx.cell0
      have r1 := hx.froz1
      have t1 := hx.cell1
      have hw := Wr.set2 hx hno b3 a3 n3 c3
      have hq := hx.set (.bool b3) (.slice a3 n3 c3)
      simp only [ev, er] at hKO; go_simp
      exact hKO _ _ hw ⟨(Ext.wr hS.1 hw (by omega)), (hS.2.1.wr hw (by omega)), (hS.2.2.1.wr hw), (hS.2.2.2.1.wr hw), (hS.2.2.2.2.1.wr hw (by omega)), (hS.2.2.2.2.2.1.wr hw), (hS.2.2.2.2.2.2.1.wr hw (by omega)), (hS.2.2.2.2.2.2.2.1.wr hw), (hS.2.2.2.2.2.2.2.2.1.wr hw (by omega)), (hS.2.2.2.2.2.2.2.2.2.1.wr hw), (hS.2.2.2.2.2.2.2.2.2.2.1.wr hw (by omega)), (hS.2.2.2.2.2.2.2.2.2.2.2.1.wr hw), (hS.2.2.2.2.2.2.2.2.2.2.2.2.1.wr hw (by omega)), (hS.2.2.2.2.2.2.2.2.2.2.2.2.2.1.wr hw), (hS.2.2.2.2.2.2.2.2.2.2.2.2.2.2.1.wr hw (by omega)), (hS.2.2.2.2.2.2.2.2.2.2.2.2.2.2.2.1.wr hw), (hS.2.2.2.2.2.2.2.2.2.2.2.2.2.2.2.2.1.wr hw (by omega)), (Nat.le_trans hS.2.2.2.2.2.2.2.2.2.2.2.2.2.2.2.2.2 hw.apart.size)⟩ ⟨g, b3, a3, n3, c3, ev, er, hg, hq⟩
     ·have e5 := isOf hp.1; simp only [e5] at hKO; go_simp; exact hKO _ W (.refl W) rfl
    intro vs W121 hS hp
    clear szw121 E0 p3 hx1 h114_6 p114_9 h115_6 p115_9 h116_4 p116_7 h117_4 p117_7 h118_6 p118_9 h119_6 p119_9 h120_4 p120_7
    obtain ⟨E0, p3, hx1, h114_6, p114_9, h115_6, p115_9, h116_4, p116_7, h117_4, p117_7, h118_6, p118_9, h119_6, p119_9, h120_4, p120_7, sz121⟩ := hS
    obtain ⟨h121_0, h121_1, h121_2, h121_3, h121_4, h121_5, h121_6, h121_7, h121_8, -⟩ := hp
    obtain ⟨g121_7, b121_7, a121_7, n121_7, c121_7, ev121_7, er121_7, hg121_7, p121_7⟩ := h121_7
    replace ev121_7 : vs 6 = _ := ev121_7; replace er121_7 : vs 4 = _ := er121_7; replace h121_4 := (show Zw W121 (vs 4) J from h121_4)
    rw [er121_7] at h121_4
    replace h121_0 : vs 0 = .agg #[.bool b119_9, .slice a119_9 n119_9 c119_9, .slice d119_9 m119_9 o119_9] := h121_0
    replace h121_1 : vs 1 = .int .i64 (K : Int) := h121_1
    replace h121_5 : vs 5 = .int .i64 0 := h121_5
    replace h121_8 : vs 8 = .int .i64 0 := h121_8
    simp only [ev121_7, er121_7, h121_0, h121_1, h121_5, h121_8]
    clear ev121_7 er121_7 h121_0 h121_1 h121_5 h121_8 h121_2 h121_3 h121_6
    obtain ⟨kp3_0, kp3_1, kp3_2⟩ := p3.c3
    obtain ⟨kp114_9_0, kp114_9_1⟩ := p114_9.c2
    obtain ⟨kp115_9_0, kp115_9_1, kp115_9_2⟩ := p115_9.c3
    obtain ⟨kp116_7_0, kp116_7_1⟩ := p116_7.c2
    obtain ⟨kp117_7_0, kp117_7_1⟩ := p117_7.c2
    obtain ⟨kp118_9_0, kp118_9_1⟩ := p118_9.c2
    obtain ⟨kp119_9_0, kp119_9_1, kp119_9_2⟩ := p119_9.c3
    obtain ⟨kp120_7_0, kp120_7_1⟩ := p120_7.c2
    obtain ⟨kp121_7_0, kp121_7_1⟩ := p121_7.c2
    go_upto_region 12 with (fail)
    clear kp3_0 kp3_1 kp3_2 kp114_9_0 kp114_9_1 kp115_9_0 kp115_9_1 kp115_9_2 kp116_7_0 kp116_7_1 kp117_7_0 kp117_7_1 kp118_9_0 kp118_9_1 kp119_9_0 kp119_9_1 kp119_9_2 kp120_7_0 kp120_7_1 kp121_7_0 kp121_7_1; have ltp121_7 := p121_7.lt; have szw122 := Ext.size E0
    refine region_gs [.one fun v _ => v = .pointer (some ⟨g114_9, 1, none⟩),
      .one fun v _ => v = .slice a114_9 n114_9 c114_9,
      .one fun v _ => v = .int .i64 (n : Int),
      .one fun v W => ∃ v', v = .tuple #[v', .int .i64 0] ∧ (fun v W => Nw W v ((F.natAbs / 2 ^ n))) v' W,
      .one fun v W => ∃ v', v = .tuple #[v', .int .i64 0] ∧ (fun v W => Nw W v ((F.natAbs / 2 ^ n))) v' W,
      .one fun v W => Nw W v ((F.natAbs / 2 ^ n)),
      .one fun v _ => v = .int .i64 0,
      .one fun v W => Nw W v ((F.natAbs / 2 ^ n)),
      .one fun v _ => v = .int .i64 0]
     (fun W => Ext w W ∧ Bx3 W w.heap.size 27 (.bool b1) (.slice a1 n1 c1) (.slice d1 m1 o1) ∧ Rw W (.agg #[.bool b1, .slice a1 n1 c1, .slice d1 m1 o1]) x ∧ Zw W (.agg #[.bool b114_9, .slice a114_9 n114_9 c114_9]) F ∧ Bx2 W g114_9 25 (.bool b114_9) (.slice a114_9 n114_9 c114_9) ∧ Rw W (.agg #[.bool b115_9, .slice a115_9 n115_9 c115_9, .slice d115_9 m115_9 o115_9]) X ∧ Bx3 W g115_9 27 (.bool b115_9) (.slice a115_9 n115_9 c115_9) (.slice d115_9 m115_9 o115_9) ∧ Zw W (.agg #[.bool b116_7, .slice a116_7 n116_7 c116_7]) G ∧ Bx2 W g116_7 25 (.bool b116_7) (.slice a116_7 n116_7 c116_7) ∧ Zw W (.agg #[.bool b117_7, .slice a117_7 n117_7 c117_7]) G ∧ Bx2 W g117_7 25 (.bool b117_7) (.slice a117_7 n117_7 c117_7) ∧ Zw W (.agg #[.bool b118_9, .slice a118_9 n118_9 c118_9]) C ∧ Bx2 W g118_9 25 (.bool b118_9) (.slice a118_9 n118_9 c118_9) ∧ Rw W (.agg #[.bool b119_9, .slice a119_9 n119_9 c119_9, .slice d119_9 m119_9 o119_9]) Y ∧ Bx3 W g119_9 27 (.bool b119_9) (.slice a119_9 n119_9 c119_9) (.slice d119_9 m119_9 o119_9) ∧ Zw W (.agg #[.bool b120_7, .slice a120_7 n120_7 c120_7]) J ∧ Bx2 W g120_7 25 (.bool b120_7) (.slice a120_7 n120_7 c120_7) ∧ Zw W (.agg #[.bool b121_7, .slice a121_7 n121_7 c121_7]) J ∧ Bx2 W g121_7 25 (.bool b121_7) (.slice a121_7 n121_7 c121_7) ∧ W121.heap.size ≤ W.heap.size) ⟨Good.is _, Good.is _, Good.is _, (Good.num _).tup _, (Good.num _).tup _, Good.num _, Good.is _, Good.num _, Good.is _, trivial⟩
     ⟨E0, p3, hx1, h114_6, p114_9, h115_6, p115_9, h116_4, p116_7, h117_4, p117_7, h118_6, p118_9, h119_6, p119_9, h120_4, p120_7, h121_4, p121_7, Nat.le_refl _⟩ (A := ?A122) ?hA122 ?howe122 ?hfin122
    case hA122 =>
     intro vs
     simp only [putAll, Act.put, sA, sZ, sS, Nat.zero_add, Nat.reduceAdd]
     exact rfl
    case howe122 =>
     clear E0 p3 hx1 h114_6 p114_9 h115_6 p115_9 h116_4 p116_7 h117_4 p117_7 h118_6 p118_9 h119_6 p119_9 h120_4 p120_7 h121_4 p121_7
     intro hf
     refine ⟨oE 0 [] hf rfl ?_, oE 1 [0] hf rfl ?_, oE 2 [] hf rfl ?_, oE 3 [1, 2] hf rfl ?_, oE 4 [3] hf rfl ?_, oE 5 [4] hf rfl ?_, oE 6 [4] hf rfl ?_, oE 7 [5] hf rfl ?_, oE 8 [6] hf rfl ?_, trivial⟩
     all_goals intro vs W hS hp hx KO hKO
     all_goals simp only [Act.put, sA, sZ, sS] at hKO
     ·go_simp; exact hKO _ W (.refl W) rfl
     ·have e0 := isOf hp.1; simp only [e0] at hKO; have fc1 := hS.2.2.2.2.1.cell1; go_simp; exact hKO _ W (.refl W) rfl
     ·go_simp; exact hKO _ W (.refl W) rfl
     ·have e1 := isOf hp.1; have e2 := isOf hp.2.1; simp only [e1, e2] at hKO; go_simp
      refine (Try.refShrK6 (hS.2.2.2.1.num) SF.out (by omega) n (by omega)).mono ?_
      rintro e W1 ⟨v, rfl, hv, hE⟩
      exact hKO _ W1 hE ⟨_, rfl, hv⟩
     ·have q3 := hp.1
      obtain ⟨u, ev, hu⟩ := q3
      replace ev : vs 3 = _ := ev; simp only [ev] at hKO; go_simp; exact hKO _ W (Ext.refl W) ⟨u, rfl, hu⟩
     ·have q4 := hp.1
      obtain ⟨u, ev, hu⟩ := q4
      replace ev : vs 4 = _ := ev; simp only [ev] at hKO; go_simp; exact hKO _ W (Ext.refl W) hu
     ·have q4 := hp.1
      obtain ⟨u, ev, hu⟩ := q4
      replace ev : vs 4 = _ := ev; simp only [ev] at hKO; go_simp; exact hKO _ W (.refl W) rfl
     ·have q5 := hp.1; go_simp; exact hKO _ W (Ext.refl W) q5
     ·have e6 := isOf hp.1; simp only [e6] at hKO; go_simp; exact hKO _ W (.refl W) rfl
    intro vs W122 hS hp
    clear szw122 E0 p3 hx1 h114_6 p114_9 h115_6 p115_9 h116_4 p116_7 h117_4 p117_7 h118_6 p118_9 h119_6 p119_9 h120_4 p120_7 h121_4 p121_7
    obtain ⟨E0, p3, hx1, h114_6, p114_9, h115_6, p115_9, h116_4, p116_7, h117_4, p117_7, h118_6, p118_9, h119_6, p119_9, h120_4, p120_7, h121_4, p121_7, sz122⟩ := hS
    obtain ⟨h122_0, h122_1, h122_2, h122_3, h122_4, h122_5, h122_6, h122_7, h122_8, -⟩ := hp
    replace h122_0 : vs 0 = .pointer (some ⟨g114_9, 1, none⟩) := h122_0
    replace h122_1 : vs 1 = .slice a114_9 n114_9 c114_9 := h122_1
    replace h122_2 : vs 2 = .int .i64 (n : Int) := h122_2
    replace h122_6 : vs 6 = .int .i64 0 := h122_6
    replace h122_8 : vs 8 = .int .i64 0 := h122_8
    simp only [h122_0, h122_1, h122_2, h122_6, h122_8]
    replace h122_5 : Nw W122 (vs 5) ((F.natAbs / 2 ^ n)) := h122_5
    generalize vs 5 = u122_5 at h122_5 ⊢
    replace h122_7 : Nw W122 (vs 7) ((F.natAbs / 2 ^ n)) := h122_7
    generalize vs 7 = u122_7 at h122_7 ⊢
    clear h122_0 h122_1 h122_2 h122_6 h122_8 h122_3 h122_4
    by_cases hF0 : F < 0
    ·have HFN := Lib.hid hF0
     clear hF0 HD0
     have hsg := h114_6.neg
     obtain rfl : b114_9 = true := by rw [hsg.out]; exact decide_eq_true HFN.out
     clear hsg
     obtain ⟨kp3_0, kp3_1, kp3_2⟩ := p3.c3
     obtain ⟨kp114_9_0, kp114_9_1⟩ := p114_9.c2
     obtain ⟨kp115_9_0, kp115_9_1, kp115_9_2⟩ := p115_9.c3
     obtain ⟨kp116_7_0, kp116_7_1⟩ := p116_7.c2
     obtain ⟨kp117_7_0, kp117_7_1⟩ := p117_7.c2
     obtain ⟨kp118_9_0, kp118_9_1⟩ := p118_9.c2
     obtain ⟨kp119_9_0, kp119_9_1, kp119_9_2⟩ := p119_9.c3
     obtain ⟨kp120_7_0, kp120_7_1⟩ := p120_7.c2
     obtain ⟨kp121_7_0, kp121_7_1⟩ := p121_7.c2
     go_upto_region 13 with (fail)
     clear kp3_0 kp3_1 kp3_2 kp114_9_0 kp114_9_1 kp115_9_0 kp115_9_1 kp115_9_2 kp116_7_0 kp116_7_1 kp117_7_0 kp117_7_1 kp118_9_0 kp118_9_1 kp119_9_0 kp119_9_1 kp119_9_2 kp120_7_0 kp120_7_1 kp121_7_0 kp121_7_1; have szw123 := Ext.size E0
     refine region_gs [.one fun v _ => v = .pointer (some ⟨g114_9, 0, none⟩),
       .one fun v _ => v = .bool true,
       .one fun v _ => v = .bool true,
       .one fun v _ => v = undef,
       .one fun v _ => v = undef,
       .one fun v _ => v = undef,
       .one fun v _ => v = undef,
       .one fun v _ => v = .bool true,
       .one fun v _ => v = .bool true]
      (fun W => Ext w W ∧ Bx3 W w.heap.size 27 (.bool b1) (.slice a1 n1 c1) (.slice d1 m1 o1) ∧ Rw W (.agg #[.bool b1, .slice a1 n1 c1, .slice d1 m1 o1]) x ∧ Zw W (.agg #[.bool true, .slice a114_9 n114_9 c114_9]) F ∧ Bx2 W g114_9 25 (.bool true) (.slice a114_9 n114_9 c114_9) ∧ Rw W (.agg #[.bool b115_9, .slice a115_9 n115_9 c115_9, .slice d115_9 m115_9 o115_9]) X ∧ Bx3 W g115_9 27 (.bool b115_9) (.slice a115_9 n115_9 c115_9) (.slice d115_9 m115_9 o115_9) ∧ Zw W (.agg #[.bool b116_7, .slice a116_7 n116_7 c116_7]) G ∧ Bx2 W g116_7 25 (.bool b116_7) (.slice a116_7 n116_7 c116_7) ∧ Zw W (.agg #[.bool b117_7, .slice a117_7 n117_7 c117_7]) G ∧ Bx2 W g117_7 25 (.bool b117_7) (.slice a117_7 n117_7 c117_7) ∧ Zw W (.agg #[.bool b118_9, .slice a118_9 n118_9 c118_9]) C ∧ Bx2 W g118_9 25 (.bool b118_9) (.slice a118_9 n118_9 c118_9) ∧ Rw W (.agg #[.bool b119_9, .slice a119_9 n119_9 c119_9, .slice d119_9 m119_9 o119_9]) Y ∧ Bx3 W g119_9 27 (.bool b119_9) (.slice a119_9 n119_9 c119_9) (.slice d119_9 m119_9 o119_9) ∧ Zw W (.agg #[.bool b120_7, .slice a120_7 n120_7 c120_7]) J ∧ Bx2 W g120_7 25 (.bool b120_7) (.slice a120_7 n120_7 c120_7) ∧ Zw W (.agg #[.bool b121_7, .slice a121_7 n121_7 c121_7]) J ∧ Bx2 W g121_7 25 (.bool b121_7) (.slice a121_7 n121_7 c121_7) ∧ Nw W u122_5 ((F.natAbs / 2 ^ n)) ∧ Nw W u122_7 ((F.natAbs / 2 ^ n)) ∧ W122.heap.size ≤ W.heap.size) ⟨Good.is _, Good.is _, Good.is _, Good.is _, Good.is _, Good.is _, Good.is _, Good.is _, Good.is _, trivial⟩
      ⟨E0, p3, hx1, h114_6, p114_9, h115_6, p115_9, h116_4, p116_7, h117_4, p117_7, h118_6, p118_9, h119_6, p119_9, h120_4, p120_7, h121_4, p121_7, h122_5, h122_7, Nat.le_refl _⟩ (A := ?A123) ?hA123 ?howe123 ?hfin123
     case hA123 =>
      intro vs
      simp only [putAll, Act.put, sA, sZ, sS, Nat.zero_add, Nat.reduceAdd]
      exact rfl
     case howe123 =>
      clear E0 p3 hx1 h114_6 p114_9 h115_6 p115_9 h116_4 p116_7 h117_4 p117_7 h118_6 p118_9 h119_6 p119_9 h120_4 p120_7 h121_4 p121_7 h122_5 h122_7
      intro hf
      refine ⟨oE 0 [] hf rfl ?_, oE 1 [0] hf rfl ?_, oE 2 [1] hf rfl ?_, oE 3 [2] hf rfl ?_, oE 4 [2] hf rfl ?_, oE 5 [2] hf rfl ?_, oE 6 [2] hf rfl ?_, oE 7 [2, 6] hf rfl ?_, oE 8 [7] hf rfl ?_, trivial⟩
      all_goals intro vs W hS hp hx KO hKO
      all_goals simp only [Act.put, sA, sZ, sS] at hKO
      ·go_simp; exact hKO _ W (.refl W) rfl
      ·have e0 := isOf hp.1; simp only [e0] at hKO; have fc0 := hS.2.2.2.2.1.cell0; go_simp; exact hKO _ W (.refl W) rfl
      ·have e1 := isOf hp.1; simp only [e1] at hKO; go_simp; exact hKO _ W (.refl W) rfl
      ·have e2 := isOf hp.1; simp only [e2] at hKO; go_simp; exact hKO _ W (.refl W) rfl
      ·have e2 := isOf hp.1; simp only [e2] at hKO; go_simp; exact hKO _ W (.refl W) rfl
      ·have e2 := isOf hp.1; simp only [e2] at hKO; go_simp; exact hKO _ W (.refl W) rfl
      ·have e2 := isOf hp.1; simp only [e2] at hKO; go_simp; exact hKO _ W (.refl W) rfl
      ·have e2 := isOf hp.1; have e6 := isOf hp.2.1; simp only [e2, e6] at hKO; go_simp; exact hKO _ W (.refl W) rfl
      ·have e7 := isOf hp.1; simp only [e7] at hKO; go_simp; exact hKO _ W (.refl W) rfl
     intro vs W123 hS hp
     clear szw123 E0 p3 hx1 h114_6 p114_9 h115_6 p115_9 h116_4 p116_7 h117_4 p117_7 h118_6 p118_9 h119_6 p119_9 h120_4 p120_7 h121_4 p121_7 h122_5 h122_7
     obtain ⟨E0, p3, hx1, h114_6, p114_9, h115_6, p115_9, h116_4, p116_7, h117_4, p117_7, h118_6, p118_9, h119_6, p119_9, h120_4, p120_7, h121_4, p121_7, h122_5, h122_7, sz123⟩ := hS
     obtain ⟨h123_0, h123_1, h123_2, h123_3, h123_4, h123_5, h123_6, h123_7, h123_8, -⟩ := hp
     replace h123_0 : vs 0 = .pointer (some ⟨g114_9, 0, none⟩) := h123_0
     replace h123_1 : vs 1 = .bool true := h123_1
     replace h123_2 : vs 2 = .bool true := h123_2
     replace h123_3 : vs 3 = undef := h123_3
     replace h123_4 : vs 4 = undef := h123_4
     replace h123_5 : vs 5 = undef := h123_5
     replace h123_6 : vs 6 = undef := h123_6
     replace h123_7 : vs 7 = .bool true := h123_7
     replace h123_8 : vs 8 = .bool true := h123_8
     simp only [h123_0, h123_1, h123_2, h123_3, h123_4, h123_5, h123_6, h123_7, h123_8]
     clear h123_0 h123_1 h123_2 h123_3 h123_4 h123_5 h123_6 h123_7 h123_8
     obtain ⟨kp3_0, kp3_1, kp3_2⟩ := p3.c3
     obtain ⟨kp114_9_0, kp114_9_1⟩ := p114_9.c2
     obtain ⟨kp115_9_0, kp115_9_1, kp115_9_2⟩ := p115_9.c3
     obtain ⟨kp116_7_0, kp116_7_1⟩ := p116_7.c2
     obtain ⟨kp117_7_0, kp117_7_1⟩ := p117_7.c2
     obtain ⟨kp118_9_0, kp118_9_1⟩ := p118_9.c2
     obtain ⟨kp119_9_0, kp119_9_1, kp119_9_2⟩ := p119_9.c3
     obtain ⟨kp120_7_0, kp120_7_1⟩ := p120_7.c2
     obtain ⟨kp121_7_0, kp121_7_1⟩ := p121_7.c2
     go_upto_region 14 with (fail)
     clear kp3_0 kp3_1 kp3_2 kp114_9_0 kp114_9_1 kp115_9_0 kp115_9_1 kp115_9_2 kp116_7_0 kp116_7_1 kp117_7_0 kp117_7_1 kp118_9_0 kp118_9_1 kp119_9_0 kp119_9_1 kp119_9_2 kp120_7_0 kp120_7_1 kp121_7_0 kp121_7_1; have szw124 := Ext.size E0
     refine region_gs [.one fun v _ => v = .bool true,
       .one fun v _ => v = .bool true,
       .one fun v _ => v = .int .i64 0,
       .one fun v _ => v = .bool true,
       .one fun v _ => v = .bool true,
       .one fun v _ => v = .bool true,
       .one fun v _ => v = .int .i64 0,
       .one fun v _ => v = .bool true,
       .one fun v _ => v = .bool true,
       .one fun v _ => v = .bool true,
       .one fun v _ => v = .int .i64 0,
       .one fun v _ => v = .bool true,
       .one fun v _ => v = .bool true,
       .one fun v _ => v = .bool true,
       .one fun v _ => v = .int .i64 0,
       .one fun v _ => v = .bool true,
       .one fun v _ => v = .bool true,
       .one fun v _ => v = .bool true,
       .one fun v _ => v = .agg #[.bool b116_7, .slice a116_7 n116_7 c116_7],
       .one fun v _ => v = .agg #[.bool b117_7, .slice a117_7 n117_7 c117_7],
       .one fun v _ => v = .bool true,
       .one fun v _ => v = .bool true,
       .one fun v _ => v = .bool true,
       .one fun v _ => v = .agg #[.bool b120_7, .slice a120_7 n120_7 c120_7],
       .one fun v _ => v = .agg #[.bool b121_7, .slice a121_7 n121_7 c121_7],
       .one fun v _ => v = .bool true,
       .one fun v _ => v = .bool true,
       .one fun v _ => v = .bool true,
       .one fun v _ => v = .bool true,
       .one fun v _ => v = .bool true,
       .one fun v _ => v = .bool true]
      (fun W => Ext w W ∧ Bx3 W w.heap.size 27 (.bool b1) (.slice a1 n1 c1) (.slice d1 m1 o1) ∧ Rw W (.agg #[.bool b1, .slice a1 n1 c1, .slice d1 m1 o1]) x ∧ Zw W (.agg #[.bool true, .slice a114_9 n114_9 c114_9]) F ∧ Bx2 W g114_9 25 (.bool true) (.slice a114_9 n114_9 c114_9) ∧ Rw W (.agg #[.bool b115_9, .slice a115_9 n115_9 c115_9, .slice d115_9 m115_9 o115_9]) X ∧ Bx3 W g115_9 27 (.bool b115_9) (.slice a115_9 n115_9 c115_9) (.slice d115_9 m115_9 o115_9) ∧ Zw W (.agg #[.bool b116_7, .slice a116_7 n116_7 c116_7]) G ∧ Bx2 W g116_7 25 (.bool b116_7) (.slice a116_7 n116_7 c116_7) ∧ Zw W (.agg #[.bool b117_7, .slice a117_7 n117_7 c117_7]) G ∧ Bx2 W g117_7 25 (.bool b117_7) (.slice a117_7 n117_7 c117_7) ∧ Zw W (.agg #[.bool b118_9, .slice a118_9 n118_9 c118_9]) C ∧ Bx2 W g118_9 25 (.bool b118_9) (.slice a118_9 n118_9 c118_9) ∧ Rw W (.agg #[.bool b119_9, .slice a119_9 n119_9 c119_9, .slice d119_9 m119_9 o119_9]) Y ∧ Bx3 W g119_9 27 (.bool b119_9) (.slice a119_9 n119_9 c119_9) (.slice d119_9 m119_9 o119_9) ∧ Zw W (.agg #[.bool b120_7, .slice a120_7 n120_7 c120_7]) J ∧ Bx2 W g120_7 25 (.bool b120_7) (.slice a120_7 n120_7 c120_7) ∧ Zw W (.agg #[.bool b121_7, .slice a121_7 n121_7 c121_7]) J ∧ Bx2 W g121_7 25 (.bool b121_7) (.slice a121_7 n121_7 c121_7) ∧ Nw W u122_5 ((F.natAbs / 2 ^ n)) ∧ Nw W u122_7 ((F.natAbs / 2 ^ n)) ∧ W123.heap.size ≤ W.heap.size) ⟨Good.is _, Good.is _, Good.is _, Good.is _, Good.is _, Good.is _, Good.is _, Good.is _, Good.is _, Good.is _, Good.is _, Good.is _, Good.is _, Good.is _, Good.is _, Good.is _, Good.is _, Good.is _, Good.is _, Good.is _, Good.is _, Good.is _, Good.is _, Good.is _, Good.is _, Good.is _, Good.is _, Good.is _, Good.is _, Good.is _, Good.is _, trivial⟩
      ⟨E0, p3, hx1, h114_6, p114_9, h115_6, p115_9, h116_4, p116_7, h117_4, p117_7, h118_6, p118_9, h119_6, p119_9, h120_4, p120_7, h121_4, p121_7, h122_5, h122_7, Nat.le_refl _⟩ (A := ?A124) ?hA124 ?howe124 ?hfin124
     case hA124 =>
      intro vs
      simp only [putAll, Act.put, sA, sZ, sS, Nat.zero_add, Nat.reduceAdd]
      exact rfl
     case howe124 =>
      clear E0 p3 hx1 h114_6 p114_9 h115_6 p115_9 h116_4 p116_7 h117_4 p117_7 h118_6 p118_9 h119_6 p119_9 h120_4 p120_7 h121_4 p121_7 h122_5 h122_7
      intro hf
      refine ⟨oE 0 [] hf rfl ?_, oE 1 [0] hf rfl ?_, oE 2 [1] hf rfl ?_, oE 3 [1, 2] hf rfl ?_, oE 4 [1, 3] hf rfl ?_, oE 5 [4] hf rfl ?_, oE 6 [5] hf rfl ?_, oE 7 [5, 6] hf rfl ?_, oE 8 [5, 7] hf rfl ?_, oE 9 [8] hf rfl ?_, oE 10 [9] hf rfl ?_, oE 11 [9, 10] hf rfl ?_, oE 12 [9, 11] hf rfl ?_, oE 13 [12] hf rfl ?_, oE 14 [13] hf rfl ?_, oE 15 [13, 14] hf rfl ?_, oE 16 [13, 15] hf rfl ?_, oE 17 [16] hf rfl ?_, oE 18 [17] hf rfl ?_, oE 19 [17] hf rfl ?_, oE 20 [17, 18, 19] hf rfl ?_, oE 21 [17, 20] hf rfl ?_, oE 22 [21] hf rfl ?_, oE 23 [22] hf rfl ?_, oE 24 [22] hf rfl ?_, oE 25 [22, 23, 24] hf rfl ?_, oE 26 [22, 25] hf rfl ?_, oE 27 [26] hf rfl ?_, oE 28 [27] hf rfl ?_, oE 29 [27, 28] hf rfl ?_, oE 30 [29] hf rfl ?_, trivial⟩
      all_goals intro vs W hS hp hx KO hKO
      all_goals simp only [Act.put, sA, sZ, sS] at hKO
      ·go_simp
       refine (Try.alive06 _).mono ?_
       rintro e W1 ⟨rfl, hE⟩
       exact hKO _ W1 hE rfl
      ·have e0 := isOf hp.1; simp only [e0] at hKO; go_simp; exact hKO _ W (.refl W) rfl
      ·have e1 := isOf hp.1; simp only [e1] at hKO; go_simp; exact hKO _ W (.refl W) rfl
      ·have e1 := isOf hp.1; have e2 := isOf hp.2.1; simp only [e1, e2] at hKO; go_simp; exact hKO _ W (.refl W) rfl
      ·have e1 := isOf hp.1; have e3 := isOf hp.2.1; simp only [e1, e3] at hKO; go_simp; exact hKO _ W (.refl W) rfl
      ·have e4 := isOf hp.1; simp only [e4] at hKO; go_simp; exact hKO _ W (.refl W) rfl
      ·have e5 := isOf hp.1; simp only [e5] at hKO; go_simp; exact hKO _ W (.refl W) rfl
      ·have e5 := isOf hp.1; have e6 := isOf hp.2.1; simp only [e5, e6] at hKO; go_simp; exact hKO _ W (.refl W) rfl
      ·have e5 := isOf hp.1; have e7 := isOf hp.2.1; simp only [e5, e7] at hKO; go_simp; exact hKO _ W (.refl W) rfl
      ·have e8 := isOf hp.1; simp only [e8] at hKO; go_simp; exact hKO _ W (.refl W) rfl
      ·have e9 := isOf hp.1; simp only [e9] at hKO; go_simp; exact hKO _ W (.refl W) rfl
      ·have e9 := isOf hp.1; have e10 := isOf hp.2.1; simp only [e9, e10] at hKO; go_simp; exact hKO _ W (.refl W) rfl
      ·have e9 := isOf hp.1; have e11 := isOf hp.2.1; simp only [e9, e11] at hKO; go_simp; exact hKO _ W (.refl W) rfl
      ·have e12 := isOf hp.1; simp only [e12] at hKO; go_simp; exact hKO _ W (.refl W) rfl
      ·have e13 := isOf hp.1; simp only [e13] at hKO; go_simp; exact hKO _ W (.refl W) rfl
      ·have e13 := isOf hp.1; have e14 := isOf hp.2.1; simp only [e13, e14] at hKO; go_simp; exact hKO _ W (.refl W) rfl
      ·have e13 := isOf hp.1; have e15 := isOf hp.2.1; simp only [e13, e15] at hKO; go_simp; exact hKO _ W (.refl W) rfl
      ·have e16 := isOf hp.1; simp only [e16] at hKO; go_simp; exact hKO _ W (.refl W) rfl
      ·have e17 := isOf hp.1; simp only [e17] at hKO; have fc0 := hS.2.2.2.2.2.2.2.2.1.cell0; have fc1 := hS.2.2.2.2.2.2.2.2.1.cell1; go_simp; exact hKO _ W (.refl W) rfl
      ·have e17 := isOf hp.1; simp only [e17] at hKO; have fc0 := hS.2.2.2.2.2.2.2.2.2.2.1.cell0; have fc1 := hS.2.2.2.2.2.2.2.2.2.2.1.cell1; go_simp; exact hKO _ W (.refl W) rfl
      ·have e17 := isOf hp.1; have e18 := isOf hp.2.1; have e19 := isOf hp.2.2.1; simp only [e17, e18, e19] at hKO; go_simp
       refine (Try.refZSameD (hS.2.2.2.2.2.2.2.1) (hS.2.2.2.2.2.2.2.2.2.1) rfl).mono ?_
       rintro e W1 ⟨rfl, hE⟩
       exact hKO _ W1 hE rfl
      ·have e17 := isOf hp.1; have e20 := isOf hp.2.1; simp only [e17, e20] at hKO; go_simp; exact hKO _ W (.refl W) rfl
      ·have e21 := isOf hp.1; simp only [e21] at hKO; go_simp; exact hKO _ W (.refl W) rfl
      ·have e22 := isOf hp.1; simp only [e22] at hKO; have fc0 := hS.2.2.2.2.2.2.2.2.2.2.2.2.2.2.2.2.1.cell0; have fc1 := hS.2.2.2.2.2.2.2.2.2.2.2.2.2.2.2.2.1.cell1; go_simp; exact hKO _ W (.refl W) rfl
      ·have e22 := isOf hp.1; simp only [e22] at hKO; have fc0 := hS.2.2.2.2.2.2.2.2.2.2.2.2.2.2.2.2.2.2.1.cell0; have fc1 := hS.2.2.2.2.2.2.2.2.2.2.2.2.2.2.2.2.2.2.1.cell1; go_simp; exact hKO _ W (.refl W) rfl
      ·have e22 := isOf hp.1; have e23 := isOf hp.2.1; have e24 := isOf hp.2.2.1; simp only [e22, e23, e24] at hKO; go_simp
       refine (Try.refZSameD (hS.2.2.2.2.2.2.2.2.2.2.2.2.2.2.2.1) (hS.2.2.2.2.2.2.2.2.2.2.2.2.2.2.2.2.2.1) rfl).mono ?_
       rintro e W1 ⟨rfl, hE⟩
       exact hKO _ W1 hE rfl
      ·have e22 := isOf hp.1; have e25 := isOf hp.2.1; simp only [e22, e25] at hKO; go_simp; exact hKO _ W (.refl W) rfl
      ·have e26 := isOf hp.1; simp only [e26] at hKO; go_simp; exact hKO _ W (.refl W) rfl
      ·have e27 := isOf hp.1; simp only [e27] at hKO; go_simp; exact hKO _ W (.refl W) rfl
      ·have e27 := isOf hp.1; have e28 := isOf hp.2.1; simp only [e27, e28] at hKO; go_simp; exact hKO _ W (.refl W) rfl
      ·have e29 := isOf hp.1; simp only [e29] at hKO; go_simp; exact hKO _ W (.refl W) rfl
     intro vs W124 hS hp
     clear szw124 E0 p3 hx1 h114_6 p114_9 h115_6 p115_9 h116_4 p116_7 h117_4 p117_7 h118_6 p118_9 h119_6 p119_9 h120_4 p120_7 h121_4 p121_7 h122_5 h122_7
     obtain ⟨E0, p3, hx1, h114_6, p114_9, h115_6, p115_9, h116_4, p116_7, h117_4, p117_7, h118_6, p118_9, h119_6, p119_9, h120_4, p120_7, h121_4, p121_7, h122_5, h122_7, sz124⟩ := hS
     obtain ⟨h124_0, h124_1, h124_2, h124_3, h124_4, h124_5, h124_6, h124_7, h124_8, h124_9, h124_10, h124_11, h124_12, h124_13, h124_14, h124_15, h124_16, h124_17, h124_18, h124_19, h124_20, h124_21, h124_22, h124_23, h124_24, h124_25, h124_26, h124_27, h124_28, h124_29, h124_30, -⟩ := hp
     replace h124_0 : vs 0 = .bool true := h124_0
     replace h124_1 : vs 1 = .bool true := h124_1
     replace h124_2 : vs 2 = .int .i64 0 := h124_2
     replace h124_3 : vs 3 = .bool true := h124_3
     replace h124_4 : vs 4 = .bool true := h124_4
     replace h124_5 : vs 5 = .bool true := h124_5
     replace h124_6 : vs 6 = .int .i64 0 := h124_6
     replace h124_7 : vs 7 = .bool true := h124_7
     replace h124_8 : vs 8 = .bool true := h124_8
     replace h124_9 : vs 9 = .bool true := h124_9
     replace h124_10 : vs 10 = .int .i64 0 := h124_10
     replace h124_11 : vs 11 = .bool true := h124_11
     replace h124_12 : vs 12 = .bool true := h124_12
     replace h124_13 : vs 13 = .bool true := h124_13
     replace h124_14 : vs 14 = .int .i64 0 := h124_14
     replace h124_15 : vs 15 = .bool true := h124_15
     replace h124_16 : vs 16 = .bool true := h124_16
     replace h124_17 : vs 17 = .bool true := h124_17
     replace h124_18 : vs 18 = .agg #[.bool b116_7, .slice a116_7 n116_7 c116_7] := h124_18
     replace h124_19 : vs 19 = .agg #[.bool b117_7, .slice a117_7 n117_7 c117_7] := h124_19
     replace h124_20 : vs 20 = .bool true := h124_20
     replace h124_21 : vs 21 = .bool true := h124_21
     replace h124_22 : vs 22 = .bool true := h124_22
     replace h124_23 : vs 23 = .agg #[.bool b120_7, .slice a120_7 n120_7 c120_7] := h124_23
     replace h124_24 : vs 24 = .agg #[.bool b121_7, .slice a121_7 n121_7 c121_7] := h124_24
     replace h124_25 : vs 25 = .bool true := h124_25
     replace h124_26 : vs 26 = .bool true := h124_26
     replace h124_27 : vs 27 = .bool true := h124_27
     replace h124_28 : vs 28 = .bool true := h124_28
     replace h124_29 : vs 29 = .bool true := h124_29
     replace h124_30 : vs 30 = .bool true := h124_30
     simp only [h124_0, h124_1, h124_2, h124_3, h124_4, h124_5, h124_6, h124_7, h124_8, h124_9, h124_10, h124_11, h124_12, h124_13, h124_14, h124_15, h124_16, h124_17, h124_18, h124_19, h124_20, h124_21, h124_22, h124_23, h124_24, h124_25, h124_26, h124_27, h124_28, h124_29, h124_30]
     clear h124_0 h124_1 h124_2 h124_3 h124_4 h124_5 h124_6 h124_7 h124_8 h124_9 h124_10 h124_11 h124_12 h124_13 h124_14 h124_15 h124_16 h124_17 h124_18 h124_19 h124_20 h124_21 h124_22 h124_23 h124_24 h124_25 h124_26 h124_27 h124_28 h124_29 h124_30
     obtain ⟨kp3_0, kp3_1, kp3_2⟩ := p3.c3
     obtain ⟨kp114_9_0, kp114_9_1⟩ := p114_9.c2
     obtain ⟨kp115_9_0, kp115_9_1, kp115_9_2⟩ := p115_9.c3
     obtain ⟨kp116_7_0, kp116_7_1⟩ := p116_7.c2
     obtain ⟨kp117_7_0, kp117_7_1⟩ := p117_7.c2
     obtain ⟨kp118_9_0, kp118_9_1⟩ := p118_9.c2
     obtain ⟨kp119_9_0, kp119_9_1, kp119_9_2⟩ := p119_9.c3
     obtain ⟨kp120_7_0, kp120_7_1⟩ := p120_7.c2
     obtain ⟨kp121_7_0, kp121_7_1⟩ := p121_7.c2
     go_wp2; go_ret
     exact ⟨rfl, E0⟩
    ·have HFN := Lib.hid hF0
     have HDV : Hid (G = ((F.natAbs / 2 ^ n : Nat) : Int)) := Lib.hid (by
      rw [HD0.out]
      have e : F = ((F.natAbs : Nat) : Int) := by omega
      conv => lhs; rw [e]
      exact (Int.natCast_ediv _ _).symm)
     clear hF0 HD0
     have hsg := h114_6.neg
     obtain rfl : b114_9 = false := by rw [hsg.out]; exact decide_eq_false HFN.out
     clear hsg
     obtain ⟨ay, ny, cy, ezy, zy, -⟩ := h122_7.len
     rw [ezy] at h122_7 ⊢
     clear ezy; clear zy
     have hz := Zw.ofN h122_7
     obtain ⟨kp3_0, kp3_1, kp3_2⟩ := p3.c3
     obtain ⟨kp114_9_0, kp114_9_1⟩ := p114_9.c2
     obtain ⟨kp115_9_0, kp115_9_1, kp115_9_2⟩ := p115_9.c3
     obtain ⟨kp116_7_0, kp116_7_1⟩ := p116_7.c2
     obtain ⟨kp117_7_0, kp117_7_1⟩ := p117_7.c2
     obtain ⟨kp118_9_0, kp118_9_1⟩ := p118_9.c2
     obtain ⟨kp119_9_0, kp119_9_1, kp119_9_2⟩ := p119_9.c3
     obtain ⟨kp120_7_0, kp120_7_1⟩ := p120_7.c2
     obtain ⟨kp121_7_0, kp121_7_1⟩ := p121_7.c2
     go_upto_region 13 with (fail)
     clear kp3_0 kp3_1 kp3_2 kp114_9_0 kp114_9_1 kp115_9_0 kp115_9_1 kp115_9_2 kp116_7_0 kp116_7_1 kp117_7_0 kp117_7_1 kp118_9_0 kp118_9_1 kp119_9_0 kp119_9_1 kp119_9_2 kp120_7_0 kp120_7_1 kp121_7_0 kp121_7_1; have szw125 := Ext.size E0
     refine region_gs [.one fun v _ => v = .pointer (some ⟨g114_9, 0, none⟩),
       .one fun v _ => v = .bool false,
       .one fun v _ => v = .bool false,
       .one fun v _ => v = .agg #[.bool b116_7, .slice a116_7 n116_7 c116_7],
       .one fun v _ => v = .slice ay ny cy,
       .one fun v _ => v = .agg #[.bool false, .slice ay ny cy],
       .one fun v _ => v = .bool true,
       .one fun v _ => v = .bool true,
       .one fun v _ => v = .bool true]
      (fun W => Ext w W ∧ Bx3 W w.heap.size 27 (.bool b1) (.slice a1 n1 c1) (.slice d1 m1 o1) ∧ Rw W (.agg #[.bool b1, .slice a1 n1 c1, .slice d1 m1 o1]) x ∧ Zw W (.agg #[.bool false, .slice a114_9 n114_9 c114_9]) F ∧ Bx2 W g114_9 25 (.bool false) (.slice a114_9 n114_9 c114_9) ∧ Rw W (.agg #[.bool b115_9, .slice a115_9 n115_9 c115_9, .slice d115_9 m115_9 o115_9]) X ∧ Bx3 W g115_9 27 (.bool b115_9) (.slice a115_9 n115_9 c115_9) (.slice d115_9 m115_9 o115_9) ∧ Zw W (.agg #[.bool b116_7, .slice a116_7 n116_7 c116_7]) G ∧ Bx2 W g116_7 25 (.bool b116_7) (.slice a116_7 n116_7 c116_7) ∧ Zw W (.agg #[.bool b117_7, .slice a117_7 n117_7 c117_7]) G ∧ Bx2 W g117_7 25 (.bool b117_7) (.slice a117_7 n117_7 c117_7) ∧ Zw W (.agg #[.bool b118_9, .slice a118_9 n118_9 c118_9]) C ∧ Bx2 W g118_9 25 (.bool b118_9) (.slice a118_9 n118_9 c118_9) ∧ Rw W (.agg #[.bool b119_9, .slice a119_9 n119_9 c119_9, .slice d119_9 m119_9 o119_9]) Y ∧ Bx3 W g119_9 27 (.bool b119_9) (.slice a119_9 n119_9 c119_9) (.slice d119_9 m119_9 o119_9) ∧ Zw W (.agg #[.bool b120_7, .slice a120_7 n120_7 c120_7]) J ∧ Bx2 W g120_7 25 (.bool b120_7) (.slice a120_7 n120_7 c120_7) ∧ Zw W (.agg #[.bool b121_7, .slice a121_7 n121_7 c121_7]) J ∧ Bx2 W g121_7 25 (.bool b121_7) (.slice a121_7 n121_7 c121_7) ∧ Nw W u122_5 ((F.natAbs / 2 ^ n)) ∧ Nw W (.slice ay ny cy) ((F.natAbs / 2 ^ n)) ∧ Zw W (.agg #[.bool false, .slice ay ny cy]) (((F.natAbs / 2 ^ n : Nat) : Int)) ∧ W122.heap.size ≤ W.heap.size) ⟨Good.is _, Good.is _, Good.is _, Good.is _, Good.is _, Good.is _, Good.is _, Good.is _, Good.is _, trivial⟩
      ⟨E0, p3, hx1, h114_6, p114_9, h115_6, p115_9, h116_4, p116_7, h117_4, p117_7, h118_6, p118_9, h119_6, p119_9, h120_4, p120_7, h121_4, p121_7, h122_5, h122_7, hz, Nat.le_refl _⟩ (A := ?A125) ?hA125 ?howe125 ?hfin125
     case hA125 =>
      intro vs
      simp only [putAll, Act.put, sA, sZ, sS, Nat.zero_add, Nat.reduceAdd]
      exact rfl
     case howe125 =>
      clear E0 p3 hx1 h114_6 p114_9 h115_6 p115_9 h116_4 p116_7 h117_4 p117_7 h118_6 p118_9 h119_6 p119_9 h120_4 p120_7 h121_4 p121_7 h122_5 h122_7 hz
      intro hf
      refine ⟨oE 0 [] hf rfl ?_, oE 1 [0] hf rfl ?_, oE 2 [1] hf rfl ?_, oE 3 [2] hf rfl ?_, oE 4 [2] hf rfl ?_, oE 5 [2, 4] hf rfl ?_, oE 6 [2, 3, 5] hf rfl ?_, oE 7 [2, 6] hf rfl ?_, oE 8 [7] hf rfl ?_, trivial⟩
      all_goals intro vs W hS hp hx KO hKO
      all_goals simp only [Act.put, sA, sZ, sS] at hKO
      ·go_simp; exact hKO _ W (.refl W) rfl
      ·have e0 := isOf hp.1; simp only [e0] at hKO; have fc0 := hS.2.2.2.2.1.cell0; go_simp; exact hKO _ W (.refl W) rfl
      ·have e1 := isOf hp.1; simp only [e1] at hKO; go_simp; exact hKO _ W (.refl W) rfl
      ·have e2 := isOf hp.1; simp only [e2] at hKO; have fc0 := hS.2.2.2.2.2.2.2.2.1.cell0; have fc1 := hS.2.2.2.2.2.2.2.2.1.cell1; go_simp; exact hKO _ W (.refl W) rfl
      ·have e2 := isOf hp.1; simp only [e2] at hKO; go_simp; exact hKO _ W (.refl W) rfl
      ·have e2 := isOf hp.1; have e4 := isOf hp.2.1; simp only [e2, e4] at hKO; go_simp; exact hKO _ W (.refl W) rfl
      ·have e2 := isOf hp.1; have e3 := isOf hp.2.1; have e5 := isOf hp.2.2.1; simp only [e2, e3, e5] at hKO; go_simp
       refine (Try.refZSameD (hS.2.2.2.2.2.2.2.1) (hS.2.2.2.2.2.2.2.2.2.2.2.2.2.2.2.2.2.2.2.2.2.1) HDV.out).mono ?_
       rintro e W1 ⟨rfl, hE⟩
       exact hKO _ W1 hE rfl
      ·have e2 := isOf hp.1; have e6 := isOf hp.2.1; simp only [e2, e6] at hKO; go_simp; exact hKO _ W (.refl W) rfl
      ·have e7 := isOf hp.1; simp only [e7] at hKO; go_simp; exact hKO _ W (.refl W) rfl
     intro vs W125 hS hp
     clear szw125 E0 p3 hx1 h114_6 p114_9 h115_6 p115_9 h116_4 p116_7 h117_4 p117_7 h118_6 p118_9 h119_6 p119_9 h120_4 p120_7 h121_4 p121_7 h122_5 h122_7 hz
     obtain ⟨E0, p3, hx1, h114_6, p114_9, h115_6, p115_9, h116_4, p116_7, h117_4, p117_7, h118_6, p118_9, h119_6, p119_9, h120_4, p120_7, h121_4, p121_7, h122_5, h122_7, hz, sz125⟩ := hS
     obtain ⟨h125_0, h125_1, h125_2, h125_3, h125_4, h125_5, h125_6, h125_7, h125_8, -⟩ := hp
     replace h125_0 : vs 0 = .pointer (some ⟨g114_9, 0, none⟩) := h125_0
     replace h125_1 : vs 1 = .bool false := h125_1
     replace h125_2 : vs 2 = .bool false := h125_2
     replace h125_3 : vs 3 = .agg #[.bool b116_7, .slice a116_7 n116_7 c116_7] := h125_3
     replace h125_4 : vs 4 = .slice ay ny cy := h125_4
     replace h125_5 : vs 5 = .agg #[.bool false, .slice ay ny cy] := h125_5
     replace h125_6 : vs 6 = .bool true := h125_6
     replace h125_7 : vs 7 = .bool true := h125_7
     replace h125_8 : vs 8 = .bool true := h125_8
     simp only [h125_0, h125_1, h125_2, h125_3, h125_4, h125_5, h125_6, h125_7, h125_8]
     clear h125_0 h125_1 h125_2 h125_3 h125_4 h125_5 h125_6 h125_7 h125_8
     obtain ⟨kp3_0, kp3_1, kp3_2⟩ := p3.c3
     obtain ⟨kp114_9_0, kp114_9_1⟩ := p114_9.c2
     obtain ⟨kp115_9_0, kp115_9_1, kp115_9_2⟩ := p115_9.c3
     obtain ⟨kp116_7_0, kp116_7_1⟩ := p116_7.c2
     obtain ⟨kp117_7_0, kp117_7_1⟩ := p117_7.c2
     obtain ⟨kp118_9_0, kp118_9_1⟩ := p118_9.c2
     obtain ⟨kp119_9_0, kp119_9_1, kp119_9_2⟩ := p119_9.c3
     obtain ⟨kp120_7_0, kp120_7_1⟩ := p120_7.c2
     obtain ⟨kp121_7_0, kp121_7_1⟩ := p121_7.c2
     go_upto_region 14 with (fail)
     clear kp3_0 kp3_1 kp3_2 kp114_9_0 kp114_9_1 kp115_9_0 kp115_9_1 kp115_9_2 kp116_7_0 kp116_7_1 kp117_7_0 kp117_7_1 kp118_9_0 kp118_9_1 kp119_9_0 kp119_9_1 kp119_9_2 kp120_7_0 kp120_7_1 kp121_7_0 kp121_7_1; have szw126 := Ext.size E0
     refine region_gs [.one fun v _ => v = .bool true,
       .one fun v _ => v = .bool true,
       .one fun v _ => v = .int .i64 0,
       .one fun v _ => v = .bool true,
       .one fun v _ => v = .bool true,
       .one fun v _ => v = .bool true,
       .one fun v _ => v = .int .i64 0,
       .one fun v _ => v = .bool true,
       .one fun v _ => v = .bool true,
       .one fun v _ => v = .bool true,
       .one fun v _ => v = .int .i64 0,
       .one fun v _ => v = .bool true,
       .one fun v _ => v = .bool true,
       .one fun v _ => v = .bool true,
       .one fun v _ => v = .int .i64 0,
       .one fun v _ => v = .bool true,
       .one fun v _ => v = .bool true,
       .one fun v _ => v = .bool true,
       .one fun v _ => v = .agg #[.bool b116_7, .slice a116_7 n116_7 c116_7],
       .one fun v _ => v = .agg #[.bool b117_7, .slice a117_7 n117_7 c117_7],
       .one fun v _ => v = .bool true,
       .one fun v _ => v = .bool true,
       .one fun v _ => v = .bool true,
       .one fun v _ => v = .agg #[.bool b120_7, .slice a120_7 n120_7 c120_7],
       .one fun v _ => v = .agg #[.bool b121_7, .slice a121_7 n121_7 c121_7],
       .one fun v _ => v = .bool true,
       .one fun v _ => v = .bool true,
       .one fun v _ => v = .bool true,
       .one fun v _ => v = .bool true,
       .one fun v _ => v = .bool true,
       .one fun v _ => v = .bool true]
      (fun W => Ext w W ∧ Bx3 W w.heap.size 27 (.bool b1) (.slice a1 n1 c1) (.slice d1 m1 o1) ∧ Rw W (.agg #[.bool b1, .slice a1 n1 c1, .slice d1 m1 o1]) x ∧ Zw W (.agg #[.bool false, .slice a114_9 n114_9 c114_9]) F ∧ Bx2 W g114_9 25 (.bool false) (.slice a114_9 n114_9 c114_9) ∧ Rw W (.agg #[.bool b115_9, .slice a115_9 n115_9 c115_9, .slice d115_9 m115_9 o115_9]) X ∧ Bx3 W g115_9 27 (.bool b115_9) (.slice a115_9 n115_9 c115_9) (.slice d115_9 m115_9 o115_9) ∧ Zw W (.agg #[.bool b116_7, .slice a116_7 n116_7 c116_7]) G ∧ Bx2 W g116_7 25 (.bool b116_7) (.slice a116_7 n116_7 c116_7) ∧ Zw W (.agg #[.bool b117_7, .slice a117_7 n117_7 c117_7]) G ∧ Bx2 W g117_7 25 (.bool b117_7) (.slice a117_7 n117_7 c117_7) ∧ Zw W (.agg #[.bool b118_9, .slice a118_9 n118_9 c118_9]) C ∧ Bx2 W g118_9 25 (.bool b118_9) (.slice a118_9 n118_9 c118_9) ∧ Rw W (.agg #[.bool b119_9, .slice a119_9 n119_9 c119_9, .slice d119_9 m119_9 o119_9]) Y ∧ Bx3 W g119_9 27 (.bool b119_9) (.slice a119_9 n119_9 c119_9) (.slice d119_9 m119_9 o119_9) ∧ Zw W (.agg #[.bool b120_7, .slice a120_7 n120_7 c120_7]) J ∧ Bx2 W g120_7 25 (.bool b120_7) (.slice a120_7 n120_7 c120_7) ∧ Zw W (.agg #[.bool b121_7, .slice a121_7 n121_7 c121_7]) J ∧ Bx2 W g121_7 25 (.bool b121_7) (.slice a121_7 n121_7 c121_7) ∧ Nw W u122_5 ((F.natAbs / 2 ^ n)) ∧ Nw W (.slice ay ny cy) ((F.natAbs / 2 ^ n)) ∧ Zw W (.agg #[.bool false, .slice ay ny cy]) (((F.natAbs / 2 ^ n : Nat) : Int)) ∧ W125.heap.size ≤ W.heap.size) ⟨Good.is _, Good.is _, Good.is _, Good.is _, Good.is _, Good.is _, Good.is _, Good.is _, Good.is _, Good.is _, Good.is _, Good.is _, Good.is _, Good.is _, Good.is _, Good.is _, Good.is _, Good.is _, Good.is _, Good.is _, Good.is _, Good.is _, Good.is _, Good.is _, Good.is _, Good.is _, Good.is _, Good.is _, Good.is _, Good.is _, Good.is _, trivial⟩
      ⟨E0, p3, hx1, h114_6, p114_9, h115_6, p115_9, h116_4, p116_7, h117_4, p117_7, h118_6, p118_9, h119_6, p119_9, h120_4, p120_7, h121_4, p121_7, h122_5, h122_7, hz, Nat.le_refl _⟩ (A := ?A126) ?hA126 ?howe126 ?hfin126
     case hA126 =>
      intro vs
      simp only [putAll, Act.put, sA, sZ, sS, Nat.zero_add, Nat.reduceAdd]
      exact rfl
     case howe126 =>
      clear E0 p3 hx1 h114_6 p114_9 h115_6 p115_9 h116_4 p116_7 h117_4 p117_7 h118_6 p118_9 h119_6 p119_9 h120_4 p120_7 h121_4 p121_7 h122_5 h122_7 hz
      intro hf
      refine ⟨oE 0 [] hf rfl ?_, oE 1 [0] hf rfl ?_, oE 2 [1] hf rfl ?_, oE 3 [1, 2] hf rfl ?_, oE 4 [1, 3] hf rfl ?_, oE 5 [4] hf rfl ?_, oE 6 [5] hf rfl ?_, oE 7 [5, 6] hf rfl ?_, oE 8 [5, 7] hf rfl ?_, oE 9 [8] hf rfl ?_, oE 10 [9] hf rfl ?_, oE 11 [9, 10] hf rfl ?_, oE 12 [9, 11] hf rfl ?_, oE 13 [12] hf rfl ?_, oE 14 [13] hf rfl ?_, oE 15 [13, 14] hf rfl ?_, oE 16 [13, 15] hf rfl ?_, oE 17 [16] hf rfl ?_, oE 18 [17] hf rfl ?_, oE 19 [17] hf rfl ?_, oE 20 [17, 18, 19] hf rfl ?_, oE 21 [17, 20] hf rfl ?_, oE 22 [21] hf rfl ?_, oE 23 [22] hf rfl ?_, oE 24 [22] hf rfl ?_, oE 25 [22, 23, 24] hf rfl ?_, oE 26 [22, 25] hf rfl ?_, oE 27 [26] hf rfl ?_, oE 28 [27] hf rfl ?_, oE 29 [27, 28] hf rfl ?_, oE 30 [29] hf rfl ?_, trivial⟩
      all_goals intro vs W hS hp hx KO hKO
      all_goals simp only [Act.put, sA, sZ, sS] at hKO
      ·go_simp
       refine (Try.alive06 _).mono ?_
       rintro e W1 ⟨rfl, hE⟩
       exact hKO _ W1 hE rfl
      ·have e0 := isOf hp.1; simp only [e0] at hKO; go_simp; exact hKO _ W (.refl W) rfl
      ·have e1 := isOf hp.1; simp only [e1] at hKO; go_simp; exact hKO _ W (.refl W) rfl
      ·have e1 := isOf hp.1; have e2 := isOf hp.2.1; simp only [e1, e2] at hKO; go_simp; exact hKO _ W (.refl W) rfl
      ·have e1 := isOf hp.1; have e3 := isOf hp.2.1; simp only [e1, e3] at hKO; go_simp; exact hKO _ W (.refl W) rfl
      ·have e4 := isOf hp.1; simp only [e4] at hKO; go_simp; exact hKO _ W (.refl W) rfl
      ·have e5 := isOf hp.1; simp only [e5] at hKO; go_simp; exact hKO _ W (.refl W) rfl
      ·have e5 := isOf hp.1; have e6 := isOf hp.2.1; simp only [e5, e6] at hKO; go_simp; exact hKO _ W (.refl W) rfl
      ·have e5 := isOf hp.1; have e7 := isOf hp.2.1; simp only [e5, e7] at hKO; go_simp; exact hKO _ W (.refl W) rfl
      ·have e8 := isOf hp.1; simp only [e8] at hKO; go_simp; exact hKO _ W (.refl W) rfl
      ·have e9 := isOf hp.1; simp only [e9] at hKO; go_simp; exact hKO _ W (.refl W) rfl
      ·have e9 := isOf hp.1; have e10 := isOf hp.2.1; simp only [e9, e10] at hKO; go_simp; exact hKO _ W (.refl W) rfl
      ·have e9 := isOf hp.1; have e11 := isOf hp.2.1; simp only [e9, e11] at hKO; go_simp; exact hKO _ W (.refl W) rfl
      ·have e12 := isOf hp.1; simp only [e12] at hKO; go_simp; exact hKO _ W (.refl W) rfl
      ·have e13 := isOf hp.1; simp only [e13] at hKO; go_simp; exact hKO _ W (.refl W) rfl
      ·have e13 := isOf hp.1; have e14 := isOf hp.2.1; simp only [e13, e14] at hKO; go_simp; exact hKO _ W (.refl W) rfl
      ·have e13 := isOf hp.1; have e15 := isOf hp.2.1; simp only [e13, e15] at hKO; go_simp; exact hKO _ W (.refl W) rfl
      ·have e16 := isOf hp.1; simp only [e16] at hKO; go_simp; exact hKO _ W (.refl W) rfl
      ·have e17 := isOf hp.1; simp only [e17] at hKO; have fc0 := hS.2.2.2.2.2.2.2.2.1.cell0; have fc1 := hS.2.2.2.2.2.2.2.2.1.cell1; go_simp; exact hKO _ W (.refl W) rfl
      ·have e17 := isOf hp.1; simp only [e17] at hKO; have fc0 := hS.2.2.2.2.2.2.2.2.2.2.1.cell0; have fc1 := hS.2.2.2.2.2.2.2.2.2.2.1.cell1; go_simp; exact hKO _ W (.refl W) rfl
      ·have e17 := isOf hp.1; have e18 := isOf hp.2.1; have e19 := isOf hp.2.2.1; simp only [e17, e18, e19] at hKO; go_simp
       refine (Try.refZSameD (hS.2.2.2.2.2.2.2.1) (hS.2.2.2.2.2.2.2.2.2.1) rfl).mono ?_
       rintro e W1 ⟨rfl, hE⟩
       exact hKO _ W1 hE rfl
      ·have e17 := isOf hp.1; have e20 := isOf hp.2.1; simp only [e17, e20] at hKO; go_simp; exact hKO _ W (.refl W) rfl
      ·have e21 := isOf hp.1; simp only [e21] at hKO; go_simp; exact hKO _ W (.refl W) rfl
      ·have e22 := isOf hp.1; simp only [e22] at hKO; have fc0 := hS.2.2.2.2.2.2.2.2.2.2.2.2.2.2.2.2.1.cell0; have fc1 := hS.2.2.2.2.2.2.2.2.2.2.2.2.2.2.2.2.1.cell1; go_simp; exact hKO _ W (.refl W) rfl
      ·have e22 := isOf hp.1; simp only [e22] at hKO; have fc0 := hS.2.2.2.2.2.2.2.2.2.2.2.2.2.2.2.2.2.2.1.cell0; have fc1 := hS.2.2.2.2.2.2.2.2.2.2.2.2.2.2.2.2.2.2.1.cell1; go_simp; exact hKO _ W (.refl W) rfl
      ·have e22 := isOf hp.1; have e23 := isOf hp.2.1; have e24 := isOf hp.2.2.1; simp only [e22, e23, e24] at hKO; go_simp
       refine (Try.refZSameD (hS.2.2.2.2.2.2.2.2.2.2.2.2.2.2.2.1) (hS.2.2.2.2.2.2.2.2.2.2.2.2.2.2.2.2.2.1) rfl).mono ?_
       rintro e W1 ⟨rfl, hE⟩
       exact hKO _ W1 hE rfl
      ·have e22 := isOf hp.1; have e25 := isOf hp.2.1; simp only [e22, e25] at hKO; go_simp; exact hKO _ W (.refl W) rfl
      ·have e26 := isOf hp.1; simp only [e26] at hKO; go_simp; exact hKO _ W (.refl W) rfl
      ·have e27 := isOf hp.1; simp only [e27] at hKO; go_simp; exact hKO _ W (.refl W) rfl
      ·have e27 := isOf hp.1; have e28 := isOf hp.2.1; simp only [e27, e28] at hKO; go_simp; exact hKO _ W (.refl W) rfl
      ·have e29 := isOf hp.1; simp only [e29] at hKO; go_simp; exact hKO _ W (.refl W) rfl
     intro vs W126 hS hp
     clear szw126 E0 p3 hx1 h114_6 p114_9 h115_6 p115_9 h116_4 p116_7 h117_4 p117_7 h118_6 p118_9 h119_6 p119_9 h120_4 p120_7 h121_4 p121_7 h122_5 h122_7 hz
     obtain ⟨E0, p3, hx1, h114_6, p114_9, h115_6, p115_9, h116_4, p116_7, h117_4, p117_7, h118_6, p118_9, h119_6, p119_9, h120_4, p120_7, h121_4, p121_7, h122_5, h122_7, hz, sz126⟩ := hS
     obtain ⟨h126_0, h126_1, h126_2, h126_3, h126_4, h126_5, h126_6, h126_7, h126_8, h126_9, h126_10, h126_11, h126_12, h126_13, h126_14, h126_15, h126_16, h126_17, h126_18, h126_19, h126_20, h126_21, h126_22, h126_23, h126_24, h126_25, h126_26, h126_27, h126_28, h126_29, h126_30, -⟩ := hp
     replace h126_0 : vs 0 = .bool true := h126_0
     replace h126_1 : vs 1 = .bool true := h126_1
     replace h126_2 : vs 2 = .int .i64 0 := h126_2
     replace h126_3 : vs 3 = .bool true := h126_3
     replace h126_4 : vs 4 = .bool true := h126_4
     replace h126_5 : vs 5 = .bool true := h126_5
     replace h126_6 : vs 6 = .int .i64 0 := h126_6
     replace h126_7 : vs 7 = .bool true := h126_7
     replace h126_8 : vs 8 = .bool true := h126_8
     replace h126_9 : vs 9 = .bool true := h126_9
     replace h126_10 : vs 10 = .int .i64 0 := h126_10
     replace h126_11 : vs 11 = .bool true := h126_11
     replace h126_12 : vs 12 = .bool true := h126_12
     replace h126_13 : vs 13 = .bool true := h126_13
     replace h126_14 : vs 14 = .int .i64 0 := h126_14
     replace h126_15 : vs 15 = .bool true := h126_15
     replace h126_16 : vs 16 = .bool true := h126_16
     replace h126_17 : vs 17 = .bool true := h126_17
     replace h126_18 : vs 18 = .agg #[.bool b116_7, .slice a116_7 n116_7 c116_7] := h126_18
     replace h126_19 : vs 19 = .agg #[.bool b117_7, .slice a117_7 n117_7 c117_7] := h126_19
     replace h126_20 : vs 20 = .bool true := h126_20
     replace h126_21 : vs 21 = .bool true := h126_21
     replace h126_22 : vs 22 = .bool true := h126_22
     replace h126_23 : vs 23 = .agg #[.bool b120_7, .slice a120_7 n120_7 c120_7] := h126_23
     replace h126_24 : vs 24 = .agg #[.bool b121_7, .slice a121_7 n121_7 c121_7] := h126_24
     replace h126_25 : vs 25 = .bool true := h126_25
     replace h126_26 : vs 26 = .bool true := h126_26
     replace h126_27 : vs 27 = .bool true := h126_27
     replace h126_28 : vs 28 = .bool true := h126_28
     replace h126_29 : vs 29 = .bool true := h126_29
     replace h126_30 : vs 30 = .bool true := h126_30
     simp only [h126_0, h126_1, h126_2, h126_3, h126_4, h126_5, h126_6, h126_7, h126_8, h126_9, h126_10, h126_11, h126_12, h126_13, h126_14, h126_15, h126_16, h126_17, h126_18, h126_19, h126_20, h126_21, h126_22, h126_23, h126_24, h126_25, h126_26, h126_27, h126_28, h126_29, h126_30]
     clear h126_0 h126_1 h126_2 h126_3 h126_4 h126_5 h126_6 h126_7 h126_8 h126_9 h126_10 h126_11 h126_12 h126_13 h126_14 h126_15 h126_16 h126_17 h126_18 h126_19 h126_20 h126_21 h126_22 h126_23 h126_24 h126_25 h126_26 h126_27 h126_28 h126_29 h126_30
     obtain ⟨kp3_0, kp3_1, kp3_2⟩ := p3.c3
     obtain ⟨kp114_9_0, kp114_9_1⟩ := p114_9.c2
     obtain ⟨kp115_9_0, kp115_9_1, kp115_9_2⟩ := p115_9.c3
     obtain ⟨kp116_7_0, kp116_7_1⟩ := p116_7.c2
     obtain ⟨kp117_7_0, kp117_7_1⟩ := p117_7.c2
     obtain ⟨kp118_9_0, kp118_9_1⟩ := p118_9.c2
     obtain ⟨kp119_9_0, kp119_9_1, kp119_9_2⟩ := p119_9.c3
     obtain ⟨kp120_7_0, kp120_7_1⟩ := p120_7.c2
     obtain ⟨kp121_7_0, kp121_7_1⟩ := p121_7.c2
     go_wp2; go_ret
     exact ⟨rfl, E0⟩

end Go.Rt
