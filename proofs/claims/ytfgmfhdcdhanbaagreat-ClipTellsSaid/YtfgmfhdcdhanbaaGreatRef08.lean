/-
  Numbers of a fixed point by definition (chapter 08's answer).
-/
import Derived.Test.YtfgmfhdcdhanbaaGreatFixD
import Derived.Test.YtfgmfhdcdhanbaaGreatDyadB
import Derived.Test.YtfgmfhdcdhanbaaGreatSqz
import Derived.Test.YtfgmfhdcdhanbaaGreatRight
import Derived.Test.YtfgmfhdcdhanbaaGreatGG
namespace Go.Rt
open Go.RowKit Go.Proofs

set_option maxHeartbeats 400000 in
theorem Tryz.refFrac08 (f : Int) (w : World) : Calls Tryz.prog 55 #[.int .i64 f] w fun e w' => e = .returned (.bool (fracB f)) ∧ w = w' := by
  by_cases h1 : 0 ≤ f
  · by_cases h2 : f ≤ 40
    · have HR : Hid (true = fracB f) := Lib.hid (decide_eq_true (p := 0 ≤ f ∧ f ≤ 40) ⟨h1, h2⟩).symm
      go_enter Tryz.func55, Tryz.ntmps55
      go_wp2
      all_goals go_ret
      all_goals exact ⟨ret_b HR.out, rfl⟩
    · have HR : Hid (false = fracB f) := Lib.hid (decide_eq_false (p := 0 ≤ f ∧ f ≤ 40) (fun h => h2 h.2)).symm
      have h2' : decide (f ≤ 40) = false := decide_eq_false h2
      go_enter Tryz.func55, Tryz.ntmps55
      go_wp2
      all_goals go_ret
      all_goals exact ⟨ret_b HR.out, rfl⟩
  · have HR : Hid (false = fracB f) := Lib.hid (decide_eq_false (p := 0 ≤ f ∧ f ≤ 40) (fun h => h1 h.1)).symm
    have h1' : decide (0 ≤ f) = false := decide_eq_false h1
    go_enter Tryz.func55, Tryz.ntmps55
    go_wp2
    all_goals go_ret
    all_goals exact ⟨ret_b HR.out, rfl⟩

set_option maxRecDepth 100000 in
set_option maxHeartbeats 4000000 in
theorem Tryz.near08 {v1 : Value} {x : Rat} {L : Nat} {w : World} (h1 : Rw w v1 x) (s1 : SmR L x) (hL : L ≤ 60) (K : Nat) (hK : K ≤ 2000) :
    Calls Tryz.prog 56 #[v1, .int .i64 (K : Int)] w fun e w' => e = .returned (.tuple #[.int .i64 (fitV (nearR (x * P2 K))), .int .i64 (fitE (nearR (x * P2 K)))]) ∧ Ext w w' := by
  obtain ⟨Z, hZ⟩ : ∃ Z, Z = nearR (x * P2 K) := ⟨_, rfl⟩
  rw [← hZ]
  have HZ := Lib.hid hZ
  clear hZ
  have HL := Lib.hid hL
  have HKb := Lib.hid hK
  clear hL hK
  obtain ⟨b1, a1, n1, c1, d1, m1, o1, rfl, q1⟩ : ∃ b a n c d m o, v1 = .agg #[.bool b, .slice a n c, .slice d m o] ∧ True := let ⟨b, a, n, c, d, m, o, e, _⟩ := h1; ⟨b, a, n, c, d, m, o, e, trivial⟩
  clear q1
  cases hft : fits Z
  · have HV : Hid (fitV Z = 0) := Lib.hid (fitV_out hft)
    have HE : Hid (fitE Z = 2) := Lib.hid (fitE_out hft)
    have HF := Lib.hid hft
    rw [HV.out, HE.out]
    clear hft
    obtain ⟨W0, hW0⟩ : ∃ W0, W0 = (w.alloc (.cells #[.bool b1, .slice a1 n1 c1, .slice d1 m1 o1] 46)) := ⟨_, rfl⟩
    have E0 : Ext w W0 := by rw [hW0]; exact (Ext.alloc1 w (.cells #[.bool b1, .slice a1 n1 c1, .slice d1 m1 o1] 46))
    replace h1 : Rw W0 (.agg #[.bool b1, .slice a1 n1 c1, .slice d1 m1 o1]) x := h1.ext E0
    have p2 : Bx3 W0 w.heap.size 46 (.bool b1) (.slice a1 n1 c1) (.slice d1 m1 o1) := by rw [hW0]; exact (Bx3.new w 46 (.bool b1) (.slice a1 n1 c1) (.slice d1 m1 o1))
    go_enter Tryz.func56, Tryz.ntmps56
    have kp2_0 := p2.cell0
    have kp2_1 := p2.cell1
    have kp2_2 := p2.cell2
    go_upto_region 1 with (fail)
    rw [← hW0]
    clear hW0
    clear kp2_0 kp2_1 kp2_2
    have ltp2 := p2.lt
    have szw1 := Ext.size E0
    refine region_go [.one fun v _ => v = .agg #[.bool b1, .slice a1 n1 c1, .slice d1 m1 o1],
        .one fun v _ => v = .int .i64 (K : Int),
        .one fun v W => ∃ v', v = .tuple #[v', .int .i64 0] ∧ (fun v W => Zw W v Z) v' W,
        .one fun v W => ∃ v', v = .tuple #[v', .int .i64 0] ∧ (fun v W => Zw W v Z) v' W,
        .one fun v W => Zw W v Z,
        .one fun v _ => v = .int .i64 0,
        .one fun v W => ∃ g, v = .pointer (some ⟨g, 0, none⟩) ∧ W0.heap.size ≤ g ∧ Form W g 42 2,
        .three 6 4 (fun p r _ W => Put2 W0.heap.size 42 p r W),
        .one fun v _ => v = .int .i64 0]
      (fun W => Ext w W ∧ Rw W (.agg #[.bool b1, .slice a1 n1 c1, .slice d1 m1 o1]) x ∧ Bx3 W w.heap.size 46 (.bool b1) (.slice a1 n1 c1) (.slice d1 m1 o1) ∧ W0.heap.size ≤ W.heap.size) ⟨Good.is _, Good.is _, (Good.zed _).tup _, (Good.zed _).tup _, Good.zed _, Good.is _, Good.box _ _ _, cert_put2, Good.is _, trivial⟩
      (fun W W1 hS hE => ⟨(Ext.trans hS.1 hE), (hS.2.1.ext hE), (hS.2.2.1.ext hE), (Nat.le_trans hS.2.2.2 (Ext.size hE))⟩) ⟨E0, h1, p2, Nat.le_refl _⟩ (by kernel_rfl) (by kernel_rfl) (by kernel_rfl) (by kernel_rfl) (A := ?A1) ?hA1 ?howe1 ?hfin1
    case hA1 =>
      intro vs
      simp only [putAll, Act.put, List.setIfInBounds_toArray, List.set_cons_zero, List.set_cons_succ, Nat.zero_add, Nat.reduceAdd]
      exact rfl
    case howe1 =>
      clear E0 h1 p2
      intro hf
      refine ⟨owesE 0 [] hf rfl (by kernel_rfl) ?_, owesE 1 [] hf rfl (by kernel_rfl) ?_, owesE 2 [0, 1] hf rfl (by kernel_rfl) ?_, owesE 3 [2] hf rfl (by kernel_rfl) ?_, owesE 4 [3] hf rfl (by kernel_rfl) ?_, owesE 5 [3] hf rfl (by kernel_rfl) ?_, owesE 6 [] hf rfl (by kernel_rfl) ?_, owesW 7 [6, 4] hf rfl (by kernel_rfl) (by kernel_rfl) ?_, owesE 8 [5] hf rfl (by kernel_rfl) ?_, trivial⟩
      all_goals intro vs W hS hp hx KO hKO
      all_goals simp only [Act.put, List.setIfInBounds_toArray, List.set_cons_zero, List.set_cons_succ] at hKO
      · have fc0 := hS.2.2.1.cell0
        have fc1 := hS.2.2.1.cell1
        have fc2 := hS.2.2.1.cell2
        go_simp
        exact hKO _ W (Ext.refl W) rfl
      · go_simp
        exact hKO _ W (Ext.refl W) rfl
      · have e0 := isOf hp.1
        have e1 := isOf hp.2.1
        simp only [e0, e1] at hKO
        go_simp
        refine (Tryz.refNear (hS.2.1) s1 HL.out K HKb.out).mono ?_
        rintro e W1 ⟨v, rfl, hv, hE⟩
        rw [← HZ.out] at hv
        exact hKO _ W1 hE ⟨_, rfl, hv⟩
      · have q2 := hp.1
        obtain ⟨u, ev, hu⟩ := q2
        replace ev : vs 2 = _ := ev
        simp only [ev] at hKO
        go_simp
        exact hKO _ W (Ext.refl W) ⟨u, rfl, hu⟩
      · have q3 := hp.1
        obtain ⟨u, ev, hu⟩ := q3
        replace ev : vs 3 = _ := ev
        simp only [ev] at hKO
        go_simp
        exact hKO _ W (Ext.refl W) hu
      · have q3 := hp.1
        obtain ⟨u, ev, hu⟩ := q3
        replace ev : vs 3 = _ := ev
        simp only [ev] at hKO
        go_simp
        exact hKO _ W (Ext.refl W) rfl
      · have hn := Bx2.new W 42 (.bool false) (.slice none 0 0)
        have hE := Ext.alloc1 W (.cells #[.bool false, .slice none 0 0] 42)
        have hsz := hS.2.2.2
        go_simp
        exact hKO _ _ hE ⟨_, rfl, hsz, hn.form⟩
      · have q6 := hp.1
        have q4 := hp.2.1
        obtain ⟨g, ev, hg, hf⟩ := q6
        replace ev : vs 6 = _ := ev
        obtain ⟨x0, y0, hx, hno⟩ := hf.bx2
        have qr := q4
        obtain ⟨b3, a3, n3, c3, er, -, -⟩ := qr
        replace er : vs 4 = _ := er
        have r0 := hx.froz0
        have t0 := hx.cell0
        have r1 := hx.froz1
        have t1 := hx.cell1
        have hw := Wr.set2 hx hno b3 a3 n3 c3
        have hq := hx.set (.bool b3) (.slice a3 n3 c3)
        simp only [ev, er] at hKO
        go_simp
        exact hKO _ _ hw ⟨(Ext.wr hS.1 hw (by omega)), (hS.2.1.wr hw), (hS.2.2.1.wr hw (by omega)), (Nat.le_trans hS.2.2.2 hw.apart.size)⟩ ⟨g, b3, a3, n3, c3, ev, er, hg, hq⟩
      · have e5 := isOf hp.1
        simp only [e5] at hKO
        go_simp
        exact hKO _ W (Ext.refl W) rfl
    intro vs W1 hS hp
    clear szw1 E0 h1 p2
    obtain ⟨E0, h1, p2, sz1⟩ := hS
    obtain ⟨h1_0, h1_1, h1_2, h1_3, h1_4, h1_5, h1_6, h1_7, h1_8, -⟩ := hp
    obtain ⟨g1_7, b1_7, a1_7, n1_7, c1_7, ev1_7, er1_7, hg1_7, p1_7⟩ := h1_7
    replace ev1_7 : vs 6 = _ := ev1_7
    replace er1_7 : vs 4 = _ := er1_7
    replace h1_4 := (show Zw W1 (vs 4) Z from h1_4)
    rw [er1_7] at h1_4
    replace h1_0 : vs 0 = .agg #[.bool b1, .slice a1 n1 c1, .slice d1 m1 o1] := h1_0
    replace h1_1 : vs 1 = .int .i64 (K : Int) := h1_1
    replace h1_5 : vs 5 = .int .i64 0 := h1_5
    replace h1_8 : vs 8 = .int .i64 0 := h1_8
    simp only [ev1_7, er1_7, h1_0, h1_1, h1_5, h1_8]
    clear ev1_7 er1_7 h1_0 h1_1 h1_5 h1_8 h1_2 h1_3 h1_6
    have kp2_0 := p2.cell0
    have kp2_1 := p2.cell1
    have kp2_2 := p2.cell2
    have kp1_7_0 := p1_7.cell0
    have kp1_7_1 := p1_7.cell1
    go_upto_region 2 with (fail)
    clear kp2_0 kp2_1 kp2_2 kp1_7_0 kp1_7_1
    have ltp1_7 := p1_7.lt
    have szw2 := Ext.size E0
    refine region_go [.one fun v _ => v = .agg #[.bool b1_7, .slice a1_7 n1_7 c1_7],
        .one fun v _ => v = .tuple #[.int .i64 0, .bool false],
        .one fun v _ => v = .tuple #[.int .i64 0, .bool false],
        .one fun v _ => v = .int .i64 0,
        .one fun v _ => v = .bool false,
        .one fun v _ => v = .int .i64 0,
        .one fun v _ => v = .bool false]
      (fun W => Ext w W ∧ Rw W (.agg #[.bool b1, .slice a1 n1 c1, .slice d1 m1 o1]) x ∧ Bx3 W w.heap.size 46 (.bool b1) (.slice a1 n1 c1) (.slice d1 m1 o1) ∧ Zw W (.agg #[.bool b1_7, .slice a1_7 n1_7 c1_7]) Z ∧ Bx2 W g1_7 42 (.bool b1_7) (.slice a1_7 n1_7 c1_7) ∧ W1.heap.size ≤ W.heap.size) ⟨Good.is _, Good.is _, Good.is _, Good.is _, Good.is _, Good.is _, Good.is _, trivial⟩
      (fun W W1 hS hE => ⟨(Ext.trans hS.1 hE), (hS.2.1.ext hE), (hS.2.2.1.ext hE), (hS.2.2.2.1.ext hE), (hS.2.2.2.2.1.ext hE), (Nat.le_trans hS.2.2.2.2.2 (Ext.size hE))⟩) ⟨E0, h1, p2, h1_4, p1_7, Nat.le_refl _⟩ (by kernel_rfl) (by kernel_rfl) (by kernel_rfl) (by kernel_rfl) (A := ?A2) ?hA2 ?howe2 ?hfin2
    case hA2 =>
      intro vs
      simp only [putAll, Act.put, List.setIfInBounds_toArray, List.set_cons_zero, List.set_cons_succ, Nat.zero_add, Nat.reduceAdd]
      exact rfl
    case howe2 =>
      clear E0 h1 p2 h1_4 p1_7
      intro hf
      refine ⟨owesE 0 [] hf rfl (by kernel_rfl) ?_, owesE 1 [0] hf rfl (by kernel_rfl) ?_, owesE 2 [1] hf rfl (by kernel_rfl) ?_, owesE 3 [2] hf rfl (by kernel_rfl) ?_, owesE 4 [2] hf rfl (by kernel_rfl) ?_, owesE 5 [3] hf rfl (by kernel_rfl) ?_, owesE 6 [4] hf rfl (by kernel_rfl) ?_, trivial⟩
      all_goals intro vs W hS hp hx KO hKO
      all_goals simp only [Act.put, List.setIfInBounds_toArray, List.set_cons_zero, List.set_cons_succ] at hKO
      · have fc0 := hS.2.2.2.2.1.cell0
        have fc1 := hS.2.2.2.2.1.cell1
        go_simp
        exact hKO _ W (Ext.refl W) rfl
      · have e0 := isOf hp.1
        simp only [e0] at hKO
        go_simp
        refine (Tryz.refZInt (hS.2.2.2.1)).mono ?_
        rintro e W1 ⟨rfl, hE⟩
        rw [HV.out, HF.out]
        exact hKO _ W1 hE rfl
      · have e1 := isOf hp.1
        simp only [e1] at hKO
        go_simp
        exact hKO _ W (Ext.refl W) rfl
      · have e2 := isOf hp.1
        simp only [e2] at hKO
        go_simp
        exact hKO _ W (Ext.refl W) rfl
      · have e2 := isOf hp.1
        simp only [e2] at hKO
        go_simp
        exact hKO _ W (Ext.refl W) rfl
      · have e3 := isOf hp.1
        simp only [e3] at hKO
        go_simp
        exact hKO _ W (Ext.refl W) rfl
      · have e4 := isOf hp.1
        simp only [e4] at hKO
        go_simp
        exact hKO _ W (Ext.refl W) rfl
    intro vs W2 hS hp
    clear szw2 E0 h1 p2 h1_4 p1_7
    obtain ⟨E0, h1, p2, h1_4, p1_7, sz2⟩ := hS
    obtain ⟨h2_0, h2_1, h2_2, h2_3, h2_4, h2_5, h2_6, -⟩ := hp
    replace h2_0 : vs 0 = .agg #[.bool b1_7, .slice a1_7 n1_7 c1_7] := h2_0
    replace h2_1 : vs 1 = .tuple #[.int .i64 0, .bool false] := h2_1
    replace h2_2 : vs 2 = .tuple #[.int .i64 0, .bool false] := h2_2
    replace h2_3 : vs 3 = .int .i64 0 := h2_3
    replace h2_4 : vs 4 = .bool false := h2_4
    replace h2_5 : vs 5 = .int .i64 0 := h2_5
    replace h2_6 : vs 6 = .bool false := h2_6
    simp only [h2_0, h2_1, h2_2, h2_3, h2_4, h2_5, h2_6]
    clear h2_0 h2_1 h2_2 h2_3 h2_4 h2_5 h2_6
    have kp2_0 := p2.cell0
    have kp2_1 := p2.cell1
    have kp2_2 := p2.cell2
    have kp1_7_0 := p1_7.cell0
    have kp1_7_1 := p1_7.cell1
    go_wp2
    go_ret2
    exact ⟨rfl, E0⟩
  · have HV : Hid (fitV Z = Z) := Lib.hid (fitV_in hft)
    have HE : Hid (fitE Z = 0) := Lib.hid (fitE_in hft)
    have HF := Lib.hid hft
    rw [HV.out, HE.out]
    clear hft
    obtain ⟨W0, hW0⟩ : ∃ W0, W0 = (w.alloc (.cells #[.bool b1, .slice a1 n1 c1, .slice d1 m1 o1] 46)) := ⟨_, rfl⟩
    have E0 : Ext w W0 := by rw [hW0]; exact (Ext.alloc1 w (.cells #[.bool b1, .slice a1 n1 c1, .slice d1 m1 o1] 46))
    replace h1 : Rw W0 (.agg #[.bool b1, .slice a1 n1 c1, .slice d1 m1 o1]) x := h1.ext E0
    have p2 : Bx3 W0 w.heap.size 46 (.bool b1) (.slice a1 n1 c1) (.slice d1 m1 o1) := by rw [hW0]; exact (Bx3.new w 46 (.bool b1) (.slice a1 n1 c1) (.slice d1 m1 o1))
    go_enter Tryz.func56, Tryz.ntmps56
    have kp2_0 := p2.cell0
    have kp2_1 := p2.cell1
    have kp2_2 := p2.cell2
    go_upto_region 1 with (fail)
    rw [← hW0]
    clear hW0
    clear kp2_0 kp2_1 kp2_2
    have ltp2 := p2.lt
    have szw3 := Ext.size E0
    refine region_go [.one fun v _ => v = .agg #[.bool b1, .slice a1 n1 c1, .slice d1 m1 o1],
        .one fun v _ => v = .int .i64 (K : Int),
        .one fun v W => ∃ v', v = .tuple #[v', .int .i64 0] ∧ (fun v W => Zw W v Z) v' W,
        .one fun v W => ∃ v', v = .tuple #[v', .int .i64 0] ∧ (fun v W => Zw W v Z) v' W,
        .one fun v W => Zw W v Z,
        .one fun v _ => v = .int .i64 0,
        .one fun v W => ∃ g, v = .pointer (some ⟨g, 0, none⟩) ∧ W0.heap.size ≤ g ∧ Form W g 42 2,
        .three 6 4 (fun p r _ W => Put2 W0.heap.size 42 p r W),
        .one fun v _ => v = .int .i64 0]
      (fun W => Ext w W ∧ Rw W (.agg #[.bool b1, .slice a1 n1 c1, .slice d1 m1 o1]) x ∧ Bx3 W w.heap.size 46 (.bool b1) (.slice a1 n1 c1) (.slice d1 m1 o1) ∧ W0.heap.size ≤ W.heap.size) ⟨Good.is _, Good.is _, (Good.zed _).tup _, (Good.zed _).tup _, Good.zed _, Good.is _, Good.box _ _ _, cert_put2, Good.is _, trivial⟩
      (fun W W1 hS hE => ⟨(Ext.trans hS.1 hE), (hS.2.1.ext hE), (hS.2.2.1.ext hE), (Nat.le_trans hS.2.2.2 (Ext.size hE))⟩) ⟨E0, h1, p2, Nat.le_refl _⟩ (by kernel_rfl) (by kernel_rfl) (by kernel_rfl) (by kernel_rfl) (A := ?A3) ?hA3 ?howe3 ?hfin3
    case hA3 =>
      intro vs
      simp only [putAll, Act.put, List.setIfInBounds_toArray, List.set_cons_zero, List.set_cons_succ, Nat.zero_add, Nat.reduceAdd]
      exact rfl
    case howe3 =>
      clear E0 h1 p2
      intro hf
      refine ⟨owesE 0 [] hf rfl (by kernel_rfl) ?_, owesE 1 [] hf rfl (by kernel_rfl) ?_, owesE 2 [0, 1] hf rfl (by kernel_rfl) ?_, owesE 3 [2] hf rfl (by kernel_rfl) ?_, owesE 4 [3] hf rfl (by kernel_rfl) ?_, owesE 5 [3] hf rfl (by kernel_rfl) ?_, owesE 6 [] hf rfl (by kernel_rfl) ?_, owesW 7 [6, 4] hf rfl (by kernel_rfl) (by kernel_rfl) ?_, owesE 8 [5] hf rfl (by kernel_rfl) ?_, trivial⟩
      all_goals intro vs W hS hp hx KO hKO
      all_goals simp only [Act.put, List.setIfInBounds_toArray, List.set_cons_zero, List.set_cons_succ] at hKO
      · have fc0 := hS.2.2.1.cell0
        have fc1 := hS.2.2.1.cell1
        have fc2 := hS.2.2.1.cell2
        go_simp
        exact hKO _ W (Ext.refl W) rfl
      · go_simp
        exact hKO _ W (Ext.refl W) rfl
      · have e0 := isOf hp.1
        have e1 := isOf hp.2.1
        simp only [e0, e1] at hKO
        go_simp
        refine (Tryz.refNear (hS.2.1) s1 HL.out K HKb.out).mono ?_
        rintro e W1 ⟨v, rfl, hv, hE⟩
        rw [← HZ.out] at hv
        exact hKO _ W1 hE ⟨_, rfl, hv⟩
      · have q2 := hp.1
        obtain ⟨u, ev, hu⟩ := q2
        replace ev : vs 2 = _ := ev
        simp only [ev] at hKO
        go_simp
        exact hKO _ W (Ext.refl W) ⟨u, rfl, hu⟩
      · have q3 := hp.1
        obtain ⟨u, ev, hu⟩ := q3
        replace ev : vs 3 = _ := ev
        simp only [ev] at hKO
        go_simp
        exact hKO _ W (Ext.refl W) hu
      · have q3 := hp.1
        obtain ⟨u, ev, hu⟩ := q3
        replace ev : vs 3 = _ := ev
        simp only [ev] at hKO
        go_simp
        exact hKO _ W (Ext.refl W) rfl
      · have hn := Bx2.new W 42 (.bool false) (.slice none 0 0)
        have hE := Ext.alloc1 W (.cells #[.bool false, .slice none 0 0] 42)
        have hsz := hS.2.2.2
        go_simp
        exact hKO _ _ hE ⟨_, rfl, hsz, hn.form⟩
      · have q6 := hp.1
        have q4 := hp.2.1
        obtain ⟨g, ev, hg, hf⟩ := q6
        replace ev : vs 6 = _ := ev
        obtain ⟨x0, y0, hx, hno⟩ := hf.bx2
        have qr := q4
        obtain ⟨b3, a3, n3, c3, er, -, -⟩ := qr
        replace er : vs 4 = _ := er
        have r0 := hx.froz0
        have t0 := hx.cell0
        have r1 := hx.froz1
        have t1 := hx.cell1
        have hw := Wr.set2 hx hno b3 a3 n3 c3
        have hq := hx.set (.bool b3) (.slice a3 n3 c3)
        simp only [ev, er] at hKO
        go_simp
        exact hKO _ _ hw ⟨(Ext.wr hS.1 hw (by omega)), (hS.2.1.wr hw), (hS.2.2.1.wr hw (by omega)), (Nat.le_trans hS.2.2.2 hw.apart.size)⟩ ⟨g, b3, a3, n3, c3, ev, er, hg, hq⟩
      · have e5 := isOf hp.1
        simp only [e5] at hKO
        go_simp
        exact hKO _ W (Ext.refl W) rfl
    intro vs W3 hS hp
    clear szw3 E0 h1 p2
    obtain ⟨E0, h1, p2, sz3⟩ := hS
    obtain ⟨h3_0, h3_1, h3_2, h3_3, h3_4, h3_5, h3_6, h3_7, h3_8, -⟩ := hp
    obtain ⟨g3_7, b3_7, a3_7, n3_7, c3_7, ev3_7, er3_7, hg3_7, p3_7⟩ := h3_7
    replace ev3_7 : vs 6 = _ := ev3_7
    replace er3_7 : vs 4 = _ := er3_7
    replace h3_4 := (show Zw W3 (vs 4) Z from h3_4)
    rw [er3_7] at h3_4
    replace h3_0 : vs 0 = .agg #[.bool b1, .slice a1 n1 c1, .slice d1 m1 o1] := h3_0
    replace h3_1 : vs 1 = .int .i64 (K : Int) := h3_1
    replace h3_5 : vs 5 = .int .i64 0 := h3_5
    replace h3_8 : vs 8 = .int .i64 0 := h3_8
    simp only [ev3_7, er3_7, h3_0, h3_1, h3_5, h3_8]
    clear ev3_7 er3_7 h3_0 h3_1 h3_5 h3_8 h3_2 h3_3 h3_6
    have kp2_0 := p2.cell0
    have kp2_1 := p2.cell1
    have kp2_2 := p2.cell2
    have kp3_7_0 := p3_7.cell0
    have kp3_7_1 := p3_7.cell1
    go_upto_region 2 with (fail)
    clear kp2_0 kp2_1 kp2_2 kp3_7_0 kp3_7_1
    have ltp3_7 := p3_7.lt
    have szw4 := Ext.size E0
    refine region_go [.one fun v _ => v = .agg #[.bool b3_7, .slice a3_7 n3_7 c3_7],
        .one fun v _ => v = .tuple #[.int .i64 Z, .bool true],
        .one fun v _ => v = .tuple #[.int .i64 Z, .bool true],
        .one fun v _ => v = .int .i64 Z,
        .one fun v _ => v = .bool true,
        .one fun v _ => v = .int .i64 Z,
        .one fun v _ => v = .bool true]
      (fun W => Ext w W ∧ Rw W (.agg #[.bool b1, .slice a1 n1 c1, .slice d1 m1 o1]) x ∧ Bx3 W w.heap.size 46 (.bool b1) (.slice a1 n1 c1) (.slice d1 m1 o1) ∧ Zw W (.agg #[.bool b3_7, .slice a3_7 n3_7 c3_7]) Z ∧ Bx2 W g3_7 42 (.bool b3_7) (.slice a3_7 n3_7 c3_7) ∧ W3.heap.size ≤ W.heap.size) ⟨Good.is _, Good.is _, Good.is _, Good.is _, Good.is _, Good.is _, Good.is _, trivial⟩
      (fun W W1 hS hE => ⟨(Ext.trans hS.1 hE), (hS.2.1.ext hE), (hS.2.2.1.ext hE), (hS.2.2.2.1.ext hE), (hS.2.2.2.2.1.ext hE), (Nat.le_trans hS.2.2.2.2.2 (Ext.size hE))⟩) ⟨E0, h1, p2, h3_4, p3_7, Nat.le_refl _⟩ (by kernel_rfl) (by kernel_rfl) (by kernel_rfl) (by kernel_rfl) (A := ?A4) ?hA4 ?howe4 ?hfin4
    case hA4 =>
      intro vs
      simp only [putAll, Act.put, List.setIfInBounds_toArray, List.set_cons_zero, List.set_cons_succ, Nat.zero_add, Nat.reduceAdd]
      exact rfl
    case howe4 =>
      clear E0 h1 p2 h3_4 p3_7
      intro hf
      refine ⟨owesE 0 [] hf rfl (by kernel_rfl) ?_, owesE 1 [0] hf rfl (by kernel_rfl) ?_, owesE 2 [1] hf rfl (by kernel_rfl) ?_, owesE 3 [2] hf rfl (by kernel_rfl) ?_, owesE 4 [2] hf rfl (by kernel_rfl) ?_, owesE 5 [3] hf rfl (by kernel_rfl) ?_, owesE 6 [4] hf rfl (by kernel_rfl) ?_, trivial⟩
      all_goals intro vs W hS hp hx KO hKO
      all_goals simp only [Act.put, List.setIfInBounds_toArray, List.set_cons_zero, List.set_cons_succ] at hKO
      · have fc0 := hS.2.2.2.2.1.cell0
        have fc1 := hS.2.2.2.2.1.cell1
        go_simp
        exact hKO _ W (Ext.refl W) rfl
      · have e0 := isOf hp.1
        simp only [e0] at hKO
        go_simp
        refine (Tryz.refZInt (hS.2.2.2.1)).mono ?_
        rintro e W1 ⟨rfl, hE⟩
        rw [HV.out, HF.out]
        exact hKO _ W1 hE rfl
      · have e1 := isOf hp.1
        simp only [e1] at hKO
        go_simp
        exact hKO _ W (Ext.refl W) rfl
      · have e2 := isOf hp.1
        simp only [e2] at hKO
        go_simp
        exact hKO _ W (Ext.refl W) rfl
      · have e2 := isOf hp.1
        simp only [e2] at hKO
        go_simp
        exact hKO _ W (Ext.refl W) rfl
      · have e3 := isOf hp.1
        simp only [e3] at hKO
        go_simp
        exact hKO _ W (Ext.refl W) rfl
      · have e4 := isOf hp.1
        simp only [e4] at hKO
        go_simp
        exact hKO _ W (Ext.refl W) rfl
    intro vs W4 hS hp
    clear szw4 E0 h1 p2 h3_4 p3_7
    obtain ⟨E0, h1, p2, h3_4, p3_7, sz4⟩ := hS
    obtain ⟨h4_0, h4_1, h4_2, h4_3, h4_4, h4_5, h4_6, -⟩ := hp
    replace h4_0 : vs 0 = .agg #[.bool b3_7, .slice a3_7 n3_7 c3_7] := h4_0
    replace h4_1 : vs 1 = .tuple #[.int .i64 Z, .bool true] := h4_1
    replace h4_2 : vs 2 = .tuple #[.int .i64 Z, .bool true] := h4_2
    replace h4_3 : vs 3 = .int .i64 Z := h4_3
    replace h4_4 : vs 4 = .bool true := h4_4
    replace h4_5 : vs 5 = .int .i64 Z := h4_5
    replace h4_6 : vs 6 = .bool true := h4_6
    simp only [h4_0, h4_1, h4_2, h4_3, h4_4, h4_5, h4_6]
    clear h4_0 h4_1 h4_2 h4_3 h4_4 h4_5 h4_6
    have kp2_0 := p2.cell0
    have kp2_1 := p2.cell1
    have kp2_2 := p2.cell2
    have kp3_7_0 := p3_7.cell0
    have kp3_7_1 := p3_7.cell1
    go_wp2
    go_ret2
    exact ⟨rfl, E0⟩

end Go.Rt
