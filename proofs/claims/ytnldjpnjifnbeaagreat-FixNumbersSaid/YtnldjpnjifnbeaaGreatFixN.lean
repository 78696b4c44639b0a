/-
  A mantissa of a rational, and a mantissa's number: by the program and by definition.
-/
import Derived.Test.YtnldjpnjifnbeaaGreatDyadC
import Derived.Test.YtnldjpnjifnbeaaGreatRef08
namespace Go.Rt
open Go Go.RowKit Go.Proofs

set_option maxRecDepth 100000 in
set_option maxHeartbeats 4000000 in
theorem Tryz.fixRat (a : Int) (K : Nat) (hK : K ≤ 40) (w : World) (ha1 : -9223372036854775808 ≤ a) (ha2 : a < 9223372036854775808) :
    Calls Tryz.prog 9 #[.int .i64 a, .int .i64 (K : Int)] w fun e w' => ∃ v', e = .returned (.tuple #[v', .int .i64 0]) ∧ Rw w' v' ((a : Rat) / P2 K) ∧ Ext w w' := by
  have HF : Hid (fracB (K : Int) = true) := Lib.hid (decide_eq_true (by omega))
  have S1 : Hid (Sm 1 a.natAbs) := Lib.hid (Sm.small (by omega))
  have HK := Lib.hid (show K ≤ 2000 by omega)
  have HB := Lib.hid (And.intro ha1 ha2)
  clear ha1 ha2 hK
  obtain ⟨W0, hW0⟩ : ∃ W0, W0 = (w.alloc (.cells #[.bool false, .slice none 0 0, .slice none 0 0] 27)) := ⟨_, rfl⟩
  have E0 : Ext w W0 := by rw [hW0]; exact (Ext.alloc1 w (.cells #[.bool false, .slice none 0 0, .slice none 0 0] 27))
  have p4 : Bx3 W0 w.heap.size 27 (.bool false) (.slice none 0 0) (.slice none 0 0) := by rw [hW0]; exact (Bx3.new w 27 (.bool false) (.slice none 0 0) (.slice none 0 0))
  go_enter Tryz.func9, Tryz.ntmps9
  have kp4_0 := p4.cell0
  have kp4_1 := p4.cell1
  have kp4_2 := p4.cell2
  go_wp2_with fail
  rw [← hW0]
  clear hW0
  clear kp4_0 kp4_1 kp4_2
  refine (Tryz.fixIsFrac (K : Int) _).mono ?_
  rintro e Wc ⟨rfl, rfl⟩
  rw [HF.out]
  have kp4_0 := p4.cell0
  have kp4_1 := p4.cell1
  have kp4_2 := p4.cell2
  go_upto_region 3 with (fail)
  clear kp4_0 kp4_1 kp4_2
  have fp4 := p4.form
  have ltfp4 := fp4.lt
  have szw1 := Ext.size E0
  refine region_go [.one fun v _ => v = .int .i64 a,
      .one fun v W => Zw W v a,
      .one fun v _ => v = .int .i64 (K : Int),
      .one fun v W => ∃ v', v = .tuple #[v', .int .i64 0] ∧ (fun v W => Rw W v ((a : Rat) / P2 K)) v' W,
      .one fun v W => Rw W v ((a : Rat) / P2 K),
      .one fun v _ => v = .int .i64 0,
      .two 4 (fun r _ W => At3 w.heap.size 27 r W),
      .one fun v _ => v = .int .i64 0]
    (fun W => Ext w W ∧ Form W w.heap.size 27 3 ∧ W0.heap.size ≤ W.heap.size) ⟨Good.is _, Good.zed _, Good.is _, (Good.rat _).tup _, Good.rat _, Good.is _, cert_at3, Good.is _, trivial⟩
    (fun W W1 hS hE => ⟨(Ext.trans hS.1 hE), (hS.2.1.ext hE), (Nat.le_trans hS.2.2 (Ext.size hE))⟩) ⟨E0, fp4, Nat.le_refl _⟩ (by kernel_rfl) (by kernel_rfl) (by kernel_rfl) (by kernel_rfl) (A := ?A1) ?hA1 ?howe1 ?hfin1
  case hA1 =>
    intro vs
    simp only [putAll, Act.put, List.setIfInBounds_toArray, List.set_cons_zero, List.set_cons_succ, Nat.zero_add, Nat.reduceAdd]
    exact rfl
  case howe1 =>
    clear E0 fp4
    intro hf
    refine ⟨owesE 0 [] hf rfl (by kernel_rfl) ?_, owesE 1 [0] hf rfl (by kernel_rfl) ?_, owesE 2 [] hf rfl (by kernel_rfl) ?_, owesE 3 [1, 2] hf rfl (by kernel_rfl) ?_, owesE 4 [3] hf rfl (by kernel_rfl) ?_, owesE 5 [3] hf rfl (by kernel_rfl) ?_, owesW 6 [4] hf rfl (by kernel_rfl) (by kernel_rfl) ?_, owesE 7 [5] hf rfl (by kernel_rfl) ?_, trivial⟩
    all_goals intro vs W hS hp hx KO hKO
    all_goals simp only [Act.put, List.setIfInBounds_toArray, List.set_cons_zero, List.set_cons_succ] at hKO
    · go_simp
      exact hKO _ W (Ext.refl W) rfl
    · have e0 := isOf hp.1
      simp only [e0] at hKO
      go_simp
      refine (Tryz.zedOf a _ HB.out.1 HB.out.2).mono ?_
      rintro e W1 ⟨v, rfl, hv, hE⟩
      exact hKO _ W1 hE hv
    · go_simp
      exact hKO _ W (Ext.refl W) rfl
    · have q1 := hp.1
      have e2 := isOf hp.2.1
      simp only [e2] at hKO
      go_simp
      refine (Tryz.dyadBack q1 S1.out (by omega) K HK.out).mono ?_
      rintro e W1 ⟨v, rfl, hv, hE⟩
      exact hKO _ W1 hE ⟨_, rfl, hv⟩
    · have q3 := hp.1
      obtain ⟨u, ev, hu⟩ := q3
      replace ev : vs 3 = _ := ev
      simp only [ev] at hKO
      go_simp
      exact hKO _ W (Ext.refl W) hu
    · have q3 := hp.1
      obtain ⟨u, ev, hu⟩ := q3
      replace ev : vs 3 = _ := ev
      simp only [ev] at hKO
      go_simp
      exact hKO _ W (Ext.refl W) rfl
    · have q4 := hp.1
      have hf := hS.2.1
      obtain ⟨x0, y0, z0, hx, hno⟩ := hf.bx3
      have qr := q4
      obtain ⟨b3, a3, n3, c3, d3, m3, o3, er, -, -, -⟩ := qr
      replace er : vs 4 = _ := er
      have r0 := hx.froz0
      have t0 := hx.cell0
      have r1 := hx.froz1
      have t1 := hx.cell1
      have r2 := hx.froz2
      have t2 := hx.cell2
      have hw := Wr.set3 hx hno b3 a3 n3 c3 d3 m3 o3
      have hq := hx.set (.bool b3) (.slice a3 n3 c3) (.slice d3 m3 o3)
      have hg : w.heap.size ≤ w.heap.size := Nat.le_refl _
      simp only [er] at hKO
      go_simp
      exact hKO _ _ hw ⟨(Ext.wr hS.1 hw (by omega)), (hS.2.1.wr hw), (Nat.le_trans hS.2.2 hw.apart.size)⟩ ⟨b3, a3, n3, c3, d3, m3, o3, er, hq⟩
    · have e5 := isOf hp.1
      simp only [e5] at hKO
      go_simp
      exact hKO _ W (Ext.refl W) rfl
  intro vs W1 hS hp
  clear szw1 E0 fp4
  obtain ⟨E0, fp4, sz1⟩ := hS
  obtain ⟨h1_0, h1_1, h1_2, h1_3, h1_4, h1_5, h1_6, h1_7, -⟩ := hp
  obtain ⟨b1_6, a1_6, n1_6, c1_6, d1_6, m1_6, o1_6, er1_6, p1_6⟩ := h1_6
  replace er1_6 : vs 4 = _ := er1_6
  replace h1_4 := (show Rw W1 (vs 4) ((a : Rat) / P2 K) from h1_4)
  rw [er1_6] at h1_4
  replace h1_0 : vs 0 = .int .i64 a := h1_0
  replace h1_2 : vs 2 = .int .i64 (K : Int) := h1_2
  replace h1_5 : vs 5 = .int .i64 0 := h1_5
  replace h1_7 : vs 7 = .int .i64 0 := h1_7
  simp only [er1_6, h1_0, h1_2, h1_5, h1_7]
  replace h1_1 : Zw W1 (vs 1) a := h1_1
  generalize vs 1 = u1_1 at h1_1 ⊢
  clear er1_6 h1_0 h1_2 h1_5 h1_7 h1_3
  have kp1_6_0 := p1_6.cell0
  have kp1_6_1 := p1_6.cell1
  have kp1_6_2 := p1_6.cell2
  go_wp2
  exact bodyPost_ret (v := .tuple #[.agg #[.bool b1_6, .slice a1_6 n1_6 c1_6, .slice d1_6 m1_6 o1_6], .int .i64 0]) (by simp [results, Tryz.results9, go_sem, kp1_6_0, kp1_6_1, kp1_6_2]) rfl ⟨_, rfl, h1_4, E0⟩

set_option maxRecDepth 100000 in
set_option maxHeartbeats 4000000 in
theorem Tryz.fixRatNo (a f : Int) (hf : fracB f = false) (w : World) :
    Calls Tryz.prog 9 #[.int .i64 a, .int .i64 f] w fun e w' => e = .returned (.tuple #[.agg #[.bool false, .slice none 0 0, .slice none 0 0], .int .i64 1]) ∧ Ext w w' := by
  obtain ⟨W0, hW0⟩ : ∃ W0, W0 = (w.alloc (.cells #[.bool false, .slice none 0 0, .slice none 0 0] 27)) := ⟨_, rfl⟩
  have E0 : Ext w W0 := by rw [hW0]; exact (Ext.alloc1 w (.cells #[.bool false, .slice none 0 0, .slice none 0 0] 27))
  have p4 : Bx3 W0 w.heap.size 27 (.bool false) (.slice none 0 0) (.slice none 0 0) := by rw [hW0]; exact (Bx3.new w 27 (.bool false) (.slice none 0 0) (.slice none 0 0))
  go_enter Tryz.func9, Tryz.ntmps9
  have kp4_0 := p4.cell0
  have kp4_1 := p4.cell1
  have kp4_2 := p4.cell2
  go_wp2_with fail
  rw [← hW0]
  clear hW0
  clear kp4_0 kp4_1 kp4_2
  refine (Tryz.fixIsFrac f _).mono ?_
  rintro e Wc ⟨rfl, rfl⟩
  rw [hf]
  have kp4_0 := p4.cell0
  have kp4_1 := p4.cell1
  have kp4_2 := p4.cell2
  go_upto_region 2 with (fail)
  clear kp4_0 kp4_1 kp4_2
  have fp4 := p4.form
  have ltfp4 := fp4.lt
  have szw2 := Ext.size E0
  refine region_go [.one fun v _ => v = .agg #[.bool false, .slice none 0 0, .slice none 0 0],
      .own fun W => Bx3 W w.heap.size 27 (.bool false) (.slice none 0 0) (.slice none 0 0),
      .one fun v _ => v = .int .i64 1]
    (fun W => Ext w W ∧ Form W w.heap.size 27 3 ∧ W0.heap.size ≤ W.heap.size) ⟨Good.is _, cert_bx3, Good.is _, trivial⟩
    (fun W W1 hS hE => ⟨(Ext.trans hS.1 hE), (hS.2.1.ext hE), (Nat.le_trans hS.2.2 (Ext.size hE))⟩) ⟨E0, fp4, Nat.le_refl _⟩ (by kernel_rfl) (by kernel_rfl) (by kernel_rfl) (by kernel_rfl) (A := ?A2) ?hA2 ?howe2 ?hfin2
  case hA2 =>
    intro vs
    simp only [putAll, Act.put, List.setIfInBounds_toArray, List.set_cons_zero, List.set_cons_succ, Nat.zero_add, Nat.reduceAdd]
    exact rfl
  case howe2 =>
    clear E0 fp4
    intro hf
    refine ⟨owesE 0 [] hf rfl (by kernel_rfl) ?_, owesW 1 [0] hf rfl (by kernel_rfl) (by kernel_rfl) ?_, owesE 2 [] hf rfl (by kernel_rfl) ?_, trivial⟩
    all_goals intro vs W hS hp hx KO hKO
    all_goals simp only [Act.put, List.setIfInBounds_toArray, List.set_cons_zero, List.set_cons_succ] at hKO
    · go_simp
      exact hKO _ W (Ext.refl W) rfl
    · have e0 := isOf hp.1
      simp only [e0] at hKO
      have hf := hS.2.1
      obtain ⟨x0, y0, z0, hx, hno⟩ := hf.bx3
      have r0 := hx.froz0
      have t0 := hx.cell0
      have r1 := hx.froz1
      have t1 := hx.cell1
      have r2 := hx.froz2
      have t2 := hx.cell2
      have hw := Wr.set3 hx hno false none 0 0 none 0 0
      have hq := hx.set (.bool false) (.slice none 0 0) (.slice none 0 0)
      have hg : w.heap.size ≤ w.heap.size := Nat.le_refl _
      go_simp
      exact hKO _ _ hw ⟨(Ext.wr hS.1 hw (by omega)), (hS.2.1.wr hw), (Nat.le_trans hS.2.2 hw.apart.size)⟩ hq
    · go_simp
      exact hKO _ W (Ext.refl W) rfl
  intro vs W2 hS hp
  clear szw2 E0 fp4
  obtain ⟨E0, fp4, sz2⟩ := hS
  obtain ⟨h2_0, h2_1, h2_2, -⟩ := hp
  have p2_1 : Bx3 W2 w.heap.size 27 (.bool false) (.slice none 0 0) (.slice none 0 0) := h2_1
  replace h2_0 : vs 0 = .agg #[.bool false, .slice none 0 0, .slice none 0 0] := h2_0
  replace h2_2 : vs 2 = .int .i64 1 := h2_2
  simp only [h2_0, h2_2]
  clear h2_0 h2_2
  have kp2_1_0 := p2_1.cell0
  have kp2_1_1 := p2_1.cell1
  have kp2_1_2 := p2_1.cell2
  go_wp2
  exact bodyPost_ret (v := .tuple #[.agg #[.bool false, .slice none 0 0, .slice none 0 0], .int .i64 1]) (by simp [results, Tryz.results9, go_sem, kp2_1_0, kp2_1_1, kp2_1_2]) rfl ⟨rfl, E0⟩

set_option maxRecDepth 100000 in
set_option maxHeartbeats 4000000 in
theorem Tryz.fixOfNo {v1 : Value} {x : Rat} {w : World} (h1 : Rw w v1 x) (f : Int) (hf : fracB f = false) :
    Calls Tryz.prog 7 #[v1, .int .i64 f] w fun e w' => e = .returned (.tuple #[.int .i64 0, .int .i64 1]) ∧ Ext w w' := by
  obtain ⟨b1, a1, n1, c1, d1, m1, o1, rfl, q1⟩ : ∃ b a n c d m o, v1 = .agg #[.bool b, .slice a n c, .slice d m o] ∧ True := let ⟨b, a, n, c, d, m, o, e, _⟩ := h1; ⟨b, a, n, c, d, m, o, e, trivial⟩
  clear q1
  obtain ⟨W0, hW0⟩ : ∃ W0, W0 = (w.alloc (.cells #[.bool b1, .slice a1 n1 c1, .slice d1 m1 o1] 27)) := ⟨_, rfl⟩
  have E0 : Ext w W0 := by rw [hW0]; exact (Ext.alloc1 w (.cells #[.bool b1, .slice a1 n1 c1, .slice d1 m1 o1] 27))
  replace h1 : Rw W0 (.agg #[.bool b1, .slice a1 n1 c1, .slice d1 m1 o1]) x := h1.ext E0
  have p2 : Bx3 W0 w.heap.size 27 (.bool b1) (.slice a1 n1 c1) (.slice d1 m1 o1) := by rw [hW0]; exact (Bx3.new w 27 (.bool b1) (.slice a1 n1 c1) (.slice d1 m1 o1))
  go_enter Tryz.func7, Tryz.ntmps7
  have kp2_0 := p2.cell0
  have kp2_1 := p2.cell1
  have kp2_2 := p2.cell2
  go_wp2_with fail
  rw [← hW0]
  clear hW0
  clear kp2_0 kp2_1 kp2_2
  refine (Tryz.fixIsFrac f _).mono ?_
  rintro e Wc ⟨rfl, rfl⟩
  rw [hf]
  have kp2_0 := p2.cell0
  have kp2_1 := p2.cell1
  have kp2_2 := p2.cell2
  go_wp2
  go_ret2
  exact ⟨rfl, E0⟩

set_option maxRecDepth 100000 in
set_option maxHeartbeats 4000000 in
theorem Tryz.ref08OfNo {v1 : Value} {x : Rat} {w : World} (h1 : Rw w v1 x) (f : Int) (hf : fracB f = false) :
    Calls Tryz.prog 8 #[v1, .int .i64 f] w fun e w' => e = .returned (.tuple #[.int .i64 0, .int .i64 1]) ∧ Ext w w' := by
  obtain ⟨b1, a1, n1, c1, d1, m1, o1, rfl, q1⟩ : ∃ b a n c d m o, v1 = .agg #[.bool b, .slice a n c, .slice d m o] ∧ True := let ⟨b, a, n, c, d, m, o, e, _⟩ := h1; ⟨b, a, n, c, d, m, o, e, trivial⟩
  clear q1
  obtain ⟨W0, hW0⟩ : ∃ W0, W0 = (w.alloc (.cells #[.bool b1, .slice a1 n1 c1, .slice d1 m1 o1] 27)) := ⟨_, rfl⟩
  have E0 : Ext w W0 := by rw [hW0]; exact (Ext.alloc1 w (.cells #[.bool b1, .slice a1 n1 c1, .slice d1 m1 o1] 27))
  replace h1 : Rw W0 (.agg #[.bool b1, .slice a1 n1 c1, .slice d1 m1 o1]) x := h1.ext E0
  have p2 : Bx3 W0 w.heap.size 27 (.bool b1) (.slice a1 n1 c1) (.slice d1 m1 o1) := by rw [hW0]; exact (Bx3.new w 27 (.bool b1) (.slice a1 n1 c1) (.slice d1 m1 o1))
  go_enter Tryz.func8, Tryz.ntmps8
  have kp2_0 := p2.cell0
  have kp2_1 := p2.cell1
  have kp2_2 := p2.cell2
  go_wp2_with fail
  rw [← hW0]
  clear hW0
  clear kp2_0 kp2_1 kp2_2
  refine (Tryz.refFrac08 f _).mono ?_
  rintro e Wc ⟨rfl, rfl⟩
  rw [hf]
  have kp2_0 := p2.cell0
  have kp2_1 := p2.cell1
  have kp2_2 := p2.cell2
  go_wp2
  go_ret2
  exact ⟨rfl, E0⟩

set_option maxRecDepth 100000 in
set_option maxHeartbeats 4000000 in
theorem Tryz.ref08Of {v1 : Value} {x : Rat} {L : Nat} {w : World} (h1 : Rw w v1 x) (s1 : SmR L x) (hL : L ≤ 60) (K : Nat) (hK : K ≤ 40) {V E : Int} (hV : fitV (nearR (x * P2 K)) = V) (hE : fitE (nearR (x * P2 K)) = E) :
    Calls Tryz.prog 8 #[v1, .int .i64 (K : Int)] w fun e w' => e = .returned (.tuple #[.int .i64 V, .int .i64 E]) ∧ Ext w w' := by
  obtain ⟨b1, a1, n1, c1, d1, m1, o1, rfl, q1⟩ : ∃ b a n c d m o, v1 = .agg #[.bool b, .slice a n c, .slice d m o] ∧ True := let ⟨b, a, n, c, d, m, o, e, _⟩ := h1; ⟨b, a, n, c, d, m, o, e, trivial⟩
  clear q1
  have HF : Hid (fracB (K : Int) = true) := Lib.hid (decide_eq_true (by omega))
  have HV := Lib.hid hV
  have HEE := Lib.hid hE
  clear hV hE
  obtain ⟨W0, hW0⟩ : ∃ W0, W0 = (w.alloc (.cells #[.bool b1, .slice a1 n1 c1, .slice d1 m1 o1] 27)) := ⟨_, rfl⟩
  have E0 : Ext w W0 := by rw [hW0]; exact (Ext.alloc1 w (.cells #[.bool b1, .slice a1 n1 c1, .slice d1 m1 o1] 27))
  replace h1 : Rw W0 (.agg #[.bool b1, .slice a1 n1 c1, .slice d1 m1 o1]) x := h1.ext E0
  have p2 : Bx3 W0 w.heap.size 27 (.bool b1) (.slice a1 n1 c1) (.slice d1 m1 o1) := by rw [hW0]; exact (Bx3.new w 27 (.bool b1) (.slice a1 n1 c1) (.slice d1 m1 o1))
  go_enter Tryz.func8, Tryz.ntmps8
  have kp2_0 := p2.cell0
  have kp2_1 := p2.cell1
  have kp2_2 := p2.cell2
  go_wp2_with fail
  rw [← hW0]
  clear hW0
  clear kp2_0 kp2_1 kp2_2
  refine (Tryz.refFrac08 (K : Int) _).mono ?_
  rintro e Wc ⟨rfl, rfl⟩
  rw [HF.out]
  have kp2_0 := p2.cell0
  have kp2_1 := p2.cell1
  have kp2_2 := p2.cell2
  go_upto_region 3 with (fail)
  clear kp2_0 kp2_1 kp2_2
  have ltp2 := p2.lt
  have szw3 := Ext.size E0
  refine region_go [.one fun v _ => v = .agg #[.bool b1, .slice a1 n1 c1, .slice d1 m1 o1],
      .one fun v _ => v = .int .i64 (K : Int),
      .one fun v _ => v = .tuple #[.int .i64 V, .int .i64 E],
      .one fun v _ => v = .int .i64 V,
      .one fun v _ => v = .int .i64 E,
      .one fun v _ => v = .int .i64 V,
      .one fun v _ => v = .int .i64 E]
    (fun W => Ext w W ∧ Rw W (.agg #[.bool b1, .slice a1 n1 c1, .slice d1 m1 o1]) x ∧ Bx3 W w.heap.size 27 (.bool b1) (.slice a1 n1 c1) (.slice d1 m1 o1) ∧ W0.heap.size ≤ W.heap.size) ⟨Good.is _, Good.is _, Good.is _, Good.is _, Good.is _, Good.is _, Good.is _, trivial⟩
    (fun W W1 hS hE => ⟨(Ext.trans hS.1 hE), (hS.2.1.ext hE), (hS.2.2.1.ext hE), (Nat.le_trans hS.2.2.2 (Ext.size hE))⟩) ⟨E0, h1, p2, Nat.le_refl _⟩ (by kernel_rfl) (by kernel_rfl) (by kernel_rfl) (by kernel_rfl) (A := ?A3) ?hA3 ?howe3 ?hfin3
  case hA3 =>
    intro vs
    simp only [putAll, Act.put, List.setIfInBounds_toArray, List.set_cons_zero, List.set_cons_succ, Nat.zero_add, Nat.reduceAdd]
    exact rfl
  case howe3 =>
    clear E0 h1 p2
    intro hf
    refine ⟨owesE 0 [] hf rfl (by kernel_rfl) ?_, owesE 1 [] hf rfl (by kernel_rfl) ?_, owesE 2 [0, 1] hf rfl (by kernel_rfl) ?_, owesE 3 [2] hf rfl (by kernel_rfl) ?_, owesE 4 [2] hf rfl (by kernel_rfl) ?_, owesE 5 [3] hf rfl (by kernel_rfl) ?_, owesE 6 [4] hf rfl (by kernel_rfl) ?_, trivial⟩
    all_goals intro vs W hS hp hx KO hKO
    all_goals simp only [Act.put, List.setIfInBounds_toArray, List.set_cons_zero, List.set_cons_succ] at hKO
    · have fc0 := hS.2.2.1.cell0
      have fc1 := hS.2.2.1.cell1
      have fc2 := hS.2.2.1.cell2
      go_simp
      exact hKO _ W (Ext.refl W) rfl
    · go_simp
      exact hKO _ W (Ext.refl W) rfl
    · have e0 := isOf hp.1
      have e1 := isOf hp.2.1
      simp only [e0, e1] at hKO
      go_simp
      refine (Tryz.near08 (hS.2.1) s1 hL K (by omega)).mono ?_
      rintro e W1 ⟨rfl, hE⟩
      rw [HV.out, HEE.out]
      exact hKO _ W1 hE rfl
    · have e2 := isOf hp.1
      simp only [e2] at hKO
      go_simp
      exact hKO _ W (Ext.refl W) rfl
    · have e2 := isOf hp.1
      simp only [e2] at hKO
      go_simp
      exact hKO _ W (Ext.refl W) rfl
    · have e3 := isOf hp.1
      simp only [e3] at hKO
      go_simp
      exact hKO _ W (Ext.refl W) rfl
    · have e4 := isOf hp.1
      simp only [e4] at hKO
      go_simp
      exact hKO _ W (Ext.refl W) rfl
  intro vs W3 hS hp
  clear szw3 E0 h1 p2
  obtain ⟨E0, h1, p2, sz3⟩ := hS
  obtain ⟨h3_0, h3_1, h3_2, h3_3, h3_4, h3_5, h3_6, -⟩ := hp
  replace h3_0 : vs 0 = .agg #[.bool b1, .slice a1 n1 c1, .slice d1 m1 o1] := h3_0
  replace h3_1 : vs 1 = .int .i64 (K : Int) := h3_1
  replace h3_2 : vs 2 = .tuple #[.int .i64 V, .int .i64 E] := h3_2
  replace h3_3 : vs 3 = .int .i64 V := h3_3
  replace h3_4 : vs 4 = .int .i64 E := h3_4
  replace h3_5 : vs 5 = .int .i64 V := h3_5
  replace h3_6 : vs 6 = .int .i64 E := h3_6
  simp only [h3_0, h3_1, h3_2, h3_3, h3_4, h3_5, h3_6]
  clear h3_0 h3_1 h3_2 h3_3 h3_4 h3_5 h3_6
  have kp2_0 := p2.cell0
  have kp2_1 := p2.cell1
  have kp2_2 := p2.cell2
  go_wp2
  go_ret2
  exact ⟨rfl, E0⟩

end Go.Rt
