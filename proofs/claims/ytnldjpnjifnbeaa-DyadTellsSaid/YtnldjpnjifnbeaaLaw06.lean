/-
 The laws of chapter 06 (dyads): Tells.
-/
import Derived.Test.YtnldjpnjifnbeaaSqz
import Derived.Test.YtnldjpnjifnbeaaDyadD
namespace Go.Rt
open Go Go.RowKit Go.Proofs


set_option maxRecDepth 100000 in
set_option maxHeartbeats 8000000 in
theorem Try.lawDyadTells {b1 : Bool} {a1 : Option Addr} {n1 c1 : Nat} {d1 : Option Addr} {m1 o1 : Nat} {xs1 ys1 : List Nat} {b2 : Bool} {a2 : Option Addr} {n2 c2 : Nat} {xs2 : List Nat} {w : World} (h1 : Nt w (.slice a1 n1 c1) xs1) (k1 : Nt w (.slice d1 m1 o1) ys1) (h2 : Nt w (.slice a2 n2 c2) xs2) (kk : Int) :
  Calls Try.prog 3 #[.agg #[.bool b1, .slice a1 n1 c1, .slice d1 m1 o1], .agg #[.bool b2, .slice a2 n2 c2], .int .i64 kk] w fun e w' => e = .returned (.bool true) ∧ Ext w w' := by
 cases hg0 : fewR b1 xs1 ys1 ((4 : Nat) : Int)
 ·have HG0 := Lib.hid hg0
  clear hg0
  obtain ⟨W0, hW0⟩ : ∃ W0, W0 = ((w.alloc (.cells #[.bool b1, .slice a1 n1 c1, .slice d1 m1 o1] 27)).alloc (.cells #[.bool b2, .slice a2 n2 c2] 25)) := ⟨_, rfl⟩
  have E0 : Ext w W0 := by rw [hW0]; exact ((Ext.alloc1 w (.cells #[.bool b1, .slice a1 n1 c1, .slice d1 m1 o1] 27)).alloc (.cells #[.bool b2, .slice a2 n2 c2] 25))
  replace h1 : Nt W0 (.slice a1 n1 c1) xs1 := h1.ext E0
  replace k1 : Nt W0 (.slice d1 m1 o1) ys1 := k1.ext E0
  replace h2 : Nt W0 (.slice a2 n2 c2) xs2 := h2.ext E0
  have p3 : Bx3 W0 w.heap.size 27 (.bool b1) (.slice a1 n1 c1) (.slice d1 m1 o1) := by rw [hW0]; exact (Bx3.new w 27 (.bool b1) (.slice a1 n1 c1) (.slice d1 m1 o1)).ext (Ext.alloc1 (w.alloc (.cells #[.bool b1, .slice a1 n1 c1, .slice d1 m1 o1] 27)) (.cells #[.bool b2, .slice a2 n2 c2] 25))
  have p4 : Bx2 W0 (w.heap.size + 1) 25 (.bool b2) (.slice a2 n2 c2) := by rw [hW0]; simpa using (Bx2.new (w.alloc (.cells #[.bool b1, .slice a1 n1 c1, .slice d1 m1 o1] 27)) 25 (.bool b2) (.slice a2 n2 c2))
  go_enter Try.func3, Try.ntmps3
  obtain ⟨kp3_0, kp3_1, kp3_2⟩ := p3.c3
  obtain ⟨kp4_0, kp4_1⟩ := p4.c2
  go_wp2_with fail
  rw [← hW0]
  clear hW0; clear kp3_0 kp3_1 kp3_2 kp4_0 kp4_1
  refine (Try.refRFew h1 k1 4 (by omega)).mono ?_
  rintro e Wf0 ⟨rfl, hE⟩
  rw [HG0.out]; replace E0 := (Ext.trans E0 hE); replace h1 := (h1.ext hE)
  replace k1 := (k1.ext hE)
  replace h2 := (h2.ext hE); replace p3 := (p3.ext hE); replace p4 := (p4.ext hE); clear hE
  obtain ⟨kp3_0, kp3_1, kp3_2⟩ := p3.c3
  obtain ⟨kp4_0, kp4_1⟩ := p4.c2
  go_wp2_with fail
  clear kp3_0 kp3_1 kp3_2 kp4_0 kp4_1
  refine (Try.alive06 _).mono ?_
  rintro e We ⟨rfl, hE⟩
  replace E0 := (Ext.trans E0 hE); replace h1 := (h1.ext hE)
  replace k1 := (k1.ext hE)
  replace h2 := (h2.ext hE); replace p3 := (p3.ext hE); replace p4 := (p4.ext hE); clear hE
  obtain ⟨kp3_0, kp3_1, kp3_2⟩ := p3.c3
  obtain ⟨kp4_0, kp4_1⟩ := p4.c2
  go_wp2; go_ret
  exact ⟨rfl, E0⟩
 ·have HG0 := Lib.hid hg0
  clear hg0
  obtain ⟨W0, hW0⟩ : ∃ W0, W0 = ((w.alloc (.cells #[.bool b1, .slice a1 n1 c1, .slice d1 m1 o1] 27)).alloc (.cells #[.bool b2, .slice a2 n2 c2] 25)) := ⟨_, rfl⟩
  have E0 : Ext w W0 := by rw [hW0]; exact ((Ext.alloc1 w (.cells #[.bool b1, .slice a1 n1 c1, .slice d1 m1 o1] 27)).alloc (.cells #[.bool b2, .slice a2 n2 c2] 25))
  replace h1 : Nt W0 (.slice a1 n1 c1) xs1 := h1.ext E0
  replace k1 : Nt W0 (.slice d1 m1 o1) ys1 := k1.ext E0
  replace h2 : Nt W0 (.slice a2 n2 c2) xs2 := h2.ext E0
  have p3 : Bx3 W0 w.heap.size 27 (.bool b1) (.slice a1 n1 c1) (.slice d1 m1 o1) := by rw [hW0]; exact (Bx3.new w 27 (.bool b1) (.slice a1 n1 c1) (.slice d1 m1 o1)).ext (Ext.alloc1 (w.alloc (.cells #[.bool b1, .slice a1 n1 c1, .slice d1 m1 o1] 27)) (.cells #[.bool b2, .slice a2 n2 c2] 25))
  have p4 : Bx2 W0 (w.heap.size + 1) 25 (.bool b2) (.slice a2 n2 c2) := by rw [hW0]; simpa using (Bx2.new (w.alloc (.cells #[.bool b1, .slice a1 n1 c1, .slice d1 m1 o1] 27)) 25 (.bool b2) (.slice a2 n2 c2))
  go_enter Try.func3, Try.ntmps3
  obtain ⟨kp3_0, kp3_1, kp3_2⟩ := p3.c3
  obtain ⟨kp4_0, kp4_1⟩ := p4.c2
  go_wp2_with fail
  rw [← hW0]
  clear hW0; clear kp3_0 kp3_1 kp3_2 kp4_0 kp4_1
  refine (Try.refRFew h1 k1 4 (by omega)).mono ?_
  rintro e Wf0 ⟨rfl, hE⟩
  rw [HG0.out]; replace E0 := (Ext.trans E0 hE); replace h1 := (h1.ext hE)
  replace k1 := (k1.ext hE)
  replace h2 := (h2.ext hE); replace p3 := (p3.ext hE); replace p4 := (p4.ext hE); clear hE
  cases hg1 : fewZ b2 xs2 ((4 : Nat) : Int)
  ·have HG1 := Lib.hid hg1
   clear hg1
   obtain ⟨kp3_0, kp3_1, kp3_2⟩ := p3.c3
   obtain ⟨kp4_0, kp4_1⟩ := p4.c2
   go_wp2_with fail
   clear kp3_0 kp3_1 kp3_2 kp4_0 kp4_1
   refine (Try.refZFew h2 ((4 : Nat) : Int)).mono ?_
   rintro e Wf1 ⟨rfl, hE⟩
   rw [HG1.out]; replace E0 := (Ext.trans E0 hE); replace h1 := (h1.ext hE)
   replace k1 := (k1.ext hE)
   replace h2 := (h2.ext hE); replace p3 := (p3.ext hE); replace p4 := (p4.ext hE); clear hE
   obtain ⟨kp3_0, kp3_1, kp3_2⟩ := p3.c3
   obtain ⟨kp4_0, kp4_1⟩ := p4.c2
   go_wp2_with fail
   clear kp3_0 kp3_1 kp3_2 kp4_0 kp4_1
   refine (Try.alive06 _).mono ?_
   rintro e We ⟨rfl, hE⟩
   replace E0 := (Ext.trans E0 hE); replace h1 := (h1.ext hE)
   replace k1 := (k1.ext hE)
   replace h2 := (h2.ext hE); replace p3 := (p3.ext hE); replace p4 := (p4.ext hE); clear hE
   obtain ⟨kp3_0, kp3_1, kp3_2⟩ := p3.c3
   obtain ⟨kp4_0, kp4_1⟩ := p4.c2
   go_wp2; go_ret
   exact ⟨rfl, E0⟩
  ·have HG1 := Lib.hid hg1
   clear hg1
   obtain ⟨kp3_0, kp3_1, kp3_2⟩ := p3.c3
   obtain ⟨kp4_0, kp4_1⟩ := p4.c2
   go_wp2_with fail
   clear kp3_0 kp3_1 kp3_2 kp4_0 kp4_1
   refine (Try.refZFew h2 ((4 : Nat) : Int)).mono ?_
   rintro e Wf1 ⟨rfl, hE⟩
   rw [HG1.out]; replace E0 := (Ext.trans E0 hE); replace h1 := (h1.ext hE)
   replace k1 := (k1.ext hE)
   replace h2 := (h2.ext hE); replace p3 := (p3.ext hE); replace p4 := (p4.ext hE); clear hE
   obtain ⟨x, hx1, s1⟩ := fewR_rw (L := 4) h1 k1 HG0.out
   clear h1 k1 HG0
   obtain ⟨z, hx2, s2⟩ := fewZ_zw (L := 4) h2 HG1.out
   clear h2 HG1
   by_cases hk4 : 400 < kk
   ·have hk4d := decide_eq_true hk4
    by_cases hk2 : kk ≤ 2000
    ·have hk2d := decide_eq_true hk2
     obtain ⟨kp3_0, kp3_1, kp3_2⟩ := p3.c3
     obtain ⟨kp4_0, kp4_1⟩ := p4.c2
     go_wp2_with fail
     clear kp3_0 kp3_1 kp3_2 kp4_0 kp4_1
     refine (Try.alive06 _).mono ?_
     rintro e We ⟨rfl, hE⟩
     replace E0 := (Ext.trans E0 hE); replace p3 := (p3.ext hE); replace p4 := (p4.ext hE); replace hx1 := (hx1.ext hE); replace hx2 := (hx2.ext hE); clear hE
     obtain ⟨kp3_0, kp3_1, kp3_2⟩ := p3.c3
     obtain ⟨kp4_0, kp4_1⟩ := p4.c2
     go_wp2; go_ret
     exact ⟨rfl, E0⟩
    ·have hk2d := decide_eq_false hk2
     have hkb : kk < 0 ∨ 2000 < kk := by omega
     have HK := Lib.hid hkb
     clear hkb
     obtain ⟨kp3_0, kp3_1, kp3_2⟩ := p3.c3
     obtain ⟨kp4_0, kp4_1⟩ := p4.c2
     go_upto_region 3 with (fail)
     clear kp3_0 kp3_1 kp3_2 kp4_0 kp4_1; have ltp3 := p3.lt; have ltp4 := p4.lt; have szw1 := Ext.size E0
     refine region_gs [.one fun v _ => v = .agg #[.bool b1, .slice a1 n1 c1, .slice d1 m1 o1],
       .one fun v _ => v = .int .i64 kk,
       .one fun v W => ∃ v', v = .tuple #[v', .int .i64 1] ∧ (fun v W => Zw W v 0) v' W,
       .one fun v W => ∃ v', v = .tuple #[v', .int .i64 1] ∧ (fun v W => Zw W v 0) v' W,
       .one fun v W => Zw W v 0,
       .one fun v _ => v = .int .i64 1,
       .one fun v W => ∃ g, v = .pointer (some ⟨g, 0, none⟩) ∧ Wf1.heap.size ≤ g ∧ Form W g 25 2,
       .three 6 4 (fun p r _ W => Put2 Wf1.heap.size 25 p r W),
       .one fun v _ => v = .int .i64 1]
      (fun W => Ext w W ∧ Bx3 W w.heap.size 27 (.bool b1) (.slice a1 n1 c1) (.slice d1 m1 o1) ∧ Bx2 W (w.heap.size + 1) 25 (.bool b2) (.slice a2 n2 c2) ∧ Rw W (.agg #[.bool b1, .slice a1 n1 c1, .slice d1 m1 o1]) x ∧ Zw W (.agg #[.bool b2, .slice a2 n2 c2]) z ∧ Wf1.heap.size ≤ W.heap.size) ⟨Good.is _, Good.is _, (Good.zed _).tup _, (Good.zed _).tup _, Good.zed _, Good.is _, Good.box _ _ _, cert_put2, Good.is _, trivial⟩
      ⟨E0, p3, p4, hx1, hx2, Nat.le_refl _⟩ (A := ?A1) ?hA1 ?howe1 ?hfin1
     case hA1 =>
      intro vs
      simp only [putAll, Act.put, sA, sZ, sS, Nat.zero_add, Nat.reduceAdd]
      exact rfl
     case howe1 =>
      clear E0 p3 p4 hx1 hx2
      intro hf
      refine ⟨oE 0 [] hf rfl ?_, oE 1 [] hf rfl ?_, oE 2 [0, 1] hf rfl ?_, oE 3 [2] hf rfl ?_, oE 4 [3] hf rfl ?_, oE 5 [3] hf rfl ?_, oE 6 [] hf rfl ?_, oW 7 [6, 4] hf rfl ?_, oE 8 [5] hf rfl ?_, trivial⟩
      all_goals intro vs W hS hp hx KO hKO
      all_goals simp only [Act.put, sA, sZ, sS] at hKO
      ·have fc0 := hS.2.1.cell0; have fc1 := hS.2.1.cell1; have fc2 := hS.2.1.cell2; go_simp; exact hKO _ W (.refl W) rfl
      ·go_simp; exact hKO _ W (.refl W) rfl
      ·have e0 := isOf hp.1; have e1 := isOf hp.2.1; simp only [e0, e1] at hKO; go_simp
       refine (Try.dyadFloorNo (hS.2.2.2.1) kk HK.out).mono ?_
       rintro e W1 ⟨v, rfl, hv, hE⟩
       exact hKO _ W1 hE ⟨_, rfl, hv⟩
      ·have q2 := hp.1
       obtain ⟨u, ev, hu⟩ := q2
       replace ev : vs 2 = _ := ev; simp only [ev] at hKO; go_simp; exact hKO _ W (Ext.refl W) ⟨u, rfl, hu⟩
      ·have q3 := hp.1
       obtain ⟨u, ev, hu⟩ := q3
       replace ev : vs 3 = _ := ev; simp only [ev] at hKO; go_simp; exact hKO _ W (Ext.refl W) hu
      ·have q3 := hp.1
       obtain ⟨u, ev, hu⟩ := q3
       replace ev : vs 3 = _ := ev; simp only [ev] at hKO; go_simp; exact hKO _ W (.refl W) rfl
      ·have hn := Bx2.new W 25 (.bool false) (.slice none 0 0)
       have hE := Ext.alloc1 W (.cells #[.bool false, .slice none 0 0] 25)
       have hsz := hS.2.2.2.2.2
       go_simp
       exact hKO _ _ hE ⟨_, rfl, hsz, hn.form⟩
      ·have q6 := hp.1; have q4 := hp.2.1
       obtain ⟨g, ev, hg, hf⟩ := q6
       replace ev : vs 6 = _ := ev
       obtain ⟨x0_0, x0_1, hx, hno⟩ := hf.bx2
       have qr := q4
       obtain ⟨b3, a3, n3, c3, er, -, -⟩ := qr
       replace er : vs 4 = _ := er
       have r0 := hx.froz0
       have t0 := hx.cell0
       have r1 := hx.froz1
       have t1 := hx.cell1
       have hw := Wr.set2 hx hno b3 a3 n3 c3
       have hq := hx.set (.bool b3) (.slice a3 n3 c3)
       simp only [ev, er] at hKO; go_simp
       exact hKO _ _ hw ⟨(Ext.wr hS.1 hw (by omega)), (hS.2.1.wr hw (by omega)), (hS.2.2.1.wr hw (by omega)), (hS.2.2.2.1.wr hw), (hS.2.2.2.2.1.wr hw), (Nat.le_trans hS.2.2.2.2.2 hw.apart.size)⟩ ⟨g, b3, a3, n3, c3, ev, er, hg, hq⟩
      ·have e5 := isOf hp.1; simp only [e5] at hKO; go_simp; exact hKO _ W (.refl W) rfl
     intro vs W1 hS hp
     clear szw1 E0 p3 p4 hx1 hx2
     obtain ⟨E0, p3, p4, hx1, hx2, sz1⟩ := hS
     obtain ⟨h1_0, h1_1, h1_2, h1_3, h1_4, h1_5, h1_6, h1_7, h1_8, -⟩ := hp
     obtain ⟨g1_7, b1_7, a1_7, n1_7, c1_7, ev1_7, er1_7, hg1_7, p1_7⟩ := h1_7
     replace ev1_7 : vs 6 = _ := ev1_7; replace er1_7 : vs 4 = _ := er1_7; replace h1_4 := (show Zw W1 (vs 4) 0 from h1_4)
     rw [er1_7] at h1_4
     replace h1_0 : vs 0 = .agg #[.bool b1, .slice a1 n1 c1, .slice d1 m1 o1] := h1_0
     replace h1_1 : vs 1 = .int .i64 kk := h1_1
     replace h1_5 : vs 5 = .int .i64 1 := h1_5
     replace h1_8 : vs 8 = .int .i64 1 := h1_8
     simp only [ev1_7, er1_7, h1_0, h1_1, h1_5, h1_8]
     clear ev1_7 er1_7 h1_0 h1_1 h1_5 h1_8 h1_2 h1_3 h1_6
     obtain ⟨kp3_0, kp3_1, kp3_2⟩ := p3.c3
     obtain ⟨kp4_0, kp4_1⟩ := p4.c2
     obtain ⟨kp1_7_0, kp1_7_1⟩ := p1_7.c2
     go_upto_region 4 with (fail)
     clear kp3_0 kp3_1 kp3_2 kp4_0 kp4_1 kp1_7_0 kp1_7_1; have ltp1_7 := p1_7.lt; have szw2 := Ext.size E0
     refine region_gs [.one fun v _ => v = .agg #[.bool b1, .slice a1 n1 c1, .slice d1 m1 o1],
       .one fun v _ => v = .int .i64 kk,
       .one fun v W => ∃ v', v = .tuple #[v', .int .i64 1] ∧ (fun v W => Zw W v 0) v' W,
       .one fun v W => ∃ v', v = .tuple #[v', .int .i64 1] ∧ (fun v W => Zw W v 0) v' W,
       .one fun v W => Zw W v 0,
       .one fun v _ => v = .int .i64 1,
       .one fun v W => ∃ g, v = .pointer (some ⟨g, 0, none⟩) ∧ W1.heap.size ≤ g ∧ Form W g 25 2,
       .three 6 4 (fun p r _ W => Put2 W1.heap.size 25 p r W),
       .one fun v _ => v = .int .i64 1]
      (fun W => Ext w W ∧ Bx3 W w.heap.size 27 (.bool b1) (.slice a1 n1 c1) (.slice d1 m1 o1) ∧ Bx2 W (w.heap.size + 1) 25 (.bool b2) (.slice a2 n2 c2) ∧ Rw W (.agg #[.bool b1, .slice a1 n1 c1, .slice d1 m1 o1]) x ∧ Zw W (.agg #[.bool b2, .slice a2 n2 c2]) z ∧ Zw W (.agg #[.bool b1_7, .slice a1_7 n1_7 c1_7]) 0 ∧ Bx2 W g1_7 25 (.bool b1_7) (.slice a1_7 n1_7 c1_7) ∧ W1.heap.size ≤ W.heap.size) ⟨Good.is _, Good.is _, (Good.zed _).tup _, (Good.zed _).tup _, Good.zed _, Good.is _, Good.box _ _ _, cert_put2, Good.is _, trivial⟩
      ⟨E0, p3, p4, hx1, hx2, h1_4, p1_7, Nat.le_refl _⟩ (A := ?A2) ?hA2 ?howe2 ?hfin2
     case hA2 =>
      intro vs
      simp only [putAll, Act.put, sA, sZ, sS, Nat.zero_add, Nat.reduceAdd]
      exact rfl
     case howe2 =>
      clear E0 p3 p4 hx1 hx2 h1_4 p1_7
      intro hf
      refine ⟨oE 0 [] hf rfl ?_, oE 1 [] hf rfl ?_, oE 2 [0, 1] hf rfl ?_, oE 3 [2] hf rfl ?_, oE 4 [3] hf rfl ?_, oE 5 [3] hf rfl ?_, oE 6 [] hf rfl ?_, oW 7 [6, 4] hf rfl ?_, oE 8 [5] hf rfl ?_, trivial⟩
      all_goals intro vs W hS hp hx KO hKO
      all_goals simp only [Act.put, sA, sZ, sS] at hKO
      ·have fc0 := hS.2.1.cell0; have fc1 := hS.2.1.cell1; have fc2 := hS.2.1.cell2; go_simp; exact hKO _ W (.refl W) rfl
      ·go_simp; exact hKO _ W (.refl W) rfl
      ·have e0 := isOf hp.1; have e1 := isOf hp.2.1; simp only [e0, e1] at hKO; go_simp
       refine (Try.refFloorNo (hS.2.2.2.1) kk HK.out).mono ?_
       rintro e W1 ⟨v, rfl, hv, hE⟩
       exact hKO _ W1 hE ⟨_, rfl, hv⟩
      ·have q2 := hp.1
       obtain ⟨u, ev, hu⟩ := q2
       replace ev : vs 2 = _ := ev; simp only [ev] at hKO; go_simp; exact hKO _ W (Ext.refl W) ⟨u, rfl, hu⟩
      ·have q3 := hp.1
       obtain ⟨u, ev, hu⟩ := q3
       replace ev : vs 3 = _ := ev; simp only [ev] at hKO; go_simp; exact hKO _ W (Ext.refl W) hu
      ·have q3 := hp.1
       obtain ⟨u, ev, hu⟩ := q3
       replace ev : vs 3 = _ := ev; simp only [ev] at hKO; go_simp; exact hKO _ W (.refl W) rfl
      ·have hn := Bx2.new W 25 (.bool false) (.slice none 0 0)
       have hE := Ext.alloc1 W (.cells #[.bool false, .slice none 0 0] 25)
       have hsz := hS.2.2.2.2.2.2.2
       go_simp
       exact hKO _ _ hE ⟨_, rfl, hsz, hn.form⟩
      ·have q6 := hp.1; have q4 := hp.2.1
       obtain ⟨g, ev, hg, hf⟩ := q6
       replace ev : vs 6 = _ := ev
       obtain ⟨x0_0, x0_1, hx, hno⟩ := hf.bx2
       have qr := q4
       obtain ⟨b3, a3, n3, c3, er, -, -⟩ := qr
       replace er : vs 4 = _ := er
       have r0 := hx.froz0
       have t0 := hx.cell0
       have r1 := hx.froz1
       have t1 := hx.cell1
       have hw := Wr.set2 hx hno b3 a3 n3 c3
       have hq := hx.set (.bool b3) (.slice a3 n3 c3)
       simp only [ev, er] at hKO; go_simp
       exact hKO _ _ hw ⟨(Ext.wr hS.1 hw (by omega)), (hS.2.1.wr hw (by omega)), (hS.2.2.1.wr hw (by omega)), (hS.2.2.2.1.wr hw), (hS.2.2.2.2.1.wr hw), (hS.2.2.2.2.2.1.wr hw), (hS.2.2.2.2.2.2.1.wr hw (by omega)), (Nat.le_trans hS.2.2.2.2.2.2.2 hw.apart.size)⟩ ⟨g, b3, a3, n3, c3, ev, er, hg, hq⟩
      ·have e5 := isOf hp.1; simp only [e5] at hKO; go_simp; exact hKO _ W (.refl W) rfl
     intro vs W2 hS hp
     clear szw2 E0 p3 p4 hx1 hx2 h1_4 p1_7
     obtain ⟨E0, p3, p4, hx1, hx2, h1_4, p1_7, sz2⟩ := hS
     obtain ⟨h2_0, h2_1, h2_2, h2_3, h2_4, h2_5, h2_6, h2_7, h2_8, -⟩ := hp
     obtain ⟨g2_7, b2_7, a2_7, n2_7, c2_7, ev2_7, er2_7, hg2_7, p2_7⟩ := h2_7
     replace ev2_7 : vs 6 = _ := ev2_7; replace er2_7 : vs 4 = _ := er2_7; replace h2_4 := (show Zw W2 (vs 4) 0 from h2_4)
     rw [er2_7] at h2_4
     replace h2_0 : vs 0 = .agg #[.bool b1, .slice a1 n1 c1, .slice d1 m1 o1] := h2_0
     replace h2_1 : vs 1 = .int .i64 kk := h2_1
     replace h2_5 : vs 5 = .int .i64 1 := h2_5
     replace h2_8 : vs 8 = .int .i64 1 := h2_8
     simp only [ev2_7, er2_7, h2_0, h2_1, h2_5, h2_8]
     clear ev2_7 er2_7 h2_0 h2_1 h2_5 h2_8 h2_2 h2_3 h2_6
     obtain ⟨kp3_0, kp3_1, kp3_2⟩ := p3.c3
     obtain ⟨kp4_0, kp4_1⟩ := p4.c2
     obtain ⟨kp1_7_0, kp1_7_1⟩ := p1_7.c2
     obtain ⟨kp2_7_0, kp2_7_1⟩ := p2_7.c2
     go_upto_region 5 with (fail)
     clear kp3_0 kp3_1 kp3_2 kp4_0 kp4_1 kp1_7_0 kp1_7_1 kp2_7_0 kp2_7_1; have ltp2_7 := p2_7.lt; have szw3 := Ext.size E0
     refine region_gs [.one fun v _ => v = .agg #[.bool b1, .slice a1 n1 c1, .slice d1 m1 o1],
       .one fun v _ => v = .int .i64 kk,
       .one fun v W => ∃ v', v = .tuple #[v', .int .i64 1] ∧ (fun v W => Zw W v 0) v' W,
       .one fun v W => ∃ v', v = .tuple #[v', .int .i64 1] ∧ (fun v W => Zw W v 0) v' W,
       .one fun v W => Zw W v 0,
       .one fun v _ => v = .int .i64 1,
       .one fun v W => ∃ g, v = .pointer (some ⟨g, 0, none⟩) ∧ W2.heap.size ≤ g ∧ Form W g 25 2,
       .three 6 4 (fun p r _ W => Put2 W2.heap.size 25 p r W),
       .one fun v _ => v = .int .i64 1]
      (fun W => Ext w W ∧ Bx3 W w.heap.size 27 (.bool b1) (.slice a1 n1 c1) (.slice d1 m1 o1) ∧ Bx2 W (w.heap.size + 1) 25 (.bool b2) (.slice a2 n2 c2) ∧ Rw W (.agg #[.bool b1, .slice a1 n1 c1, .slice d1 m1 o1]) x ∧ Zw W (.agg #[.bool b2, .slice a2 n2 c2]) z ∧ Zw W (.agg #[.bool b1_7, .slice a1_7 n1_7 c1_7]) 0 ∧ Bx2 W g1_7 25 (.bool b1_7) (.slice a1_7 n1_7 c1_7) ∧ Zw W (.agg #[.bool b2_7, .slice a2_7 n2_7 c2_7]) 0 ∧ Bx2 W g2_7 25 (.bool b2_7) (.slice a2_7 n2_7 c2_7) ∧ W2.heap.size ≤ W.heap.size) ⟨Good.is _, Good.is _, (Good.zed _).tup _, (Good.zed _).tup _, Good.zed _, Good.is _, Good.box _ _ _, cert_put2, Good.is _, trivial⟩
      ⟨E0, p3, p4, hx1, hx2, h1_4, p1_7, h2_4, p2_7, Nat.le_refl _⟩ (A := ?A3) ?hA3 ?howe3 ?hfin3
     case hA3 =>
      intro vs
      simp only [putAll, Act.put, sA, sZ, sS, Nat.zero_add, Nat.reduceAdd]
      exact rfl
     case howe3 =>
      clear E0 p3 p4 hx1 hx2 h1_4 p1_7 h2_4 p2_7
      intro hf
      refine ⟨oE 0 [] hf rfl ?_, oE 1 [] hf rfl ?_, oE 2 [0, 1] hf rfl ?_, oE 3 [2] hf rfl ?_, oE 4 [3] hf rfl ?_, oE 5 [3] hf rfl ?_, oE 6 [] hf rfl ?_, oW 7 [6, 4] hf rfl ?_, oE 8 [5] hf rfl ?_, trivial⟩
      all_goals intro vs W hS hp hx KO hKO
      all_goals simp only [Act.put, sA, sZ, sS] at hKO
      ·have fc0 := hS.2.1.cell0; have fc1 := hS.2.1.cell1; have fc2 := hS.2.1.cell2; go_simp; exact hKO _ W (.refl W) rfl
      ·go_simp; exact hKO _ W (.refl W) rfl
      ·have e0 := isOf hp.1; have e1 := isOf hp.2.1; simp only [e0, e1] at hKO; go_simp
       refine (Try.dyadCeilNo (hS.2.2.2.1) kk HK.out).mono ?_
       rintro e W1 ⟨v, rfl, hv, hE⟩
       exact hKO _ W1 hE ⟨_, rfl, hv⟩
      ·have q2 := hp.1
       obtain ⟨u, ev, hu⟩ := q2
       replace ev : vs 2 = _ := ev; simp only [ev] at hKO; go_simp; exact hKO _ W (Ext.refl W) ⟨u, rfl, hu⟩
      ·have q3 := hp.1
       obtain ⟨u, ev, hu⟩ := q3
       replace ev : vs 3 = _ := ev; simp only [ev] at hKO; go_simp; exact hKO _ W (Ext.refl W) hu
      ·have q3 := hp.1
       obtain ⟨u, ev, hu⟩ := q3
       replace ev : vs 3 = _ := ev; simp only [ev] at hKO; go_simp; exact hKO _ W (.refl W) rfl
      ·have hn := Bx2.new W 25 (.bool false) (.slice none 0 0)
       have hE := Ext.alloc1 W (.cells #[.bool false, .slice none 0 0] 25)
       have hsz := hS.2.2.2.2.2.2.2.2.2
       go_simp
       exact hKO _ _ hE ⟨_, rfl, hsz, hn.form⟩
      ·have q6 := hp.1; have q4 := hp.2.1
       obtain ⟨g, ev, hg, hf⟩ := q6
       replace ev : vs 6 = _ := ev
       obtain ⟨x0_0, x0_1, hx, hno⟩ := hf.bx2
       have qr := q4
       obtain ⟨b3, a3, n3, c3, er, -, -⟩ := qr
       replace er : vs 4 = _ := er
       have r0 := hx.froz0
       have t0 := hx.cell0
       have r1 := hx.froz1
       have t1 := hx.cell1
       have hw := Wr.set2 hx hno b3 a3 n3 c3
       have hq := hx.set (.bool b3) (.slice a3 n3 c3)
       simp only [ev, er] at hKO; go_simp
       exact hKO _ _ hw ⟨(Ext.wr hS.1 hw (by omega)), (hS.2.1.wr hw (by omega)), (hS.2.2.1.wr hw (by omega)), (hS.2.2.2.1.wr hw), (hS.2.2.2.2.1.wr hw), (hS.2.2.2.2.2.1.wr hw), (hS.2.2.2.2.2.2.1.wr hw (by omega)), (hS.2.2.2.2.2.2.2.1.wr hw), (hS.2.2.2.2.2.2.2.2.1.wr hw (by omega)), (Nat.le_trans hS.2.2.2.2.2.2.2.2.2 hw.apart.size)⟩ ⟨g, b3, a3, n3, c3, ev, er, hg, hq⟩
      ·have e5 := isOf hp.1; simp only [e5] at hKO; go_simp; exact hKO _ W (.refl W) rfl
     intro vs W3 hS hp
     clear szw3 E0 p3 p4 hx1 hx2 h1_4 p1_7 h2_4 p2_7
     obtain ⟨E0, p3, p4, hx1, hx2, h1_4, p1_7, h2_4, p2_7, sz3⟩ := hS
     obtain ⟨h3_0, h3_1, h3_2, h3_3, h3_4, h3_5, h3_6, h3_7, h3_8, -⟩ := hp
     obtain ⟨g3_7, b3_7, a3_7, n3_7, c3_7, ev3_7, er3_7, hg3_7, p3_7⟩ := h3_7
     replace ev3_7 : vs 6 = _ := ev3_7; replace er3_7 : vs 4 = _ := er3_7; replace h3_4 := (show Zw W3 (vs 4) 0 from h3_4)
     rw [er3_7] at h3_4
     replace h3_0 : vs 0 = .agg #[.bool b1, .slice a1 n1 c1, .slice d1 m1 o1] := h3_0
     replace h3_1 : vs 1 = .int .i64 kk := h3_1
     replace h3_5 : vs 5 = .int .i64 1 := h3_5
     replace h3_8 : vs 8 = .int .i64 1 := h3_8
     simp only [ev3_7, er3_7, h3_0, h3_1, h3_5, h3_8]
     clear ev3_7 er3_7 h3_0 h3_1 h3_5 h3_8 h3_2 h3_3 h3_6
     obtain ⟨kp3_0, kp3_1, kp3_2⟩ := p3.c3
     obtain ⟨kp4_0, kp4_1⟩ := p4.c2
     obtain ⟨kp1_7_0, kp1_7_1⟩ := p1_7.c2
     obtain ⟨kp2_7_0, kp2_7_1⟩ := p2_7.c2
     obtain ⟨kp3_7_0, kp3_7_1⟩ := p3_7.c2
     go_upto_region 6 with (fail)
     clear kp3_0 kp3_1 kp3_2 kp4_0 kp4_1 kp1_7_0 kp1_7_1 kp2_7_0 kp2_7_1 kp3_7_0 kp3_7_1; have ltp3_7 := p3_7.lt; have szw4 := Ext.size E0
     refine region_gs [.one fun v _ => v = .agg #[.bool b1, .slice a1 n1 c1, .slice d1 m1 o1],
       .one fun v _ => v = .int .i64 kk,
       .one fun v W => ∃ v', v = .tuple #[v', .int .i64 1] ∧ (fun v W => Zw W v 0) v' W,
       .one fun v W => ∃ v', v = .tuple #[v', .int .i64 1] ∧ (fun v W => Zw W v 0) v' W,
       .one fun v W => Zw W v 0,
       .one fun v _ => v = .int .i64 1,
       .one fun v W => ∃ g, v = .pointer (some ⟨g, 0, none⟩) ∧ W3.heap.size ≤ g ∧ Form W g 25 2,
       .three 6 4 (fun p r _ W => Put2 W3.heap.size 25 p r W),
       .one fun v _ => v = .int .i64 1]
      (fun W => Ext w W ∧ Bx3 W w.heap.size 27 (.bool b1) (.slice a1 n1 c1) (.slice d1 m1 o1) ∧ Bx2 W (w.heap.size + 1) 25 (.bool b2) (.slice a2 n2 c2) ∧ Rw W (.agg #[.bool b1, .slice a1 n1 c1, .slice d1 m1 o1]) x ∧ Zw W (.agg #[.bool b2, .slice a2 n2 c2]) z ∧ Zw W (.agg #[.bool b1_7, .slice a1_7 n1_7 c1_7]) 0 ∧ Bx2 W g1_7 25 (.bool b1_7) (.slice a1_7 n1_7 c1_7) ∧ Zw W (.agg #[.bool b2_7, .slice a2_7 n2_7 c2_7]) 0 ∧ Bx2 W g2_7 25 (.bool b2_7) (.slice a2_7 n2_7 c2_7) ∧ Zw W (.agg #[.bool b3_7, .slice a3_7 n3_7 c3_7]) 0 ∧ Bx2 W g3_7 25 (.bool b3_7) (.slice a3_7 n3_7 c3_7) ∧ W3.heap.size ≤ W.heap.size) ⟨Good.is _, Good.is _, (Good.zed _).tup _, (Good.zed _).tup _, Good.zed _, Good.is _, Good.box _ _ _, cert_put2, Good.is _, trivial⟩
      ⟨E0, p3, p4, hx1, hx2, h1_4, p1_7, h2_4, p2_7, h3_4, p3_7, Nat.le_refl _⟩ (A := ?A4) ?hA4 ?howe4 ?hfin4
     case hA4 =>
      intro vs
      simp only [putAll, Act.put, sA, sZ, sS, Nat.zero_add, Nat.reduceAdd]
      exact rfl
     case howe4 =>
      clear E0 p3 p4 hx1 hx2 h1_4 p1_7 h2_4 p2_7 h3_4 p3_7
      intro hf
      refine ⟨oE 0 [] hf rfl ?_, oE 1 [] hf rfl ?_, oE 2 [0, 1] hf rfl ?_, oE 3 [2] hf rfl ?_, oE 4 [3] hf rfl ?_, oE 5 [3] hf rfl ?_, oE 6 [] hf rfl ?_, oW 7 [6, 4] hf rfl ?_, oE 8 [5] hf rfl ?_, trivial⟩
      all_goals intro vs W hS hp hx KO hKO
      all_goals simp only [Act.put, sA, sZ, sS] at hKO
      ·have fc0 := hS.2.1.cell0; have fc1 := hS.2.1.cell1; have fc2 := hS.2.1.cell2; go_simp; exact hKO _ W (.refl W) rfl
      ·go_simp; exact hKO _ W (.refl W) rfl
      ·have e0 := isOf hp.1; have e1 := isOf hp.2.1; simp only [e0, e1] at hKO; go_simp
       refine (Try.refCeilNo (hS.2.2.2.1) kk HK.out).mono ?_
       rintro e W1 ⟨v, rfl, hv, hE⟩
       exact hKO _ W1 hE ⟨_, rfl, hv⟩
      ·have q2 := hp.1
       obtain ⟨u, ev, hu⟩ := q2
       replace ev : vs 2 = _ := ev; simp only [ev] at hKO; go_simp; exact hKO _ W (Ext.refl W) ⟨u, rfl, hu⟩
      ·have q3 := hp.1
       obtain ⟨u, ev, hu⟩ := q3
       replace ev : vs 3 = _ := ev; simp only [ev] at hKO; go_simp; exact hKO _ W (Ext.refl W) hu
      ·have q3 := hp.1
       obtain ⟨u, ev, hu⟩ := q3
       replace ev : vs 3 = _ := ev; simp only [ev] at hKO; go_simp; exact hKO _ W (.refl W) rfl
      ·have hn := Bx2.new W 25 (.bool false) (.slice none 0 0)
       have hE := Ext.alloc1 W (.cells #[.bool false, .slice none 0 0] 25)
       have hsz := hS.2.2.2.2.2.2.2.2.2.2.2
       go_simp
       exact hKO _ _ hE ⟨_, rfl, hsz, hn.form⟩
      ·have q6 := hp.1; have q4 := hp.2.1
       obtain ⟨g, ev, hg, hf⟩ := q6
       replace ev : vs 6 = _ := ev
       obtain ⟨x0_0, x0_1, hx, hno⟩ := hf.bx2
       have qr := q4
       obtain ⟨b3, a3, n3, c3, er, -, -⟩ := qr
       replace er : vs 4 = _ := er
       have r0 := hx.froz0
       have t0 := hx.cell0
       have r1 := hx.froz1
       have t1 := hx.cell1
       have hw := Wr.set2 hx hno b3 a3 n3 c3
       have hq := hx.set (.bool b3) (.slice a3 n3 c3)
       simp only [ev, er] at hKO; go_simp
       exact hKO _ _ hw ⟨(Ext.wr hS.1 hw (by omega)), (hS.2.1.wr hw (by omega)), (hS.2.2.1.wr hw (by omega)), (hS.2.2.2.1.wr hw), (hS.2.2.2.2.1.wr hw), (hS.2.2.2.2.2.1.wr hw), (hS.2.2.2.2.2.2.1.wr hw (by omega)), (hS.2.2.2.2.2.2.2.1.wr hw), (hS.2.2.2.2.2.2.2.2.1.wr hw (by omega)), (hS.2.2.2.2.2.2.2.2.2.1.wr hw), (hS.2.2.2.2.2.2.2.2.2.2.1.wr hw (by omega)), (Nat.le_trans hS.2.2.2.2.2.2.2.2.2.2.2 hw.apart.size)⟩ ⟨g, b3, a3, n3, c3, ev, er, hg, hq⟩
      ·have e5 := isOf hp.1; simp only [e5] at hKO; go_simp; exact hKO _ W (.refl W) rfl
     intro vs W4 hS hp
     clear szw4 E0 p3 p4 hx1 hx2 h1_4 p1_7 h2_4 p2_7 h3_4 p3_7
     obtain ⟨E0, p3, p4, hx1, hx2, h1_4, p1_7, h2_4, p2_7, h3_4, p3_7, sz4⟩ := hS
     obtain ⟨h4_0, h4_1, h4_2, h4_3, h4_4, h4_5, h4_6, h4_7, h4_8, -⟩ := hp
     obtain ⟨g4_7, b4_7, a4_7, n4_7, c4_7, ev4_7, er4_7, hg4_7, p4_7⟩ := h4_7
     replace ev4_7 : vs 6 = _ := ev4_7; replace er4_7 : vs 4 = _ := er4_7; replace h4_4 := (show Zw W4 (vs 4) 0 from h4_4)
     rw [er4_7] at h4_4
     replace h4_0 : vs 0 = .agg #[.bool b1, .slice a1 n1 c1, .slice d1 m1 o1] := h4_0
     replace h4_1 : vs 1 = .int .i64 kk := h4_1
     replace h4_5 : vs 5 = .int .i64 1 := h4_5
     replace h4_8 : vs 8 = .int .i64 1 := h4_8
     simp only [ev4_7, er4_7, h4_0, h4_1, h4_5, h4_8]
     clear ev4_7 er4_7 h4_0 h4_1 h4_5 h4_8 h4_2 h4_3 h4_6
     obtain ⟨kp3_0, kp3_1, kp3_2⟩ := p3.c3
     obtain ⟨kp4_0, kp4_1⟩ := p4.c2
     obtain ⟨kp1_7_0, kp1_7_1⟩ := p1_7.c2
     obtain ⟨kp2_7_0, kp2_7_1⟩ := p2_7.c2
     obtain ⟨kp3_7_0, kp3_7_1⟩ := p3_7.c2
     obtain ⟨kp4_7_0, kp4_7_1⟩ := p4_7.c2
     go_upto_region 7 with (fail)
     clear kp3_0 kp3_1 kp3_2 kp4_0 kp4_1 kp1_7_0 kp1_7_1 kp2_7_0 kp2_7_1 kp3_7_0 kp3_7_1 kp4_7_0 kp4_7_1; have ltp4_7 := p4_7.lt; have szw5 := Ext.size E0
     refine region_gs [.one fun v _ => v = .agg #[.bool b1, .slice a1 n1 c1, .slice d1 m1 o1],
       .one fun v _ => v = .int .i64 kk,
       .one fun v W => ∃ v', v = .tuple #[v', .int .i64 1] ∧ (fun v W => Zw W v 0) v' W,
       .one fun v W => ∃ v', v = .tuple #[v', .int .i64 1] ∧ (fun v W => Zw W v 0) v' W,
       .one fun v W => Zw W v 0,
       .one fun v _ => v = .int .i64 1,
       .one fun v W => ∃ g, v = .pointer (some ⟨g, 0, none⟩) ∧ W4.heap.size ≤ g ∧ Form W g 25 2,
       .three 6 4 (fun p r _ W => Put2 W4.heap.size 25 p r W),
       .one fun v _ => v = .int .i64 1]
      (fun W => Ext w W ∧ Bx3 W w.heap.size 27 (.bool b1) (.slice a1 n1 c1) (.slice d1 m1 o1) ∧ Bx2 W (w.heap.size + 1) 25 (.bool b2) (.slice a2 n2 c2) ∧ Rw W (.agg #[.bool b1, .slice a1 n1 c1, .slice d1 m1 o1]) x ∧ Zw W (.agg #[.bool b2, .slice a2 n2 c2]) z ∧ Zw W (.agg #[.bool b1_7, .slice a1_7 n1_7 c1_7]) 0 ∧ Bx2 W g1_7 25 (.bool b1_7) (.slice a1_7 n1_7 c1_7) ∧ Zw W (.agg #[.bool b2_7, .slice a2_7 n2_7 c2_7]) 0 ∧ Bx2 W g2_7 25 (.bool b2_7) (.slice a2_7 n2_7 c2_7) ∧ Zw W (.agg #[.bool b3_7, .slice a3_7 n3_7 c3_7]) 0 ∧ Bx2 W g3_7 25 (.bool b3_7) (.slice a3_7 n3_7 c3_7) ∧ Zw W (.agg #[.bool b4_7, .slice a4_7 n4_7 c4_7]) 0 ∧ Bx2 W g4_7 25 (.bool b4_7) (.slice a4_7 n4_7 c4_7) ∧ W4.heap.size ≤ W.heap.size) ⟨Good.is _, Good.is _, (Good.zed _).tup _, (Good.zed _).tup _, Good.zed _, Good.is _, Good.box _ _ _, cert_put2, Good.is _, trivial⟩
      ⟨E0, p3, p4, hx1, hx2, h1_4, p1_7, h2_4, p2_7, h3_4, p3_7, h4_4, p4_7, Nat.le_refl _⟩ (A := ?A5) ?hA5 ?howe5 ?hfin5
     case hA5 =>
      intro vs
      simp only [putAll, Act.put, sA, sZ, sS, Nat.zero_add, Nat.reduceAdd]
      exact rfl
     case howe5 =>
      clear E0 p3 p4 hx1 hx2 h1_4 p1_7 h2_4 p2_7 h3_4 p3_7 h4_4 p4_7
      intro hf
      refine ⟨oE 0 [] hf rfl ?_, oE 1 [] hf rfl ?_, oE 2 [0, 1] hf rfl ?_, oE 3 [2] hf rfl ?_, oE 4 [3] hf rfl ?_, oE 5 [3] hf rfl ?_, oE 6 [] hf rfl ?_, oW 7 [6, 4] hf rfl ?_, oE 8 [5] hf rfl ?_, trivial⟩
      all_goals intro vs W hS hp hx KO hKO
      all_goals simp only [Act.put, sA, sZ, sS] at hKO
      ·have fc0 := hS.2.1.cell0; have fc1 := hS.2.1.cell1; have fc2 := hS.2.1.cell2; go_simp; exact hKO _ W (.refl W) rfl
      ·go_simp; exact hKO _ W (.refl W) rfl
      ·have e0 := isOf hp.1; have e1 := isOf hp.2.1; simp only [e0, e1] at hKO; go_simp
       refine (Try.dyadNearNo (hS.2.2.2.1) kk HK.out).mono ?_
       rintro e W1 ⟨v, rfl, hv, hE⟩
       exact hKO _ W1 hE ⟨_, rfl, hv⟩
      ·have q2 := hp.1
       obtain ⟨u, ev, hu⟩ := q2
       replace ev : vs 2 = _ := ev; simp only [ev] at hKO; go_simp; exact hKO _ W (Ext.refl W) ⟨u, rfl, hu⟩
      ·have q3 := hp.1
       obtain ⟨u, ev, hu⟩ := q3
       replace ev : vs 3 = _ := ev; simp only [ev] at hKO; go_simp; exact hKO _ W (Ext.refl W) hu
      ·have q3 := hp.1
       obtain ⟨u, ev, hu⟩ := q3
       replace ev : vs 3 = _ := ev; simp only [ev] at hKO; go_simp; exact hKO _ W (.refl W) rfl
      ·have hn := Bx2.new W 25 (.bool false) (.slice none 0 0)
       have hE := Ext.alloc1 W (.cells #[.bool false, .slice none 0 0] 25)
       have hsz := hS.2.2.2.2.2.2.2.2.2.2.2.2.2
       go_simp
       exact hKO _ _ hE ⟨_, rfl, hsz, hn.form⟩
      ·have q6 := hp.1; have q4 := hp.2.1
       obtain ⟨g, ev, hg, hf⟩ := q6
       replace ev : vs 6 = _ := ev
       obtain ⟨x0_0, x0_1, hx, hno⟩ := hf.bx2
       have qr := q4
       obtain ⟨b3, a3, n3, c3, er, -, -⟩ := qr
       replace er : vs 4 = _ := er
       have r0 := hx.froz0
       have t0 := hx.cell0
       have r1 := hx.froz1
       have t1 := hx.cell1
       have hw := Wr.set2 hx hno b3 a3 n3 c3
       have hq := hx.set (.bool b3) (.slice a3 n3 c3)
       simp only [ev, er] at hKO; go_simp
       exact hKO _ _ hw ⟨(Ext.wr hS.1 hw (by omega)), (hS.2.1.wr hw (by omega)), (hS.2.2.1.wr hw (by omega)), (hS.2.2.2.1.wr hw), (hS.2.2.2.2.1.wr hw), (hS.2.2.2.2.2.1.wr hw), (hS.2.2.2.2.2.2.1.wr hw (by omega)), (hS.2.2.2.2.2.2.2.1.wr hw), (hS.2.2.2.2.2.2.2.2.1.wr hw (by omega)), (hS.2.2.2.2.2.2.2.2.2.1.wr hw), (hS.2.2.2.2.2.2.2.2.2.2.1.wr hw (by omega)), (hS.2.2.2.2.2.2.2.2.2.2.2.1.wr hw), (hS.2.2.2.2.2.2.2.2.2.2.2.2.1.wr hw (by omega)), (Nat.le_trans hS.2.2.2.2.2.2.2.2.2.2.2.2.2 hw.apart.size)⟩ ⟨g, b3, a3, n3, c3, ev, er, hg, hq⟩
      ·have e5 := isOf hp.1; simp only [e5] at hKO; go_simp; exact hKO _ W (.refl W) rfl
     intro vs W5 hS hp
     clear szw5 E0 p3 p4 hx1 hx2 h1_4 p1_7 h2_4 p2_7 h3_4 p3_7 h4_4 p4_7
     obtain ⟨E0, p3, p4, hx1, hx2, h1_4, p1_7, h2_4, p2_7, h3_4, p3_7, h4_4, p4_7, sz5⟩ := hS
     obtain ⟨h5_0, h5_1, h5_2, h5_3, h5_4, h5_5, h5_6, h5_7, h5_8, -⟩ := hp
     obtain ⟨g5_7, b5_7, a5_7, n5_7, c5_7, ev5_7, er5_7, hg5_7, p5_7⟩ := h5_7
     replace ev5_7 : vs 6 = _ := ev5_7; replace er5_7 : vs 4 = _ := er5_7; replace h5_4 := (show Zw W5 (vs 4) 0 from h5_4)
     rw [er5_7] at h5_4
     replace h5_0 : vs 0 = .agg #[.bool b1, .slice a1 n1 c1, .slice d1 m1 o1] := h5_0
     replace h5_1 : vs 1 = .int .i64 kk := h5_1
     replace h5_5 : vs 5 = .int .i64 1 := h5_5
     replace h5_8 : vs 8 = .int .i64 1 := h5_8
     simp only [ev5_7, er5_7, h5_0, h5_1, h5_5, h5_8]
     clear ev5_7 er5_7 h5_0 h5_1 h5_5 h5_8 h5_2 h5_3 h5_6
     obtain ⟨kp3_0, kp3_1, kp3_2⟩ := p3.c3
     obtain ⟨kp4_0, kp4_1⟩ := p4.c2
     obtain ⟨kp1_7_0, kp1_7_1⟩ := p1_7.c2
     obtain ⟨kp2_7_0, kp2_7_1⟩ := p2_7.c2
     obtain ⟨kp3_7_0, kp3_7_1⟩ := p3_7.c2
     obtain ⟨kp4_7_0, kp4_7_1⟩ := p4_7.c2
     obtain ⟨kp5_7_0, kp5_7_1⟩ := p5_7.c2
     go_upto_region 8 with (fail)
     clear kp3_0 kp3_1 kp3_2 kp4_0 kp4_1 kp1_7_0 kp1_7_1 kp2_7_0 kp2_7_1 kp3_7_0 kp3_7_1 kp4_7_0 kp4_7_1 kp5_7_0 kp5_7_1; have ltp5_7 := p5_7.lt; have szw6 := Ext.size E0
     refine region_gs [.one fun v _ => v = .agg #[.bool b1, .slice a1 n1 c1, .slice d1 m1 o1],
       .one fun v _ => v = .int .i64 kk,
       .one fun v W => ∃ v', v = .tuple #[v', .int .i64 1] ∧ (fun v W => Zw W v 0) v' W,
       .one fun v W => ∃ v', v = .tuple #[v', .int .i64 1] ∧ (fun v W => Zw W v 0) v' W,
       .one fun v W => Zw W v 0,
       .one fun v _ => v = .int .i64 1,
       .one fun v W => ∃ g, v = .pointer (some ⟨g, 0, none⟩) ∧ W5.heap.size ≤ g ∧ Form W g 25 2,
       .three 6 4 (fun p r _ W => Put2 W5.heap.size 25 p r W),
       .one fun v _ => v = .int .i64 1]
      (fun W => Ext w W ∧ Bx3 W w.heap.size 27 (.bool b1) (.slice a1 n1 c1) (.slice d1 m1 o1) ∧ Bx2 W (w.heap.size + 1) 25 (.bool b2) (.slice a2 n2 c2) ∧ Rw W (.agg #[.bool b1, .slice a1 n1 c1, .slice d1 m1 o1]) x ∧ Zw W (.agg #[.bool b2, .slice a2 n2 c2]) z ∧ Zw W (.agg #[.bool b1_7, .slice a1_7 n1_7 c1_7]) 0 ∧ Bx2 W g1_7 25 (.bool b1_7) (.slice a1_7 n1_7 c1_7) ∧ Zw W (.agg #[.bool b2_7, .slice a2_7 n2_7 c2_7]) 0 ∧ Bx2 W g2_7 25 (.bool b2_7) (.slice a2_7 n2_7 c2_7) ∧ Zw W (.agg #[.bool b3_7, .slice a3_7 n3_7 c3_7]) 0 ∧ Bx2 W g3_7 25 (.bool b3_7) (.slice a3_7 n3_7 c3_7) ∧ Zw W (.agg #[.bool b4_7, .slice a4_7 n4_7 c4_7]) 0 ∧ Bx2 W g4_7 25 (.bool b4_7) (.slice a4_7 n4_7 c4_7) ∧ Zw W (.agg #[.bool b5_7, .slice a5_7 n5_7 c5_7]) 0 ∧ Bx2 W g5_7 25 (.bool b5_7) (.slice a5_7 n5_7 c5_7) ∧ W5.heap.size ≤ W.heap.size) ⟨Good.is _, Good.is _, (Good.zed _).tup _, (Good.zed _).tup _, Good.zed _, Good.is _, Good.box _ _ _, cert_put2, Good.is _, trivial⟩
      ⟨E0, p3, p4, hx1, hx2, h1_4, p1_7, h2_4, p2_7, h3_4, p3_7, h4_4, p4_7, h5_4, p5_7, Nat.le_refl _⟩ (A := ?A6) ?hA6 ?howe6 ?hfin6
     case hA6 =>
      intro vs
      simp only [putAll, Act.put, sA, sZ, sS, Nat.zero_add, Nat.reduceAdd]
      exact rfl
     case howe6 =>
      clear E0 p3 p4 hx1 hx2 h1_4 p1_7 h2_4 p2_7 h3_4 p3_7 h4_4 p4_7 h5_4 p5_7
      intro hf
      refine ⟨oE 0 [] hf rfl ?_, oE 1 [] hf rfl ?_, oE 2 [0, 1] hf rfl ?_, oE 3 [2] hf rfl ?_, oE 4 [3] hf rfl ?_, oE 5 [3] hf rfl ?_, oE 6 [] hf rfl ?_, oW 7 [6, 4] hf rfl ?_, oE 8 [5] hf rfl ?_, trivial⟩
      all_goals intro vs W hS hp hx KO hKO
      all_goals simp only [Act.put, sA, sZ, sS] at hKO
      ·have fc0 := hS.2.1.cell0; have fc1 := hS.2.1.cell1; have fc2 := hS.2.1.cell2; go_simp; exact hKO _ W (.refl W) rfl
      ·go_simp; exact hKO _ W (.refl W) rfl
      ·have e0 := isOf hp.1; have e1 := isOf hp.2.1; simp only [e0, e1] at hKO; go_simp
       refine (Try.refNearNo (hS.2.2.2.1) kk HK.out).mono ?_
       rintro e W1 ⟨v, rfl, hv, hE⟩
       exact hKO _ W1 hE ⟨_, rfl, hv⟩
      ·have q2 := hp.1
       obtain ⟨u, ev, hu⟩ := q2
       replace ev : vs 2 = _ := ev; simp only [ev] at hKO; go_simp; exact hKO _ W (Ext.refl W) ⟨u, rfl, hu⟩
      ·have q3 := hp.1
       obtain ⟨u, ev, hu⟩ := q3
       replace ev : vs 3 = _ := ev; simp only [ev] at hKO; go_simp; exact hKO _ W (Ext.refl W) hu
      ·have q3 := hp.1
       obtain ⟨u, ev, hu⟩ := q3
       replace ev : vs 3 = _ := ev; simp only [ev] at hKO; go_simp; exact hKO _ W (.refl W) rfl
      ·have hn := Bx2.new W 25 (.bool false) (.slice none 0 0)
       have hE := Ext.alloc1 W (.cells #[.bool false, .slice none 0 0] 25)
       have hsz := hS.2.2.2.2.2.2.2.2.2.2.2.2.2.2.2
       go_simp
       exact hKO _ _ hE ⟨_, rfl, hsz, hn.form⟩
      ·have q6 := hp.1; have q4 := hp.2.1
       obtain ⟨g, ev, hg, hf⟩ := q6
       replace ev : vs 6 = _ := ev
       obtain ⟨x0_0, x0_1, hx, hno⟩ := hf.bx2
       have qr := q4
       obtain ⟨b3, a3, n3, c3, er, -, -⟩ := qr
       replace er : vs 4 = _ := er
       have r0 := hx.froz0
       have t0 := hx.cell0
       have r1 := hx.froz1
       have t1 := hx.cell1
       have hw := Wr.set2 hx hno b3 a3 n3 c3
       have hq := hx.set (.bool b3) (.slice a3 n3 c3)
       simp only [ev, er] at hKO; go_simp
       exact hKO _ _ hw ⟨(Ext.wr hS.1 hw (by omega)), (hS.2.1.wr hw (by omega)), (hS.2.2.1.wr hw (by omega)), (hS.2.2.2.1.wr hw), (hS.2.2.2.2.1.wr hw), (hS.2.2.2.2.2.1.wr hw), (hS.2.2.2.2.2.2.1.wr hw (by omega)), (hS.2.2.2.2.2.2.2.1.wr hw), (hS.2.2.2.2.2.2.2.2.1.wr hw (by omega)), (hS.2.2.2.2.2.2.2.2.2.1.wr hw), (hS.2.2.2.2.2.2.2.2.2.2.1.wr hw (by omega)), (hS.2.2.2.2.2.2.2.2.2.2.2.1.wr hw), (hS.2.2.2.2.2.2.2.2.2.2.2.2.1.wr hw (by omega)), (hS.2.2.2.2.2.2.2.2.2.2.2.2.2.1.wr hw), (hS.2.2.2.2.2.2.2.2.2.2.2.2.2.2.1.wr hw (by omega)), (Nat.le_trans hS.2.2.2.2.2.2.2.2.2.2.2.2.2.2.2 hw.apart.size)⟩ ⟨g, b3, a3, n3, c3, ev, er, hg, hq⟩
      ·have e5 := isOf hp.1; simp only [e5] at hKO; go_simp; exact hKO _ W (.refl W) rfl
     intro vs W6 hS hp
     clear szw6 E0 p3 p4 hx1 hx2 h1_4 p1_7 h2_4 p2_7 h3_4 p3_7 h4_4 p4_7 h5_4 p5_7
     obtain ⟨E0, p3, p4, hx1, hx2, h1_4, p1_7, h2_4, p2_7, h3_4, p3_7, h4_4, p4_7, h5_4, p5_7, sz6⟩ := hS
     obtain ⟨h6_0, h6_1, h6_2, h6_3, h6_4, h6_5, h6_6, h6_7, h6_8, -⟩ := hp
     obtain ⟨g6_7, b6_7, a6_7, n6_7, c6_7, ev6_7, er6_7, hg6_7, p6_7⟩ := h6_7
     replace ev6_7 : vs 6 = _ := ev6_7; replace er6_7 : vs 4 = _ := er6_7; replace h6_4 := (show Zw W6 (vs 4) 0 from h6_4)
     rw [er6_7] at h6_4
     replace h6_0 : vs 0 = .agg #[.bool b1, .slice a1 n1 c1, .slice d1 m1 o1] := h6_0
     replace h6_1 : vs 1 = .int .i64 kk := h6_1
     replace h6_5 : vs 5 = .int .i64 1 := h6_5
     replace h6_8 : vs 8 = .int .i64 1 := h6_8
     simp only [ev6_7, er6_7, h6_0, h6_1, h6_5, h6_8]
     clear ev6_7 er6_7 h6_0 h6_1 h6_5 h6_8 h6_2 h6_3 h6_6
     obtain ⟨kp3_0, kp3_1, kp3_2⟩ := p3.c3
     obtain ⟨kp4_0, kp4_1⟩ := p4.c2
     obtain ⟨kp1_7_0, kp1_7_1⟩ := p1_7.c2
     obtain ⟨kp2_7_0, kp2_7_1⟩ := p2_7.c2
     obtain ⟨kp3_7_0, kp3_7_1⟩ := p3_7.c2
     obtain ⟨kp4_7_0, kp4_7_1⟩ := p4_7.c2
     obtain ⟨kp5_7_0, kp5_7_1⟩ := p5_7.c2
     obtain ⟨kp6_7_0, kp6_7_1⟩ := p6_7.c2
     go_upto_region 9 with (fail)
     clear kp3_0 kp3_1 kp3_2 kp4_0 kp4_1 kp1_7_0 kp1_7_1 kp2_7_0 kp2_7_1 kp3_7_0 kp3_7_1 kp4_7_0 kp4_7_1 kp5_7_0 kp5_7_1 kp6_7_0 kp6_7_1; have ltp6_7 := p6_7.lt; have szw7 := Ext.size E0
     refine region_gs [.one fun v _ => v = .agg #[.bool b2, .slice a2 n2 c2],
       .one fun v _ => v = .int .i64 kk,
       .one fun v _ => v = .tuple #[.agg #[.bool false, .slice none 0 0, .slice none 0 0], .int .i64 1],
       .one fun v _ => v = .tuple #[.agg #[.bool false, .slice none 0 0, .slice none 0 0], .int .i64 1],
       .one fun v _ => v = .agg #[.bool false, .slice none 0 0, .slice none 0 0],
       .one fun v _ => v = .int .i64 1,
       .one fun v W => ∃ g, v = .pointer (some ⟨g, 0, none⟩) ∧ W6.heap.size ≤ g ∧ Form W g 27 3,
       .two 6 (fun p _ W => New3 W6.heap.size 27 (.bool false) (.slice none 0 0) (.slice none 0 0) p W),
       .one fun v _ => v = .int .i64 1]
      (fun W => Ext w W ∧ Bx3 W w.heap.size 27 (.bool b1) (.slice a1 n1 c1) (.slice d1 m1 o1) ∧ Bx2 W (w.heap.size + 1) 25 (.bool b2) (.slice a2 n2 c2) ∧ Rw W (.agg #[.bool b1, .slice a1 n1 c1, .slice d1 m1 o1]) x ∧ Zw W (.agg #[.bool b2, .slice a2 n2 c2]) z ∧ Zw W (.agg #[.bool b1_7, .slice a1_7 n1_7 c1_7]) 0 ∧ Bx2 W g1_7 25 (.bool b1_7) (.slice a1_7 n1_7 c1_7) ∧ Zw W (.agg #[.bool b2_7, .slice a2_7 n2_7 c2_7]) 0 ∧ Bx2 W g2_7 25 (.bool b2_7) (.slice a2_7 n2_7 c2_7) ∧ Zw W (.agg #[.bool b3_7, .slice a3_7 n3_7 c3_7]) 0 ∧ Bx2 W g3_7 25 (.bool b3_7) (.slice a3_7 n3_7 c3_7) ∧ Zw W (.agg #[.bool b4_7, .slice a4_7 n4_7 c4_7]) 0 ∧ Bx2 W g4_7 25 (.bool b4_7) (.slice a4_7 n4_7 c4_7) ∧ Zw W (.agg #[.bool b5_7, .slice a5_7 n5_7 c5_7]) 0 ∧ Bx2 W g5_7 25 (.bool b5_7) (.slice a5_7 n5_7 c5_7) ∧ Zw W (.agg #[.bool b6_7, .slice a6_7 n6_7 c6_7]) 0 ∧ Bx2 W g6_7 25 (.bool b6_7) (.slice a6_7 n6_7 c6_7) ∧ W6.heap.size ≤ W.heap.size) ⟨Good.is _, Good.is _, Good.is _, Good.is _, Good.is _, Good.is _, Good.box _ _ _, cert_new3, Good.is _, trivial⟩
      ⟨E0, p3, p4, hx1, hx2, h1_4, p1_7, h2_4, p2_7, h3_4, p3_7, h4_4, p4_7, h5_4, p5_7, h6_4, p6_7, Nat.le_refl _⟩ (A := ?A7) ?hA7 ?howe7 ?hfin7
     case hA7 =>
      intro vs
      simp only [putAll, Act.put, sA, sZ, sS, Nat.zero_add, Nat.reduceAdd]
      exact rfl
     case howe7 =>
      clear E0 p3 p4 hx1 hx2 h1_4 p1_7 h2_4 p2_7 h3_4 p3_7 h4_4 p4_7 h5_4 p5_7 h6_4 p6_7
      intro hf
      refine ⟨oE 0 [] hf rfl ?_, oE 1 [] hf rfl ?_, oE 2 [0, 1] hf rfl ?_, oE 3 [2] hf rfl ?_, oE 4 [3] hf rfl ?_, oE 5 [3] hf rfl ?_, oE 6 [] hf rfl ?_, oW 7 [6, 4] hf rfl ?_, oE 8 [5] hf rfl ?_, trivial⟩
      all_goals intro vs W hS hp hx KO hKO
      all_goals simp only [Act.put, sA, sZ, sS] at hKO
      ·have fc0 := hS.2.2.1.cell0; have fc1 := hS.2.2.1.cell1; go_simp; exact hKO _ W (.refl W) rfl
      ·go_simp; exact hKO _ W (.refl W) rfl
      ·have e0 := isOf hp.1; have e1 := isOf hp.2.1; simp only [e0, e1] at hKO; go_simp
       refine (Try.dyadBackNo (hS.2.2.2.2.1) kk HK.out).mono ?_
       rintro e W1 ⟨rfl, hE⟩
       exact hKO _ W1 hE rfl
      ·have e2 := isOf hp.1; simp only [e2] at hKO; go_simp; exact hKO _ W (.refl W) rfl
      ·have e3 := isOf hp.1; simp only [e3] at hKO; go_simp; exact hKO _ W (.refl W) rfl
      ·have e3 := isOf hp.1; simp only [e3] at hKO; go_simp; exact hKO _ W (.refl W) rfl
      ·have hn := Bx3.new W 27 (.bool false) (.slice none 0 0) (.slice none 0 0)
       have hE := Ext.alloc1 W (.cells #[.bool false, .slice none 0 0, .slice none 0 0] 27)
       have hsz := hS.2.2.2.2.2.2.2.2.2.2.2.2.2.2.2.2.2
       go_simp
       exact hKO _ _ hE ⟨_, rfl, hsz, hn.form⟩
      ·have q6 := hp.1; have e4 := isOf hp.2.1; simp only [e4] at hKO
       obtain ⟨g, ev, hg, hf⟩ := q6
       replace ev : vs 6 = _ := ev
       obtain ⟨x0_0, x0_1, x0_2, hx, hno⟩ := hf.bx3
       have r0 := hx.froz0
       have t0 := hx.cell0
       have r1 := hx.froz1
       have t1 := hx.cell1
       have r2 := hx.froz2
       have t2 := hx.cell2
       have hw := Wr.set3 hx hno false none 0 0 none 0 0
       have hq := hx.set (.bool false) (.slice none 0 0) (.slice none 0 0)
       simp only [ev] at hKO; go_simp
       exact hKO _ _ hw ⟨(Ext.wr hS.1 hw (by omega)), (hS.2.1.wr hw (by omega)), (hS.2.2.1.wr hw (by omega)), (hS.2.2.2.1.wr hw), (hS.2.2.2.2.1.wr hw), (hS.2.2.2.2.2.1.wr hw), (hS.2.2.2.2.2.2.1.wr hw (by omega)), (hS.2.2.2.2.2.2.2.1.wr hw), (hS.2.2.2.2.2.2.2.2.1.wr hw (by omega)), (hS.2.2.2.2.2.2.2.2.2.1.wr hw), (hS.2.2.2.2.2.2.2.2.2.2.1.wr hw (by omega)), (hS.2.2.2.2.2.2.2.2.2.2.2.1.wr hw), (hS.2.2.2.2.2.2.2.2.2.2.2.2.1.wr hw (by omega)), (hS.2.2.2.2.2.2.2.2.2.2.2.2.2.1.wr hw), (hS.2.2.2.2.2.2.2.2.2.2.2.2.2.2.1.wr hw (by omega)), (hS.2.2.2.2.2.2.2.2.2.2.2.2.2.2.2.1.wr hw), (hS.2.2.2.2.2.2.2.2.2.2.2.2.2.2.2.2.1.wr hw (by omega)), (Nat.le_trans hS.2.2.2.2.2.2.2.2.2.2.2.2.2.2.2.2.2 hw.apart.size)⟩ ⟨g, ev, hg, hq⟩
      ·have e5 := isOf hp.1; simp only [e5] at hKO; go_simp; exact hKO _ W (.refl W) rfl
     intro vs W7 hS hp
     clear szw7 E0 p3 p4 hx1 hx2 h1_4 p1_7 h2_4 p2_7 h3_4 p3_7 h4_4 p4_7 h5_4 p5_7 h6_4 p6_7
     obtain ⟨E0, p3, p4, hx1, hx2, h1_4, p1_7, h2_4, p2_7, h3_4, p3_7, h4_4, p4_7, h5_4, p5_7, h6_4, p6_7, sz7⟩ := hS
     obtain ⟨h7_0, h7_1, h7_2, h7_3, h7_4, h7_5, h7_6, h7_7, h7_8, -⟩ := hp
     obtain ⟨g7_7, ev7_7, hg7_7, p7_7⟩ := h7_7
     replace ev7_7 : vs 6 = _ := ev7_7
     replace h7_0 : vs 0 = .agg #[.bool b2, .slice a2 n2 c2] := h7_0
     replace h7_1 : vs 1 = .int .i64 kk := h7_1
     replace h7_2 : vs 2 = .tuple #[.agg #[.bool false, .slice none 0 0, .slice none 0 0], .int .i64 1] := h7_2
     replace h7_3 : vs 3 = .tuple #[.agg #[.bool false, .slice none 0 0, .slice none 0 0], .int .i64 1] := h7_3
     replace h7_4 : vs 4 = .agg #[.bool false, .slice none 0 0, .slice none 0 0] := h7_4
     replace h7_5 : vs 5 = .int .i64 1 := h7_5
     replace h7_8 : vs 8 = .int .i64 1 := h7_8
     simp only [ev7_7, h7_0, h7_1, h7_2, h7_3, h7_4, h7_5, h7_8]
     clear ev7_7 h7_0 h7_1 h7_2 h7_3 h7_4 h7_5 h7_8 h7_6
     obtain ⟨kp3_0, kp3_1, kp3_2⟩ := p3.c3
     obtain ⟨kp4_0, kp4_1⟩ := p4.c2
     obtain ⟨kp1_7_0, kp1_7_1⟩ := p1_7.c2
     obtain ⟨kp2_7_0, kp2_7_1⟩ := p2_7.c2
     obtain ⟨kp3_7_0, kp3_7_1⟩ := p3_7.c2
     obtain ⟨kp4_7_0, kp4_7_1⟩ := p4_7.c2
     obtain ⟨kp5_7_0, kp5_7_1⟩ := p5_7.c2
     obtain ⟨kp6_7_0, kp6_7_1⟩ := p6_7.c2
     obtain ⟨kp7_7_0, kp7_7_1, kp7_7_2⟩ := p7_7.c3
     go_upto_region 10 with (fail)
     clear kp3_0 kp3_1 kp3_2 kp4_0 kp4_1 kp1_7_0 kp1_7_1 kp2_7_0 kp2_7_1 kp3_7_0 kp3_7_1 kp4_7_0 kp4_7_1 kp5_7_0 kp5_7_1 kp6_7_0 kp6_7_1 kp7_7_0 kp7_7_1 kp7_7_2; have ltp7_7 := p7_7.lt; have szw8 := Ext.size E0
     refine region_gs [.one fun v _ => v = .agg #[.bool b2, .slice a2 n2 c2],
       .one fun v _ => v = .int .i64 kk,
       .one fun v _ => v = .tuple #[.agg #[.bool false, .slice none 0 0, .slice none 0 0], .int .i64 1],
       .one fun v _ => v = .tuple #[.agg #[.bool false, .slice none 0 0, .slice none 0 0], .int .i64 1],
       .one fun v _ => v = .agg #[.bool false, .slice none 0 0, .slice none 0 0],
       .one fun v _ => v = .int .i64 1,
       .one fun v W => ∃ g, v = .pointer (some ⟨g, 0, none⟩) ∧ W7.heap.size ≤ g ∧ Form W g 27 3,
       .two 6 (fun p _ W => New3 W7.heap.size 27 (.bool false) (.slice none 0 0) (.slice none 0 0) p W),
       .one fun v _ => v = .int .i64 1]
      (fun W => Ext w W ∧ Bx3 W w.heap.size 27 (.bool b1) (.slice a1 n1 c1) (.slice d1 m1 o1) ∧ Bx2 W (w.heap.size + 1) 25 (.bool b2) (.slice a2 n2 c2) ∧ Rw W (.agg #[.bool b1, .slice a1 n1 c1, .slice d1 m1 o1]) x ∧ Zw W (.agg #[.bool b2, .slice a2 n2 c2]) z ∧ Zw W (.agg #[.bool b1_7, .slice a1_7 n1_7 c1_7]) 0 ∧ Bx2 W g1_7 25 (.bool b1_7) (.slice a1_7 n1_7 c1_7) ∧ Zw W (.agg #[.bool b2_7, .slice a2_7 n2_7 c2_7]) 0 ∧ Bx2 W g2_7 25 (.bool b2_7) (.slice a2_7 n2_7 c2_7) ∧ Zw W (.agg #[.bool b3_7, .slice a3_7 n3_7 c3_7]) 0 ∧ Bx2 W g3_7 25 (.bool b3_7) (.slice a3_7 n3_7 c3_7) ∧ Zw W (.agg #[.bool b4_7, .slice a4_7 n4_7 c4_7]) 0 ∧ Bx2 W g4_7 25 (.bool b4_7) (.slice a4_7 n4_7 c4_7) ∧ Zw W (.agg #[.bool b5_7, .slice a5_7 n5_7 c5_7]) 0 ∧ Bx2 W g5_7 25 (.bool b5_7) (.slice a5_7 n5_7 c5_7) ∧ Zw W (.agg #[.bool b6_7, .slice a6_7 n6_7 c6_7]) 0 ∧ Bx2 W g6_7 25 (.bool b6_7) (.slice a6_7 n6_7 c6_7) ∧ Bx3 W g7_7 27 (.bool false) (.slice none 0 0) (.slice none 0 0) ∧ W7.heap.size ≤ W.heap.size) ⟨Good.is _, Good.is _, Good.is _, Good.is _, Good.is _, Good.is _, Good.box _ _ _, cert_new3, Good.is _, trivial⟩
      ⟨E0, p3, p4, hx1, hx2, h1_4, p1_7, h2_4, p2_7, h3_4, p3_7, h4_4, p4_7, h5_4, p5_7, h6_4, p6_7, p7_7, Nat.le_refl _⟩ (A := ?A8) ?hA8 ?howe8 ?hfin8
     case hA8 =>
      intro vs
      simp only [putAll, Act.put, sA, sZ, sS, Nat.zero_add, Nat.reduceAdd]
      exact rfl
     case howe8 =>
      clear E0 p3 p4 hx1 hx2 h1_4 p1_7 h2_4 p2_7 h3_4 p3_7 h4_4 p4_7 h5_4 p5_7 h6_4 p6_7 p7_7
      intro hf
      refine ⟨oE 0 [] hf rfl ?_, oE 1 [] hf rfl ?_, oE 2 [0, 1] hf rfl ?_, oE 3 [2] hf rfl ?_, oE 4 [3] hf rfl ?_, oE 5 [3] hf rfl ?_, oE 6 [] hf rfl ?_, oW 7 [6, 4] hf rfl ?_, oE 8 [5] hf rfl ?_, trivial⟩
      all_goals intro vs W hS hp hx KO hKO
      all_goals simp only [Act.put, sA, sZ, sS] at hKO
      ·have fc0 := hS.2.2.1.cell0; have fc1 := hS.2.2.1.cell1; go_simp; exact hKO _ W (.refl W) rfl
      ·go_simp; exact hKO _ W (.refl W) rfl
      ·have e0 := isOf hp.1; have e1 := isOf hp.2.1; simp only [e0, e1] at hKO; go_simp
       refine (Try.refBackNo (hS.2.2.2.2.1) kk HK.out).mono ?_
       rintro e W1 ⟨rfl, hE⟩
       exact hKO _ W1 hE rfl
      ·have e2 := isOf hp.1; simp only [e2] at hKO; go_simp; exact hKO _ W (.refl W) rfl
      ·have e3 := isOf hp.1; simp only [e3] at hKO; go_simp; exact hKO _ W (.refl W) rfl
      ·have e3 := isOf hp.1; simp only [e3] at hKO; go_simp; exact hKO _ W (.refl W) rfl
      ·have hn := Bx3.new W 27 (.bool false) (.slice none 0 0) (.slice none 0 0)
       have hE := Ext.alloc1 W (.cells #[.bool false, .slice none 0 0, .slice none 0 0] 27)
       have hsz := hS.2.2.2.2.2.2.2.2.2.2.2.2.2.2.2.2.2.2
       go_simp
       exact hKO _ _ hE ⟨_, rfl, hsz, hn.form⟩
      ·have q6 := hp.1; have e4 := isOf hp.2.1; simp only [e4] at hKO
       obtain ⟨g, ev, hg, hf⟩ := q6
       replace ev : vs 6 = _ := ev
       obtain ⟨x0_0, x0_1, x0_2, hx, hno⟩ := hf.bx3
       have r0 := hx.froz0
       have t0 := hx.cell0
       have r1 := hx.froz1
       have t1 := hx.cell1
       have r2 := hx.froz2
       have t2 := hx.cell2
       have hw := Wr.set3 hx hno false none 0 0 none 0 0
       have hq := hx.set (.bool false) (.slice none 0 0) (.slice none 0 0)
       simp only [ev] at hKO; go_simp
       exact hKO _ _ hw ⟨(Ext.wr hS.1 hw (by omega)), (hS.2.1.wr hw (by omega)), (hS.2.2.1.wr hw (by omega)), (hS.2.2.2.1.wr hw), (hS.2.2.2.2.1.wr hw), (hS.2.2.2.2.2.1.wr hw), (hS.2.2.2.2.2.2.1.wr hw (by omega)), (hS.2.2.2.2.2.2.2.1.wr hw), (hS.2.2.2.2.2.2.2.2.1.wr hw (by omega)), (hS.2.2.2.2.2.2.2.2.2.1.wr hw), (hS.2.2.2.2.2.2.2.2.2.2.1.wr hw (by omega)), (hS.2.2.2.2.2.2.2.2.2.2.2.1.wr hw), (hS.2.2.2.2.2.2.2.2.2.2.2.2.1.wr hw (by omega)), (hS.2.2.2.2.2.2.2.2.2.2.2.2.2.1.wr hw), (hS.2.2.2.2.2.2.2.2.2.2.2.2.2.2.1.wr hw (by omega)), (hS.2.2.2.2.2.2.2.2.2.2.2.2.2.2.2.1.wr hw), (hS.2.2.2.2.2.2.2.2.2.2.2.2.2.2.2.2.1.wr hw (by omega)), (hS.2.2.2.2.2.2.2.2.2.2.2.2.2.2.2.2.2.1.wr hw (by omega)), (Nat.le_trans hS.2.2.2.2.2.2.2.2.2.2.2.2.2.2.2.2.2.2 hw.apart.size)⟩ ⟨g, ev, hg, hq⟩
      ·have e5 := isOf hp.1; simp only [e5] at hKO; go_simp; exact hKO _ W (.refl W) rfl
     intro vs W8 hS hp
     clear szw8 E0 p3 p4 hx1 hx2 h1_4 p1_7 h2_4 p2_7 h3_4 p3_7 h4_4 p4_7 h5_4 p5_7 h6_4 p6_7 p7_7
     obtain ⟨E0, p3, p4, hx1, hx2, h1_4, p1_7, h2_4, p2_7, h3_4, p3_7, h4_4, p4_7, h5_4, p5_7, h6_4, p6_7, p7_7, sz8⟩ := hS
     obtain ⟨h8_0, h8_1, h8_2, h8_3, h8_4, h8_5, h8_6, h8_7, h8_8, -⟩ := hp
     obtain ⟨g8_7, ev8_7, hg8_7, p8_7⟩ := h8_7
     replace ev8_7 : vs 6 = _ := ev8_7
     replace h8_0 : vs 0 = .agg #[.bool b2, .slice a2 n2 c2] := h8_0
     replace h8_1 : vs 1 = .int .i64 kk := h8_1
     replace h8_2 : vs 2 = .tuple #[.agg #[.bool false, .slice none 0 0, .slice none 0 0], .int .i64 1] := h8_2
     replace h8_3 : vs 3 = .tuple #[.agg #[.bool false, .slice none 0 0, .slice none 0 0], .int .i64 1] := h8_3
     replace h8_4 : vs 4 = .agg #[.bool false, .slice none 0 0, .slice none 0 0] := h8_4
     replace h8_5 : vs 5 = .int .i64 1 := h8_5
     replace h8_8 : vs 8 = .int .i64 1 := h8_8
     simp only [ev8_7, h8_0, h8_1, h8_2, h8_3, h8_4, h8_5, h8_8]
     clear ev8_7 h8_0 h8_1 h8_2 h8_3 h8_4 h8_5 h8_8 h8_6
     obtain ⟨kp3_0, kp3_1, kp3_2⟩ := p3.c3
     obtain ⟨kp4_0, kp4_1⟩ := p4.c2
     obtain ⟨kp1_7_0, kp1_7_1⟩ := p1_7.c2
     obtain ⟨kp2_7_0, kp2_7_1⟩ := p2_7.c2
     obtain ⟨kp3_7_0, kp3_7_1⟩ := p3_7.c2
     obtain ⟨kp4_7_0, kp4_7_1⟩ := p4_7.c2
     obtain ⟨kp5_7_0, kp5_7_1⟩ := p5_7.c2
     obtain ⟨kp6_7_0, kp6_7_1⟩ := p6_7.c2
     obtain ⟨kp7_7_0, kp7_7_1, kp7_7_2⟩ := p7_7.c3
     obtain ⟨kp8_7_0, kp8_7_1, kp8_7_2⟩ := p8_7.c3
     go_upto_region 11 with (fail)
     clear kp3_0 kp3_1 kp3_2 kp4_0 kp4_1 kp1_7_0 kp1_7_1 kp2_7_0 kp2_7_1 kp3_7_0 kp3_7_1 kp4_7_0 kp4_7_1 kp5_7_0 kp5_7_1 kp6_7_0 kp6_7_1 kp7_7_0 kp7_7_1 kp7_7_2 kp8_7_0 kp8_7_1 kp8_7_2; have ltp8_7 := p8_7.lt; have szw9 := Ext.size E0
     refine region_gs [.one fun v _ => v = .agg #[.bool b1_7, .slice a1_7 n1_7 c1_7],
       .one fun v _ => v = .agg #[.bool b2_7, .slice a2_7 n2_7 c2_7],
       .one fun v _ => v = .bool true,
       .one fun v _ => v = .bool true,
       .one fun v _ => v = .int .i64 1,
       .one fun v _ => v = .int .i64 1,
       .one fun v _ => v = .bool true,
       .one fun v _ => v = .bool true,
       .one fun v _ => v = .bool true,
       .one fun v _ => v = .agg #[.bool b3_7, .slice a3_7 n3_7 c3_7],
       .one fun v _ => v = .agg #[.bool b4_7, .slice a4_7 n4_7 c4_7],
       .one fun v _ => v = .bool true,
       .one fun v _ => v = .bool true,
       .one fun v _ => v = .bool true,
       .one fun v _ => v = .int .i64 1,
       .one fun v _ => v = .int .i64 1,
       .one fun v _ => v = .bool true,
       .one fun v _ => v = .bool true,
       .one fun v _ => v = .bool true]
      (fun W => Ext w W ∧ Bx3 W w.heap.size 27 (.bool b1) (.slice a1 n1 c1) (.slice d1 m1 o1) ∧ Bx2 W (w.heap.size + 1) 25 (.bool b2) (.slice a2 n2 c2) ∧ Rw W (.agg #[.bool b1, .slice a1 n1 c1, .slice d1 m1 o1]) x ∧ Zw W (.agg #[.bool b2, .slice a2 n2 c2]) z ∧ Zw W (.agg #[.bool b1_7, .slice a1_7 n1_7 c1_7]) 0 ∧ Bx2 W g1_7 25 (.bool b1_7) (.slice a1_7 n1_7 c1_7) ∧ Zw W (.agg #[.bool b2_7, .slice a2_7 n2_7 c2_7]) 0 ∧ Bx2 W g2_7 25 (.bool b2_7) (.slice a2_7 n2_7 c2_7) ∧ Zw W (.agg #[.bool b3_7, .slice a3_7 n3_7 c3_7]) 0 ∧ Bx2 W g3_7 25 (.bool b3_7) (.slice a3_7 n3_7 c3_7) ∧ Zw W (.agg #[.bool b4_7, .slice a4_7 n4_7 c4_7]) 0 ∧ Bx2 W g4_7 25 (.bool b4_7) (.slice a4_7 n4_7 c4_7) ∧ Zw W (.agg #[.bool b5_7, .slice a5_7 n5_7 c5_7]) 0 ∧ Bx2 W g5_7 25 (.bool b5_7) (.slice a5_7 n5_7 c5_7) ∧ Zw W (.agg #[.bool b6_7, .slice a6_7 n6_7 c6_7]) 0 ∧ Bx2 W g6_7 25 (.bool b6_7) (.slice a6_7 n6_7 c6_7) ∧ Bx3 W g7_7 27 (.bool false) (.slice none 0 0) (.slice none 0 0) ∧ Bx3 W g8_7 27 (.bool false) (.slice none 0 0) (.slice none 0 0) ∧ W8.heap.size ≤ W.heap.size) ⟨Good.is _, Good.is _, Good.is _, Good.is _, Good.is _, Good.is _, Good.is _, Good.is _, Good.is _, Good.is _, Good.is _, Good.is _, Good.is _, Good.is _, Good.is _, Good.is _, Good.is _, Good.is _, Good.is _, trivial⟩
      ⟨E0, p3, p4, hx1, hx2, h1_4, p1_7, h2_4, p2_7, h3_4, p3_7, h4_4, p4_7, h5_4, p5_7, h6_4, p6_7, p7_7, p8_7, Nat.le_refl _⟩ (A := ?A9) ?hA9 ?howe9 ?hfin9
     case hA9 =>
      intro vs
      simp only [putAll, Act.put, sA, sZ, sS, Nat.zero_add, Nat.reduceAdd]
      exact rfl
     case howe9 =>
      clear E0 p3 p4 hx1 hx2 h1_4 p1_7 h2_4 p2_7 h3_4 p3_7 h4_4 p4_7 h5_4 p5_7 h6_4 p6_7 p7_7 p8_7
      intro hf
      refine ⟨oE 0 [] hf rfl ?_, oE 1 [] hf rfl ?_, oE 2 [0, 1] hf rfl ?_, oE 3 [2] hf rfl ?_, oE 4 [3] hf rfl ?_, oE 5 [3] hf rfl ?_, oE 6 [3, 4, 5] hf rfl ?_, oE 7 [3, 6] hf rfl ?_, oE 8 [7] hf rfl ?_, oE 9 [8] hf rfl ?_, oE 10 [8] hf rfl ?_, oE 11 [8, 9, 10] hf rfl ?_, oE 12 [8, 11] hf rfl ?_, oE 13 [12] hf rfl ?_, oE 14 [13] hf rfl ?_, oE 15 [13] hf rfl ?_, oE 16 [13, 14, 15] hf rfl ?_, oE 17 [13, 16] hf rfl ?_, oE 18 [17] hf rfl ?_, trivial⟩
      all_goals intro vs W hS hp hx KO hKO
      all_goals simp only [Act.put, sA, sZ, sS] at hKO
      ·have fc0 := hS.2.2.2.2.2.2.1.cell0; have fc1 := hS.2.2.2.2.2.2.1.cell1; go_simp; exact hKO _ W (.refl W) rfl
      ·have fc0 := hS.2.2.2.2.2.2.2.2.1.cell0; have fc1 := hS.2.2.2.2.2.2.2.2.1.cell1; go_simp; exact hKO _ W (.refl W) rfl
      ·have e0 := isOf hp.1; have e1 := isOf hp.2.1; simp only [e0, e1] at hKO; go_simp
       refine (Try.refZSameD (hS.2.2.2.2.2.1) (hS.2.2.2.2.2.2.2.1) rfl).mono ?_
       rintro e W1 ⟨rfl, hE⟩
       exact hKO _ W1 hE rfl
      ·have e2 := isOf hp.1; simp only [e2] at hKO; go_simp; exact hKO _ W (.refl W) rfl
      ·have e3 := isOf hp.1; simp only [e3] at hKO; go_simp; exact hKO _ W (.refl W) rfl
      ·have e3 := isOf hp.1; simp only [e3] at hKO; go_simp; exact hKO _ W (.refl W) rfl
      ·have e3 := isOf hp.1; have e4 := isOf hp.2.1; have e5 := isOf hp.2.2.1; simp only [e3, e4, e5] at hKO; go_simp; exact hKO _ W (.refl W) rfl
      ·have e3 := isOf hp.1; have e6 := isOf hp.2.1; simp only [e3, e6] at hKO; go_simp; exact hKO _ W (.refl W) rfl
      ·have e7 := isOf hp.1; simp only [e7] at hKO; go_simp; exact hKO _ W (.refl W) rfl
      ·have e8 := isOf hp.1; simp only [e8] at hKO; have fc0 := hS.2.2.2.2.2.2.2.2.2.2.1.cell0; have fc1 := hS.2.2.2.2.2.2.2.2.2.2.1.cell1; go_simp; exact hKO _ W (.refl W) rfl
      ·have e8 := isOf hp.1; simp only [e8] at hKO; have fc0 := hS.2.2.2.2.2.2.2.2.2.2.2.2.1.cell0; have fc1 := hS.2.2.2.2.2.2.2.2.2.2.2.2.1.cell1; go_simp; exact hKO _ W (.refl W) rfl
      ·have e8 := isOf hp.1; have e9 := isOf hp.2.1; have e10 := isOf hp.2.2.1; simp only [e8, e9, e10] at hKO; go_simp
       refine (Try.refZSameD (hS.2.2.2.2.2.2.2.2.2.1) (hS.2.2.2.2.2.2.2.2.2.2.2.1) rfl).mono ?_
       rintro e W1 ⟨rfl, hE⟩
       exact hKO _ W1 hE rfl
      ·have e8 := isOf hp.1; have e11 := isOf hp.2.1; simp only [e8, e11] at hKO; go_simp; exact hKO _ W (.refl W) rfl
      ·have e12 := isOf hp.1; simp only [e12] at hKO; go_simp; exact hKO _ W (.refl W) rfl
      ·have e13 := isOf hp.1; simp only [e13] at hKO; go_simp; exact hKO _ W (.refl W) rfl
      ·have e13 := isOf hp.1; simp only [e13] at hKO; go_simp; exact hKO _ W (.refl W) rfl
      ·have e13 := isOf hp.1; have e14 := isOf hp.2.1; have e15 := isOf hp.2.2.1; simp only [e13, e14, e15] at hKO; go_simp; exact hKO _ W (.refl W) rfl
      ·have e13 := isOf hp.1; have e16 := isOf hp.2.1; simp only [e13, e16] at hKO; go_simp; exact hKO _ W (.refl W) rfl
      ·have e17 := isOf hp.1; simp only [e17] at hKO; go_simp; exact hKO _ W (.refl W) rfl
     intro vs W9 hS hp
     clear szw9 E0 p3 p4 hx1 hx2 h1_4 p1_7 h2_4 p2_7 h3_4 p3_7 h4_4 p4_7 h5_4 p5_7 h6_4 p6_7 p7_7 p8_7
     obtain ⟨E0, p3, p4, hx1, hx2, h1_4, p1_7, h2_4, p2_7, h3_4, p3_7, h4_4, p4_7, h5_4, p5_7, h6_4, p6_7, p7_7, p8_7, sz9⟩ := hS
     obtain ⟨h9_0, h9_1, h9_2, h9_3, h9_4, h9_5, h9_6, h9_7, h9_8, h9_9, h9_10, h9_11, h9_12, h9_13, h9_14, h9_15, h9_16, h9_17, h9_18, -⟩ := hp
     replace h9_0 : vs 0 = .agg #[.bool b1_7, .slice a1_7 n1_7 c1_7] := h9_0
     replace h9_1 : vs 1 = .agg #[.bool b2_7, .slice a2_7 n2_7 c2_7] := h9_1
     replace h9_2 : vs 2 = .bool true := h9_2
     replace h9_3 : vs 3 = .bool true := h9_3
     replace h9_4 : vs 4 = .int .i64 1 := h9_4
     replace h9_5 : vs 5 = .int .i64 1 := h9_5
     replace h9_6 : vs 6 = .bool true := h9_6
     replace h9_7 : vs 7 = .bool true := h9_7
     replace h9_8 : vs 8 = .bool true := h9_8
     replace h9_9 : vs 9 = .agg #[.bool b3_7, .slice a3_7 n3_7 c3_7] := h9_9
     replace h9_10 : vs 10 = .agg #[.bool b4_7, .slice a4_7 n4_7 c4_7] := h9_10
     replace h9_11 : vs 11 = .bool true := h9_11
     replace h9_12 : vs 12 = .bool true := h9_12
     replace h9_13 : vs 13 = .bool true := h9_13
     replace h9_14 : vs 14 = .int .i64 1 := h9_14
     replace h9_15 : vs 15 = .int .i64 1 := h9_15
     replace h9_16 : vs 16 = .bool true := h9_16
     replace h9_17 : vs 17 = .bool true := h9_17
     replace h9_18 : vs 18 = .bool true := h9_18
     simp only [h9_0, h9_1, h9_2, h9_3, h9_4, h9_5, h9_6, h9_7, h9_8, h9_9, h9_10, h9_11, h9_12, h9_13, h9_14, h9_15, h9_16, h9_17, h9_18]
     clear h9_0 h9_1 h9_2 h9_3 h9_4 h9_5 h9_6 h9_7 h9_8 h9_9 h9_10 h9_11 h9_12 h9_13 h9_14 h9_15 h9_16 h9_17 h9_18
     obtain ⟨kp3_0, kp3_1, kp3_2⟩ := p3.c3
     obtain ⟨kp4_0, kp4_1⟩ := p4.c2
     obtain ⟨kp1_7_0, kp1_7_1⟩ := p1_7.c2
     obtain ⟨kp2_7_0, kp2_7_1⟩ := p2_7.c2
     obtain ⟨kp3_7_0, kp3_7_1⟩ := p3_7.c2
     obtain ⟨kp4_7_0, kp4_7_1⟩ := p4_7.c2
     obtain ⟨kp5_7_0, kp5_7_1⟩ := p5_7.c2
     obtain ⟨kp6_7_0, kp6_7_1⟩ := p6_7.c2
     obtain ⟨kp7_7_0, kp7_7_1, kp7_7_2⟩ := p7_7.c3
     obtain ⟨kp8_7_0, kp8_7_1, kp8_7_2⟩ := p8_7.c3
     go_upto_region 12 with (fail)
     clear kp3_0 kp3_1 kp3_2 kp4_0 kp4_1 kp1_7_0 kp1_7_1 kp2_7_0 kp2_7_1 kp3_7_0 kp3_7_1 kp4_7_0 kp4_7_1 kp5_7_0 kp5_7_1 kp6_7_0 kp6_7_1 kp7_7_0 kp7_7_1 kp7_7_2 kp8_7_0 kp8_7_1 kp8_7_2; have szw10 := Ext.size E0
     refine region_gs [.one fun v _ => v = .bool true,
       .one fun v _ => v = .bool true,
       .one fun v _ => v = .bool true,
       .one fun v _ => v = .bool true,
       .one fun v _ => v = .bool true,
       .one fun v _ => v = .agg #[.bool b5_7, .slice a5_7 n5_7 c5_7],
       .one fun v _ => v = .agg #[.bool b6_7, .slice a6_7 n6_7 c6_7],
       .one fun v _ => v = .bool true,
       .one fun v _ => v = .bool true,
       .one fun v _ => v = .bool true,
       .one fun v _ => v = .int .i64 1,
       .one fun v _ => v = .int .i64 1,
       .one fun v _ => v = .bool true,
       .one fun v _ => v = .bool true,
       .one fun v _ => v = .bool true,
       .one fun v _ => v = .agg #[.bool false, .slice none 0 0, .slice none 0 0],
       .one fun v _ => v = .agg #[.bool false, .slice none 0 0, .slice none 0 0],
       .one fun v _ => v = .bool true,
       .one fun v _ => v = .bool true,
       .one fun v _ => v = .bool true,
       .one fun v _ => v = .int .i64 1,
       .one fun v _ => v = .int .i64 1,
       .one fun v _ => v = .bool true,
       .one fun v _ => v = .bool true,
       .one fun v _ => v = .bool true]
      (fun W => Ext w W ∧ Bx3 W w.heap.size 27 (.bool b1) (.slice a1 n1 c1) (.slice d1 m1 o1) ∧ Bx2 W (w.heap.size + 1) 25 (.bool b2) (.slice a2 n2 c2) ∧ Rw W (.agg #[.bool b1, .slice a1 n1 c1, .slice d1 m1 o1]) x ∧ Zw W (.agg #[.bool b2, .slice a2 n2 c2]) z ∧ Zw W (.agg #[.bool b1_7, .slice a1_7 n1_7 c1_7]) 0 ∧ Bx2 W g1_7 25 (.bool b1_7) (.slice a1_7 n1_7 c1_7) ∧ Zw W (.agg #[.bool b2_7, .slice a2_7 n2_7 c2_7]) 0 ∧ Bx2 W g2_7 25 (.bool b2_7) (.slice a2_7 n2_7 c2_7) ∧ Zw W (.agg #[.bool b3_7, .slice a3_7 n3_7 c3_7]) 0 ∧ Bx2 W g3_7 25 (.bool b3_7) (.slice a3_7 n3_7 c3_7) ∧ Zw W (.agg #[.bool b4_7, .slice a4_7 n4_7 c4_7]) 0 ∧ Bx2 W g4_7 25 (.bool b4_7) (.slice a4_7 n4_7 c4_7) ∧ Zw W (.agg #[.bool b5_7, .slice a5_7 n5_7 c5_7]) 0 ∧ Bx2 W g5_7 25 (.bool b5_7) (.slice a5_7 n5_7 c5_7) ∧ Zw W (.agg #[.bool b6_7, .slice a6_7 n6_7 c6_7]) 0 ∧ Bx2 W g6_7 25 (.bool b6_7) (.slice a6_7 n6_7 c6_7) ∧ Bx3 W g7_7 27 (.bool false) (.slice none 0 0) (.slice none 0 0) ∧ Bx3 W g8_7 27 (.bool false) (.slice none 0 0) (.slice none 0 0) ∧ W9.heap.size ≤ W.heap.size) ⟨Good.is _, Good.is _, Good.is _, Good.is _, Good.is _, Good.is _, Good.is _, Good.is _, Good.is _, Good.is _, Good.is _, Good.is _, Good.is _, Good.is _, Good.is _, Good.is _, Good.is _, Good.is _, Good.is _, Good.is _, Good.is _, Good.is _, Good.is _, Good.is _, Good.is _, trivial⟩
      ⟨E0, p3, p4, hx1, hx2, h1_4, p1_7, h2_4, p2_7, h3_4, p3_7, h4_4, p4_7, h5_4, p5_7, h6_4, p6_7, p7_7, p8_7, Nat.le_refl _⟩ (A := ?A10) ?hA10 ?howe10 ?hfin10
     case hA10 =>
      intro vs
      simp only [putAll, Act.put, sA, sZ, sS, Nat.zero_add, Nat.reduceAdd]
      exact rfl
     case howe10 =>
      clear E0 p3 p4 hx1 hx2 h1_4 p1_7 h2_4 p2_7 h3_4 p3_7 h4_4 p4_7 h5_4 p5_7 h6_4 p6_7 p7_7 p8_7
      intro hf
      refine ⟨oE 0 [] hf rfl ?_, oE 1 [0] hf rfl ?_, oE 2 [1] hf rfl ?_, oE 3 [1, 2] hf rfl ?_, oE 4 [3] hf rfl ?_, oE 5 [4] hf rfl ?_, oE 6 [4] hf rfl ?_, oE 7 [4, 5, 6] hf rfl ?_, oE 8 [4, 7] hf rfl ?_, oE 9 [8] hf rfl ?_, oE 10 [9] hf rfl ?_, oE 11 [9] hf rfl ?_, oE 12 [9, 10, 11] hf rfl ?_, oE 13 [9, 12] hf rfl ?_, oE 14 [13] hf rfl ?_, oE 15 [14] hf rfl ?_, oE 16 [14] hf rfl ?_, oE 17 [14, 15, 16] hf rfl ?_, oE 18 [14, 17] hf rfl ?_, oE 19 [18] hf rfl ?_, oE 20 [19] hf rfl ?_, oE 21 [19] hf rfl ?_, oE 22 [19, 20, 21] hf rfl ?_, oE 23 [19, 22] hf rfl ?_, oE 24 [23] hf rfl ?_, trivial⟩
      all_goals intro vs W hS hp hx KO hKO
      all_goals simp only [Act.put, sA, sZ, sS] at hKO
      ·go_simp
       refine (Try.alive06 _).mono ?_
       rintro e W1 ⟨rfl, hE⟩
       exact hKO _ W1 hE rfl
      ·have e0 := isOf hp.1; simp only [e0] at hKO; go_simp; exact hKO _ W (.refl W) rfl
      ·have e1 := isOf hp.1; simp only [e1] at hKO; go_simp; exact hKO _ W (.refl W) rfl
      ·have e1 := isOf hp.1; have e2 := isOf hp.2.1; simp only [e1, e2] at hKO; go_simp; exact hKO _ W (.refl W) rfl
      ·have e3 := isOf hp.1; simp only [e3] at hKO; go_simp; exact hKO _ W (.refl W) rfl
      ·have e4 := isOf hp.1; simp only [e4] at hKO; have fc0 := hS.2.2.2.2.2.2.2.2.2.2.2.2.2.2.1.cell0; have fc1 := hS.2.2.2.2.2.2.2.2.2.2.2.2.2.2.1.cell1; go_simp; exact hKO _ W (.refl W) rfl
      ·have e4 := isOf hp.1; simp only [e4] at hKO; have fc0 := hS.2.2.2.2.2.2.2.2.2.2.2.2.2.2.2.2.1.cell0; have fc1 := hS.2.2.2.2.2.2.2.2.2.2.2.2.2.2.2.2.1.cell1; go_simp; exact hKO _ W (.refl W) rfl
      ·have e4 := isOf hp.1; have e5 := isOf hp.2.1; have e6 := isOf hp.2.2.1; simp only [e4, e5, e6] at hKO; go_simp
       refine (Try.refZSameD (hS.2.2.2.2.2.2.2.2.2.2.2.2.2.1) (hS.2.2.2.2.2.2.2.2.2.2.2.2.2.2.2.1) rfl).mono ?_
       rintro e W1 ⟨rfl, hE⟩
       exact hKO _ W1 hE rfl
      ·have e4 := isOf hp.1; have e7 := isOf hp.2.1; simp only [e4, e7] at hKO; go_simp; exact hKO _ W (.refl W) rfl
      ·have e8 := isOf hp.1; simp only [e8] at hKO; go_simp; exact hKO _ W (.refl W) rfl
      ·have e9 := isOf hp.1; simp only [e9] at hKO; go_simp; exact hKO _ W (.refl W) rfl
      ·have e9 := isOf hp.1; simp only [e9] at hKO; go_simp; exact hKO _ W (.refl W) rfl
      ·have e9 := isOf hp.1; have e10 := isOf hp.2.1; have e11 := isOf hp.2.2.1; simp only [e9, e10, e11] at hKO; go_simp; exact hKO _ W (.refl W) rfl
      ·have e9 := isOf hp.1; have e12 := isOf hp.2.1; simp only [e9, e12] at hKO; go_simp; exact hKO _ W (.refl W) rfl
      ·have e13 := isOf hp.1; simp only [e13] at hKO; go_simp; exact hKO _ W (.refl W) rfl
      ·have e14 := isOf hp.1; simp only [e14] at hKO; have fc0 := hS.2.2.2.2.2.2.2.2.2.2.2.2.2.2.2.2.2.1.cell0; have fc1 := hS.2.2.2.2.2.2.2.2.2.2.2.2.2.2.2.2.2.1.cell1; have fc2 := hS.2.2.2.2.2.2.2.2.2.2.2.2.2.2.2.2.2.1.cell2; go_simp; exact hKO _ W (.refl W) rfl
      ·have e14 := isOf hp.1; simp only [e14] at hKO; have fc0 := hS.2.2.2.2.2.2.2.2.2.2.2.2.2.2.2.2.2.2.1.cell0; have fc1 := hS.2.2.2.2.2.2.2.2.2.2.2.2.2.2.2.2.2.2.1.cell1; have fc2 := hS.2.2.2.2.2.2.2.2.2.2.2.2.2.2.2.2.2.2.1.cell2; go_simp; exact hKO _ W (.refl W) rfl
      ·have e14 := isOf hp.1; have e15 := isOf hp.2.1; have e16 := isOf hp.2.2.1; simp only [e14, e15, e16] at hKO; go_simp
       refine (Try.refRSame0 _).mono ?_
       rintro e W1 ⟨rfl, hE⟩
       exact hKO _ W1 hE rfl
      ·have e14 := isOf hp.1; have e17 := isOf hp.2.1; simp only [e14, e17] at hKO; go_simp; exact hKO _ W (.refl W) rfl
      ·have e18 := isOf hp.1; simp only [e18] at hKO; go_simp; exact hKO _ W (.refl W) rfl
      ·have e19 := isOf hp.1; simp only [e19] at hKO; go_simp; exact hKO _ W (.refl W) rfl
      ·have e19 := isOf hp.1; simp only [e19] at hKO; go_simp; exact hKO _ W (.refl W) rfl
      ·have e19 := isOf hp.1; have e20 := isOf hp.2.1; have e21 := isOf hp.2.2.1; simp only [e19, e20, e21] at hKO; go_simp; exact hKO _ W (.refl W) rfl
      ·have e19 := isOf hp.1; have e22 := isOf hp.2.1; simp only [e19, e22] at hKO; go_simp; exact hKO _ W (.refl W) rfl
      ·have e23 := isOf hp.1; simp only [e23] at hKO; go_simp; exact hKO _ W (.refl W) rfl
     intro vs W10 hS hp
     clear szw10 E0 p3 p4 hx1 hx2 h1_4 p1_7 h2_4 p2_7 h3_4 p3_7 h4_4 p4_7 h5_4 p5_7 h6_4 p6_7 p7_7 p8_7
     obtain ⟨E0, p3, p4, hx1, hx2, h1_4, p1_7, h2_4, p2_7, h3_4, p3_7, h4_4, p4_7, h5_4, p5_7, h6_4, p6_7, p7_7, p8_7, sz10⟩ := hS
     obtain ⟨h10_0, h10_1, h10_2, h10_3, h10_4, h10_5, h10_6, h10_7, h10_8, h10_9, h10_10, h10_11, h10_12, h10_13, h10_14, h10_15, h10_16, h10_17, h10_18, h10_19, h10_20, h10_21, h10_22, h10_23, h10_24, -⟩ := hp
     replace h10_0 : vs 0 = .bool true := h10_0
     replace h10_1 : vs 1 = .bool true := h10_1
     replace h10_2 : vs 2 = .bool true := h10_2
     replace h10_3 : vs 3 = .bool true := h10_3
     replace h10_4 : vs 4 = .bool true := h10_4
     replace h10_5 : vs 5 = .agg #[.bool b5_7, .slice a5_7 n5_7 c5_7] := h10_5
     replace h10_6 : vs 6 = .agg #[.bool b6_7, .slice a6_7 n6_7 c6_7] := h10_6
     replace h10_7 : vs 7 = .bool true := h10_7
     replace h10_8 : vs 8 = .bool true := h10_8
     replace h10_9 : vs 9 = .bool true := h10_9
     replace h10_10 : vs 10 = .int .i64 1 := h10_10
     replace h10_11 : vs 11 = .int .i64 1 := h10_11
     replace h10_12 : vs 12 = .bool true := h10_12
     replace h10_13 : vs 13 = .bool true := h10_13
     replace h10_14 : vs 14 = .bool true := h10_14
     replace h10_15 : vs 15 = .agg #[.bool false, .slice none 0 0, .slice none 0 0] := h10_15
     replace h10_16 : vs 16 = .agg #[.bool false, .slice none 0 0, .slice none 0 0] := h10_16
     replace h10_17 : vs 17 = .bool true := h10_17
     replace h10_18 : vs 18 = .bool true := h10_18
     replace h10_19 : vs 19 = .bool true := h10_19
     replace h10_20 : vs 20 = .int .i64 1 := h10_20
     replace h10_21 : vs 21 = .int .i64 1 := h10_21
     replace h10_22 : vs 22 = .bool true := h10_22
     replace h10_23 : vs 23 = .bool true := h10_23
     replace h10_24 : vs 24 = .bool true := h10_24
     simp only [h10_0, h10_1, h10_2, h10_3, h10_4, h10_5, h10_6, h10_7, h10_8, h10_9, h10_10, h10_11, h10_12, h10_13, h10_14, h10_15, h10_16, h10_17, h10_18, h10_19, h10_20, h10_21, h10_22, h10_23, h10_24]
     clear h10_0 h10_1 h10_2 h10_3 h10_4 h10_5 h10_6 h10_7 h10_8 h10_9 h10_10 h10_11 h10_12 h10_13 h10_14 h10_15 h10_16 h10_17 h10_18 h10_19 h10_20 h10_21 h10_22 h10_23 h10_24
     obtain ⟨kp3_0, kp3_1, kp3_2⟩ := p3.c3
     obtain ⟨kp4_0, kp4_1⟩ := p4.c2
     obtain ⟨kp1_7_0, kp1_7_1⟩ := p1_7.c2
     obtain ⟨kp2_7_0, kp2_7_1⟩ := p2_7.c2
     obtain ⟨kp3_7_0, kp3_7_1⟩ := p3_7.c2
     obtain ⟨kp4_7_0, kp4_7_1⟩ := p4_7.c2
     obtain ⟨kp5_7_0, kp5_7_1⟩ := p5_7.c2
     obtain ⟨kp6_7_0, kp6_7_1⟩ := p6_7.c2
     obtain ⟨kp7_7_0, kp7_7_1, kp7_7_2⟩ := p7_7.c3
     obtain ⟨kp8_7_0, kp8_7_1, kp8_7_2⟩ := p8_7.c3
     go_wp2; go_ret
     exact ⟨rfl, E0⟩
   ·by_cases hk0 : kk < 0
    ·have hk4d := decide_eq_false hk4
     have hkb : kk < 0 ∨ 2000 < kk := by omega
     have HK := Lib.hid hkb
     clear hkb
     obtain ⟨kp3_0, kp3_1, kp3_2⟩ := p3.c3
     obtain ⟨kp4_0, kp4_1⟩ := p4.c2
     go_upto_region 3 with (fail)
     clear kp3_0 kp3_1 kp3_2 kp4_0 kp4_1; have ltp3 := p3.lt; have ltp4 := p4.lt; have szw11 := Ext.size E0
     refine region_gs [.one fun v _ => v = .agg #[.bool b1, .slice a1 n1 c1, .slice d1 m1 o1],
       .one fun v _ => v = .int .i64 kk,
       .one fun v W => ∃ v', v = .tuple #[v', .int .i64 1] ∧ (fun v W => Zw W v 0) v' W,
       .one fun v W => ∃ v', v = .tuple #[v', .int .i64 1] ∧ (fun v W => Zw W v 0) v' W,
       .one fun v W => Zw W v 0,
       .one fun v _ => v = .int .i64 1,
       .one fun v W => ∃ g, v = .pointer (some ⟨g, 0, none⟩) ∧ Wf1.heap.size ≤ g ∧ Form W g 25 2,
       .three 6 4 (fun p r _ W => Put2 Wf1.heap.size 25 p r W),
       .one fun v _ => v = .int .i64 1]
      (fun W => Ext w W ∧ Bx3 W w.heap.size 27 (.bool b1) (.slice a1 n1 c1) (.slice d1 m1 o1) ∧ Bx2 W (w.heap.size + 1) 25 (.bool b2) (.slice a2 n2 c2) ∧ Rw W (.agg #[.bool b1, .slice a1 n1 c1, .slice d1 m1 o1]) x ∧ Zw W (.agg #[.bool b2, .slice a2 n2 c2]) z ∧ Wf1.heap.size ≤ W.heap.size) ⟨Good.is _, Good.is _, (Good.zed _).tup _, (Good.zed _).tup _, Good.zed _, Good.is _, Good.box _ _ _, cert_put2, Good.is _, trivial⟩
      ⟨E0, p3, p4, hx1, hx2, Nat.le_refl _⟩ (A := ?A11) ?hA11 ?howe11 ?hfin11
     case hA11 =>
      intro vs
      simp only [putAll, Act.put, sA, sZ, sS, Nat.zero_add, Nat.reduceAdd]
      exact rfl
     case howe11 =>
      clear E0 p3 p4 hx1 hx2
      intro hf
      refine ⟨oE 0 [] hf rfl ?_, oE 1 [] hf rfl ?_, oE 2 [0, 1] hf rfl ?_, oE 3 [2] hf rfl ?_, oE 4 [3] hf rfl ?_, oE 5 [3] hf rfl ?_, oE 6 [] hf rfl ?_, oW 7 [6, 4] hf rfl ?_, oE 8 [5] hf rfl ?_, trivial⟩
      all_goals intro vs W hS hp hx KO hKO
      all_goals simp only [Act.put, sA, sZ, sS] at hKO
      ·have fc0 := hS.2.1.cell0; have fc1 := hS.2.1.cell1; have fc2 := hS.2.1.cell2; go_simp; exact hKO _ W (.refl W) rfl
      ·go_simp; exact hKO _ W (.refl W) rfl
      ·have e0 := isOf hp.1; have e1 := isOf hp.2.1; simp only [e0, e1] at hKO; go_simp
       refine (Try.dyadFloorNo (hS.2.2.2.1) kk HK.out).mono ?_
       rintro e W1 ⟨v, rfl, hv, hE⟩
       exact hKO _ W1 hE ⟨_, rfl, hv⟩
      ·have q2 := hp.1
       obtain ⟨u, ev, hu⟩ := q2
       replace ev : vs 2 = _ := ev; simp only [ev] at hKO; go_simp; exact hKO _ W (Ext.refl W) ⟨u, rfl, hu⟩
      ·have q3 := hp.1
       obtain ⟨u, ev, hu⟩ := q3
       replace ev : vs 3 = _ := ev; simp only [ev] at hKO; go_simp; exact hKO _ W (Ext.refl W) hu
      ·have q3 := hp.1
       obtain ⟨u, ev, hu⟩ := q3
       replace ev : vs 3 = _ := ev; simp only [ev] at hKO; go_simp; exact hKO _ W (.refl W) rfl
      ·have hn := Bx2.new W 25 (.bool false) (.slice none 0 0)
       have hE := Ext.alloc1 W (.cells #[.bool false, .slice none 0 0] 25)
       have hsz := hS.2.2.2.2.2
       go_simp
       exact hKO _ _ hE ⟨_, rfl, hsz, hn.form⟩
      ·have q6 := hp.1; have q4 := hp.2.1
       obtain ⟨g, ev, hg, hf⟩ := q6
       replace ev : vs 6 = _ := ev
       obtain ⟨x0_0, x0_1, hx, hno⟩ := hf.bx2
       have qr := q4
       obtain ⟨b3, a3, n3, c3, er, -, -⟩ := qr
       replace er : vs 4 = _ := er
       have r0 := hx.froz0
       have t0 := hx.cell0
       have r1 := hx.froz1
       have t1 := hx.cell1
       have hw := Wr.set2 hx hno b3 a3 n3 c3
       have hq := hx.set (.bool b3) (.slice a3 n3 c3)
       simp only [ev, er] at hKO; go_simp
       exact hKO _ _ hw ⟨(Ext.wr hS.1 hw (by omega)), (hS.2.1.wr hw (by omega)), (hS.2.2.1.wr hw (by omega)), (hS.2.2.2.1.wr hw), (hS.2.2.2.2.1.wr hw), (Nat.le_trans hS.2.2.2.2.2 hw.apart.size)⟩ ⟨g, b3, a3, n3, c3, ev, er, hg, hq⟩
      ·have e5 := isOf hp.1; simp only [e5] at hKO; go_simp; exact hKO _ W (.refl W) rfl
     intro vs W11 hS hp
     clear szw11 E0 p3 p4 hx1 hx2
     obtain ⟨E0, p3, p4, hx1, hx2, sz11⟩ := hS
     obtain ⟨h11_0, h11_1, h11_2, h11_3, h11_4, h11_5, h11_6, h11_7, h11_8, -⟩ := hp
     obtain ⟨g11_7, b11_7, a11_7, n11_7, c11_7, ev11_7, er11_7, hg11_7, p11_7⟩ := h11_7
     replace ev11_7 : vs 6 = _ := ev11_7; replace er11_7 : vs 4 = _ := er11_7; replace h11_4 := (show Zw W11 (vs 4) 0 from h11_4)
     rw [er11_7] at h11_4
     replace h11_0 : vs 0 = .agg #[.bool b1, .slice a1 n1 c1, .slice d1 m1 o1] := h11_0
     replace h11_1 : vs 1 = .int .i64 kk := h11_1
     replace h11_5 : vs 5 = .int .i64 1 := h11_5
     replace h11_8 : vs 8 = .int .i64 1 := h11_8
     simp only [ev11_7, er11_7, h11_0, h11_1, h11_5, h11_8]
     clear ev11_7 er11_7 h11_0 h11_1 h11_5 h11_8 h11_2 h11_3 h11_6
     obtain ⟨kp3_0, kp3_1, kp3_2⟩ := p3.c3
     obtain ⟨kp4_0, kp4_1⟩ := p4.c2
     obtain ⟨kp11_7_0, kp11_7_1⟩ := p11_7.c2
     go_upto_region 4 with (fail)
     clear kp3_0 kp3_1 kp3_2 kp4_0 kp4_1 kp11_7_0 kp11_7_1; have ltp11_7 := p11_7.lt; have szw12 := Ext.size E0
     refine region_gs [.one fun v _ => v = .agg #[.bool b1, .slice a1 n1 c1, .slice d1 m1 o1],
       .one fun v _ => v = .int .i64 kk,
       .one fun v W => ∃ v', v = .tuple #[v', .int .i64 1] ∧ (fun v W => Zw W v 0) v' W,
       .one fun v W => ∃ v', v = .tuple #[v', .int .i64 1] ∧ (fun v W => Zw W v 0) v' W,
       .one fun v W => Zw W v 0,
       .one fun v _ => v = .int .i64 1,
       .one fun v W => ∃ g, v = .pointer (some ⟨g, 0, none⟩) ∧ W11.heap.size ≤ g ∧ Form W g 25 2,
       .three 6 4 (fun p r _ W => Put2 W11.heap.size 25 p r W),
       .one fun v _ => v = .int .i64 1]
      (fun W => Ext w W ∧ Bx3 W w.heap.size 27 (.bool b1) (.slice a1 n1 c1) (.slice d1 m1 o1) ∧ Bx2 W (w.heap.size + 1) 25 (.bool b2) (.slice a2 n2 c2) ∧ Rw W (.agg #[.bool b1, .slice a1 n1 c1, .slice d1 m1 o1]) x ∧ Zw W (.agg #[.bool b2, .slice a2 n2 c2]) z ∧ Zw W (.agg #[.bool b11_7, .slice a11_7 n11_7 c11_7]) 0 ∧ Bx2 W g11_7 25 (.bool b11_7) (.slice a11_7 n11_7 c11_7) ∧ W11.heap.size ≤ W.heap.size) ⟨Good.is _, Good.is _, (Good.zed _).tup _, (Good.zed _).tup _, Good.zed _, Good.is _, Good.box _ _ _, cert_put2, Good.is _, trivial⟩
      ⟨E0, p3, p4, hx1, hx2, h11_4, p11_7, Nat.le_refl _⟩ (A := ?A12) ?hA12 ?howe12 ?hfin12
     case hA12 =>
      intro vs
      simp only [putAll, Act.put, sA, sZ, sS, Nat.zero_add, Nat.reduceAdd]
      exact rfl
     case howe12 =>
      clear E0 p3 p4 hx1 hx2 h11_4 p11_7
      intro hf
      refine ⟨oE 0 [] hf rfl ?_, oE 1 [] hf rfl ?_, oE 2 [0, 1] hf rfl ?_, oE 3 [2] hf rfl ?_, oE 4 [3] hf rfl ?_, oE 5 [3] hf rfl ?_, oE 6 [] hf rfl ?_, oW 7 [6, 4] hf rfl ?_, oE 8 [5] hf rfl ?_, trivial⟩
      all_goals intro vs W hS hp hx KO hKO
      all_goals simp only [Act.put, sA, sZ, sS] at hKO
      ·have fc0 := hS.2.1.cell0; have fc1 := hS.2.1.cell1; have fc2 := hS.2.1.cell2; go_simp; exact hKO _ W (.refl W) rfl
      ·go_simp; exact hKO _ W (.refl W) rfl
      ·have e0 := isOf hp.1; have e1 := isOf hp.2.1; simp only [e0, e1] at hKO; go_simp
       refine (Try.refFloorNo (hS.2.2.2.1) kk HK.out).mono ?_
       rintro e W1 ⟨v, rfl, hv, hE⟩
       exact hKO _ W1 hE ⟨_, rfl, hv⟩
      ·have q2 := hp.1
       obtain ⟨u, ev, hu⟩ := q2
       replace ev : vs 2 = _ := ev; simp only [ev] at hKO; go_simp; exact hKO _ W (Ext.refl W) ⟨u, rfl, hu⟩
      ·have q3 := hp.1
       obtain ⟨u, ev, hu⟩ := q3
       replace ev : vs 3 = _ := ev; simp only [ev] at hKO; go_simp; exact hKO _ W (Ext.refl W) hu
      ·have q3 := hp.1
       obtain ⟨u, ev, hu⟩ := q3
       replace ev : vs 3 = _ := ev; simp only [ev] at hKO; go_simp; exact hKO _ W (.refl W) rfl
      ·have hn := Bx2.new W 25 (.bool false) (.slice none 0 0)
       have hE := Ext.alloc1 W (.cells #[.bool false, .slice none 0 0] 25)
       have hsz := hS.2.2.2.2.2.2.2
       go_simp
       exact hKO _ _ hE ⟨_, rfl, hsz, hn.form⟩
      ·have q6 := hp.1; have q4 := hp.2.1
       obtain ⟨g, ev, hg, hf⟩ := q6
       replace ev : vs 6 = _ := ev
       obtain ⟨x0_0, x0_1, hx, hno⟩ := hf.bx2
       have qr := q4
       obtain ⟨b3, a3, n3, c3, er, -, -⟩ := qr
       replace er : vs 4 = _ := er
       have r0 := hx.froz0
       have t0 := hx.cell0
       have r1 := hx.froz1
       have t1 := hx.cell1
       have hw := Wr.set2 hx hno b3 a3 n3 c3
       have hq := hx.set (.bool b3) (.slice a3 n3 c3)
       simp only [ev, er] at hKO; go_simp
       exact hKO _ _ hw ⟨(Ext.wr hS.1 hw (by omega)), (hS.2.1.wr hw (by omega)), (hS.2.2.1.wr hw (by omega)), (hS.2.2.2.1.wr hw), (hS.2.2.2.2.1.wr hw), (hS.2.2.2.2.2.1.wr hw), (hS.2.2.2.2.2.2.1.wr hw (by omega)), (Nat.le_trans hS.2.2.2.2.2.2.2 hw.apart.size)⟩ ⟨g, b3, a3, n3, c3, ev, er, hg, hq⟩
      ·have e5 := isOf hp.1; simp only [e5] at hKO; go_simp; exact hKO _ W (.refl W) rfl
     intro vs W12 hS hp
     clear szw12 E0 p3 p4 hx1 hx2 h11_4 p11_7
     obtain ⟨E0, p3, p4, hx1, hx2, h11_4, p11_7, sz12⟩ := hS
     obtain ⟨h12_0, h12_1, h12_2, h12_3, h12_4, h12_5, h12_6, h12_7, h12_8, -⟩ := hp
     obtain ⟨g12_7, b12_7, a12_7, n12_7, c12_7, ev12_7, er12_7, hg12_7, p12_7⟩ := h12_7
     replace ev12_7 : vs 6 = _ := ev12_7; replace er12_7 : vs 4 = _ := er12_7; replace h12_4 := (show Zw W12 (vs 4) 0 from h12_4)
     rw [er12_7] at h12_4
     replace h12_0 : vs 0 = .agg #[.bool b1, .slice a1 n1 c1, .slice d1 m1 o1] := h12_0
     replace h12_1 : vs 1 = .int .i64 kk := h12_1
     replace h12_5 : vs 5 = .int .i64 1 := h12_5
     replace h12_8 : vs 8 = .int .i64 1 := h12_8
     simp only [ev12_7, er12_7, h12_0, h12_1, h12_5, h12_8]
     clear ev12_7 er12_7 h12_0 h12_1 h12_5 h12_8 h12_2 h12_3 h12_6
     obtain ⟨kp3_0, kp3_1, kp3_2⟩ := p3.c3
     obtain ⟨kp4_0, kp4_1⟩ := p4.c2
     obtain ⟨kp11_7_0, kp11_7_1⟩ := p11_7.c2
     obtain ⟨kp12_7_0, kp12_7_1⟩ := p12_7.c2
     go_upto_region 5 with (fail)
     clear kp3_0 kp3_1 kp3_2 kp4_0 kp4_1 kp11_7_0 kp11_7_1 kp12_7_0 kp12_7_1; have ltp12_7 := p12_7.lt; have szw13 := Ext.size E0
     refine region_gs [.one fun v _ => v = .agg #[.bool b1, .slice a1 n1 c1, .slice d1 m1 o1],
       .one fun v _ => v = .int .i64 kk,
       .one fun v W => ∃ v', v = .tuple #[v', .int .i64 1] ∧ (fun v W => Zw W v 0) v' W,
       .one fun v W => ∃ v', v = .tuple #[v', .int .i64 1] ∧ (fun v W => Zw W v 0) v' W,
       .one fun v W => Zw W v 0,
       .one fun v _ => v = .int .i64 1,
       .one fun v W => ∃ g, v = .pointer (some ⟨g, 0, none⟩) ∧ W12.heap.size ≤ g ∧ Form W g 25 2,
       .three 6 4 (fun p r _ W => Put2 W12.heap.size 25 p r W),
       .one fun v _ => v = .int .i64 1]
      (fun W => Ext w W ∧ Bx3 W w.heap.size 27 (.bool b1) (.slice a1 n1 c1) (.slice d1 m1 o1) ∧ Bx2 W (w.heap.size + 1) 25 (.bool b2) (.slice a2 n2 c2) ∧ Rw W (.agg #[.bool b1, .slice a1 n1 c1, .slice d1 m1 o1]) x ∧ Zw W (.agg #[.bool b2, .slice a2 n2 c2]) z ∧ Zw W (.agg #[.bool b11_7, .slice a11_7 n11_7 c11_7]) 0 ∧ Bx2 W g11_7 25 (.bool b11_7) (.slice a11_7 n11_7 c11_7) ∧ Zw W (.agg #[.bool b12_7, .slice a12_7 n12_7 c12_7]) 0 ∧ Bx2 W g12_7 25 (.bool b12_7) (.slice a12_7 n12_7 c12_7) ∧ W12.heap.size ≤ W.heap.size) ⟨Good.is _, Good.is _, (Good.zed _).tup _, (Good.zed _).tup _, Good.zed _, Good.is _, Good.box _ _ _, cert_put2, Good.is _, trivial⟩
      ⟨E0, p3, p4, hx1, hx2, h11_4, p11_7, h12_4, p12_7, Nat.le_refl _⟩ (A := ?A13) ?hA13 ?howe13 ?hfin13
     case hA13 =>
      intro vs
      simp only [putAll, Act.put, sA, sZ, sS, Nat.zero_add, Nat.reduceAdd]
      exact rfl
     case howe13 =>
      clear E0 p3 p4 hx1 hx2 h11_4 p11_7 h12_4 p12_7
      intro hf
      refine ⟨oE 0 [] hf rfl ?_, oE 1 [] hf rfl ?_, oE 2 [0, 1] hf rfl ?_, oE 3 [2] hf rfl ?_, oE 4 [3] hf rfl ?_, oE 5 [3] hf rfl ?_, oE 6 [] hf rfl ?_, oW 7 [6, 4] hf rfl ?_, oE 8 [5] hf rfl ?_, trivial⟩
      all_goals intro vs W hS hp hx KO hKO
      all_goals simp only [Act.put, sA, sZ, sS] at hKO
      ·have fc0 := hS.2.1.cell0; have fc1 := hS.2.1.cell1; have fc2 := hS.2.1.cell2; go_simp; exact hKO _ W (.refl W) rfl
      ·go_simp; exact hKO _ W (.refl W) rfl
      ·have e0 := isOf hp.1; have e1 := isOf hp.2.1; simp only [e0, e1] at hKO; go_simp
       refine (Try.dyadCeilNo (hS.2.2.2.1) kk HK.out).mono ?_
       rintro e W1 ⟨v, rfl, hv, hE⟩
       exact hKO _ W1 hE ⟨_, rfl, hv⟩
      ·have q2 := hp.1
       obtain ⟨u, ev, hu⟩ := q2
       replace ev : vs 2 = _ := ev; simp only [ev] at hKO; go_simp; exact hKO _ W (Ext.refl W) ⟨u, rfl, hu⟩
      ·have q3 := hp.1
       obtain ⟨u, ev, hu⟩ := q3
       replace ev : vs 3 = _ := ev; simp only [ev] at hKO; go_simp; exact hKO _ W (Ext.refl W) hu
      ·have q3 := hp.1
       obtain ⟨u, ev, hu⟩ := q3
       replace ev : vs 3 = _ := ev; simp only [ev] at hKO; go_simp; exact hKO _ W (.refl W) rfl
      ·have hn := Bx2.new W 25 (.bool false) (.slice none 0 0)
       have hE := Ext.alloc1 W (.cells #[.bool false, .slice none 0 0] 25)
       have hsz := hS.2.2.2.2.2.2.2.2.2
       go_simp
       exact hKO _ _ hE ⟨_, rfl, hsz, hn.form⟩
      ·have q6 := hp.1; have q4 := hp.2.1
       obtain ⟨g, ev, hg, hf⟩ := q6
       replace ev : vs 6 = _ := ev
       obtain ⟨x0_0, x0_1, hx, hno⟩ := hf.bx2
       have qr := q4
       obtain ⟨b3, a3, n3, c3, er, -, -⟩ := qr
       replace er : vs 4 = _ := er
       have r0 := hx.froz0
       have t0 := hx.cell0
       have r1 := hx.froz1
       have t1 := hx.cell1
       have hw := Wr.set2 hx hno b3 a3 n3 c3
       have hq := hx.set (.bool b3) (.slice a3 n3 c3)
       simp only [ev, er] at hKO; go_simp
       exact hKO _ _ hw ⟨(Ext.wr hS.1 hw (by omega)), (hS.2.1.wr hw (by omega)), (hS.2.2.1.wr hw (by omega)), (hS.2.2.2.1.wr hw), (hS.2.2.2.2.1.wr hw), (hS.2.2.2.2.2.1.wr hw), (hS.2.2.2.2.2.2.1.wr hw (by omega)), (hS.2.2.2.2.2.2.2.1.wr hw), (hS.2.2.2.2.2.2.2.2.1.wr hw (by omega)), (Nat.le_trans hS.2.2.2.2.2.2.2.2.2 hw.apart.size)⟩ ⟨g, b3, a3, n3, c3, ev, er, hg, hq⟩
      ·have e5 := isOf hp.1; simp only [e5] at hKO; go_simp; exact hKO _ W (.refl W) rfl
     intro vs W13 hS hp
     clear szw13 E0 p3 p4 hx1 hx2 h11_4 p11_7 h12_4 p12_7
     obtain ⟨E0, p3, p4, hx1, hx2, h11_4, p11_7, h12_4, p12_7, sz13⟩ := hS
     obtain ⟨h13_0, h13_1, h13_2, h13_3, h13_4, h13_5, h13_6, h13_7, h13_8, -⟩ := hp
     obtain ⟨g13_7, b13_7, a13_7, n13_7, c13_7, ev13_7, er13_7, hg13_7, p13_7⟩ := h13_7
     replace ev13_7 : vs 6 = _ := ev13_7; replace er13_7 : vs 4 = _ := er13_7; replace h13_4 := (show Zw W13 (vs 4) 0 from h13_4)
     rw [er13_7] at h13_4
     replace h13_0 : vs 0 = .agg #[.bool b1, .slice a1 n1 c1, .slice d1 m1 o1] := h13_0
     replace h13_1 : vs 1 = .int .i64 kk := h13_1
     replace h13_5 : vs 5 = .int .i64 1 := h13_5
     replace h13_8 : vs 8 = .int .i64 1 := h13_8
     simp only [ev13_7, er13_7, h13_0, h13_1, h13_5, h13_8]
     clear ev13_7 er13_7 h13_0 h13_1 h13_5 h13_8 h13_2 h13_3 h13_6
     obtain ⟨kp3_0, kp3_1, kp3_2⟩ := p3.c3
     obtain ⟨kp4_0, kp4_1⟩ := p4.c2
     obtain ⟨kp11_7_0, kp11_7_1⟩ := p11_7.c2
     obtain ⟨kp12_7_0, kp12_7_1⟩ := p12_7.c2
     obtain ⟨kp13_7_0, kp13_7_1⟩ := p13_7.c2
     go_upto_region 6 with (fail)
     clear kp3_0 kp3_1 kp3_2 kp4_0 kp4_1 kp11_7_0 kp11_7_1 kp12_7_0 kp12_7_1 kp13_7_0 kp13_7_1; have ltp13_7 := p13_7.lt; have szw14 := Ext.size E0
     refine region_gs [.one fun v _ => v = .agg #[.bool b1, .slice a1 n1 c1, .slice d1 m1 o1],
       .one fun v _ => v = .int .i64 kk,
       .one fun v W => ∃ v', v = .tuple #[v', .int .i64 1] ∧ (fun v W => Zw W v 0) v' W,
       .one fun v W => ∃ v', v = .tuple #[v', .int .i64 1] ∧ (fun v W => Zw W v 0) v' W,
       .one fun v W => Zw W v 0,
       .one fun v _ => v = .int .i64 1,
       .one fun v W => ∃ g, v = .pointer (some ⟨g, 0, none⟩) ∧ W13.heap.size ≤ g ∧ Form W g 25 2,
       .three 6 4 (fun p r _ W => Put2 W13.heap.size 25 p r W),
       .one fun v _ => v = .int .i64 1]
      (fun W => Ext w W ∧ Bx3 W w.heap.size 27 (.bool b1) (.slice a1 n1 c1) (.slice d1 m1 o1) ∧ Bx2 W (w.heap.size + 1) 25 (.bool b2) (.slice a2 n2 c2) ∧ Rw W (.agg #[.bool b1, .slice a1 n1 c1, .slice d1 m1 o1]) x ∧ Zw W (.agg #[.bool b2, .slice a2 n2 c2]) z ∧ Zw W (.agg #[.bool b11_7, .slice a11_7 n11_7 c11_7]) 0 ∧ Bx2 W g11_7 25 (.bool b11_7) (.slice a11_7 n11_7 c11_7) ∧ Zw W (.agg #[.bool b12_7, .slice a12_7 n12_7 c12_7]) 0 ∧ Bx2 W g12_7 25 (.bool b12_7) (.slice a12_7 n12_7 c12_7) ∧ Zw W (.agg #[.bool b13_7, .slice a13_7 n13_7 c13_7]) 0 ∧ Bx2 W g13_7 25 (.bool b13_7) (.slice a13_7 n13_7 c13_7) ∧ W13.heap.size ≤ W.heap.size) ⟨Good.is _, Good.is _, (Good.zed _).tup _, (Good.zed _).tup _, Good.zed _, Good.is _, Good.box _ _ _, cert_put2, Good.is _, trivial⟩
      ⟨E0, p3, p4, hx1, hx2, h11_4, p11_7, h12_4, p12_7, h13_4, p13_7, Nat.le_refl _⟩ (A := ?A14) ?hA14 ?howe14 ?hfin14
     case hA14 =>
      intro vs
      simp only [putAll, Act.put, sA, sZ, sS, Nat.zero_add, Nat.reduceAdd]
      exact rfl
     case howe14 =>
      clear E0 p3 p4 hx1 hx2 h11_4 p11_7 h12_4 p12_7 h13_4 p13_7
      intro hf
      refine ⟨oE 0 [] hf rfl ?_, oE 1 [] hf rfl ?_, oE 2 [0, 1] hf rfl ?_, oE 3 [2] hf rfl ?_, oE 4 [3] hf rfl ?_, oE 5 [3] hf rfl ?_, oE 6 [] hf rfl ?_, oW 7 [6, 4] hf rfl ?_, oE 8 [5] hf rfl ?_, trivial⟩
      all_goals intro vs W hS hp hx KO hKO
      all_goals simp only [Act.put, sA, sZ, sS] at hKO
      ·have fc0 := hS.2.1.cell0; have fc1 := hS.2.1.cell1; have fc2 := hS.2.1.cell2; go_simp; exact hKO _ W (.refl W) rfl
      ·go_simp; exact hKO _ W (.refl W) rfl
      ·have e0 := isOf hp.1; have e1 := isOf hp.2.1; simp only [e0, e1] at hKO; go_simp
       refine (Try.refCeilNo (hS.2.2.2.1) kk HK.out).mono ?_
       rintro e W1 ⟨v, rfl, hv, hE⟩
       exact hKO _ W1 hE ⟨_, rfl, hv⟩
      ·have q2 := hp.1
       obtain ⟨u, ev, hu⟩ := q2
       replace ev : vs 2 = _ := ev; simp only [ev] at hKO; go_simp; exact hKO _ W (Ext.refl W) ⟨u, rfl, hu⟩
      ·have q3 := hp.1
       obtain ⟨u, ev, hu⟩ := q3
       replace ev : vs 3 = _ := ev; simp only [ev] at hKO; go_simp; exact hKO _ W (Ext.refl W) hu
      ·have q3 := hp.1
       obtain ⟨u, ev, hu⟩ := q3
       replace ev : vs 3 = _ := ev; simp only [ev] at hKO; go_simp; exact hKO _ W (.refl W) rfl
      ·have hn := Bx2.new W 25 (.bool false) (.slice none 0 0)
       have hE := Ext.alloc1 W (.cells #[.bool false, .slice none 0 0] 25)
       have hsz := hS.2.2.2.2.2.2.2.2.2.2.2
       go_simp
       exact hKO _ _ hE ⟨_, rfl, hsz, hn.form⟩
      ·have q6 := hp.1; have q4 := hp.2.1
       obtain ⟨g, ev, hg, hf⟩ := q6
       replace ev : vs 6 = _ := ev
       obtain ⟨x0_0, x0_1, hx, hno⟩ := hf.bx2
       have qr := q4
       obtain ⟨b3, a3, n3, c3, er, -, -⟩ := qr
       replace er : vs 4 = _ := er
       have r0 := hx.froz0
       have t0 := hx.cell0
       have r1 := hx.froz1
       have t1 := hx.cell1
       have hw := Wr.set2 hx hno b3 a3 n3 c3
       have hq := hx.set (.bool b3) (.slice a3 n3 c3)
       simp only [ev, er] at hKO; go_simp
       exact hKO _ _ hw ⟨(Ext.wr hS.1 hw (by omega)), (hS.2.1.wr hw (by omega)), (hS.2.2.1.wr hw (by omega)), (hS.2.2.2.1.wr hw), (hS.2.2.2.2.1.wr hw), (hS.2.2.2.2.2.1.wr hw), (hS.2.2.2.2.2.2.1.wr hw (by omega)), (hS.2.2.2.2.2.2.2.1.wr hw), (hS.2.2.2.2.2.2.2.2.1.wr hw (by omega)), (hS.2.2.2.2.2.2.2.2.2.1.wr hw), (hS.2.2.2.2.2.2.2.2.2.2.1.wr hw (by omega)), (Nat.le_trans hS.2.2.2.2.2.2.2.2.2.2.2 hw.apart.size)⟩ ⟨g, b3, a3, n3, c3, ev, er, hg, hq⟩
      ·have e5 := isOf hp.1; simp only [e5] at hKO; go_simp; exact hKO _ W (.refl W) rfl
     intro vs W14 hS hp
     clear szw14 E0 p3 p4 hx1 hx2 h11_4 p11_7 h12_4 p12_7 h13_4 p13_7
     obtain ⟨E0, p3, p4, hx1, hx2, h11_4, p11_7, h12_4, p12_7, h13_4, p13_7, sz14⟩ := hS
     obtain ⟨h14_0, h14_1, h14_2, h14_3, h14_4, h14_5, h14_6, h14_7, h14_8, -⟩ := hp
     obtain ⟨g14_7, b14_7, a14_7, n14_7, c14_7, ev14_7, er14_7, hg14_7, p14_7⟩ := h14_7
     replace ev14_7 : vs 6 = _ := ev14_7; replace er14_7 : vs 4 = _ := er14_7; replace h14_4 := (show Zw W14 (vs 4) 0 from h14_4)
     rw [er14_7] at h14_4
     replace h14_0 : vs 0 = .agg #[.bool b1, .slice a1 n1 c1, .slice d1 m1 o1] := h14_0
     replace h14_1 : vs 1 = .int .i64 kk := h14_1
     replace h14_5 : vs 5 = .int .i64 1 := h14_5
     replace h14_8 : vs 8 = .int .i64 1 := h14_8
     simp only [ev14_7, er14_7, h14_0, h14_1, h14_5, h14_8]
     clear ev14_7 er14_7 h14_0 h14_1 h14_5 h14_8 h14_2 h14_3 h14_6
     obtain ⟨kp3_0, kp3_1, kp3_2⟩ := p3.c3
     obtain ⟨kp4_0, kp4_1⟩ := p4.c2
     obtain ⟨kp11_7_0, kp11_7_1⟩ := p11_7.c2
     obtain ⟨kp12_7_0, kp12_7_1⟩ := p12_7.c2
     obtain ⟨kp13_7_0, kp13_7_1⟩ := p13_7.c2
     obtain ⟨kp14_7_0, kp14_7_1⟩ := p14_7.c2
     go_upto_region 7 with (fail)
     clear kp3_0 kp3_1 kp3_2 kp4_0 kp4_1 kp11_7_0 kp11_7_1 kp12_7_0 kp12_7_1 kp13_7_0 kp13_7_1 kp14_7_0 kp14_7_1; have ltp14_7 := p14_7.lt; have szw15 := Ext.size E0
     refine region_gs [.one fun v _ => v = .agg #[.bool b1, .slice a1 n1 c1, .slice d1 m1 o1],
       .one fun v _ => v = .int .i64 kk,
       .one fun v W => ∃ v', v = .tuple #[v', .int .i64 1] ∧ (fun v W => Zw W v 0) v' W,
       .one fun v W => ∃ v', v = .tuple #[v', .int .i64 1] ∧ (fun v W => Zw W v 0) v' W,
       .one fun v W => Zw W v 0,
       .one fun v _ => v = .int .i64 1,
       .one fun v W => ∃ g, v = .pointer (some ⟨g, 0, none⟩) ∧ W14.heap.size ≤ g ∧ Form W g 25 2,
       .three 6 4 (fun p r _ W => Put2 W14.heap.size 25 p r W),
       .one fun v _ => v = .int .i64 1]
      (fun W => Ext w W ∧ Bx3 W w.heap.size 27 (.bool b1) (.slice a1 n1 c1) (.slice d1 m1 o1) ∧ Bx2 W (w.heap.size + 1) 25 (.bool b2) (.slice a2 n2 c2) ∧ Rw W (.agg #[.bool b1, .slice a1 n1 c1, .slice d1 m1 o1]) x ∧ Zw W (.agg #[.bool b2, .slice a2 n2 c2]) z ∧ Zw W (.agg #[.bool b11_7, .slice a11_7 n11_7 c11_7]) 0 ∧ Bx2 W g11_7 25 (.bool b11_7) (.slice a11_7 n11_7 c11_7) ∧ Zw W (.agg #[.bool b12_7, .slice a12_7 n12_7 c12_7]) 0 ∧ Bx2 W g12_7 25 (.bool b12_7) (.slice a12_7 n12_7 c12_7) ∧ Zw W (.agg #[.bool b13_7, .slice a13_7 n13_7 c13_7]) 0 ∧ Bx2 W g13_7 25 (.bool b13_7) (.slice a13_7 n13_7 c13_7) ∧ Zw W (.agg #[.bool b14_7, .slice a14_7 n14_7 c14_7]) 0 ∧ Bx2 W g14_7 25 (.bool b14_7) (.slice a14_7 n14_7 c14_7) ∧ W14.heap.size ≤ W.heap.size) ⟨Good.is _, Good.is _, (Good.zed _).tup _, (Good.zed _).tup _, Good.zed _, Good.is _, Good.box _ _ _, cert_put2, Good.is _, trivial⟩
      ⟨E0, p3, p4, hx1, hx2, h11_4, p11_7, h12_4, p12_7, h13_4, p13_7, h14_4, p14_7, Nat.le_refl _⟩ (A := ?A15) ?hA15 ?howe15 ?hfin15
     case hA15 =>
      intro vs
      simp only [putAll, Act.put, sA, sZ, sS, Nat.zero_add, Nat.reduceAdd]
      exact rfl
     case howe15 =>
      clear E0 p3 p4 hx1 hx2 h11_4 p11_7 h12_4 p12_7 h13_4 p13_7 h14_4 p14_7
      intro hf
      refine ⟨oE 0 [] hf rfl ?_, oE 1 [] hf rfl ?_, oE 2 [0, 1] hf rfl ?_, oE 3 [2] hf rfl ?_, oE 4 [3] hf rfl ?_, oE 5 [3] hf rfl ?_, oE 6 [] hf rfl ?_, oW 7 [6, 4] hf rfl ?_, oE 8 [5] hf rfl ?_, trivial⟩
      all_goals intro vs W hS hp hx KO hKO
      all_goals simp only [Act.put, sA, sZ, sS] at hKO
      ·have fc0 := hS.2.1.cell0; have fc1 := hS.2.1.cell1; have fc2 := hS.2.1.cell2; go_simp; exact hKO _ W (.refl W) rfl
      ·go_simp; exact hKO _ W (.refl W) rfl
      ·have e0 := isOf hp.1; have e1 := isOf hp.2.1; simp only [e0, e1] at hKO; go_simp
       refine (Try.dyadNearNo (hS.2.2.2.1) kk HK.out).mono ?_
       rintro e W1 ⟨v, rfl, hv, hE⟩
       exact hKO _ W1 hE ⟨_, rfl, hv⟩
      ·have q2 := hp.1
       obtain ⟨u, ev, hu⟩ := q2
       replace ev : vs 2 = _ := ev; simp only [ev] at hKO; go_simp; exact hKO _ W (Ext.refl W) ⟨u, rfl, hu⟩
      ·have q3 := hp.1
       obtain ⟨u, ev, hu⟩ := q3
       replace ev : vs 3 = _ := ev; simp only [ev] at hKO; go_simp; exact hKO _ W (Ext.refl W) hu
      ·have q3 := hp.1
       obtain ⟨u, ev, hu⟩ := q3
       replace ev : vs 3 = _ := ev; simp only [ev] at hKO; go_simp; exact hKO _ W (.refl W) rfl
      ·have hn := Bx2.new W 25 (.bool false) (.slice none 0 0)
       have hE := Ext.alloc1 W (.cells #[.bool false, .slice none 0 0] 25)
       have hsz := hS.2.2.2.2.2.2.2.2.2.2.2.2.2
       go_simp
       exact hKO _ _ hE ⟨_, rfl, hsz, hn.form⟩
      ·have q6 := hp.1; have q4 := hp.2.1
       obtain ⟨g, ev, hg, hf⟩ := q6
       replace ev : vs 6 = _ := ev
       obtain ⟨x0_0, x0_1, hx, hno⟩ := hf.bx2
       have qr := q4
       obtain ⟨b3, a3, n3, c3, er, -, -⟩ := qr
       replace er : vs 4 = _ := er
       have r0 := hx.froz0
       have t0 := hx.cell0
       have r1 := hx.froz1
       have t1 := hx.cell1
       have hw := Wr.set2 hx hno b3 a3 n3 c3
       have hq := hx.set (.bool b3) (.slice a3 n3 c3)
       simp only [ev, er] at hKO; go_simp
       exact hKO _ _ hw ⟨(Ext.wr hS.1 hw (by omega)), (hS.2.1.wr hw (by omega)), (hS.2.2.1.wr hw (by omega)), (hS.2.2.2.1.wr hw), (hS.2.2.2.2.1.wr hw), (hS.2.2.2.2.2.1.wr hw), (hS.2.2.2.2.2.2.1.wr hw (by omega)), (hS.2.2.2.2.2.2.2.1.wr hw), (hS.2.2.2.2.2.2.2.2.1.wr hw (by omega)), (hS.2.2.2.2.2.2.2.2.2.1.wr hw), (hS.2.2.2.2.2.2.2.2.2.2.1.wr hw (by omega)), (hS.2.2.2.2.2.2.2.2.2.2.2.1.wr hw), (hS.2.2.2.2.2.2.2.2.2.2.2.2.1.wr hw (by omega)), (Nat.le_trans hS.2.2.2.2.2.2.2.2.2.2.2.2.2 hw.apart.size)⟩ ⟨g, b3, a3, n3, c3, ev, er, hg, hq⟩
      ·have e5 := isOf hp.1; simp only [e5] at hKO; go_simp; exact hKO _ W (.refl W) rfl
     intro vs W15 hS hp
     clear szw15 E0 p3 p4 hx1 hx2 h11_4 p11_7 h12_4 p12_7 h13_4 p13_7 h14_4 p14_7
     obtain ⟨E0, p3, p4, hx1, hx2, h11_4, p11_7, h12_4, p12_7, h13_4, p13_7, h14_4, p14_7, sz15⟩ := hS
     obtain ⟨h15_0, h15_1, h15_2, h15_3, h15_4, h15_5, h15_6, h15_7, h15_8, -⟩ := hp
     obtain ⟨g15_7, b15_7, a15_7, n15_7, c15_7, ev15_7, er15_7, hg15_7, p15_7⟩ := h15_7
     replace ev15_7 : vs 6 = _ := ev15_7; replace er15_7 : vs 4 = _ := er15_7; replace h15_4 := (show Zw W15 (vs 4) 0 from h15_4)
     rw [er15_7] at h15_4
     replace h15_0 : vs 0 = .agg #[.bool b1, .slice a1 n1 c1, .slice d1 m1 o1] := h15_0
     replace h15_1 : vs 1 = .int .i64 kk := h15_1
     replace h15_5 : vs 5 = .int .i64 1 := h15_5
     replace h15_8 : vs 8 = .int .i64 1 := h15_8
     simp only [ev15_7, er15_7, h15_0, h15_1, h15_5, h15_8]
     clear ev15_7 er15_7 h15_0 h15_1 h15_5 h15_8 h15_2 h15_3 h15_6
     obtain ⟨kp3_0, kp3_1, kp3_2⟩ := p3.c3
     obtain ⟨kp4_0, kp4_1⟩ := p4.c2
     obtain ⟨kp11_7_0, kp11_7_1⟩ := p11_7.c2
     obtain ⟨kp12_7_0, kp12_7_1⟩ := p12_7.c2
     obtain ⟨kp13_7_0, kp13_7_1⟩ := p13_7.c2
     obtain ⟨kp14_7_0, kp14_7_1⟩ := p14_7.c2
     obtain ⟨kp15_7_0, kp15_7_1⟩ := p15_7.c2
     go_upto_region 8 with (fail)
     clear kp3_0 kp3_1 kp3_2 kp4_0 kp4_1 kp11_7_0 kp11_7_1 kp12_7_0 kp12_7_1 kp13_7_0 kp13_7_1 kp14_7_0 kp14_7_1 kp15_7_0 kp15_7_1; have ltp15_7 := p15_7.lt; have szw16 := Ext.size E0
     refine region_gs [.one fun v _ => v = .agg #[.bool b1, .slice a1 n1 c1, .slice d1 m1 o1],
       .one fun v _ => v = .int .i64 kk,
       .one fun v W => ∃ v', v = .tuple #[v', .int .i64 1] ∧ (fun v W => Zw W v 0) v' W,
       .one fun v W => ∃ v', v = .tuple #[v', .int .i64 1] ∧ (fun v W => Zw W v 0) v' W,
       .one fun v W => Zw W v 0,
       .one fun v _ => v = .int .i64 1,
       .one fun v W => ∃ g, v = .pointer (some ⟨g, 0, none⟩) ∧ W15.heap.size ≤ g ∧ Form W g 25 2,
       .three 6 4 (fun p r _ W => Put2 W15.heap.size 25 p r W),
       .one fun v _ => v = .int .i64 1]
      (fun W => Ext w W ∧ Bx3 W w.heap.size 27 (.bool b1) (.slice a1 n1 c1) (.slice d1 m1 o1) ∧ Bx2 W (w.heap.size + 1) 25 (.bool b2) (.slice a2 n2 c2) ∧ Rw W (.agg #[.bool b1, .slice a1 n1 c1, .slice d1 m1 o1]) x ∧ Zw W (.agg #[.bool b2, .slice a2 n2 c2]) z ∧ Zw W (.agg #[.bool b11_7, .slice a11_7 n11_7 c11_7]) 0 ∧ Bx2 W g11_7 25 (.bool b11_7) (.slice a11_7 n11_7 c11_7) ∧ Zw W (.agg #[.bool b12_7, .slice a12_7 n12_7 c12_7]) 0 ∧ Bx2 W g12_7 25 (.bool b12_7) (.slice a12_7 n12_7 c12_7) ∧ Zw W (.agg #[.bool b13_7, .slice a13_7 n13_7 c13_7]) 0 ∧ Bx2 W g13_7 25 (.bool b13_7) (.slice a13_7 n13_7 c13_7) ∧ Zw W (.agg #[.bool b14_7, .slice a14_7 n14_7 c14_7]) 0 ∧ Bx2 W g14_7 25 (.bool b14_7) (.slice a14_7 n14_7 c14_7) ∧ Zw W (.agg #[.bool b15_7, .slice a15_7 n15_7 c15_7]) 0 ∧ Bx2 W g15_7 25 (.bool b15_7) (.slice a15_7 n15_7 c15_7) ∧ W15.heap.size ≤ W.heap.size) ⟨Good.is _, Good.is _, (Good.zed _).tup _, (Good.zed _).tup _, Good.zed _, Good.is _, Good.box _ _ _, cert_put2, Good.is _, trivial⟩
      ⟨E0, p3, p4, hx1, hx2, h11_4, p11_7, h12_4, p12_7, h13_4, p13_7, h14_4, p14_7, h15_4, p15_7, Nat.le_refl _⟩ (A := ?A16) ?hA16 ?howe16 ?hfin16
     case hA16 =>
      intro vs
      simp only [putAll, Act.put, sA, sZ, sS, Nat.zero_add, Nat.reduceAdd]
      exact rfl
     case howe16 =>
      clear E0 p3 p4 hx1 hx2 h11_4 p11_7 h12_4 p12_7 h13_4 p13_7 h14_4 p14_7 h15_4 p15_7
      intro hf
      refine ⟨oE 0 [] hf rfl ?_, oE 1 [] hf rfl ?_, oE 2 [0, 1] hf rfl ?_, oE 3 [2] hf rfl ?_, oE 4 [3] hf rfl ?_, oE 5 [3] hf rfl ?_, oE 6 [] hf rfl ?_, oW 7 [6, 4] hf rfl ?_, oE 8 [5] hf rfl ?_, trivial⟩
      all_goals intro vs W hS hp hx KO hKO
      all_goals simp only [Act.put, sA, sZ, sS] at hKO
      ·have fc0 := hS.2.1.cell0; have fc1 := hS.2.1.cell1; have fc2 := hS.2.1.cell2; go_simp; exact hKO _ W (.refl W) rfl
      ·go_simp; exact hKO _ W (.refl W) rfl
      ·have e0 := isOf hp.1; have e1 := isOf hp.2.1; simp only [e0, e1] at hKO; go_simp
       refine (Try.refNearNo (hS.2.2.2.1) kk HK.out).mono ?_
       rintro e W1 ⟨v, rfl, hv, hE⟩
       exact hKO _ W1 hE ⟨_, rfl, hv⟩
      ·have q2 := hp.1
       obtain ⟨u, ev, hu⟩ := q2
       replace ev : vs 2 = _ := ev; simp only [ev] at hKO; go_simp; exact hKO _ W (Ext.refl W) ⟨u, rfl, hu⟩
      ·have q3 := hp.1
       obtain ⟨u, ev, hu⟩ := q3
       replace ev : vs 3 = _ := ev; simp only [ev] at hKO; go_simp; exact hKO _ W (Ext.refl W) hu
      ·have q3 := hp.1
       obtain ⟨u, ev, hu⟩ := q3
       replace ev : vs 3 = _ := ev; simp only [ev] at hKO; go_simp; exact hKO _ W (.refl W) rfl
      ·have hn := Bx2.new W 25 (.bool false) (.slice none 0 0)
       have hE := Ext.alloc1 W (.cells #[.bool false, .slice none 0 0] 25)
       have hsz := hS.2.2.2.2.2.2.2.2.2.2.2.2.2.2.2
       go_simp
       exact hKO _ _ hE ⟨_, rfl, hsz, hn.form⟩
      ·have q6 := hp.1; have q4 := hp.2.1
       obtain ⟨g, ev, hg, hf⟩ := q6
       replace ev : vs 6 = _ := ev
       obtain ⟨x0_0, x0_1, hx, hno⟩ := hf.bx2
       have qr := q4
       obtain ⟨b3, a3, n3, c3, er, -, -⟩ := qr
       replace er : vs 4 = _ := er
       have r0 := hx.froz0
       have t0 := hx.cell0
       have r1 := hx.froz1
       have t1 := hx.cell1
       have hw := Wr.set2 hx hno b3 a3 n3 c3
       have hq := hx.set (.bool b3) (.slice a3 n3 c3)
       simp only [ev, er] at hKO; go_simp
       exact hKO _ _ hw ⟨(Ext.wr hS.1 hw (by omega)), (hS.2.1.wr hw (by omega)), (hS.2.2.1.wr hw (by omega)), (hS.2.2.2.1.wr hw), (hS.2.2.2.2.1.wr hw), (hS.2.2.2.2.2.1.wr hw), (hS.2.2.2.2.2.2.1.wr hw (by omega)), (hS.2.2.2.2.2.2.2.1.wr hw), (hS.2.2.2.2.2.2.2.2.1.wr hw (by omega)), (hS.2.2.2.2.2.2.2.2.2.1.wr hw), (hS.2.2.2.2.2.2.2.2.2.2.1.wr hw (by omega)), (hS.2.2.2.2.2.2.2.2.2.2.2.1.wr hw), (hS.2.2.2.2.2.2.2.2.2.2.2.2.1.wr hw (by omega)), (hS.2.2.2.2.2.2.2.2.2.2.2.2.2.1.wr hw), (hS.2.2.2.2.2.2.2.2.2.2.2.2.2.2.1.wr hw (by omega)), (Nat.le_trans hS.2.2.2.2.2.2.2.2.2.2.2.2.2.2.2 hw.apart.size)⟩ ⟨g, b3, a3, n3, c3, ev, er, hg, hq⟩
      ·have e5 := isOf hp.1; simp only [e5] at hKO; go_simp; exact hKO _ W (.refl W) rfl
     intro vs W16 hS hp
     clear szw16 E0 p3 p4 hx1 hx2 h11_4 p11_7 h12_4 p12_7 h13_4 p13_7 h14_4 p14_7 h15_4 p15_7
     obtain ⟨E0, p3, p4, hx1, hx2, h11_4, p11_7, h12_4, p12_7, h13_4, p13_7, h14_4, p14_7, h15_4, p15_7, sz16⟩ := hS
     obtain ⟨h16_0, h16_1, h16_2, h16_3, h16_4, h16_5, h16_6, h16_7, h16_8, -⟩ := hp
     obtain ⟨g16_7, b16_7, a16_7, n16_7, c16_7, ev16_7, er16_7, hg16_7, p16_7⟩ := h16_7
     replace ev16_7 : vs 6 = _ := ev16_7; replace er16_7 : vs 4 = _ := er16_7; replace h16_4 := (show Zw W16 (vs 4) 0 from h16_4)
     rw [er16_7] at h16_4
     replace h16_0 : vs 0 = .agg #[.bool b1, .slice a1 n1 c1, .slice d1 m1 o1] := h16_0
     replace h16_1 : vs 1 = .int .i64 kk := h16_1
     replace h16_5 : vs 5 = .int .i64 1 := h16_5
     replace h16_8 : vs 8 = .int .i64 1 := h16_8
     simp only [ev16_7, er16_7, h16_0, h16_1, h16_5, h16_8]
     clear ev16_7 er16_7 h16_0 h16_1 h16_5 h16_8 h16_2 h16_3 h16_6
     obtain ⟨kp3_0, kp3_1, kp3_2⟩ := p3.c3
     obtain ⟨kp4_0, kp4_1⟩ := p4.c2
     obtain ⟨kp11_7_0, kp11_7_1⟩ := p11_7.c2
     obtain ⟨kp12_7_0, kp12_7_1⟩ := p12_7.c2
     obtain ⟨kp13_7_0, kp13_7_1⟩ := p13_7.c2
     obtain ⟨kp14_7_0, kp14_7_1⟩ := p14_7.c2
     obtain ⟨kp15_7_0, kp15_7_1⟩ := p15_7.c2
     obtain ⟨kp16_7_0, kp16_7_1⟩ := p16_7.c2
     go_upto_region 9 with (fail)
     clear kp3_0 kp3_1 kp3_2 kp4_0 kp4_1 kp11_7_0 kp11_7_1 kp12_7_0 kp12_7_1 kp13_7_0 kp13_7_1 kp14_7_0 kp14_7_1 kp15_7_0 kp15_7_1 kp16_7_0 kp16_7_1; have ltp16_7 := p16_7.lt; have szw17 := Ext.size E0
     refine region_gs [.one fun v _ => v = .agg #[.bool b2, .slice a2 n2 c2],
       .one fun v _ => v = .int .i64 kk,
       .one fun v _ => v = .tuple #[.agg #[.bool false, .slice none 0 0, .slice none 0 0], .int .i64 1],
       .one fun v _ => v = .tuple #[.agg #[.bool false, .slice none 0 0, .slice none 0 0], .int .i64 1],
       .one fun v _ => v = .agg #[.bool false, .slice none 0 0, .slice none 0 0],
       .one fun v _ => v = .int .i64 1,
       .one fun v W => ∃ g, v = .pointer (some ⟨g, 0, none⟩) ∧ W16.heap.size ≤ g ∧ Form W g 27 3,
       .two 6 (fun p _ W => New3 W16.heap.size 27 (.bool false) (.slice none 0 0) (.slice none 0 0) p W),
       .one fun v _ => v = .int .i64 1]
      (fun W => Ext w W ∧ Bx3 W w.heap.size 27 (.bool b1) (.slice a1 n1 c1) (.slice d1 m1 o1) ∧ Bx2 W (w.heap.size + 1) 25 (.bool b2) (.slice a2 n2 c2) ∧ Rw W (.agg #[.bool b1, .slice a1 n1 c1, .slice d1 m1 o1]) x ∧ Zw W (.agg #[.bool b2, .slice a2 n2 c2]) z ∧ Zw W (.agg #[.bool b11_7, .slice a11_7 n11_7 c11_7]) 0 ∧ Bx2 W g11_7 25 (.bool b11_7) (.slice a11_7 n11_7 c11_7) ∧ Zw W (.agg #[.bool b12_7, .slice a12_7 n12_7 c12_7]) 0 ∧ Bx2 W g12_7 25 (.bool b12_7) (.slice a12_7 n12_7 c12_7) ∧ Zw W (.agg #[.bool b13_7, .slice a13_7 n13_7 c13_7]) 0 ∧ Bx2 W g13_7 25 (.bool b13_7) (.slice a13_7 n13_7 c13_7) ∧ Zw W (.agg #[.bool b14_7, .slice a14_7 n14_7 c14_7]) 0 ∧ Bx2 W g14_7 25 (.bool b14_7) (.slice a14_7 n14_7 c14_7) ∧ Zw W (.agg #[.bool b15_7, .slice a15_7 n15_7 c15_7]) 0 ∧ Bx2 W g15_7 25 (.bool b15_7) (.slice a15_7 n15_7 c15_7) ∧ Zw W (.agg #[.bool b16_7, .slice a16_7 n16_7 c16_7]) 0 ∧ Bx2 W g16_7 25 (.bool b16_7) (.slice a16_7 n16_7 c16_7) ∧ W16.heap.size ≤ W.heap.size) ⟨Good.is _, Good.is _, Good.is _, Good.is _, Good.is _, Good.is _, Good.box _ _ _, cert_new3, Good.is _, trivial⟩
      ⟨E0, p3, p4, hx1, hx2, h11_4, p11_7, h12_4, p12_7, h13_4, p13_7, h14_4, p14_7, h15_4, p15_7, h16_4, p16_7, Nat.le_refl _⟩ (A := ?A17) ?hA17 ?howe17 ?hfin17
     case hA17 =>
      intro vs
      simp only [putAll, Act.put, sA, sZ, sS, Nat.zero_add, Nat.reduceAdd]
      exact rfl
     case howe17 =>
      clear E0 p3 p4 hx1 hx2 h11_4 p11_7 h12_4 p12_7 h13_4 p13_7 h14_4 p14_7 h15_4 p15_7 h16_4 p16_7
      intro hf
      refine ⟨oE 0 [] hf rfl ?_, oE 1 [] hf rfl ?_, oE 2 [0, 1] hf rfl ?_, oE 3 [2] hf rfl ?_, oE 4 [3] hf rfl ?_, oE 5 [3] hf rfl ?_, oE 6 [] hf rfl ?_, oW 7 [6, 4] hf rfl ?_, oE 8 [5] hf rfl ?_, trivial⟩
      all_goals intro vs W hS hp hx KO hKO
      all_goals simp only [Act.put, sA, sZ, sS] at hKO
      ·have fc0 := hS.2.2.1.cell0; have fc1 := hS.2.2.1.cell1; go_simp; exact hKO _ W (.refl W) rfl
      ·go_simp; exact hKO _ W (.refl W) rfl
      ·have e0 := isOf hp.1; have e1 := isOf hp.2.1; simp only [e0, e1] at hKO; go_simp
       refine (Try.dyadBackNo (hS.2.2.2.2.1) kk HK.out).mono ?_
       rintro e W1 ⟨rfl, hE⟩
       exact hKO _ W1 hE rfl
      ·have e2 := isOf hp.1; simp only [e2] at hKO; go_simp; exact hKO _ W (.refl W) rfl
      ·have e3 := isOf hp.1; simp only [e3] at hKO; go_simp; exact hKO _ W (.refl W) rfl
      ·have e3 := isOf hp.1; simp only [e3] at hKO; go_simp; exact hKO _ W (.refl W) rfl
      ·have hn := Bx3.new W 27 (.bool false) (.slice none 0 0) (.slice none 0 0)
       have hE := Ext.alloc1 W (.cells #[.bool false, .slice none 0 0, .slice none 0 0] 27)
       have hsz := hS.2.2.2.2.2.2.2.2.2.2.2.2.2.2.2.2.2
       go_simp
       exact hKO _ _ hE ⟨_, rfl, hsz, hn.form⟩
      ·have q6 := hp.1; have e4 := isOf hp.2.1; simp only [e4] at hKO
       obtain ⟨g, ev, hg, hf⟩ := q6
       replace ev : vs 6 = _ := ev
       obtain ⟨x0_0, x0_1, x0_2, hx, hno⟩ := hf.bx3
       have r0 := hx.froz0
       have t0 := hx.cell0
       have r1 := hx.froz1
       have t1 := hx.cell1
       have r2 := hx.froz2
       have t2 := hx.cell2
       have hw := Wr.set3 hx hno false none 0 0 none 0 0
       have hq := hx.set (.bool false) (.slice none 0 0) (.slice none 0 0)
       simp only [ev] at hKO; go_simp
       exact hKO _ _ hw ⟨(Ext.wr hS.1 hw (by omega)), (hS.2.1.wr hw (by omega)), (hS.2.2.1.wr hw (by omega)), (hS.2.2.2.1.wr hw), (hS.2.2.2.2.1.wr hw), (hS.2.2.2.2.2.1.wr hw), (hS.2.2.2.2.2.2.1.wr hw (by omega)), (hS.2.2.2.2.2.2.2.1.wr hw), (hS.2.2.2.2.2.2.2.2.1.wr hw (by omega)), (hS.2.2.2.2.2.2.2.2.2.1.wr hw), (hS.2.2.2.2.2.2.2.2.2.2.1.wr hw (by omega)), (hS.2.2.2.2.2.2.2.2.2.2.2.1.wr hw), (hS.2.2.2.2.2.2.2.2.2.2.2.2.1.wr hw (by omega)), (hS.2.2.2.2.2.2.2.2.2.2.2.2.2.1.wr hw), (hS.2.2.2.2.2.2.2.2.2.2.2.2.2.2.1.wr hw (by omega)), (hS.2.2.2.2.2.2.2.2.2.2.2.2.2.2.2.1.wr hw), (hS.2.2.2.2.2.2.2.2.2.2.2.2.2.2.2.2.1.wr hw (by omega)), (Nat.le_trans hS.2.2.2.2.2.2.2.2.2.2.2.2.2.2.2.2.2 hw.apart.size)⟩ ⟨g, ev, hg, hq⟩
      ·have e5 := isOf hp.1; simp only [e5] at hKO; go_simp; exact hKO _ W (.refl W) rfl
     intro vs W17 hS hp
     clear szw17 E0 p3 p4 hx1 hx2 h11_4 p11_7 h12_4 p12_7 h13_4 p13_7 h14_4 p14_7 h15_4 p15_7 h16_4 p16_7
     obtain ⟨E0, p3, p4, hx1, hx2, h11_4, p11_7, h12_4, p12_7, h13_4, p13_7, h14_4, p14_7, h15_4, p15_7, h16_4, p16_7, sz17⟩ := hS
     obtain ⟨h17_0, h17_1, h17_2, h17_3, h17_4, h17_5, h17_6, h17_7, h17_8, -⟩ := hp
     obtain ⟨g17_7, ev17_7, hg17_7, p17_7⟩ := h17_7
     replace ev17_7 : vs 6 = _ := ev17_7
     replace h17_0 : vs 0 = .agg #[.bool b2, .slice a2 n2 c2] := h17_0
     replace h17_1 : vs 1 = .int .i64 kk := h17_1
     replace h17_2 : vs 2 = .tuple #[.agg #[.bool false, .slice none 0 0, .slice none 0 0], .int .i64 1] := h17_2
     replace h17_3 : vs 3 = .tuple #[.agg #[.bool false, .slice none 0 0, .slice none 0 0], .int .i64 1] := h17_3
     replace h17_4 : vs 4 = .agg #[.bool false, .slice none 0 0, .slice none 0 0] := h17_4
     replace h17_5 : vs 5 = .int .i64 1 := h17_5
     replace h17_8 : vs 8 = .int .i64 1 := h17_8
     simp only [ev17_7, h17_0, h17_1, h17_2, h17_3, h17_4, h17_5, h17_8]
     clear ev17_7 h17_0 h17_1 h17_2 h17_3 h17_4 h17_5 h17_8 h17_6
     obtain ⟨kp3_0, kp3_1, kp3_2⟩ := p3.c3
     obtain ⟨kp4_0, kp4_1⟩ := p4.c2
     obtain ⟨kp11_7_0, kp11_7_1⟩ := p11_7.c2
     obtain ⟨kp12_7_0, kp12_7_1⟩ := p12_7.c2
     obtain ⟨kp13_7_0, kp13_7_1⟩ := p13_7.c2
     obtain ⟨kp14_7_0, kp14_7_1⟩ := p14_7.c2
     obtain ⟨kp15_7_0, kp15_7_1⟩ := p15_7.c2
     obtain ⟨kp16_7_0, kp16_7_1⟩ := p16_7.c2
     obtain ⟨kp17_7_0, kp17_7_1, kp17_7_2⟩ := p17_7.c3
     go_upto_region 10 with (fail)
     clear kp3_0 kp3_1 kp3_2 kp4_0 kp4_1 kp11_7_0 kp11_7_1 kp12_7_0 kp12_7_1 kp13_7_0 kp13_7_1 kp14_7_0 kp14_7_1 kp15_7_0 kp15_7_1 kp16_7_0 kp16_7_1 kp17_7_0 kp17_7_1 kp17_7_2; have ltp17_7 := p17_7.lt; have szw18 := Ext.size E0
     refine region_gs [.one fun v _ => v = .agg #[.bool b2, .slice a2 n2 c2],
       .one fun v _ => v = .int .i64 kk,
       .one fun v _ => v = .tuple #[.agg #[.bool false, .slice none 0 0, .slice none 0 0], .int .i64 1],
       .one fun v _ => v = .tuple #[.agg #[.bool false, .slice none 0 0, .slice none 0 0], .int .i64 1],
       .one fun v _ => v = .agg #[.bool false, .slice none 0 0, .slice none 0 0],
       .one fun v _ => v = .int .i64 1,
       .one fun v W => ∃ g, v = .pointer (some ⟨g, 0, none⟩) ∧ W17.heap.size ≤ g ∧ Form W g 27 3,
       .two 6 (fun p _ W => New3 W17.heap.size 27 (.bool false) (.slice none 0 0) (.slice none 0 0) p W),
       .one fun v _ => v = .int .i64 1]
      (fun W => Ext w W ∧ Bx3 W w.heap.size 27 (.bool b1) (.slice a1 n1 c1) (.slice d1 m1 o1) ∧ Bx2 W (w.heap.size + 1) 25 (.bool b2) (.slice a2 n2 c2) ∧ Rw W (.agg #[.bool b1, .slice a1 n1 c1, .slice d1 m1 o1]) x ∧ Zw W (.agg #[.bool b2, .slice a2 n2 c2]) z ∧ Zw W (.agg #[.bool b11_7, .slice a11_7 n11_7 c11_7]) 0 ∧ Bx2 W g11_7 25 (.bool b11_7) (.slice a11_7 n11_7 c11_7) ∧ Zw W (.agg #[.bool b12_7, .slice a12_7 n12_7 c12_7]) 0 ∧ Bx2 W g12_7 25 (.bool b12_7) (.slice a12_7 n12_7 c12_7) ∧ Zw W (.agg #[.bool b13_7, .slice a13_7 n13_7 c13_7]) 0 ∧ Bx2 W g13_7 25 (.bool b13_7) (.slice a13_7 n13_7 c13_7) ∧ Zw W (.agg #[.bool b14_7, .slice a14_7 n14_7 c14_7]) 0 ∧ Bx2 W g14_7 25 (.bool b14_7) (.slice a14_7 n14_7 c14_7) ∧ Zw W (.agg #[.bool b15_7, .slice a15_7 n15_7 c15_7]) 0 ∧ Bx2 W g15_7 25 (.bool b15_7) (.slice a15_7 n15_7 c15_7) ∧ Zw W (.agg #[.bool b16_7, .slice a16_7 n16_7 c16_7]) 0 ∧ Bx2 W g16_7 25 (.bool b16_7) (.slice a16_7 n16_7 c16_7) ∧ Bx3 W g17_7 27 (.bool false) (.slice none 0 0) (.slice none 0 0) ∧ W17.heap.size ≤ W.heap.size) ⟨Good.is _, Good.is _, Good.is _, Good.is _, Good.is _, Good.is _, Good.box _ _ _, cert_new3, Good.is _, trivial⟩
      ⟨E0, p3, p4, hx1, hx2, h11_4, p11_7, h12_4, p12_7, h13_4, p13_7, h14_4, p14_7, h15_4, p15_7, h16_4, p16_7, p17_7, Nat.le_refl _⟩ (A := ?A18) ?hA18 ?howe18 ?hfin18
     case hA18 =>
      intro vs
      simp only [putAll, Act.put, sA, sZ, sS, Nat.zero_add, Nat.reduceAdd]
      exact rfl
     case howe18 =>
      clear E0 p3 p4 hx1 hx2 h11_4 p11_7 h12_4 p12_7 h13_4 p13_7 h14_4 p14_7 h15_4 p15_7 h16_4 p16_7 p17_7
      intro hf
      refine ⟨oE 0 [] hf rfl ?_, oE 1 [] hf rfl ?_, oE 2 [0, 1] hf rfl ?_, oE 3 [2] hf rfl ?_, oE 4 [3] hf rfl ?_, oE 5 [3] hf rfl ?_, oE 6 [] hf rfl ?_, oW 7 [6, 4] hf rfl ?_, oE 8 [5] hf rfl ?_, trivial⟩
      all_goals intro vs W hS hp hx KO hKO
      all_goals simp only [Act.put, sA, sZ, sS] at hKO
      ·have fc0 := hS.2.2.1.cell0; have fc1 := hS.2.2.1.cell1; go_simp; exact hKO _ W (.refl W) rfl
      ·go_simp; exact hKO _ W (.refl W) rfl
      ·have e0 := isOf hp.1; have e1 := isOf hp.2.1; simp only [e0, e1] at hKO; go_simp
       refine (Try.refBackNo (hS.2.2.2.2.1) kk HK.out).mono ?_
       rintro e W1 ⟨rfl, hE⟩
       exact hKO _ W1 hE rfl
      ·have e2 := isOf hp.1; simp only [e2] at hKO; go_simp; exact hKO _ W (.refl W) rfl
      ·have e3 := isOf hp.1; simp only [e3] at hKO; go_simp; exact hKO _ W (.refl W) rfl
      ·have e3 := isOf hp.1; simp only [e3] at hKO; go_simp; exact hKO _ W (.refl W) rfl
      ·have hn := Bx3.new W 27 (.bool false) (.slice none 0 0) (.slice none 0 0)
       have hE := Ext.alloc1 W (.cells #[.bool false, .slice none 0 0, .slice none 0 0] 27)
       have hsz := hS.2.2.2.2.2.2.2.2.2.2.2.2.2.2.2.2.2.2
       go_simp
       exact hKO _ _ hE ⟨_, rfl, hsz, hn.form⟩
      ·have q6 := hp.1; have e4 := isOf hp.2.1; simp only [e4] at hKO
       obtain ⟨g, ev, hg, hf⟩ := q6
       replace ev : vs 6 = _ := ev
       obtain ⟨x0_0, x0_1, x0_2, hx, hno⟩ := hf.bx3
       have r0 := hx.froz0
       have t0 := hx.cell0
       have r1 := hx.froz1
       have t1 := hx.cell1
       have r2 := hx.froz2
       have t2 := hx.cell2
       have hw := Wr.set3 hx hno false none 0 0 none 0 0
       have hq := hx.set (.bool false) (.slice none 0 0) (.slice none 0 0)
       simp only [ev] at hKO; go_simp
       exact hKO _ _ hw ⟨(Ext.wr hS.1 hw (by omega)), (hS.2.1.wr hw (by omega)), (hS.2.2.1.wr hw (by omega)), (hS.2.2.2.1.wr hw), (hS.2.2.2.2.1.wr hw), (hS.2.2.2.2.2.1.wr hw), (hS.2.2.2.2.2.2.1.wr hw (by omega)), (hS.2.2.2.2.2.2.2.1.wr hw), (hS.2.2.2.2.2.2.2.2.1.wr hw (by omega)), (hS.2.2.2.2.2.2.2.2.2.1.wr hw), (hS.2.2.2.2.2.2.2.2.2.2.1.wr hw (by omega)), (hS.2.2.2.2.2.2.2.2.2.2.2.1.wr hw), (hS.2.2.2.2.2.2.2.2.2.2.2.2.1.wr hw (by omega)), (hS.2.2.2.2.2.2.2.2.2.2.2.2.2.1.wr hw), (hS.2.2.2.2.2.2.2.2.2.2.2.2.2.2.1.wr hw (by omega)), (hS.2.2.2.2.2.2.2.2.2.2.2.2.2.2.2.1.wr hw), (hS.2.2.2.2.2.2.2.2.2.2.2.2.2.2.2.2.1.wr hw (by omega)), (hS.2.2.2.2.2.2.2.2.2.2.2.2.2.2.2.2.2.1.wr hw (by omega)), (Nat.le_trans hS.2.2.2.2.2.2.2.2.2.2.2.2.2.2.2.2.2.2 hw.apart.size)⟩ ⟨g, ev, hg, hq⟩
      ·have e5 := isOf hp.1; simp only [e5] at hKO; go_simp; exact hKO _ W (.refl W) rfl
     intro vs W18 hS hp
     clear szw18 E0 p3 p4 hx1 hx2 h11_4 p11_7 h12_4 p12_7 h13_4 p13_7 h14_4 p14_7 h15_4 p15_7 h16_4 p16_7 p17_7
     obtain ⟨E0, p3, p4, hx1, hx2, h11_4, p11_7, h12_4, p12_7, h13_4, p13_7, h14_4, p14_7, h15_4, p15_7, h16_4, p16_7, p17_7, sz18⟩ := hS
     obtain ⟨h18_0, h18_1, h18_2, h18_3, h18_4, h18_5, h18_6, h18_7, h18_8, -⟩ := hp
     obtain ⟨g18_7, ev18_7, hg18_7, p18_7⟩ := h18_7
     replace ev18_7 : vs 6 = _ := ev18_7
     replace h18_0 : vs 0 = .agg #[.bool b2, .slice a2 n2 c2] := h18_0
     replace h18_1 : vs 1 = .int .i64 kk := h18_1
     replace h18_2 : vs 2 = .tuple #[.agg #[.bool false, .slice none 0 0, .slice none 0 0], .int .i64 1] := h18_2
     replace h18_3 : vs 3 = .tuple #[.agg #[.bool false, .slice none 0 0, .slice none 0 0], .int .i64 1] := h18_3
     replace h18_4 : vs 4 = .agg #[.bool false, .slice none 0 0, .slice none 0 0] := h18_4
     replace h18_5 : vs 5 = .int .i64 1 := h18_5
     replace h18_8 : vs 8 = .int .i64 1 := h18_8
     simp only [ev18_7, h18_0, h18_1, h18_2, h18_3, h18_4, h18_5, h18_8]
     clear ev18_7 h18_0 h18_1 h18_2 h18_3 h18_4 h18_5 h18_8 h18_6
     obtain ⟨kp3_0, kp3_1, kp3_2⟩ := p3.c3
     obtain ⟨kp4_0, kp4_1⟩ := p4.c2
     obtain ⟨kp11_7_0, kp11_7_1⟩ := p11_7.c2
     obtain ⟨kp12_7_0, kp12_7_1⟩ := p12_7.c2
     obtain ⟨kp13_7_0, kp13_7_1⟩ := p13_7.c2
     obtain ⟨kp14_7_0, kp14_7_1⟩ := p14_7.c2
     obtain ⟨kp15_7_0, kp15_7_1⟩ := p15_7.c2
     obtain ⟨kp16_7_0, kp16_7_1⟩ := p16_7.c2
     obtain ⟨kp17_7_0, kp17_7_1, kp17_7_2⟩ := p17_7.c3
     obtain ⟨kp18_7_0, kp18_7_1, kp18_7_2⟩ := p18_7.c3
     go_upto_region 11 with (fail)
     clear kp3_0 kp3_1 kp3_2 kp4_0 kp4_1 kp11_7_0 kp11_7_1 kp12_7_0 kp12_7_1 kp13_7_0 kp13_7_1 kp14_7_0 kp14_7_1 kp15_7_0 kp15_7_1 kp16_7_0 kp16_7_1 kp17_7_0 kp17_7_1 kp17_7_2 kp18_7_0 kp18_7_1 kp18_7_2; have ltp18_7 := p18_7.lt; have szw19 := Ext.size E0
     refine region_gs [.one fun v _ => v = .agg #[.bool b11_7, .slice a11_7 n11_7 c11_7],
       .one fun v _ => v = .agg #[.bool b12_7, .slice a12_7 n12_7 c12_7],
       .one fun v _ => v = .bool true,
       .one fun v _ => v = .bool true,
       .one fun v _ => v = .int .i64 1,
       .one fun v _ => v = .int .i64 1,
       .one fun v _ => v = .bool true,
       .one fun v _ => v = .bool true,
       .one fun v _ => v = .bool true,
       .one fun v _ => v = .agg #[.bool b13_7, .slice a13_7 n13_7 c13_7],
       .one fun v _ => v = .agg #[.bool b14_7, .slice a14_7 n14_7 c14_7],
       .one fun v _ => v = .bool true,
       .one fun v _ => v = .bool true,
       .one fun v _ => v = .bool true,
       .one fun v _ => v = .int .i64 1,
       .one fun v _ => v = .int .i64 1,
       .one fun v _ => v = .bool true,
       .one fun v _ => v = .bool true,
       .one fun v _ => v = .bool true]
      (fun W => Ext w W ∧ Bx3 W w.heap.size 27 (.bool b1) (.slice a1 n1 c1) (.slice d1 m1 o1) ∧ Bx2 W (w.heap.size + 1) 25 (.bool b2) (.slice a2 n2 c2) ∧ Rw W (.agg #[.bool b1, .slice a1 n1 c1, .slice d1 m1 o1]) x ∧ Zw W (.agg #[.bool b2, .slice a2 n2 c2]) z ∧ Zw W (.agg #[.bool b11_7, .slice a11_7 n11_7 c11_7]) 0 ∧ Bx2 W g11_7 25 (.bool b11_7) (.slice a11_7 n11_7 c11_7) ∧ Zw W (.agg #[.bool b12_7, .slice a12_7 n12_7 c12_7]) 0 ∧ Bx2 W g12_7 25 (.bool b12_7) (.slice a12_7 n12_7 c12_7) ∧ Zw W (.agg #[.bool b13_7, .slice a13_7 n13_7 c13_7]) 0 ∧ Bx2 W g13_7 25 (.bool b13_7) (.slice a13_7 n13_7 c13_7) ∧ Zw W (.agg #[.bool b14_7, .slice a14_7 n14_7 c14_7]) 0 ∧ Bx2 W g14_7 25 (.bool b14_7) (.slice a14_7 n14_7 c14_7) ∧ Zw W (.agg #[.bool b15_7, .slice a15_7 n15_7 c15_7]) 0 ∧ Bx2 W g15_7 25 (.bool b15_7) (.slice a15_7 n15_7 c15_7) ∧ Zw W (.agg #[.bool b16_7, .slice a16_7 n16_7 c16_7]) 0 ∧ Bx2 W g16_7 25 (.bool b16_7) (.slice a16_7 n16_7 c16_7) ∧ Bx3 W g17_7 27 (.bool false) (.slice none 0 0) (.slice none 0 0) ∧ Bx3 W g18_7 27 (.bool false) (.slice none 0 0) (.slice none 0 0) ∧ W18.heap.size ≤ W.heap.size) ⟨Good.is _, Good.is _, Good.is _, Good.is _, Good.is _, Good.is _, Good.is _, Good.is _, Good.is _, Good.is _, Good.is _, Good.is _, Good.is _, Good.is _, Good.is _, Good.is _, Good.is _, Good.is _, Good.is _, trivial⟩
      ⟨E0, p3, p4, hx1, hx2, h11_4, p11_7, h12_4, p12_7, h13_4, p13_7, h14_4, p14_7, h15_4, p15_7, h16_4, p16_7, p17_7, p18_7, Nat.le_refl _⟩ (A := ?A19) ?hA19 ?howe19 ?hfin19
     case hA19 =>
      intro vs
      simp only [putAll, Act.put, sA, sZ, sS, Nat.zero_add, Nat.reduceAdd]
      exact rfl
     case howe19 =>
      clear E0 p3 p4 hx1 hx2 h11_4 p11_7 h12_4 p12_7 h13_4 p13_7 h14_4 p14_7 h15_4 p15_7 h16_4 p16_7 p17_7 p18_7
      intro hf
      refine ⟨oE 0 [] hf rfl ?_, oE 1 [] hf rfl ?_, oE 2 [0, 1] hf rfl ?_, oE 3 [2] hf rfl ?_, oE 4 [3] hf rfl ?_, oE 5 [3] hf rfl ?_, oE 6 [3, 4, 5] hf rfl ?_, oE 7 [3, 6] hf rfl ?_, oE 8 [7] hf rfl ?_, oE 9 [8] hf rfl ?_, oE 10 [8] hf rfl ?_, oE 11 [8, 9, 10] hf rfl ?_, oE 12 [8, 11] hf rfl ?_, oE 13 [12] hf rfl ?_, oE 14 [13] hf rfl ?_, oE 15 [13] hf rfl ?_, oE 16 [13, 14, 15] hf rfl ?_, oE 17 [13, 16] hf rfl ?_, oE 18 [17] hf rfl ?_, trivial⟩
      all_goals intro vs W hS hp hx KO hKO
      all_goals simp only [Act.put, sA, sZ, sS] at hKO
      ·have fc0 := hS.2.2.2.2.2.2.1.cell0; have fc1 := hS.2.2.2.2.2.2.1.cell1; go_simp; exact hKO _ W (.refl W) rfl
      ·have fc0 := hS.2.2.2.2.2.2.2.2.1.cell0; have fc1 := hS.2.2.2.2.2.2.2.2.1.cell1; go_simp; exact hKO _ W (.refl W) rfl
      ·have e0 := isOf hp.1; have e1 := isOf hp.2.1; simp only [e0, e1] at hKO; go_simp
       refine (Try.refZSameD (hS.2.2.2.2.2.1) (hS.2.2.2.2.2.2.2.1) rfl).mono ?_
       rintro e W1 ⟨rfl, hE⟩
       exact hKO _ W1 hE rfl
      ·have e2 := isOf hp.1; simp only [e2] at hKO; go_simp; exact hKO _ W (.refl W) rfl
      ·have e3 := isOf hp.1; simp only [e3] at hKO; go_simp; exact hKO _ W (.refl W) rfl
      ·have e3 := isOf hp.1; simp only [e3] at hKO; go_simp; exact hKO _ W (.refl W) rfl
      ·have e3 := isOf hp.1; have e4 := isOf hp.2.1; have e5 := isOf hp.2.2.1; simp only [e3, e4, e5] at hKO; go_simp; exact hKO _ W (.refl W) rfl
      ·have e3 := isOf hp.1; have e6 := isOf hp.2.1; simp only [e3, e6] at hKO; go_simp; exact hKO _ W (.refl W) rfl
      ·have e7 := isOf hp.1; simp only [e7] at hKO; go_simp; exact hKO _ W (.refl W) rfl
      ·have e8 := isOf hp.1; simp only [e8] at hKO; have fc0 := hS.2.2.2.2.2.2.2.2.2.2.1.cell0; have fc1 := hS.2.2.2.2.2.2.2.2.2.2.1.cell1; go_simp; exact hKO _ W (.refl W) rfl
      ·have e8 := isOf hp.1; simp only [e8] at hKO; have fc0 := hS.2.2.2.2.2.2.2.2.2.2.2.2.1.cell0; have fc1 := hS.2.2.2.2.2.2.2.2.2.2.2.2.1.cell1; go_simp; exact hKO _ W (.refl W) rfl
      ·have e8 := isOf hp.1; have e9 := isOf hp.2.1; have e10 := isOf hp.2.2.1; simp only [e8, e9, e10] at hKO; go_simp
       refine (Try.refZSameD (hS.2.2.2.2.2.2.2.2.2.1) (hS.2.2.2.2.2.2.2.2.2.2.2.1) rfl).mono ?_
       rintro e W1 ⟨rfl, hE⟩
       exact hKO _ W1 hE rfl
      ·have e8 := isOf hp.1; have e11 := isOf hp.2.1; simp only [e8, e11] at hKO; go_simp; exact hKO _ W (.refl W) rfl
      ·have e12 := isOf hp.1; simp only [e12] at hKO; go_simp; exact hKO _ W (.refl W) rfl
      ·have e13 := isOf hp.1; simp only [e13] at hKO; go_simp; exact hKO _ W (.refl W) rfl
      ·have e13 := isOf hp.1; simp only [e13] at hKO; go_simp; exact hKO _ W (.refl W) rfl
      ·have e13 := isOf hp.1; have e14 := isOf hp.2.1; have e15 := isOf hp.2.2.1; simp only [e13, e14, e15] at hKO; go_simp; exact hKO _ W (.refl W) rfl
      ·have e13 := isOf hp.1; have e16 := isOf hp.2.1; simp only [e13, e16] at hKO; go_simp; exact hKO _ W (.refl W) rfl
      ·have e17 := isOf hp.1; simp only [e17] at hKO; go_simp; exact hKO _ W (.refl W) rfl
     intro vs W19 hS hp
     clear szw19 E0 p3 p4 hx1 hx2 h11_4 p11_7 h12_4 p12_7 h13_4 p13_7 h14_4 p14_7 h15_4 p15_7 h16_4 p16_7 p17_7 p18_7
     obtain ⟨E0, p3, p4, hx1, hx2, h11_4, p11_7, h12_4, p12_7, h13_4, p13_7, h14_4, p14_7, h15_4, p15_7, h16_4, p16_7, p17_7, p18_7, sz19⟩ := hS
     obtain ⟨h19_0, h19_1, h19_2, h19_3, h19_4, h19_5, h19_6, h19_7, h19_8, h19_9, h19_10, h19_11, h19_12, h19_13, h19_14, h19_15, h19_16, h19_17, h19_18, -⟩ := hp
     replace h19_0 : vs 0 = .agg #[.bool b11_7, .slice a11_7 n11_7 c11_7] := h19_0
     replace h19_1 : vs 1 = .agg #[.bool b12_7, .slice a12_7 n12_7 c12_7] := h19_1
     replace h19_2 : vs 2 = .bool true := h19_2
     replace h19_3 : vs 3 = .bool true := h19_3
     replace h19_4 : vs 4 = .int .i64 1 := h19_4
     replace h19_5 : vs 5 = .int .i64 1 := h19_5
     replace h19_6 : vs 6 = .bool true := h19_6
     replace h19_7 : vs 7 = .bool true := h19_7
     replace h19_8 : vs 8 = .bool true := h19_8
     replace h19_9 : vs 9 = .agg #[.bool b13_7, .slice a13_7 n13_7 c13_7] := h19_9
     replace h19_10 : vs 10 = .agg #[.bool b14_7, .slice a14_7 n14_7 c14_7] := h19_10
     replace h19_11 : vs 11 = .bool true := h19_11
     replace h19_12 : vs 12 = .bool true := h19_12
     replace h19_13 : vs 13 = .bool true := h19_13
     replace h19_14 : vs 14 = .int .i64 1 := h19_14
     replace h19_15 : vs 15 = .int .i64 1 := h19_15
     replace h19_16 : vs 16 = .bool true := h19_16
     replace h19_17 : vs 17 = .bool true := h19_17
     replace h19_18 : vs 18 = .bool true := h19_18
     simp only [h19_0, h19_1, h19_2, h19_3, h19_4, h19_5, h19_6, h19_7, h19_8, h19_9, h19_10, h19_11, h19_12, h19_13, h19_14, h19_15, h19_16, h19_17, h19_18]
     clear h19_0 h19_1 h19_2 h19_3 h19_4 h19_5 h19_6 h19_7 h19_8 h19_9 h19_10 h19_11 h19_12 h19_13 h19_14 h19_15 h19_16 h19_17 h19_18
     obtain ⟨kp3_0, kp3_1, kp3_2⟩ := p3.c3
     obtain ⟨kp4_0, kp4_1⟩ := p4.c2
     obtain ⟨kp11_7_0, kp11_7_1⟩ := p11_7.c2
     obtain ⟨kp12_7_0, kp12_7_1⟩ := p12_7.c2
     obtain ⟨kp13_7_0, kp13_7_1⟩ := p13_7.c2
     obtain ⟨kp14_7_0, kp14_7_1⟩ := p14_7.c2
     obtain ⟨kp15_7_0, kp15_7_1⟩ := p15_7.c2
     obtain ⟨kp16_7_0, kp16_7_1⟩ := p16_7.c2
     obtain ⟨kp17_7_0, kp17_7_1, kp17_7_2⟩ := p17_7.c3
     obtain ⟨kp18_7_0, kp18_7_1, kp18_7_2⟩ := p18_7.c3
     go_upto_region 12 with (fail)
     clear kp3_0 kp3_1 kp3_2 kp4_0 kp4_1 kp11_7_0 kp11_7_1 kp12_7_0 kp12_7_1 kp13_7_0 kp13_7_1 kp14_7_0 kp14_7_1 kp15_7_0 kp15_7_1 kp16_7_0 kp16_7_1 kp17_7_0 kp17_7_1 kp17_7_2 kp18_7_0 kp18_7_1 kp18_7_2; have szw20 := Ext.size E0
     refine region_gs [.one fun v _ => v = .bool true,
       .one fun v _ => v = .bool true,
       .one fun v _ => v = .bool true,
       .one fun v _ => v = .bool true,
       .one fun v _ => v = .bool true,
       .one fun v _ => v = .agg #[.bool b15_7, .slice a15_7 n15_7 c15_7],
       .one fun v _ => v = .agg #[.bool b16_7, .slice a16_7 n16_7 c16_7],
       .one fun v _ => v = .bool true,
       .one fun v _ => v = .bool true,
       .one fun v _ => v = .bool true,
       .one fun v _ => v = .int .i64 1,
       .one fun v _ => v = .int .i64 1,
       .one fun v _ => v = .bool true,
       .one fun v _ => v = .bool true,
       .one fun v _ => v = .bool true,
       .one fun v _ => v = .agg #[.bool false, .slice none 0 0, .slice none 0 0],
       .one fun v _ => v = .agg #[.bool false, .slice none 0 0, .slice none 0 0],
       .one fun v _ => v = .bool true,
       .one fun v _ => v = .bool true,
       .one fun v _ => v = .bool true,
       .one fun v _ => v = .int .i64 1,
       .one fun v _ => v = .int .i64 1,
       .one fun v _ => v = .bool true,
       .one fun v _ => v = .bool true,
       .one fun v _ => v = .bool true]
      (fun W => Ext w W ∧ Bx3 W w.heap.size 27 (.bool b1) (.slice a1 n1 c1) (.slice d1 m1 o1) ∧ Bx2 W (w.heap.size + 1) 25 (.bool b2) (.slice a2 n2 c2) ∧ Rw W (.agg #[.bool b1, .slice a1 n1 c1, .slice d1 m1 o1]) x ∧ Zw W (.agg #[.bool b2, .slice a2 n2 c2]) z ∧ Zw W (.agg #[.bool b11_7, .slice a11_7 n11_7 c11_7]) 0 ∧ Bx2 W g11_7 25 (.bool b11_7) (.slice a11_7 n11_7 c11_7) ∧ Zw W (.agg #[.bool b12_7, .slice a12_7 n12_7 c12_7]) 0 ∧ Bx2 W g12_7 25 (.bool b12_7) (.slice a12_7 n12_7 c12_7) ∧ Zw W (.agg #[.bool b13_7, .slice a13_7 n13_7 c13_7]) 0 ∧ Bx2 W g13_7 25 (.bool b13_7) (.slice a13_7 n13_7 c13_7) ∧ Zw W (.agg #[.bool b14_7, .slice a14_7 n14_7 c14_7]) 0 ∧ Bx2 W g14_7 25 (.bool b14_7) (.slice a14_7 n14_7 c14_7) ∧ Zw W (.agg #[.bool b15_7, .slice a15_7 n15_7 c15_7]) 0 ∧ Bx2 W g15_7 25 (.bool b15_7) (.slice a15_7 n15_7 c15_7) ∧ Zw W (.agg #[.bool b16_7, .slice a16_7 n16_7 c16_7]) 0 ∧ Bx2 W g16_7 25 (.bool b16_7) (.slice a16_7 n16_7 c16_7) ∧ Bx3 W g17_7 27 (.bool false) (.slice none 0 0) (.slice none 0 0) ∧ Bx3 W g18_7 27 (.bool false) (.slice none 0 0) (.slice none 0 0) ∧ W19.heap.size ≤ W.heap.size) ⟨Good.is _, Good.is _, Good.is _, Good.is _, Good.is _, Good.is _, Good.is _, Good.is _, Good.is _, Good.is _, Good.is _, Good.is _, Good.is _, Good.is _, Good.is _, Good.is _, Good.is _, Good.is _, Good.is _, Good.is _, Good.is _, Good.is _, Good.is _, Good.is _, Good.is _, trivial⟩
      ⟨E0, p3, p4, hx1, hx2, h11_4, p11_7, h12_4, p12_7, h13_4, p13_7, h14_4, p14_7, h15_4, p15_7, h16_4, p16_7, p17_7, p18_7, Nat.le_refl _⟩ (A := ?A20) ?hA20 ?howe20 ?hfin20
     case hA20 =>
      intro vs
      simp only [putAll, Act.put, sA, sZ, sS, Nat.zero_add, Nat.reduceAdd]
      exact rfl
     case howe20 =>
      clear E0 p3 p4 hx1 hx2 h11_4 p11_7 h12_4 p12_7 h13_4 p13_7 h14_4 p14_7 h15_4 p15_7 h16_4 p16_7 p17_7 p18_7
      intro hf
      refine ⟨oE 0 [] hf rfl ?_, oE 1 [0] hf rfl ?_, oE 2 [1] hf rfl ?_, oE 3 [1, 2] hf rfl ?_, oE 4 [3] hf rfl ?_, oE 5 [4] hf rfl ?_, oE 6 [4] hf rfl ?_, oE 7 [4, 5, 6] hf rfl ?_, oE 8 [4, 7] hf rfl ?_, oE 9 [8] hf rfl ?_, oE 10 [9] hf rfl ?_, oE 11 [9] hf rfl ?_, oE 12 [9, 10, 11] hf rfl ?_, oE 13 [9, 12] hf rfl ?_, oE 14 [13] hf rfl ?_, oE 15 [14] hf rfl ?_, oE 16 [14] hf rfl ?_, oE 17 [14, 15, 16] hf rfl ?_, oE 18 [14, 17] hf rfl ?_, oE 19 [18] hf rfl ?_, oE 20 [19] hf rfl ?_, oE 21 [19] hf rfl ?_, oE 22 [19, 20, 21] hf rfl ?_, oE 23 [19, 22] hf rfl ?_, oE 24 [23] hf rfl ?_, trivial⟩
      all_goals intro vs W hS hp hx KO hKO
      all_goals simp only [Act.put, sA, sZ, sS] at hKO
      ·go_simp
       refine (Try.alive06 _).mono ?_
       rintro e W1 ⟨rfl, hE⟩
       exact hKO _ W1 hE rfl
      ·have e0 := isOf hp.1; simp only [e0] at hKO; go_simp; exact hKO _ W (.refl W) rfl
      ·have e1 := isOf hp.1; simp only [e1] at hKO; go_simp; exact hKO _ W (.refl W) rfl
      ·have e1 := isOf hp.1; have e2 := isOf hp.2.1; simp only [e1, e2] at hKO; go_simp; exact hKO _ W (.refl W) rfl
      ·have e3 := isOf hp.1; simp only [e3] at hKO; go_simp; exact hKO _ W (.refl W) rfl
      ·have e4 := isOf hp.1; simp only [e4] at hKO; have fc0 := hS.2.2.2.2.2.2.2.2.2.2.2.2.2.2.1.cell0; have fc1 := hS.2.2.2.2.2.2.2.2.2.2.2.2.2.2.1.cell1; go_simp; exact hKO _ W (.refl W) rfl
      ·have e4 := isOf hp.1; simp only [e4] at hKO; have fc0 := hS.2.2.2.2.2.2.2.2.2.2.2.2.2.2.2.2.1.cell0; have fc1 := hS.2.2.2.2.2.2.2.2.2.2.2.2.2.2.2.2.1.cell1; go_simp; exact hKO _ W (.refl W) rfl
      ·have e4 := isOf hp.1; have e5 := isOf hp.2.1; have e6 := isOf hp.2.2.1; simp only [e4, e5, e6] at hKO; go_simp
       refine (Try.refZSameD (hS.2.2.2.2.2.2.2.2.2.2.2.2.2.1) (hS.2.2.2.2.2.2.2.2.2.2.2.2.2.2.2.1) rfl).mono ?_
       rintro e W1 ⟨rfl, hE⟩
       exact hKO _ W1 hE rfl
      ·have e4 := isOf hp.1; have e7 := isOf hp.2.1; simp only [e4, e7] at hKO; go_simp; exact hKO _ W (.refl W) rfl
      ·have e8 := isOf hp.1; simp only [e8] at hKO; go_simp; exact hKO _ W (.refl W) rfl
      ·have e9 := isOf hp.1; simp only [e9] at hKO; go_simp; exact hKO _ W (.refl W) rfl
      ·have e9 := isOf hp.1; simp only [e9] at hKO; go_simp; exact hKO _ W (.refl W) rfl
      ·have e9 := isOf hp.1; have e10 := isOf hp.2.1; have e11 := isOf hp.2.2.1; simp only [e9, e10, e11] at hKO; go_simp; exact hKO _ W (.refl W) rfl
      ·have e9 := isOf hp.1; have e12 := isOf hp.2.1; simp only [e9, e12] at hKO; go_simp; exact hKO _ W (.refl W) rfl
      ·have e13 := isOf hp.1; simp only [e13] at hKO; go_simp; exact hKO _ W (.refl W) rfl
      ·have e14 := isOf hp.1; simp only [e14] at hKO; have fc0 := hS.2.2.2.2.2.2.2.2.2.2.2.2.2.2.2.2.2.1.cell0; have fc1 := hS.2.2.2.2.2.2.2.2.2.2.2.2.2.2.2.2.2.1.cell1; have fc2 := hS.2.2.2.2.2.2.2.2.2.2.2.2.2.2.2.2.2.1.cell2; go_simp; exact hKO _ W (.refl W) rfl
      ·have e14 := isOf hp.1; simp only [e14] at hKO; have fc0 := hS.2.2.2.2.2.2.2.2.2.2.2.2.2.2.2.2.2.2.1.cell0; have fc1 := hS.2.2.2.2.2.2.2.2.2.2.2.2.2.2.2.2.2.2.1.cell1; have fc2 := hS.2.2.2.2.2.2.2.2.2.2.2.2.2.2.2.2.2.2.1.cell2; go_simp; exact hKO _ W (.refl W) rfl
      ·have e14 := isOf hp.1; have e15 := isOf hp.2.1; have e16 := isOf hp.2.2.1; simp only [e14, e15, e16] at hKO; go_simp
       refine (Try.refRSame0 _).mono ?_
       rintro e W1 ⟨rfl, hE⟩
       exact hKO _ W1 hE rfl
      ·have e14 := isOf hp.1; have e17 := isOf hp.2.1; simp only [e14, e17] at hKO; go_simp; exact hKO _ W (.refl W) rfl
      ·have e18 := isOf hp.1; simp only [e18] at hKO; go_simp; exact hKO _ W (.refl W) rfl
      ·have e19 := isOf hp.1; simp only [e19] at hKO; go_simp; exact hKO _ W (.refl W) rfl
      ·have e19 := isOf hp.1; simp only [e19] at hKO; go_simp; exact hKO _ W (.refl W) rfl
      ·have e19 := isOf hp.1; have e20 := isOf hp.2.1; have e21 := isOf hp.2.2.1; simp only [e19, e20, e21] at hKO; go_simp; exact hKO _ W (.refl W) rfl
      ·have e19 := isOf hp.1; have e22 := isOf hp.2.1; simp only [e19, e22] at hKO; go_simp; exact hKO _ W (.refl W) rfl
      ·have e23 := isOf hp.1; simp only [e23] at hKO; go_simp; exact hKO _ W (.refl W) rfl
     intro vs W20 hS hp
     clear szw20 E0 p3 p4 hx1 hx2 h11_4 p11_7 h12_4 p12_7 h13_4 p13_7 h14_4 p14_7 h15_4 p15_7 h16_4 p16_7 p17_7 p18_7
     obtain ⟨E0, p3, p4, hx1, hx2, h11_4, p11_7, h12_4, p12_7, h13_4, p13_7, h14_4, p14_7, h15_4, p15_7, h16_4, p16_7, p17_7, p18_7, sz20⟩ := hS
     obtain ⟨h20_0, h20_1, h20_2, h20_3, h20_4, h20_5, h20_6, h20_7, h20_8, h20_9, h20_10, h20_11, h20_12, h20_13, h20_14, h20_15, h20_16, h20_17, h20_18, h20_19, h20_20, h20_21, h20_22, h20_23, h20_24, -⟩ := hp
     replace h20_0 : vs 0 = .bool true := h20_0
     replace h20_1 : vs 1 = .bool true := h20_1
     replace h20_2 : vs 2 = .bool true := h20_2
     replace h20_3 : vs 3 = .bool true := h20_3
     replace h20_4 : vs 4 = .bool true := h20_4
     replace h20_5 : vs 5 = .agg #[.bool b15_7, .slice a15_7 n15_7 c15_7] := h20_5
     replace h20_6 : vs 6 = .agg #[.bool b16_7, .slice a16_7 n16_7 c16_7] := h20_6
     replace h20_7 : vs 7 = .bool true := h20_7
     replace h20_8 : vs 8 = .bool true := h20_8
     replace h20_9 : vs 9 = .bool true := h20_9
     replace h20_10 : vs 10 = .int .i64 1 := h20_10
     replace h20_11 : vs 11 = .int .i64 1 := h20_11
     replace h20_12 : vs 12 = .bool true := h20_12
     replace h20_13 : vs 13 = .bool true := h20_13
     replace h20_14 : vs 14 = .bool true := h20_14
     replace h20_15 : vs 15 = .agg #[.bool false, .slice none 0 0, .slice none 0 0] := h20_15
     replace h20_16 : vs 16 = .agg #[.bool false, .slice none 0 0, .slice none 0 0] := h20_16
     replace h20_17 : vs 17 = .bool true := h20_17
     replace h20_18 : vs 18 = .bool true := h20_18
     replace h20_19 : vs 19 = .bool true := h20_19
     replace h20_20 : vs 20 = .int .i64 1 := h20_20
     replace h20_21 : vs 21 = .int .i64 1 := h20_21
     replace h20_22 : vs 22 = .bool true := h20_22
     replace h20_23 : vs 23 = .bool true := h20_23
     replace h20_24 : vs 24 = .bool true := h20_24
     simp only [h20_0, h20_1, h20_2, h20_3, h20_4, h20_5, h20_6, h20_7, h20_8, h20_9, h20_10, h20_11, h20_12, h20_13, h20_14, h20_15, h20_16, h20_17, h20_18, h20_19, h20_20, h20_21, h20_22, h20_23, h20_24]
     clear h20_0 h20_1 h20_2 h20_3 h20_4 h20_5 h20_6 h20_7 h20_8 h20_9 h20_10 h20_11 h20_12 h20_13 h20_14 h20_15 h20_16 h20_17 h20_18 h20_19 h20_20 h20_21 h20_22 h20_23 h20_24
     obtain ⟨kp3_0, kp3_1, kp3_2⟩ := p3.c3
     obtain ⟨kp4_0, kp4_1⟩ := p4.c2
     obtain ⟨kp11_7_0, kp11_7_1⟩ := p11_7.c2
     obtain ⟨kp12_7_0, kp12_7_1⟩ := p12_7.c2
     obtain ⟨kp13_7_0, kp13_7_1⟩ := p13_7.c2
     obtain ⟨kp14_7_0, kp14_7_1⟩ := p14_7.c2
     obtain ⟨kp15_7_0, kp15_7_1⟩ := p15_7.c2
     obtain ⟨kp16_7_0, kp16_7_1⟩ := p16_7.c2
     obtain ⟨kp17_7_0, kp17_7_1, kp17_7_2⟩ := p17_7.c3
     obtain ⟨kp18_7_0, kp18_7_1, kp18_7_2⟩ := p18_7.c3
     go_wp2; go_ret
     exact ⟨rfl, E0⟩
    ·have hk4d := decide_eq_false hk4
     obtain ⟨K, rfl⟩ := Int.eq_ofNat_of_zero_le (show 0 ≤ kk by omega)
     have hKb : K ≤ 400 := by omega
     have hk4n : ¬ 400 < K := by omega
     have hk0n : 0 ≤ K := Nat.zero_le K
     obtain ⟨kp3_0, kp3_1, kp3_2⟩ := p3.c3
     obtain ⟨kp4_0, kp4_1⟩ := p4.c2
     go_upto_region 3 with (fail)
     clear kp3_0 kp3_1 kp3_2 kp4_0 kp4_1; have ltp3 := p3.lt; have ltp4 := p4.lt; have szw21 := Ext.size E0
     refine region_gs [.one fun v _ => v = .agg #[.bool b1, .slice a1 n1 c1, .slice d1 m1 o1],
       .one fun v _ => v = .int .i64 (K : Int),
       .one fun v W => ∃ v', v = .tuple #[v', .int .i64 0] ∧ (fun v W => Zw W v ((x * P2 K).floor)) v' W,
       .one fun v W => ∃ v', v = .tuple #[v', .int .i64 0] ∧ (fun v W => Zw W v ((x * P2 K).floor)) v' W,
       .one fun v W => Zw W v ((x * P2 K).floor),
       .one fun v _ => v = .int .i64 0,
       .one fun v W => ∃ g, v = .pointer (some ⟨g, 0, none⟩) ∧ Wf1.heap.size ≤ g ∧ Form W g 25 2,
       .three 6 4 (fun p r _ W => Put2 Wf1.heap.size 25 p r W),
       .one fun v _ => v = .int .i64 0]
      (fun W => Ext w W ∧ Bx3 W w.heap.size 27 (.bool b1) (.slice a1 n1 c1) (.slice d1 m1 o1) ∧ Bx2 W (w.heap.size + 1) 25 (.bool b2) (.slice a2 n2 c2) ∧ Rw W (.agg #[.bool b1, .slice a1 n1 c1, .slice d1 m1 o1]) x ∧ Zw W (.agg #[.bool b2, .slice a2 n2 c2]) z ∧ Wf1.heap.size ≤ W.heap.size) ⟨Good.is _, Good.is _, (Good.zed _).tup _, (Good.zed _).tup _, Good.zed _, Good.is _, Good.box _ _ _, cert_put2, Good.is _, trivial⟩
      ⟨E0, p3, p4, hx1, hx2, Nat.le_refl _⟩ (A := ?A21) ?hA21 ?howe21 ?hfin21
     case hA21 =>
      intro vs
      simp only [putAll, Act.put, sA, sZ, sS, Nat.zero_add, Nat.reduceAdd]
      exact rfl
     case howe21 =>
      clear E0 p3 p4 hx1 hx2
      intro hf
      refine ⟨oE 0 [] hf rfl ?_, oE 1 [] hf rfl ?_, oE 2 [0, 1] hf rfl ?_, oE 3 [2] hf rfl ?_, oE 4 [3] hf rfl ?_, oE 5 [3] hf rfl ?_, oE 6 [] hf rfl ?_, oW 7 [6, 4] hf rfl ?_, oE 8 [5] hf rfl ?_, trivial⟩
      all_goals intro vs W hS hp hx KO hKO
      all_goals simp only [Act.put, sA, sZ, sS] at hKO
      ·have fc0 := hS.2.1.cell0; have fc1 := hS.2.1.cell1; have fc2 := hS.2.1.cell2; go_simp; exact hKO _ W (.refl W) rfl
      ·go_simp; exact hKO _ W (.refl W) rfl
      ·have e0 := isOf hp.1; have e1 := isOf hp.2.1; simp only [e0, e1] at hKO; go_simp
       refine (Try.dyadFloor (hS.2.2.2.1) s1 (by omega) K (by omega)).mono ?_
       rintro e W1 ⟨v, rfl, hv, hE⟩
       exact hKO _ W1 hE ⟨_, rfl, hv⟩
      ·have q2 := hp.1
       obtain ⟨u, ev, hu⟩ := q2
       replace ev : vs 2 = _ := ev; simp only [ev] at hKO; go_simp; exact hKO _ W (Ext.refl W) ⟨u, rfl, hu⟩
      ·have q3 := hp.1
       obtain ⟨u, ev, hu⟩ := q3
       replace ev : vs 3 = _ := ev; simp only [ev] at hKO; go_simp; exact hKO _ W (Ext.refl W) hu
      ·have q3 := hp.1
       obtain ⟨u, ev, hu⟩ := q3
       replace ev : vs 3 = _ := ev; simp only [ev] at hKO; go_simp; exact hKO _ W (.refl W) rfl
      ·have hn := Bx2.new W 25 (.bool false) (.slice none 0 0)
       have hE := Ext.alloc1 W (.cells #[.bool false, .slice none 0 0] 25)
       have hsz := hS.2.2.2.2.2
       go_simp
       exact hKO _ _ hE ⟨_, rfl, hsz, hn.form⟩
      ·have q6 := hp.1; have q4 := hp.2.1
       obtain ⟨g, ev, hg, hf⟩ := q6
       replace ev : vs 6 = _ := ev
       obtain ⟨x0_0, x0_1, hx, hno⟩ := hf.bx2
       have qr := q4
       obtain ⟨b3, a3, n3, c3, er, -, -⟩ := qr
       replace er : vs 4 = _ := er
       have r0 := hx.froz0
       have t0 := hx.cell0
       have r1 := hx.froz1
       have t1 := hx.cell1
       have hw := Wr.set2 hx hno b3 a3 n3 c3
       have hq := hx.set (.bool b3) (.slice a3 n3 c3)
       simp only [ev, er] at hKO; go_simp
       exact hKO _ _ hw ⟨(Ext.wr hS.1 hw (by omega)), (hS.2.1.wr hw (by omega)), (hS.2.2.1.wr hw (by omega)), (hS.2.2.2.1.wr hw), (hS.2.2.2.2.1.wr hw), (Nat.le_trans hS.2.2.2.2.2 hw.apart.size)⟩ ⟨g, b3, a3, n3, c3, ev, er, hg, hq⟩
      ·have e5 := isOf hp.1; simp only [e5] at hKO; go_simp; exact hKO _ W (.refl W) rfl
     intro vs W21 hS hp
     clear szw21 E0 p3 p4 hx1 hx2
     obtain ⟨E0, p3, p4, hx1, hx2, sz21⟩ := hS
     obtain ⟨h21_0, h21_1, h21_2, h21_3, h21_4, h21_5, h21_6, h21_7, h21_8, -⟩ := hp
     obtain ⟨g21_7, b21_7, a21_7, n21_7, c21_7, ev21_7, er21_7, hg21_7, p21_7⟩ := h21_7
     replace ev21_7 : vs 6 = _ := ev21_7; replace er21_7 : vs 4 = _ := er21_7; replace h21_4 := (show Zw W21 (vs 4) ((x * P2 K).floor) from h21_4)
     rw [er21_7] at h21_4
     replace h21_0 : vs 0 = .agg #[.bool b1, .slice a1 n1 c1, .slice d1 m1 o1] := h21_0
     replace h21_1 : vs 1 = .int .i64 (K : Int) := h21_1
     replace h21_5 : vs 5 = .int .i64 0 := h21_5
     replace h21_8 : vs 8 = .int .i64 0 := h21_8
     simp only [ev21_7, er21_7, h21_0, h21_1, h21_5, h21_8]
     clear ev21_7 er21_7 h21_0 h21_1 h21_5 h21_8 h21_2 h21_3 h21_6
     obtain ⟨kp3_0, kp3_1, kp3_2⟩ := p3.c3
     obtain ⟨kp4_0, kp4_1⟩ := p4.c2
     obtain ⟨kp21_7_0, kp21_7_1⟩ := p21_7.c2
     go_upto_region 4 with (fail)
     clear kp3_0 kp3_1 kp3_2 kp4_0 kp4_1 kp21_7_0 kp21_7_1; have ltp21_7 := p21_7.lt; have szw22 := Ext.size E0
     refine region_gs [.one fun v _ => v = .agg #[.bool b1, .slice a1 n1 c1, .slice d1 m1 o1],
       .one fun v _ => v = .int .i64 (K : Int),
       .one fun v W => ∃ v', v = .tuple #[v', .int .i64 0] ∧ (fun v W => Zw W v ((x * P2 K).floor)) v' W,
       .one fun v W => ∃ v', v = .tuple #[v', .int .i64 0] ∧ (fun v W => Zw W v ((x * P2 K).floor)) v' W,
       .one fun v W => Zw W v ((x * P2 K).floor),
       .one fun v _ => v = .int .i64 0,
       .one fun v W => ∃ g, v = .pointer (some ⟨g, 0, none⟩) ∧ W21.heap.size ≤ g ∧ Form W g 25 2,
       .three 6 4 (fun p r _ W => Put2 W21.heap.size 25 p r W),
       .one fun v _ => v = .int .i64 0]
      (fun W => Ext w W ∧ Bx3 W w.heap.size 27 (.bool b1) (.slice a1 n1 c1) (.slice d1 m1 o1) ∧ Bx2 W (w.heap.size + 1) 25 (.bool b2) (.slice a2 n2 c2) ∧ Rw W (.agg #[.bool b1, .slice a1 n1 c1, .slice d1 m1 o1]) x ∧ Zw W (.agg #[.bool b2, .slice a2 n2 c2]) z ∧ Zw W (.agg #[.bool b21_7, .slice a21_7 n21_7 c21_7]) ((x * P2 K).floor) ∧ Bx2 W g21_7 25 (.bool b21_7) (.slice a21_7 n21_7 c21_7) ∧ W21.heap.size ≤ W.heap.size) ⟨Good.is _, Good.is _, (Good.zed _).tup _, (Good.zed _).tup _, Good.zed _, Good.is _, Good.box _ _ _, cert_put2, Good.is _, trivial⟩
      ⟨E0, p3, p4, hx1, hx2, h21_4, p21_7, Nat.le_refl _⟩ (A := ?A22) ?hA22 ?howe22 ?hfin22
     case hA22 =>
      intro vs
      simp only [putAll, Act.put, sA, sZ, sS, Nat.zero_add, Nat.reduceAdd]
      exact rfl
     case howe22 =>
      clear E0 p3 p4 hx1 hx2 h21_4 p21_7
      intro hf
      refine ⟨oE 0 [] hf rfl ?_, oE 1 [] hf rfl ?_, oE 2 [0, 1] hf rfl ?_, oE 3 [2] hf rfl ?_, oE 4 [3] hf rfl ?_, oE 5 [3] hf rfl ?_, oE 6 [] hf rfl ?_, oW 7 [6, 4] hf rfl ?_, oE 8 [5] hf rfl ?_, trivial⟩
      all_goals intro vs W hS hp hx KO hKO
      all_goals simp only [Act.put, sA, sZ, sS] at hKO
      ·have fc0 := hS.2.1.cell0; have fc1 := hS.2.1.cell1; have fc2 := hS.2.1.cell2; go_simp; exact hKO _ W (.refl W) rfl
      ·go_simp; exact hKO _ W (.refl W) rfl
      ·have e0 := isOf hp.1; have e1 := isOf hp.2.1; simp only [e0, e1] at hKO; go_simp
       refine (Try.refFloor (hS.2.2.2.1) s1 (by omega) K (by omega)).mono ?_
       rintro e W1 ⟨v, rfl, hv, hE⟩
       exact hKO _ W1 hE ⟨_, rfl, hv⟩
      ·have q2 := hp.1
       obtain ⟨u, ev, hu⟩ := q2
       replace ev : vs 2 = _ := ev; simp only [ev] at hKO; go_simp; exact hKO _ W (Ext.refl W) ⟨u, rfl, hu⟩
      ·have q3 := hp.1
       obtain ⟨u, ev, hu⟩ := q3
       replace ev : vs 3 = _ := ev; simp only [ev] at hKO; go_simp; exact hKO _ W (Ext.refl W) hu
      ·have q3 := hp.1
       obtain ⟨u, ev, hu⟩ := q3
       replace ev : vs 3 = _ := ev; simp only [ev] at hKO; go_simp; exact hKO _ W (.refl W) rfl
      ·have hn := Bx2.new W 25 (.bool false) (.slice none 0 0)
       have hE := Ext.alloc1 W (.cells #[.bool false, .slice none 0 0] 25)
       have hsz := hS.2.2.2.2.2.2.2
       go_simp
       exact hKO _ _ hE ⟨_, rfl, hsz, hn.form⟩
      ·have q6 := hp.1; have q4 := hp.2.1
       obtain ⟨g, ev, hg, hf⟩ := q6
       replace ev : vs 6 = _ := ev
       obtain ⟨x0_0, x0_1, hx, hno⟩ := hf.bx2
       have qr := q4
       obtain ⟨b3, a3, n3, c3, er, -, -⟩ := qr
       replace er : vs 4 = _ := er
       have r0 := hx.froz0
       have t0 := hx.cell0
       have r1 := hx.froz1
       have t1 := hx.cell1
       have hw := Wr.set2 hx hno b3 a3 n3 c3
       have hq := hx.set (.bool b3) (.slice a3 n3 c3)
       simp only [ev, er] at hKO; go_simp
       exact hKO _ _ hw ⟨(Ext.wr hS.1 hw (by omega)), (hS.2.1.wr hw (by omega)), (hS.2.2.1.wr hw (by omega)), (hS.2.2.2.1.wr hw), (hS.2.2.2.2.1.wr hw), (hS.2.2.2.2.2.1.wr hw), (hS.2.2.2.2.2.2.1.wr hw (by omega)), (Nat.le_trans hS.2.2.2.2.2.2.2 hw.apart.size)⟩ ⟨g, b3, a3, n3, c3, ev, er, hg, hq⟩
      ·have e5 := isOf hp.1; simp only [e5] at hKO; go_simp; exact hKO _ W (.refl W) rfl
     intro vs W22 hS hp
     clear szw22 E0 p3 p4 hx1 hx2 h21_4 p21_7
     obtain ⟨E0, p3, p4, hx1, hx2, h21_4, p21_7, sz22⟩ := hS
     obtain ⟨h22_0, h22_1, h22_2, h22_3, h22_4, h22_5, h22_6, h22_7, h22_8, -⟩ := hp
     obtain ⟨g22_7, b22_7, a22_7, n22_7, c22_7, ev22_7, er22_7, hg22_7, p22_7⟩ := h22_7
     replace ev22_7 : vs 6 = _ := ev22_7; replace er22_7 : vs 4 = _ := er22_7; replace h22_4 := (show Zw W22 (vs 4) ((x * P2 K).floor) from h22_4)
     rw [er22_7] at h22_4
     replace h22_0 : vs 0 = .agg #[.bool b1, .slice a1 n1 c1, .slice d1 m1 o1] := h22_0
     replace h22_1 : vs 1 = .int .i64 (K : Int) := h22_1
     replace h22_5 : vs 5 = .int .i64 0 := h22_5
     replace h22_8 : vs 8 = .int .i64 0 := h22_8
     simp only [ev22_7, er22_7, h22_0, h22_1, h22_5, h22_8]
     clear ev22_7 er22_7 h22_0 h22_1 h22_5 h22_8 h22_2 h22_3 h22_6
     obtain ⟨kp3_0, kp3_1, kp3_2⟩ := p3.c3
     obtain ⟨kp4_0, kp4_1⟩ := p4.c2
     obtain ⟨kp21_7_0, kp21_7_1⟩ := p21_7.c2
     obtain ⟨kp22_7_0, kp22_7_1⟩ := p22_7.c2
     go_upto_region 5 with (fail)
     clear kp3_0 kp3_1 kp3_2 kp4_0 kp4_1 kp21_7_0 kp21_7_1 kp22_7_0 kp22_7_1; have ltp22_7 := p22_7.lt; have szw23 := Ext.size E0
     refine region_gs [.one fun v _ => v = .agg #[.bool b1, .slice a1 n1 c1, .slice d1 m1 o1],
       .one fun v _ => v = .int .i64 (K : Int),
       .one fun v W => ∃ v', v = .tuple #[v', .int .i64 0] ∧ (fun v W => Zw W v ((x * P2 K).ceil)) v' W,
       .one fun v W => ∃ v', v = .tuple #[v', .int .i64 0] ∧ (fun v W => Zw W v ((x * P2 K).ceil)) v' W,
       .one fun v W => Zw W v ((x * P2 K).ceil),
       .one fun v _ => v = .int .i64 0,
       .one fun v W => ∃ g, v = .pointer (some ⟨g, 0, none⟩) ∧ W22.heap.size ≤ g ∧ Form W g 25 2,
       .three 6 4 (fun p r _ W => Put2 W22.heap.size 25 p r W),
       .one fun v _ => v = .int .i64 0]
      (fun W => Ext w W ∧ Bx3 W w.heap.size 27 (.bool b1) (.slice a1 n1 c1) (.slice d1 m1 o1) ∧ Bx2 W (w.heap.size + 1) 25 (.bool b2) (.slice a2 n2 c2) ∧ Rw W (.agg #[.bool b1, .slice a1 n1 c1, .slice d1 m1 o1]) x ∧ Zw W (.agg #[.bool b2, .slice a2 n2 c2]) z ∧ Zw W (.agg #[.bool b21_7, .slice a21_7 n21_7 c21_7]) ((x * P2 K).floor) ∧ Bx2 W g21_7 25 (.bool b21_7) (.slice a21_7 n21_7 c21_7) ∧ Zw W (.agg #[.bool b22_7, .slice a22_7 n22_7 c22_7]) ((x * P2 K).floor) ∧ Bx2 W g22_7 25 (.bool b22_7) (.slice a22_7 n22_7 c22_7) ∧ W22.heap.size ≤ W.heap.size) ⟨Good.is _, Good.is _, (Good.zed _).tup _, (Good.zed _).tup _, Good.zed _, Good.is _, Good.box _ _ _, cert_put2, Good.is _, trivial⟩
      ⟨E0, p3, p4, hx1, hx2, h21_4, p21_7, h22_4, p22_7, Nat.le_refl _⟩ (A := ?A23) ?hA23 ?howe23 ?hfin23
     case hA23 =>
      intro vs
      simp only [putAll, Act.put, sA, sZ, sS, Nat.zero_add, Nat.reduceAdd]
      exact rfl
     case howe23 =>
      clear E0 p3 p4 hx1 hx2 h21_4 p21_7 h22_4 p22_7
      intro hf
      refine ⟨oE 0 [] hf rfl ?_, oE 1 [] hf rfl ?_, oE 2 [0, 1] hf rfl ?_, oE 3 [2] hf rfl ?_, oE 4 [3] hf rfl ?_, oE 5 [3] hf rfl ?_, oE 6 [] hf rfl ?_, oW 7 [6, 4] hf rfl ?_, oE 8 [5] hf rfl ?_, trivial⟩
      all_goals intro vs W hS hp hx KO hKO
      all_goals simp only [Act.put, sA, sZ, sS] at hKO
      ·have fc0 := hS.2.1.cell0; have fc1 := hS.2.1.cell1; have fc2 := hS.2.1.cell2; go_simp; exact hKO _ W (.refl W) rfl
      ·go_simp; exact hKO _ W (.refl W) rfl
      ·have e0 := isOf hp.1; have e1 := isOf hp.2.1; simp only [e0, e1] at hKO; go_simp
       refine (Try.dyadCeil (hS.2.2.2.1) s1 (by omega) K (by omega)).mono ?_
       rintro e W1 ⟨v, rfl, hv, hE⟩
       exact hKO _ W1 hE ⟨_, rfl, hv⟩
      ·have q2 := hp.1
       obtain ⟨u, ev, hu⟩ := q2
       replace ev : vs 2 = _ := ev; simp only [ev] at hKO; go_simp; exact hKO _ W (Ext.refl W) ⟨u, rfl, hu⟩
      ·have q3 := hp.1
       obtain ⟨u, ev, hu⟩ := q3
       replace ev : vs 3 = _ := ev; simp only [ev] at hKO; go_simp; exact hKO _ W (Ext.refl W) hu
      ·have q3 := hp.1
       obtain ⟨u, ev, hu⟩ := q3
       replace ev : vs 3 = _ := ev; simp only [ev] at hKO; go_simp; exact hKO _ W (.refl W) rfl
      ·have hn := Bx2.new W 25 (.bool false) (.slice none 0 0)
       have hE := Ext.alloc1 W (.cells #[.bool false, .slice none 0 0] 25)
       have hsz := hS.2.2.2.2.2.2.2.2.2
       go_simp
       exact hKO _ _ hE ⟨_, rfl, hsz, hn.form⟩
      ·have q6 := hp.1; have q4 := hp.2.1
       obtain ⟨g, ev, hg, hf⟩ := q6
       replace ev : vs 6 = _ := ev
       obtain ⟨x0_0, x0_1, hx, hno⟩ := hf.bx2
       have qr := q4
       obtain ⟨b3, a3, n3, c3, er, -, -⟩ := qr
       replace er : vs 4 = _ := er
       have r0 := hx.froz0
       have t0 := hx.cell0
       have r1 := hx.froz1
       have t1 := hx.cell1
       have hw := Wr.set2 hx hno b3 a3 n3 c3
       have hq := hx.set (.bool b3) (.slice a3 n3 c3)
       simp only [ev, er] at hKO; go_simp
       exact hKO _ _ hw ⟨(Ext.wr hS.1 hw (by omega)), (hS.2.1.wr hw (by omega)), (hS.2.2.1.wr hw (by omega)), (hS.2.2.2.1.wr hw), (hS.2.2.2.2.1.wr hw), (hS.2.2.2.2.2.1.wr hw), (hS.2.2.2.2.2.2.1.wr hw (by omega)), (hS.2.2.2.2.2.2.2.1.wr hw), (hS.2.2.2.2.2.2.2.2.1.wr hw (by omega)), (Nat.le_trans hS.2.2.2.2.2.2.2.2.2 hw.apart.size)⟩ ⟨g, b3, a3, n3, c3, ev, er, hg, hq⟩
      ·have e5 := isOf hp.1; simp only [e5] at hKO; go_simp; exact hKO _ W (.refl W) rfl
     intro vs W23 hS hp
     clear szw23 E0 p3 p4 hx1 hx2 h21_4 p21_7 h22_4 p22_7
     obtain ⟨E0, p3, p4, hx1, hx2, h21_4, p21_7, h22_4, p22_7, sz23⟩ := hS
     obtain ⟨h23_0, h23_1, h23_2, h23_3, h23_4, h23_5, h23_6, h23_7, h23_8, -⟩ := hp
     obtain ⟨g23_7, b23_7, a23_7, n23_7, c23_7, ev23_7, er23_7, hg23_7, p23_7⟩ := h23_7
     replace ev23_7 : vs 6 = _ := ev23_7; replace er23_7 : vs 4 = _ := er23_7; replace h23_4 := (show Zw W23 (vs 4) ((x * P2 K).ceil) from h23_4)
     rw [er23_7] at h23_4
     replace h23_0 : vs 0 = .agg #[.bool b1, .slice a1 n1 c1, .slice d1 m1 o1] := h23_0
     replace h23_1 : vs 1 = .int .i64 (K : Int) := h23_1
     replace h23_5 : vs 5 = .int .i64 0 := h23_5
     replace h23_8 : vs 8 = .int .i64 0 := h23_8
     simp only [ev23_7, er23_7, h23_0, h23_1, h23_5, h23_8]
     clear ev23_7 er23_7 h23_0 h23_1 h23_5 h23_8 h23_2 h23_3 h23_6
     obtain ⟨kp3_0, kp3_1, kp3_2⟩ := p3.c3
     obtain ⟨kp4_0, kp4_1⟩ := p4.c2
     obtain ⟨kp21_7_0, kp21_7_1⟩ := p21_7.c2
     obtain ⟨kp22_7_0, kp22_7_1⟩ := p22_7.c2
     obtain ⟨kp23_7_0, kp23_7_1⟩ := p23_7.c2
     go_upto_region 6 with (fail)
     clear kp3_0 kp3_1 kp3_2 kp4_0 kp4_1 kp21_7_0 kp21_7_1 kp22_7_0 kp22_7_1 kp23_7_0 kp23_7_1; have ltp23_7 := p23_7.lt; have szw24 := Ext.size E0
     refine region_gs [.one fun v _ => v = .agg #[.bool b1, .slice a1 n1 c1, .slice d1 m1 o1],
       .one fun v _ => v = .int .i64 (K : Int),
       .one fun v W => ∃ v', v = .tuple #[v', .int .i64 0] ∧ (fun v W => Zw W v ((x * P2 K).ceil)) v' W,
       .one fun v W => ∃ v', v = .tuple #[v', .int .i64 0] ∧ (fun v W => Zw W v ((x * P2 K).ceil)) v' W,
       .one fun v W => Zw W v ((x * P2 K).ceil),
       .one fun v _ => v = .int .i64 0,
       .one fun v W => ∃ g, v = .pointer (some ⟨g, 0, none⟩) ∧ W23.heap.size ≤ g ∧ Form W g 25 2,
       .three 6 4 (fun p r _ W => Put2 W23.heap.size 25 p r W),
       .one fun v _ => v = .int .i64 0]
      (fun W => Ext w W ∧ Bx3 W w.heap.size 27 (.bool b1) (.slice a1 n1 c1) (.slice d1 m1 o1) ∧ Bx2 W (w.heap.size + 1) 25 (.bool b2) (.slice a2 n2 c2) ∧ Rw W (.agg #[.bool b1, .slice a1 n1 c1, .slice d1 m1 o1]) x ∧ Zw W (.agg #[.bool b2, .slice a2 n2 c2]) z ∧ Zw W (.agg #[.bool b21_7, .slice a21_7 n21_7 c21_7]) ((x * P2 K).floor) ∧ Bx2 W g21_7 25 (.bool b21_7) (.slice a21_7 n21_7 c21_7) ∧ Zw W (.agg #[.bool b22_7, .slice a22_7 n22_7 c22_7]) ((x * P2 K).floor) ∧ Bx2 W g22_7 25 (.bool b22_7) (.slice a22_7 n22_7 c22_7) ∧ Zw W (.agg #[.bool b23_7, .slice a23_7 n23_7 c23_7]) ((x * P2 K).ceil) ∧ Bx2 W g23_7 25 (.bool b23_7) (.slice a23_7 n23_7 c23_7) ∧ W23.heap.size ≤ W.heap.size) ⟨Good.is _, Good.is _, (Good.zed _).tup _, (Good.zed _).tup _, Good.zed _, Good.is _, Good.box _ _ _, cert_put2, Good.is _, trivial⟩
      ⟨E0, p3, p4, hx1, hx2, h21_4, p21_7, h22_4, p22_7, h23_4, p23_7, Nat.le_refl _⟩ (A := ?A24) ?hA24 ?howe24 ?hfin24
     case hA24 =>
      intro vs
      simp only [putAll, Act.put, sA, sZ, sS, Nat.zero_add, Nat.reduceAdd]
      exact rfl
     case howe24 =>
      clear E0 p3 p4 hx1 hx2 h21_4 p21_7 h22_4 p22_7 h23_4 p23_7
      intro hf
      refine ⟨oE 0 [] hf rfl ?_, oE 1 [] hf rfl ?_, oE 2 [0, 1] hf rfl ?_, oE 3 [2] hf rfl ?_, oE 4 [3] hf rfl ?_, oE 5 [3] hf rfl ?_, oE 6 [] hf rfl ?_, oW 7 [6, 4] hf rfl ?_, oE 8 [5] hf rfl ?_, trivial⟩
      all_goals intro vs W hS hp hx KO hKO
      all_goals simp only [Act.put, sA, sZ, sS] at hKO
      ·have fc0 := hS.2.1.cell0; have fc1 := hS.2.1.cell1; have fc2 := hS.2.1.cell2; go_simp; exact hKO _ W (.refl W) rfl
      ·go_simp; exact hKO _ W (.refl W) rfl
      ·have e0 := isOf hp.1; have e1 := isOf hp.2.1; simp only [e0, e1] at hKO; go_simp
       refine (Try.refCeil (hS.2.2.2.1) s1 (by omega) K (by omega)).mono ?_
       rintro e W1 ⟨v, rfl, hv, hE⟩
       exact hKO _ W1 hE ⟨_, rfl, hv⟩
      ·have q2 := hp.1
       obtain ⟨u, ev, hu⟩ := q2
       replace ev : vs 2 = _ := ev; simp only [ev] at hKO; go_simp; exact hKO _ W (Ext.refl W) ⟨u, rfl, hu⟩
      ·have q3 := hp.1
       obtain ⟨u, ev, hu⟩ := q3
       replace ev : vs 3 = _ := ev; simp only [ev] at hKO; go_simp; exact hKO _ W (Ext.refl W) hu
      ·have q3 := hp.1
       obtain ⟨u, ev, hu⟩ := q3
       replace ev : vs 3 = _ := ev; simp only [ev] at hKO; go_simp; exact hKO _ W (.refl W) rfl
      ·have hn := Bx2.new W 25 (.bool false) (.slice none 0 0)
       have hE := Ext.alloc1 W (.cells #[.bool false, .slice none 0 0] 25)
       have hsz := hS.2.2.2.2.2.2.2.2.2.2.2
       go_simp
       exact hKO _ _ hE ⟨_, rfl, hsz, hn.form⟩
      ·have q6 := hp.1; have q4 := hp.2.1
       obtain ⟨g, ev, hg, hf⟩ := q6
       replace ev : vs 6 = _ := ev
       obtain ⟨x0_0, x0_1, hx, hno⟩ := hf.bx2
       have qr := q4
       obtain ⟨b3, a3, n3, c3, er, -, -⟩ := qr
       replace er : vs 4 = _ := er
       have r0 := hx.froz0
       have t0 := hx.cell0
       have r1 := hx.froz1
       have t1 := hx.cell1
       have hw := Wr.set2 hx hno b3 a3 n3 c3
       have hq := hx.set (.bool b3) (.slice a3 n3 c3)
       simp only [ev, er] at hKO; go_simp
       exact hKO _ _ hw ⟨(Ext.wr hS.1 hw (by omega)), (hS.2.1.wr hw (by omega)), (hS.2.2.1.wr hw (by omega)), (hS.2.2.2.1.wr hw), (hS.2.2.2.2.1.wr hw), (hS.2.2.2.2.2.1.wr hw), (hS.2.2.2.2.2.2.1.wr hw (by omega)), (hS.2.2.2.2.2.2.2.1.wr hw), (hS.2.2.2.2.2.2.2.2.1.wr hw (by omega)), (hS.2.2.2.2.2.2.2.2.2.1.wr hw), (hS.2.2.2.2.2.2.2.2.2.2.1.wr hw (by omega)), (Nat.le_trans hS.2.2.2.2.2.2.2.2.2.2.2 hw.apart.size)⟩ ⟨g, b3, a3, n3, c3, ev, er, hg, hq⟩
      ·have e5 := isOf hp.1; simp only [e5] at hKO; go_simp; exact hKO _ W (.refl W) rfl
     intro vs W24 hS hp
     clear szw24 E0 p3 p4 hx1 hx2 h21_4 p21_7 h22_4 p22_7 h23_4 p23_7
     obtain ⟨E0, p3, p4, hx1, hx2, h21_4, p21_7, h22_4, p22_7, h23_4, p23_7, sz24⟩ := hS
     obtain ⟨h24_0, h24_1, h24_2, h24_3, h24_4, h24_5, h24_6, h24_7, h24_8, -⟩ := hp
     obtain ⟨g24_7, b24_7, a24_7, n24_7, c24_7, ev24_7, er24_7, hg24_7, p24_7⟩ := h24_7
     replace ev24_7 : vs 6 = _ := ev24_7; replace er24_7 : vs 4 = _ := er24_7; replace h24_4 := (show Zw W24 (vs 4) ((x * P2 K).ceil) from h24_4)
     rw [er24_7] at h24_4
     replace h24_0 : vs 0 = .agg #[.bool b1, .slice a1 n1 c1, .slice d1 m1 o1] := h24_0
     replace h24_1 : vs 1 = .int .i64 (K : Int) := h24_1
     replace h24_5 : vs 5 = .int .i64 0 := h24_5
     replace h24_8 : vs 8 = .int .i64 0 := h24_8
     simp only [ev24_7, er24_7, h24_0, h24_1, h24_5, h24_8]
     clear ev24_7 er24_7 h24_0 h24_1 h24_5 h24_8 h24_2 h24_3 h24_6
     obtain ⟨kp3_0, kp3_1, kp3_2⟩ := p3.c3
     obtain ⟨kp4_0, kp4_1⟩ := p4.c2
     obtain ⟨kp21_7_0, kp21_7_1⟩ := p21_7.c2
     obtain ⟨kp22_7_0, kp22_7_1⟩ := p22_7.c2
     obtain ⟨kp23_7_0, kp23_7_1⟩ := p23_7.c2
     obtain ⟨kp24_7_0, kp24_7_1⟩ := p24_7.c2
     go_upto_region 7 with (fail)
     clear kp3_0 kp3_1 kp3_2 kp4_0 kp4_1 kp21_7_0 kp21_7_1 kp22_7_0 kp22_7_1 kp23_7_0 kp23_7_1 kp24_7_0 kp24_7_1; have ltp24_7 := p24_7.lt; have szw25 := Ext.size E0
     refine region_gs [.one fun v _ => v = .agg #[.bool b1, .slice a1 n1 c1, .slice d1 m1 o1],
       .one fun v _ => v = .int .i64 (K : Int),
       .one fun v W => ∃ v', v = .tuple #[v', .int .i64 0] ∧ (fun v W => Zw W v (nearR (x * P2 K))) v' W,
       .one fun v W => ∃ v', v = .tuple #[v', .int .i64 0] ∧ (fun v W => Zw W v (nearR (x * P2 K))) v' W,
       .one fun v W => Zw W v (nearR (x * P2 K)),
       .one fun v _ => v = .int .i64 0,
       .one fun v W => ∃ g, v = .pointer (some ⟨g, 0, none⟩) ∧ W24.heap.size ≤ g ∧ Form W g 25 2,
       .three 6 4 (fun p r _ W => Put2 W24.heap.size 25 p r W),
       .one fun v _ => v = .int .i64 0]
      (fun W => Ext w W ∧ Bx3 W w.heap.size 27 (.bool b1) (.slice a1 n1 c1) (.slice d1 m1 o1) ∧ Bx2 W (w.heap.size + 1) 25 (.bool b2) (.slice a2 n2 c2) ∧ Rw W (.agg #[.bool b1, .slice a1 n1 c1, .slice d1 m1 o1]) x ∧ Zw W (.agg #[.bool b2, .slice a2 n2 c2]) z ∧ Zw W (.agg #[.bool b21_7, .slice a21_7 n21_7 c21_7]) ((x * P2 K).floor) ∧ Bx2 W g21_7 25 (.bool b21_7) (.slice a21_7 n21_7 c21_7) ∧ Zw W (.agg #[.bool b22_7, .slice a22_7 n22_7 c22_7]) ((x * P2 K).floor) ∧ Bx2 W g22_7 25 (.bool b22_7) (.slice a22_7 n22_7 c22_7) ∧ Zw W (.agg #[.bool b23_7, .slice a23_7 n23_7 c23_7]) ((x * P2 K).ceil) ∧ Bx2 W g23_7 25 (.bool b23_7) (.slice a23_7 n23_7 c23_7) ∧ Zw W (.agg #[.bool b24_7, .slice a24_7 n24_7 c24_7]) ((x * P2 K).ceil) ∧ Bx2 W g24_7 25 (.bool b24_7) (.slice a24_7 n24_7 c24_7) ∧ W24.heap.size ≤ W.heap.size) ⟨Good.is _, Good.is _, (Good.zed _).tup _, (Good.zed _).tup _, Good.zed _, Good.is _, Good.box _ _ _, cert_put2, Good.is _, trivial⟩
      ⟨E0, p3, p4, hx1, hx2, h21_4, p21_7, h22_4, p22_7, h23_4, p23_7, h24_4, p24_7, Nat.le_refl _⟩ (A := ?A25) ?hA25 ?howe25 ?hfin25
     case hA25 =>
      intro vs
      simp only [putAll, Act.put, sA, sZ, sS, Nat.zero_add, Nat.reduceAdd]
      exact rfl
     case howe25 =>
      clear E0 p3 p4 hx1 hx2 h21_4 p21_7 h22_4 p22_7 h23_4 p23_7 h24_4 p24_7
      intro hf
      refine ⟨oE 0 [] hf rfl ?_, oE 1 [] hf rfl ?_, oE 2 [0, 1] hf rfl ?_, oE 3 [2] hf rfl ?_, oE 4 [3] hf rfl ?_, oE 5 [3] hf rfl ?_, oE 6 [] hf rfl ?_, oW 7 [6, 4] hf rfl ?_, oE 8 [5] hf rfl ?_, trivial⟩
      all_goals intro vs W hS hp hx KO hKO
      all_goals simp only [Act.put, sA, sZ, sS] at hKO
      ·have fc0 := hS.2.1.cell0; have fc1 := hS.2.1.cell1; have fc2 := hS.2.1.cell2; go_simp; exact hKO _ W (.refl W) rfl
      ·go_simp; exact hKO _ W (.refl W) rfl
      ·have e0 := isOf hp.1; have e1 := isOf hp.2.1; simp only [e0, e1] at hKO; go_simp
       refine (Try.dyadNear (hS.2.2.2.1) s1 (by omega) K (by omega)).mono ?_
       rintro e W1 ⟨v, rfl, hv, hE⟩
       exact hKO _ W1 hE ⟨_, rfl, hv⟩
      ·have q2 := hp.1
       obtain ⟨u, ev, hu⟩ := q2
       replace ev : vs 2 = _ := ev; simp only [ev] at hKO; go_simp; exact hKO _ W (Ext.refl W) ⟨u, rfl, hu⟩
      ·have q3 := hp.1
       obtain ⟨u, ev, hu⟩ := q3
       replace ev : vs 3 = _ := ev; simp only [ev] at hKO; go_simp; exact hKO _ W (Ext.refl W) hu
      ·have q3 := hp.1
       obtain ⟨u, ev, hu⟩ := q3
       replace ev : vs 3 = _ := ev; simp only [ev] at hKO; go_simp; exact hKO _ W (.refl W) rfl
      ·have hn := Bx2.new W 25 (.bool false) (.slice none 0 0)
       have hE := Ext.alloc1 W (.cells #[.bool false, .slice none 0 0] 25)
       have hsz := hS.2.2.2.2.2.2.2.2.2.2.2.2.2
       go_simp
       exact hKO _ _ hE ⟨_, rfl, hsz, hn.form⟩
      ·have q6 := hp.1; have q4 := hp.2.1
       obtain ⟨g, ev, hg, hf⟩ := q6
       replace ev : vs 6 = _ := ev
       obtain ⟨x0_0, x0_1, hx, hno⟩ := hf.bx2
       have qr := q4
       obtain ⟨b3, a3, n3, c3, er, -, -⟩ := qr
       replace er : vs 4 = _ := er
       have r0 := hx.froz0
       have t0 := hx.cell0
       have r1 := hx.froz1
       have t1 := hx.cell1
       have hw := Wr.set2 hx hno b3 a3 n3 c3
       have hq := hx.set (.bool b3) (.slice a3 n3 c3)
       simp only [ev, er] at hKO; go_simp
       exact hKO _ _ hw ⟨(Ext.wr hS.1 hw (by omega)), (hS.2.1.wr hw (by omega)), (hS.2.2.1.wr hw (by omega)), (hS.2.2.2.1.wr hw), (hS.2.2.2.2.1.wr hw), (hS.2.2.2.2.2.1.wr hw), (hS.2.2.2.2.2.2.1.wr hw (by omega)), (hS.2.2.2.2.2.2.2.1.wr hw), (hS.2.2.2.2.2.2.2.2.1.wr hw (by omega)), (hS.2.2.2.2.2.2.2.2.2.1.wr hw), (hS.2.2.2.2.2.2.2.2.2.2.1.wr hw (by omega)), (hS.2.2.2.2.2.2.2.2.2.2.2.1.wr hw), (hS.2.2.2.2.2.2.2.2.2.2.2.2.1.wr hw (by omega)), (Nat.le_trans hS.2.2.2.2.2.2.2.2.2.2.2.2.2 hw.apart.size)⟩ ⟨g, b3, a3, n3, c3, ev, er, hg, hq⟩
      ·have e5 := isOf hp.1; simp only [e5] at hKO; go_simp; exact hKO _ W (.refl W) rfl
     intro vs W25 hS hp
     clear szw25 E0 p3 p4 hx1 hx2 h21_4 p21_7 h22_4 p22_7 h23_4 p23_7 h24_4 p24_7
     obtain ⟨E0, p3, p4, hx1, hx2, h21_4, p21_7, h22_4, p22_7, h23_4, p23_7, h24_4, p24_7, sz25⟩ := hS
     obtain ⟨h25_0, h25_1, h25_2, h25_3, h25_4, h25_5, h25_6, h25_7, h25_8, -⟩ := hp
     obtain ⟨g25_7, b25_7, a25_7, n25_7, c25_7, ev25_7, er25_7, hg25_7, p25_7⟩ := h25_7
     replace ev25_7 : vs 6 = _ := ev25_7; replace er25_7 : vs 4 = _ := er25_7; replace h25_4 := (show Zw W25 (vs 4) (nearR (x * P2 K)) from h25_4)
     rw [er25_7] at h25_4
     replace h25_0 : vs 0 = .agg #[.bool b1, .slice a1 n1 c1, .slice d1 m1 o1] := h25_0
     replace h25_1 : vs 1 = .int .i64 (K : Int) := h25_1
     replace h25_5 : vs 5 = .int .i64 0 := h25_5
     replace h25_8 : vs 8 = .int .i64 0 := h25_8
     simp only [ev25_7, er25_7, h25_0, h25_1, h25_5, h25_8]
     clear ev25_7 er25_7 h25_0 h25_1 h25_5 h25_8 h25_2 h25_3 h25_6
     obtain ⟨kp3_0, kp3_1, kp3_2⟩ := p3.c3
     obtain ⟨kp4_0, kp4_1⟩ := p4.c2
     obtain ⟨kp21_7_0, kp21_7_1⟩ := p21_7.c2
     obtain ⟨kp22_7_0, kp22_7_1⟩ := p22_7.c2
     obtain ⟨kp23_7_0, kp23_7_1⟩ := p23_7.c2
     obtain ⟨kp24_7_0, kp24_7_1⟩ := p24_7.c2
     obtain ⟨kp25_7_0, kp25_7_1⟩ := p25_7.c2
     go_upto_region 8 with (fail)
     clear kp3_0 kp3_1 kp3_2 kp4_0 kp4_1 kp21_7_0 kp21_7_1 kp22_7_0 kp22_7_1 kp23_7_0 kp23_7_1 kp24_7_0 kp24_7_1 kp25_7_0 kp25_7_1; have ltp25_7 := p25_7.lt; have szw26 := Ext.size E0
     refine region_gs [.one fun v _ => v = .agg #[.bool b1, .slice a1 n1 c1, .slice d1 m1 o1],
       .one fun v _ => v = .int .i64 (K : Int),
       .one fun v W => ∃ v', v = .tuple #[v', .int .i64 0] ∧ (fun v W => Zw W v (nearR (x * P2 K))) v' W,
       .one fun v W => ∃ v', v = .tuple #[v', .int .i64 0] ∧ (fun v W => Zw W v (nearR (x * P2 K))) v' W,
       .one fun v W => Zw W v (nearR (x * P2 K)),
       .one fun v _ => v = .int .i64 0,
       .one fun v W => ∃ g, v = .pointer (some ⟨g, 0, none⟩) ∧ W25.heap.size ≤ g ∧ Form W g 25 2,
       .three 6 4 (fun p r _ W => Put2 W25.heap.size 25 p r W),
       .one fun v _ => v = .int .i64 0]
      (fun W => Ext w W ∧ Bx3 W w.heap.size 27 (.bool b1) (.slice a1 n1 c1) (.slice d1 m1 o1) ∧ Bx2 W (w.heap.size + 1) 25 (.bool b2) (.slice a2 n2 c2) ∧ Rw W (.agg #[.bool b1, .slice a1 n1 c1, .slice d1 m1 o1]) x ∧ Zw W (.agg #[.bool b2, .slice a2 n2 c2]) z ∧ Zw W (.agg #[.bool b21_7, .slice a21_7 n21_7 c21_7]) ((x * P2 K).floor) ∧ Bx2 W g21_7 25 (.bool b21_7) (.slice a21_7 n21_7 c21_7) ∧ Zw W (.agg #[.bool b22_7, .slice a22_7 n22_7 c22_7]) ((x * P2 K).floor) ∧ Bx2 W g22_7 25 (.bool b22_7) (.slice a22_7 n22_7 c22_7) ∧ Zw W (.agg #[.bool b23_7, .slice a23_7 n23_7 c23_7]) ((x * P2 K).ceil) ∧ Bx2 W g23_7 25 (.bool b23_7) (.slice a23_7 n23_7 c23_7) ∧ Zw W (.agg #[.bool b24_7, .slice a24_7 n24_7 c24_7]) ((x * P2 K).ceil) ∧ Bx2 W g24_7 25 (.bool b24_7) (.slice a24_7 n24_7 c24_7) ∧ Zw W (.agg #[.bool b25_7, .slice a25_7 n25_7 c25_7]) (nearR (x * P2 K)) ∧ Bx2 W g25_7 25 (.bool b25_7) (.slice a25_7 n25_7 c25_7) ∧ W25.heap.size ≤ W.heap.size) ⟨Good.is _, Good.is _, (Good.zed _).tup _, (Good.zed _).tup _, Good.zed _, Good.is _, Good.box _ _ _, cert_put2, Good.is _, trivial⟩
      ⟨E0, p3, p4, hx1, hx2, h21_4, p21_7, h22_4, p22_7, h23_4, p23_7, h24_4, p24_7, h25_4, p25_7, Nat.le_refl _⟩ (A := ?A26) ?hA26 ?howe26 ?hfin26
     case hA26 =>
      intro vs
      simp only [putAll, Act.put, sA, sZ, sS, Nat.zero_add, Nat.reduceAdd]
      exact rfl
     case howe26 =>
      clear E0 p3 p4 hx1 hx2 h21_4 p21_7 h22_4 p22_7 h23_4 p23_7 h24_4 p24_7 h25_4 p25_7
      intro hf
      refine ⟨oE 0 [] hf rfl ?_, oE 1 [] hf rfl ?_, oE 2 [0, 1] hf rfl ?_, oE 3 [2] hf rfl ?_, oE 4 [3] hf rfl ?_, oE 5 [3] hf rfl ?_, oE 6 [] hf rfl ?_, oW 7 [6, 4] hf rfl ?_, oE 8 [5] hf rfl ?_, trivial⟩
      all_goals intro vs W hS hp hx KO hKO
      all_goals simp only [Act.put, sA, sZ, sS] at hKO
      ·have fc0 := hS.2.1.cell0; have fc1 := hS.2.1.cell1; have fc2 := hS.2.1.cell2; go_simp; exact hKO _ W (.refl W) rfl
      ·go_simp; exact hKO _ W (.refl W) rfl
      ·have e0 := isOf hp.1; have e1 := isOf hp.2.1; simp only [e0, e1] at hKO; go_simp
       refine (Try.refNear (hS.2.2.2.1) s1 (by omega) K (by omega)).mono ?_
       rintro e W1 ⟨v, rfl, hv, hE⟩
       exact hKO _ W1 hE ⟨_, rfl, hv⟩
      ·have q2 := hp.1
       obtain ⟨u, ev, hu⟩ := q2
       replace ev : vs 2 = _ := ev; simp only [ev] at hKO; go_simp; exact hKO _ W (Ext.refl W) ⟨u, rfl, hu⟩
      ·have q3 := hp.1
       obtain ⟨u, ev, hu⟩ := q3
       replace ev : vs 3 = _ := ev; simp only [ev] at hKO; go_simp; exact hKO _ W (Ext.refl W) hu
      ·have q3 := hp.1
       obtain ⟨u, ev, hu⟩ := q3
       replace ev : vs 3 = _ := ev; simp only [ev] at hKO; go_simp; exact hKO _ W (.refl W) rfl
      ·have hn := Bx2.new W 25 (.bool false) (.slice none 0 0)
       have hE := Ext.alloc1 W (.cells #[.bool false, .slice none 0 0] 25)
       have hsz := hS.2.2.2.2.2.2.2.2.2.2.2.2.2.2.2
       go_simp
       exact hKO _ _ hE ⟨_, rfl, hsz, hn.form⟩
      ·have q6 := hp.1; have q4 := hp.2.1
       obtain ⟨g, ev, hg, hf⟩ := q6
       replace ev : vs 6 = _ := ev
       obtain ⟨x0_0, x0_1, hx, hno⟩ := hf.bx2
       have qr := q4
       obtain ⟨b3, a3, n3, c3, er, -, -⟩ := qr
       replace er : vs 4 = _ := er
       have r0 := hx.froz0
       have t0 := hx.cell0
       have r1 := hx.froz1
       have t1 := hx.cell1
       have hw := Wr.set2 hx hno b3 a3 n3 c3
       have hq := hx.set (.bool b3) (.slice a3 n3 c3)
       simp only [ev, er] at hKO; go_simp
       exact hKO _ _ hw ⟨(Ext.wr hS.1 hw (by omega)), (hS.2.1.wr hw (by omega)), (hS.2.2.1.wr hw (by omega)), (hS.2.2.2.1.wr hw), (hS.2.2.2.2.1.wr hw), (hS.2.2.2.2.2.1.wr hw), (hS.2.2.2.2.2.2.1.wr hw (by omega)), (hS.2.2.2.2.2.2.2.1.wr hw), (hS.2.2.2.2.2.2.2.2.1.wr hw (by omega)), (hS.2.2.2.2.2.2.2.2.2.1.wr hw), (hS.2.2.2.2.2.2.2.2.2.2.1.wr hw (by omega)), (hS.2.2.2.2.2.2.2.2.2.2.2.1.wr hw), (hS.2.2.2.2.2.2.2.2.2.2.2.2.1.wr hw (by omega)), (hS.2.2.2.2.2.2.2.2.2.2.2.2.2.1.wr hw), (hS.2.2.2.2.2.2.2.2.2.2.2.2.2.2.1.wr hw (by omega)), (Nat.le_trans hS.2.2.2.2.2.2.2.2.2.2.2.2.2.2.2 hw.apart.size)⟩ ⟨g, b3, a3, n3, c3, ev, er, hg, hq⟩
      ·have e5 := isOf hp.1; simp only [e5] at hKO; go_simp; exact hKO _ W (.refl W) rfl
     intro vs W26 hS hp
     clear szw26 E0 p3 p4 hx1 hx2 h21_4 p21_7 h22_4 p22_7 h23_4 p23_7 h24_4 p24_7 h25_4 p25_7
     obtain ⟨E0, p3, p4, hx1, hx2, h21_4, p21_7, h22_4, p22_7, h23_4, p23_7, h24_4, p24_7, h25_4, p25_7, sz26⟩ := hS
     obtain ⟨h26_0, h26_1, h26_2, h26_3, h26_4, h26_5, h26_6, h26_7, h26_8, -⟩ := hp
     obtain ⟨g26_7, b26_7, a26_7, n26_7, c26_7, ev26_7, er26_7, hg26_7, p26_7⟩ := h26_7
     replace ev26_7 : vs 6 = _ := ev26_7; replace er26_7 : vs 4 = _ := er26_7; replace h26_4 := (show Zw W26 (vs 4) (nearR (x * P2 K)) from h26_4)
     rw [er26_7] at h26_4
     replace h26_0 : vs 0 = .agg #[.bool b1, .slice a1 n1 c1, .slice d1 m1 o1] := h26_0
     replace h26_1 : vs 1 = .int .i64 (K : Int) := h26_1
     replace h26_5 : vs 5 = .int .i64 0 := h26_5
     replace h26_8 : vs 8 = .int .i64 0 := h26_8
     simp only [ev26_7, er26_7, h26_0, h26_1, h26_5, h26_8]
     clear ev26_7 er26_7 h26_0 h26_1 h26_5 h26_8 h26_2 h26_3 h26_6
     obtain ⟨kp3_0, kp3_1, kp3_2⟩ := p3.c3
     obtain ⟨kp4_0, kp4_1⟩ := p4.c2
     obtain ⟨kp21_7_0, kp21_7_1⟩ := p21_7.c2
     obtain ⟨kp22_7_0, kp22_7_1⟩ := p22_7.c2
     obtain ⟨kp23_7_0, kp23_7_1⟩ := p23_7.c2
     obtain ⟨kp24_7_0, kp24_7_1⟩ := p24_7.c2
     obtain ⟨kp25_7_0, kp25_7_1⟩ := p25_7.c2
     obtain ⟨kp26_7_0, kp26_7_1⟩ := p26_7.c2
     go_upto_region 9 with (fail)
     clear kp3_0 kp3_1 kp3_2 kp4_0 kp4_1 kp21_7_0 kp21_7_1 kp22_7_0 kp22_7_1 kp23_7_0 kp23_7_1 kp24_7_0 kp24_7_1 kp25_7_0 kp25_7_1 kp26_7_0 kp26_7_1; have ltp26_7 := p26_7.lt; have szw27 := Ext.size E0
     refine region_gs [.one fun v _ => v = .agg #[.bool b2, .slice a2 n2 c2],
       .one fun v _ => v = .int .i64 (K : Int),
       .one fun v W => ∃ v', v = .tuple #[v', .int .i64 0] ∧ (fun v W => Rw W v ((z : Rat) / P2 K)) v' W,
       .one fun v W => ∃ v', v = .tuple #[v', .int .i64 0] ∧ (fun v W => Rw W v ((z : Rat) / P2 K)) v' W,
       .one fun v W => Rw W v ((z : Rat) / P2 K),
       .one fun v _ => v = .int .i64 0,
       .one fun v W => ∃ g, v = .pointer (some ⟨g, 0, none⟩) ∧ W26.heap.size ≤ g ∧ Form W g 27 3,
       .three 6 4 (fun p r _ W => Put3 W26.heap.size 27 p r W),
       .one fun v _ => v = .int .i64 0]
      (fun W => Ext w W ∧ Bx3 W w.heap.size 27 (.bool b1) (.slice a1 n1 c1) (.slice d1 m1 o1) ∧ Bx2 W (w.heap.size + 1) 25 (.bool b2) (.slice a2 n2 c2) ∧ Rw W (.agg #[.bool b1, .slice a1 n1 c1, .slice d1 m1 o1]) x ∧ Zw W (.agg #[.bool b2, .slice a2 n2 c2]) z ∧ Zw W (.agg #[.bool b21_7, .slice a21_7 n21_7 c21_7]) ((x * P2 K).floor) ∧ Bx2 W g21_7 25 (.bool b21_7) (.slice a21_7 n21_7 c21_7) ∧ Zw W (.agg #[.bool b22_7, .slice a22_7 n22_7 c22_7]) ((x * P2 K).floor) ∧ Bx2 W g22_7 25 (.bool b22_7) (.slice a22_7 n22_7 c22_7) ∧ Zw W (.agg #[.bool b23_7, .slice a23_7 n23_7 c23_7]) ((x * P2 K).ceil) ∧ Bx2 W g23_7 25 (.bool b23_7) (.slice a23_7 n23_7 c23_7) ∧ Zw W (.agg #[.bool b24_7, .slice a24_7 n24_7 c24_7]) ((x * P2 K).ceil) ∧ Bx2 W g24_7 25 (.bool b24_7) (.slice a24_7 n24_7 c24_7) ∧ Zw W (.agg #[.bool b25_7, .slice a25_7 n25_7 c25_7]) (nearR (x * P2 K)) ∧ Bx2 W g25_7 25 (.bool b25_7) (.slice a25_7 n25_7 c25_7) ∧ Zw W (.agg #[.bool b26_7, .slice a26_7 n26_7 c26_7]) (nearR (x * P2 K)) ∧ Bx2 W g26_7 25 (.bool b26_7) (.slice a26_7 n26_7 c26_7) ∧ W26.heap.size ≤ W.heap.size) ⟨Good.is _, Good.is _, (Good.rat _).tup _, (Good.rat _).tup _, Good.rat _, Good.is _, Good.box _ _ _, cert_put3, Good.is _, trivial⟩
      ⟨E0, p3, p4, hx1, hx2, h21_4, p21_7, h22_4, p22_7, h23_4, p23_7, h24_4, p24_7, h25_4, p25_7, h26_4, p26_7, Nat.le_refl _⟩ (A := ?A27) ?hA27 ?howe27 ?hfin27
     case hA27 =>
      intro vs
      simp only [putAll, Act.put, sA, sZ, sS, Nat.zero_add, Nat.reduceAdd]
      exact rfl
     case howe27 =>
      clear E0 p3 p4 hx1 hx2 h21_4 p21_7 h22_4 p22_7 h23_4 p23_7 h24_4 p24_7 h25_4 p25_7 h26_4 p26_7
      intro hf
      refine ⟨oE 0 [] hf rfl ?_, oE 1 [] hf rfl ?_, oE 2 [0, 1] hf rfl ?_, oE 3 [2] hf rfl ?_, oE 4 [3] hf rfl ?_, oE 5 [3] hf rfl ?_, oE 6 [] hf rfl ?_, oW 7 [6, 4] hf rfl ?_, oE 8 [5] hf rfl ?_, trivial⟩
      all_goals intro vs W hS hp hx KO hKO
      all_goals simp only [Act.put, sA, sZ, sS] at hKO
      ·have fc0 := hS.2.2.1.cell0; have fc1 := hS.2.2.1.cell1; go_simp; exact hKO _ W (.refl W) rfl
      ·go_simp; exact hKO _ W (.refl W) rfl
      ·have e0 := isOf hp.1; have e1 := isOf hp.2.1; simp only [e0, e1] at hKO; go_simp
       refine (Try.dyadBack (hS.2.2.2.2.1) s2 (by omega) K (by omega)).mono ?_
       rintro e W1 ⟨v, rfl, hv, hE⟩
       exact hKO _ W1 hE ⟨_, rfl, hv⟩
      ·have q2 := hp.1
       obtain ⟨u, ev, hu⟩ := q2
       replace ev : vs 2 = _ := ev; simp only [ev] at hKO; go_simp; exact hKO _ W (Ext.refl W) ⟨u, rfl, hu⟩
      ·have q3 := hp.1
       obtain ⟨u, ev, hu⟩ := q3
       replace ev : vs 3 = _ := ev; simp only [ev] at hKO; go_simp; exact hKO _ W (Ext.refl W) hu
      ·have q3 := hp.1
       obtain ⟨u, ev, hu⟩ := q3
       replace ev : vs 3 = _ := ev; simp only [ev] at hKO; go_simp; exact hKO _ W (.refl W) rfl
      ·have hn := Bx3.new W 27 (.bool false) (.slice none 0 0) (.slice none 0 0)
       have hE := Ext.alloc1 W (.cells #[.bool false, .slice none 0 0, .slice none 0 0] 27)
       have hsz := hS.2.2.2.2.2.2.2.2.2.2.2.2.2.2.2.2.2
       go_simp
       exact hKO _ _ hE ⟨_, rfl, hsz, hn.form⟩
      ·have q6 := hp.1; have q4 := hp.2.1
       obtain ⟨g, ev, hg, hf⟩ := q6
       replace ev : vs 6 = _ := ev
       obtain ⟨x0_0, x0_1, x0_2, hx, hno⟩ := hf.bx3
       have qr := q4
       obtain ⟨b3, a3, n3, c3, d3, m3, o3, er, -, -, -⟩ := qr
       replace er : vs 4 = _ := er
       have r0 := hx.froz0
       have t0 := hx.cell0
       have r1 := hx.froz1
       have t1 := hx.cell1
       have r2 := hx.froz2
       have t2 := hx.cell2
       have hw := Wr.set3 hx hno b3 a3 n3 c3 d3 m3 o3
       have hq := hx.set (.bool b3) (.slice a3 n3 c3) (.slice d3 m3 o3)
       simp only [ev, er] at hKO; go_simp
       exact hKO _ _ hw ⟨(Ext.wr hS.1 hw (by omega)), (hS.2.1.wr hw (by omega)), (hS.2.2.1.wr hw (by omega)), (hS.2.2.2.1.wr hw), (hS.2.2.2.2.1.wr hw), (hS.2.2.2.2.2.1.wr hw), (hS.2.2.2.2.2.2.1.wr hw (by omega)), (hS.2.2.2.2.2.2.2.1.wr hw), (hS.2.2.2.2.2.2.2.2.1.wr hw (by omega)), (hS.2.2.2.2.2.2.2.2.2.1.wr hw), (hS.2.2.2.2.2.2.2.2.2.2.1.wr hw (by omega)), (hS.2.2.2.2.2.2.2.2.2.2.2.1.wr hw), (hS.2.2.2.2.2.2.2.2.2.2.2.2.1.wr hw (by omega)), (hS.2.2.2.2.2.2.2.2.2.2.2.2.2.1.wr hw), (hS.2.2.2.2.2.2.2.2.2.2.2.2.2.2.1.wr hw (by omega)), (hS.2.2.2.2.2.2.2.2.2.2.2.2.2.2.2.1.wr hw), (hS.2.2.2.2.2.2.2.2.2.2.2.2.2.2.2.2.1.wr hw (by omega)), (Nat.le_trans hS.2.2.2.2.2.2.2.2.2.2.2.2.2.2.2.2.2 hw.apart.size)⟩ ⟨g, b3, a3, n3, c3, d3, m3, o3, ev, er, hg, hq⟩
      ·have e5 := isOf hp.1; simp only [e5] at hKO; go_simp; exact hKO _ W (.refl W) rfl
     intro vs W27 hS hp
     clear szw27 E0 p3 p4 hx1 hx2 h21_4 p21_7 h22_4 p22_7 h23_4 p23_7 h24_4 p24_7 h25_4 p25_7 h26_4 p26_7
     obtain ⟨E0, p3, p4, hx1, hx2, h21_4, p21_7, h22_4, p22_7, h23_4, p23_7, h24_4, p24_7, h25_4, p25_7, h26_4, p26_7, sz27⟩ := hS
     obtain ⟨h27_0, h27_1, h27_2, h27_3, h27_4, h27_5, h27_6, h27_7, h27_8, -⟩ := hp
     obtain ⟨g27_7, b27_7, a27_7, n27_7, c27_7, d27_7, m27_7, o27_7, ev27_7, er27_7, hg27_7, p27_7⟩ := h27_7
     replace ev27_7 : vs 6 = _ := ev27_7; replace er27_7 : vs 4 = _ := er27_7; replace h27_4 := (show Rw W27 (vs 4) ((z : Rat) / P2 K) from h27_4)
     rw [er27_7] at h27_4
     replace h27_0 : vs 0 = .agg #[.bool b2, .slice a2 n2 c2] := h27_0
     replace h27_1 : vs 1 = .int .i64 (K : Int) := h27_1
     replace h27_5 : vs 5 = .int .i64 0 := h27_5
     replace h27_8 : vs 8 = .int .i64 0 := h27_8
     simp only [ev27_7, er27_7, h27_0, h27_1, h27_5, h27_8]
     clear ev27_7 er27_7 h27_0 h27_1 h27_5 h27_8 h27_2 h27_3 h27_6
     obtain ⟨kp3_0, kp3_1, kp3_2⟩ := p3.c3
     obtain ⟨kp4_0, kp4_1⟩ := p4.c2
     obtain ⟨kp21_7_0, kp21_7_1⟩ := p21_7.c2
     obtain ⟨kp22_7_0, kp22_7_1⟩ := p22_7.c2
     obtain ⟨kp23_7_0, kp23_7_1⟩ := p23_7.c2
     obtain ⟨kp24_7_0, kp24_7_1⟩ := p24_7.c2
     obtain ⟨kp25_7_0, kp25_7_1⟩ := p25_7.c2
     obtain ⟨kp26_7_0, kp26_7_1⟩ := p26_7.c2
     obtain ⟨kp27_7_0, kp27_7_1, kp27_7_2⟩ := p27_7.c3
     go_upto_region 10 with (fail)
     clear kp3_0 kp3_1 kp3_2 kp4_0 kp4_1 kp21_7_0 kp21_7_1 kp22_7_0 kp22_7_1 kp23_7_0 kp23_7_1 kp24_7_0 kp24_7_1 kp25_7_0 kp25_7_1 kp26_7_0 kp26_7_1 kp27_7_0 kp27_7_1 kp27_7_2; have ltp27_7 := p27_7.lt; have szw28 := Ext.size E0
     refine region_gs [.one fun v _ => v = .agg #[.bool b2, .slice a2 n2 c2],
       .one fun v _ => v = .int .i64 (K : Int),
       .one fun v W => ∃ v', v = .tuple #[v', .int .i64 0] ∧ (fun v W => Rw W v ((z : Rat) / P2 K)) v' W,
       .one fun v W => ∃ v', v = .tuple #[v', .int .i64 0] ∧ (fun v W => Rw W v ((z : Rat) / P2 K)) v' W,
       .one fun v W => Rw W v ((z : Rat) / P2 K),
       .one fun v _ => v = .int .i64 0,
       .one fun v W => ∃ g, v = .pointer (some ⟨g, 0, none⟩) ∧ W27.heap.size ≤ g ∧ Form W g 27 3,
       .three 6 4 (fun p r _ W => Put3 W27.heap.size 27 p r W),
       .one fun v _ => v = .int .i64 0]
      (fun W => Ext w W ∧ Bx3 W w.heap.size 27 (.bool b1) (.slice a1 n1 c1) (.slice d1 m1 o1) ∧ Bx2 W (w.heap.size + 1) 25 (.bool b2) (.slice a2 n2 c2) ∧ Rw W (.agg #[.bool b1, .slice a1 n1 c1, .slice d1 m1 o1]) x ∧ Zw W (.agg #[.bool b2, .slice a2 n2 c2]) z ∧ Zw W (.agg #[.bool b21_7, .slice a21_7 n21_7 c21_7]) ((x * P2 K).floor) ∧ Bx2 W g21_7 25 (.bool b21_7) (.slice a21_7 n21_7 c21_7) ∧ Zw W (.agg #[.bool b22_7, .slice a22_7 n22_7 c22_7]) ((x * P2 K).floor) ∧ Bx2 W g22_7 25 (.bool b22_7) (.slice a22_7 n22_7 c22_7) ∧ Zw W (.agg #[.bool b23_7, .slice a23_7 n23_7 c23_7]) ((x * P2 K).ceil) ∧ Bx2 W g23_7 25 (.bool b23_7) (.slice a23_7 n23_7 c23_7) ∧ Zw W (.agg #[.bool b24_7, .slice a24_7 n24_7 c24_7]) ((x * P2 K).ceil) ∧ Bx2 W g24_7 25 (.bool b24_7) (.slice a24_7 n24_7 c24_7) ∧ Zw W (.agg #[.bool b25_7, .slice a25_7 n25_7 c25_7]) (nearR (x * P2 K)) ∧ Bx2 W g25_7 25 (.bool b25_7) (.slice a25_7 n25_7 c25_7) ∧ Zw W (.agg #[.bool b26_7, .slice a26_7 n26_7 c26_7]) (nearR (x * P2 K)) ∧ Bx2 W g26_7 25 (.bool b26_7) (.slice a26_7 n26_7 c26_7) ∧ Rw W (.agg #[.bool b27_7, .slice a27_7 n27_7 c27_7, .slice d27_7 m27_7 o27_7]) ((z : Rat) / P2 K) ∧ Bx3 W g27_7 27 (.bool b27_7) (.slice a27_7 n27_7 c27_7) (.slice d27_7 m27_7 o27_7) ∧ W27.heap.size ≤ W.heap.size) ⟨Good.is _, Good.is _, (Good.rat _).tup _, (Good.rat _).tup _, Good.rat _, Good.is _, Good.box _ _ _, cert_put3, Good.is _, trivial⟩
      ⟨E0, p3, p4, hx1, hx2, h21_4, p21_7, h22_4, p22_7, h23_4, p23_7, h24_4, p24_7, h25_4, p25_7, h26_4, p26_7, h27_4, p27_7, Nat.le_refl _⟩ (A := ?A28) ?hA28 ?howe28 ?hfin28
     case hA28 =>
      intro vs
      simp only [putAll, Act.put, sA, sZ, sS, Nat.zero_add, Nat.reduceAdd]
      exact rfl
     case howe28 =>
      clear E0 p3 p4 hx1 hx2 h21_4 p21_7 h22_4 p22_7 h23_4 p23_7 h24_4 p24_7 h25_4 p25_7 h26_4 p26_7 h27_4 p27_7
      intro hf
      refine ⟨oE 0 [] hf rfl ?_, oE 1 [] hf rfl ?_, oE 2 [0, 1] hf rfl ?_, oE 3 [2] hf rfl ?_, oE 4 [3] hf rfl ?_, oE 5 [3] hf rfl ?_, oE 6 [] hf rfl ?_, oW 7 [6, 4] hf rfl ?_, oE 8 [5] hf rfl ?_, trivial⟩
      all_goals intro vs W hS hp hx KO hKO
      all_goals simp only [Act.put, sA, sZ, sS] at hKO
      ·have fc0 := hS.2.2.1.cell0; have fc1 := hS.2.2.1.cell1; go_simp; exact hKO _ W (.refl W) rfl
      ·go_simp; exact hKO _ W (.refl W) rfl
      ·have e0 := isOf hp.1; have e1 := isOf hp.2.1; simp only [e0, e1] at hKO; go_simp
       refine (Try.refBack (hS.2.2.2.2.1) s2 (by omega) K (by omega)).mono ?_
       rintro e W1 ⟨v, rfl, hv, hE⟩
       exact hKO _ W1 hE ⟨_, rfl, hv⟩
      ·have q2 := hp.1
       obtain ⟨u, ev, hu⟩ := q2
       replace ev : vs 2 = _ := ev; simp only [ev] at hKO; go_simp; exact hKO _ W (Ext.refl W) ⟨u, rfl, hu⟩
      ·have q3 := hp.1
       obtain ⟨u, ev, hu⟩ := q3
       replace ev : vs 3 = _ := ev; simp only [ev] at hKO; go_simp; exact hKO _ W (Ext.refl W) hu
      ·have q3 := hp.1
       obtain ⟨u, ev, hu⟩ := q3
       replace ev : vs 3 = _ := ev; simp only [ev] at hKO; go_simp; exact hKO _ W (.refl W) rfl
      ·have hn := Bx3.new W 27 (.bool false) (.slice none 0 0) (.slice none 0 0)
       have hE := Ext.alloc1 W (.cells #[.bool false, .slice none 0 0, .slice none 0 0] 27)
       have hsz := hS.2.2.2.2.2.2.2.2.2.2.2.2.2.2.2.2.2.2.2
       go_simp
       exact hKO _ _ hE ⟨_, rfl, hsz, hn.form⟩
      ·have q6 := hp.1; have q4 := hp.2.1
       obtain ⟨g, ev, hg, hf⟩ := q6
       replace ev : vs 6 = _ := ev
       obtain ⟨x0_0, x0_1, x0_2, hx, hno⟩ := hf.bx3
       have qr := q4
       obtain ⟨b3, a3, n3, c3, d3, m3, o3, er, -, -, -⟩ := qr
       replace er : vs 4 = _ := er
       have r0 := hx.froz0
       have t0 := hx.cell0
       have r1 := hx.froz1
       have t1 := hx.cell1
       have r2 := hx.froz2
       have t2 := hx.cell2
       have hw := Wr.set3 hx hno b3 a3 n3 c3 d3 m3 o3
       have hq := hx.set (.bool b3) (.slice a3 n3 c3) (.slice d3 m3 o3)
       simp only [ev, er] at hKO; go_simp
       exact hKO _ _ hw ⟨(Ext.wr hS.1 hw (by omega)), (hS.2.1.wr hw (by omega)), (hS.2.2.1.wr hw (by omega)), (hS.2.2.2.1.wr hw), (hS.2.2.2.2.1.wr hw), (hS.2.2.2.2.2.1.wr hw), (hS.2.2.2.2.2.2.1.wr hw (by omega)), (hS.2.2.2.2.2.2.2.1.wr hw), (hS.2.2.2.2.2.2.2.2.1.wr hw (by omega)), (hS.2.2.2.2.2.2.2.2.2.1.wr hw), (hS.2.2.2.2.2.2.2.2.2.2.1.wr hw (by omega)), (hS.2.2.2.2.2.2.2.2.2.2.2.1.wr hw), (hS.2.2.2.2.2.2.2.2.2.2.2.2.1.wr hw (by omega)), (hS.2.2.2.2.2.2.2.2.2.2.2.2.2.1.wr hw), (hS.2.2.2.2.2.2.2.2.2.2.2.2.2.2.1.wr hw (by omega)), (hS.2.2.2.2.2.2.2.2.2.2.2.2.2.2.2.1.wr hw), (hS.2.2.2.2.2.2.2.2.2.2.2.2.2.2.2.2.1.wr hw (by omega)), (hS.2.2.2.2.2.2.2.2.2.2.2.2.2.2.2.2.2.1.wr hw), (hS.2.2.2.2.2.2.2.2.2.2.2.2.2.2.2.2.2.2.1.wr hw (by omega)), (Nat.le_trans hS.2.2.2.2.2.2.2.2.2.2.2.2.2.2.2.2.2.2.2 hw.apart.size)⟩ ⟨g, b3, a3, n3, c3, d3, m3, o3, ev, er, hg, hq⟩
      ·have e5 := isOf hp.1; simp only [e5] at hKO; go_simp; exact hKO _ W (.refl W) rfl
     intro vs W28 hS hp
     clear szw28 E0 p3 p4 hx1 hx2 h21_4 p21_7 h22_4 p22_7 h23_4 p23_7 h24_4 p24_7 h25_4 p25_7 h26_4 p26_7 h27_4 p27_7
     obtain ⟨E0, p3, p4, hx1, hx2, h21_4, p21_7, h22_4, p22_7, h23_4, p23_7, h24_4, p24_7, h25_4, p25_7, h26_4, p26_7, h27_4, p27_7, sz28⟩ := hS
     obtain ⟨h28_0, h28_1, h28_2, h28_3, h28_4, h28_5, h28_6, h28_7, h28_8, -⟩ := hp
     obtain ⟨g28_7, b28_7, a28_7, n28_7, c28_7, d28_7, m28_7, o28_7, ev28_7, er28_7, hg28_7, p28_7⟩ := h28_7
     replace ev28_7 : vs 6 = _ := ev28_7; replace er28_7 : vs 4 = _ := er28_7; replace h28_4 := (show Rw W28 (vs 4) ((z : Rat) / P2 K) from h28_4)
     rw [er28_7] at h28_4
     replace h28_0 : vs 0 = .agg #[.bool b2, .slice a2 n2 c2] := h28_0
     replace h28_1 : vs 1 = .int .i64 (K : Int) := h28_1
     replace h28_5 : vs 5 = .int .i64 0 := h28_5
     replace h28_8 : vs 8 = .int .i64 0 := h28_8
     simp only [ev28_7, er28_7, h28_0, h28_1, h28_5, h28_8]
     clear ev28_7 er28_7 h28_0 h28_1 h28_5 h28_8 h28_2 h28_3 h28_6
     obtain ⟨kp3_0, kp3_1, kp3_2⟩ := p3.c3
     obtain ⟨kp4_0, kp4_1⟩ := p4.c2
     obtain ⟨kp21_7_0, kp21_7_1⟩ := p21_7.c2
     obtain ⟨kp22_7_0, kp22_7_1⟩ := p22_7.c2
     obtain ⟨kp23_7_0, kp23_7_1⟩ := p23_7.c2
     obtain ⟨kp24_7_0, kp24_7_1⟩ := p24_7.c2
     obtain ⟨kp25_7_0, kp25_7_1⟩ := p25_7.c2
     obtain ⟨kp26_7_0, kp26_7_1⟩ := p26_7.c2
     obtain ⟨kp27_7_0, kp27_7_1, kp27_7_2⟩ := p27_7.c3
     obtain ⟨kp28_7_0, kp28_7_1, kp28_7_2⟩ := p28_7.c3
     go_upto_region 11 with (fail)
     clear kp3_0 kp3_1 kp3_2 kp4_0 kp4_1 kp21_7_0 kp21_7_1 kp22_7_0 kp22_7_1 kp23_7_0 kp23_7_1 kp24_7_0 kp24_7_1 kp25_7_0 kp25_7_1 kp26_7_0 kp26_7_1 kp27_7_0 kp27_7_1 kp27_7_2 kp28_7_0 kp28_7_1 kp28_7_2; have ltp28_7 := p28_7.lt; have szw29 := Ext.size E0
     refine region_gs [.one fun v _ => v = .agg #[.bool b21_7, .slice a21_7 n21_7 c21_7],
       .one fun v _ => v = .agg #[.bool b22_7, .slice a22_7 n22_7 c22_7],
       .one fun v _ => v = .bool true,
       .one fun v _ => v = .bool true,
       .one fun v _ => v = .int .i64 0,
       .one fun v _ => v = .int .i64 0,
       .one fun v _ => v = .bool true,
       .one fun v _ => v = .bool true,
       .one fun v _ => v = .bool true,
       .one fun v _ => v = .agg #[.bool b23_7, .slice a23_7 n23_7 c23_7],
       .one fun v _ => v = .agg #[.bool b24_7, .slice a24_7 n24_7 c24_7],
       .one fun v _ => v = .bool true,
       .one fun v _ => v = .bool true,
       .one fun v _ => v = .bool true,
       .one fun v _ => v = .int .i64 0,
       .one fun v _ => v = .int .i64 0,
       .one fun v _ => v = .bool true,
       .one fun v _ => v = .bool true,
       .one fun v _ => v = .bool true]
      (fun W => Ext w W ∧ Bx3 W w.heap.size 27 (.bool b1) (.slice a1 n1 c1) (.slice d1 m1 o1) ∧ Bx2 W (w.heap.size + 1) 25 (.bool b2) (.slice a2 n2 c2) ∧ Rw W (.agg #[.bool b1, .slice a1 n1 c1, .slice d1 m1 o1]) x ∧ Zw W (.agg #[.bool b2, .slice a2 n2 c2]) z ∧ Zw W (.agg #[.bool b21_7, .slice a21_7 n21_7 c21_7]) ((x * P2 K).floor) ∧ Bx2 W g21_7 25 (.bool b21_7) (.slice a21_7 n21_7 c21_7) ∧ Zw W (.agg #[.bool b22_7, .slice a22_7 n22_7 c22_7]) ((x * P2 K).floor) ∧ Bx2 W g22_7 25 (.bool b22_7) (.slice a22_7 n22_7 c22_7) ∧ Zw W (.agg #[.bool b23_7, .slice a23_7 n23_7 c23_7]) ((x * P2 K).ceil) ∧ Bx2 W g23_7 25 (.bool b23_7) (.slice a23_7 n23_7 c23_7) ∧ Zw W (.agg #[.bool b24_7, .slice a24_7 n24_7 c24_7]) ((x * P2 K).ceil) ∧ Bx2 W g24_7 25 (.bool b24_7) (.slice a24_7 n24_7 c24_7) ∧ Zw W (.agg #[.bool b25_7, .slice a25_7 n25_7 c25_7]) (nearR (x * P2 K)) ∧ Bx2 W g25_7 25 (.bool b25_7) (.slice a25_7 n25_7 c25_7) ∧ Zw W (.agg #[.bool b26_7, .slice a26_7 n26_7 c26_7]) (nearR (x * P2 K)) ∧ Bx2 W g26_7 25 (.bool b26_7) (.slice a26_7 n26_7 c26_7) ∧ Rw W (.agg #[.bool b27_7, .slice a27_7 n27_7 c27_7, .slice d27_7 m27_7 o27_7]) ((z : Rat) / P2 K) ∧ Bx3 W g27_7 27 (.bool b27_7) (.slice a27_7 n27_7 c27_7) (.slice d27_7 m27_7 o27_7) ∧ Rw W (.agg #[.bool b28_7, .slice a28_7 n28_7 c28_7, .slice d28_7 m28_7 o28_7]) ((z : Rat) / P2 K) ∧ Bx3 W g28_7 27 (.bool b28_7) (.slice a28_7 n28_7 c28_7) (.slice d28_7 m28_7 o28_7) ∧ W28.heap.size ≤ W.heap.size) ⟨Good.is _, Good.is _, Good.is _, Good.is _, Good.is _, Good.is _, Good.is _, Good.is _, Good.is _, Good.is _, Good.is _, Good.is _, Good.is _, Good.is _, Good.is _, Good.is _, Good.is _, Good.is _, Good.is _, trivial⟩
      ⟨E0, p3, p4, hx1, hx2, h21_4, p21_7, h22_4, p22_7, h23_4, p23_7, h24_4, p24_7, h25_4, p25_7, h26_4, p26_7, h27_4, p27_7, h28_4, p28_7, Nat.le_refl _⟩ (A := ?A29) ?hA29 ?howe29 ?hfin29
     case hA29 =>
      intro vs
      simp only [putAll, Act.put, sA, sZ, sS, Nat.zero_add, Nat.reduceAdd]
      exact rfl
     case howe29 =>
      clear E0 p3 p4 hx1 hx2 h21_4 p21_7 h22_4 p22_7 h23_4 p23_7 h24_4 p24_7 h25_4 p25_7 h26_4 p26_7 h27_4 p27_7 h28_4 p28_7
      intro hf
      refine ⟨oE 0 [] hf rfl ?_, oE 1 [] hf rfl ?_, oE 2 [0, 1] hf rfl ?_, oE 3 [2] hf rfl ?_, oE 4 [3] hf rfl ?_, oE 5 [3] hf rfl ?_, oE 6 [3, 4, 5] hf rfl ?_, oE 7 [3, 6] hf rfl ?_, oE 8 [7] hf rfl ?_, oE 9 [8] hf rfl ?_, oE 10 [8] hf rfl ?_, oE 11 [8, 9, 10] hf rfl ?_, oE 12 [8, 11] hf rfl ?_, oE 13 [12] hf rfl ?_, oE 14 [13] hf rfl ?_, oE 15 [13] hf rfl ?_, oE 16 [13, 14, 15] hf rfl ?_, oE 17 [13, 16] hf rfl ?_, oE 18 [17] hf rfl ?_, trivial⟩
      all_goals intro vs W hS hp hx KO hKO
      all_goals simp only [Act.put, sA, sZ, sS] at hKO
      ·have fc0 := hS.2.2.2.2.2.2.1.cell0; have fc1 := hS.2.2.2.2.2.2.1.cell1; go_simp; exact hKO _ W (.refl W) rfl
      ·have fc0 := hS.2.2.2.2.2.2.2.2.1.cell0; have fc1 := hS.2.2.2.2.2.2.2.2.1.cell1; go_simp; exact hKO _ W (.refl W) rfl
      ·have e0 := isOf hp.1; have e1 := isOf hp.2.1; simp only [e0, e1] at hKO; go_simp
       refine (Try.refZSameD (hS.2.2.2.2.2.1) (hS.2.2.2.2.2.2.2.1) rfl).mono ?_
       rintro e W1 ⟨rfl, hE⟩
       exact hKO _ W1 hE rfl
      ·have e2 := isOf hp.1; simp only [e2] at hKO; go_simp; exact hKO _ W (.refl W) rfl
      ·have e3 := isOf hp.1; simp only [e3] at hKO; go_simp; exact hKO _ W (.refl W) rfl
      ·have e3 := isOf hp.1; simp only [e3] at hKO; go_simp; exact hKO _ W (.refl W) rfl
      ·have e3 := isOf hp.1; have e4 := isOf hp.2.1; have e5 := isOf hp.2.2.1; simp only [e3, e4, e5] at hKO; go_simp; exact hKO _ W (.refl W) rfl
      ·have e3 := isOf hp.1; have e6 := isOf hp.2.1; simp only [e3, e6] at hKO; go_simp; exact hKO _ W (.refl W) rfl
      ·have e7 := isOf hp.1; simp only [e7] at hKO; go_simp; exact hKO _ W (.refl W) rfl
      ·have e8 := isOf hp.1; simp only [e8] at hKO; have fc0 := hS.2.2.2.2.2.2.2.2.2.2.1.cell0; have fc1 := hS.2.2.2.2.2.2.2.2.2.2.1.cell1; go_simp; exact hKO _ W (.refl W) rfl
      ·have e8 := isOf hp.1; simp only [e8] at hKO; have fc0 := hS.2.2.2.2.2.2.2.2.2.2.2.2.1.cell0; have fc1 := hS.2.2.2.2.2.2.2.2.2.2.2.2.1.cell1; go_simp; exact hKO _ W (.refl W) rfl
      ·have e8 := isOf hp.1; have e9 := isOf hp.2.1; have e10 := isOf hp.2.2.1; simp only [e8, e9, e10] at hKO; go_simp
       refine (Try.refZSameD (hS.2.2.2.2.2.2.2.2.2.1) (hS.2.2.2.2.2.2.2.2.2.2.2.1) rfl).mono ?_
       rintro e W1 ⟨rfl, hE⟩
       exact hKO _ W1 hE rfl
      ·have e8 := isOf hp.1; have e11 := isOf hp.2.1; simp only [e8, e11] at hKO; go_simp; exact hKO _ W (.refl W) rfl
      ·have e12 := isOf hp.1; simp only [e12] at hKO; go_simp; exact hKO _ W (.refl W) rfl
      ·have e13 := isOf hp.1; simp only [e13] at hKO; go_simp; exact hKO _ W (.refl W) rfl
      ·have e13 := isOf hp.1; simp only [e13] at hKO; go_simp; exact hKO _ W (.refl W) rfl
      ·have e13 := isOf hp.1; have e14 := isOf hp.2.1; have e15 := isOf hp.2.2.1; simp only [e13, e14, e15] at hKO; go_simp; exact hKO _ W (.refl W) rfl
      ·have e13 := isOf hp.1; have e16 := isOf hp.2.1; simp only [e13, e16] at hKO; go_simp; exact hKO _ W (.refl W) rfl
      ·have e17 := isOf hp.1; simp only [e17] at hKO; go_simp; exact hKO _ W (.refl W) rfl
     intro vs W29 hS hp
     clear szw29 E0 p3 p4 hx1 hx2 h21_4 p21_7 h22_4 p22_7 h23_4 p23_7 h24_4 p24_7 h25_4 p25_7 h26_4 p26_7 h27_4 p27_7 h28_4 p28_7
     obtain ⟨E0, p3, p4, hx1, hx2, h21_4, p21_7, h22_4, p22_7, h23_4, p23_7, h24_4, p24_7, h25_4, p25_7, h26_4, p26_7, h27_4, p27_7, h28_4, p28_7, sz29⟩ := hS
     obtain ⟨h29_0, h29_1, h29_2, h29_3, h29_4, h29_5, h29_6, h29_7, h29_8, h29_9, h29_10, h29_11, h29_12, h29_13, h29_14, h29_15, h29_16, h29_17, h29_18, -⟩ := hp
     replace h29_0 : vs 0 = .agg #[.bool b21_7, .slice a21_7 n21_7 c21_7] := h29_0
     replace h29_1 : vs 1 = .agg #[.bool b22_7, .slice a22_7 n22_7 c22_7] := h29_1
     replace h29_2 : vs 2 = .bool true := h29_2
     replace h29_3 : vs 3 = .bool true := h29_3
     replace h29_4 : vs 4 = .int .i64 0 := h29_4
     replace h29_5 : vs 5 = .int .i64 0 := h29_5
     replace h29_6 : vs 6 = .bool true := h29_6
     replace h29_7 : vs 7 = .bool true := h29_7
     replace h29_8 : vs 8 = .bool true := h29_8
     replace h29_9 : vs 9 = .agg #[.bool b23_7, .slice a23_7 n23_7 c23_7] := h29_9
     replace h29_10 : vs 10 = .agg #[.bool b24_7, .slice a24_7 n24_7 c24_7] := h29_10
     replace h29_11 : vs 11 = .bool true := h29_11
     replace h29_12 : vs 12 = .bool true := h29_12
     replace h29_13 : vs 13 = .bool true := h29_13
     replace h29_14 : vs 14 = .int .i64 0 := h29_14
     replace h29_15 : vs 15 = .int .i64 0 := h29_15
     replace h29_16 : vs 16 = .bool true := h29_16
     replace h29_17 : vs 17 = .bool true := h29_17
     replace h29_18 : vs 18 = .bool true := h29_18
     simp only [h29_0, h29_1, h29_2, h29_3, h29_4, h29_5, h29_6, h29_7, h29_8, h29_9, h29_10, h29_11, h29_12, h29_13, h29_14, h29_15, h29_16, h29_17, h29_18]
     clear h29_0 h29_1 h29_2 h29_3 h29_4 h29_5 h29_6 h29_7 h29_8 h29_9 h29_10 h29_11 h29_12 h29_13 h29_14 h29_15 h29_16 h29_17 h29_18
     obtain ⟨kp3_0, kp3_1, kp3_2⟩ := p3.c3
     obtain ⟨kp4_0, kp4_1⟩ := p4.c2
     obtain ⟨kp21_7_0, kp21_7_1⟩ := p21_7.c2
     obtain ⟨kp22_7_0, kp22_7_1⟩ := p22_7.c2
     obtain ⟨kp23_7_0, kp23_7_1⟩ := p23_7.c2
     obtain ⟨kp24_7_0, kp24_7_1⟩ := p24_7.c2
     obtain ⟨kp25_7_0, kp25_7_1⟩ := p25_7.c2
     obtain ⟨kp26_7_0, kp26_7_1⟩ := p26_7.c2
     obtain ⟨kp27_7_0, kp27_7_1, kp27_7_2⟩ := p27_7.c3
     obtain ⟨kp28_7_0, kp28_7_1, kp28_7_2⟩ := p28_7.c3
     go_upto_region 12 with (fail)
     clear kp3_0 kp3_1 kp3_2 kp4_0 kp4_1 kp21_7_0 kp21_7_1 kp22_7_0 kp22_7_1 kp23_7_0 kp23_7_1 kp24_7_0 kp24_7_1 kp25_7_0 kp25_7_1 kp26_7_0 kp26_7_1 kp27_7_0 kp27_7_1 kp27_7_2 kp28_7_0 kp28_7_1 kp28_7_2; have szw30 := Ext.size E0
     refine region_gs [.one fun v _ => v = .bool true,
       .one fun v _ => v = .bool true,
       .one fun v _ => v = .bool true,
       .one fun v _ => v = .bool true,
       .one fun v _ => v = .bool true,
       .one fun v _ => v = .agg #[.bool b25_7, .slice a25_7 n25_7 c25_7],
       .one fun v _ => v = .agg #[.bool b26_7, .slice a26_7 n26_7 c26_7],
       .one fun v _ => v = .bool true,
       .one fun v _ => v = .bool true,
       .one fun v _ => v = .bool true,
       .one fun v _ => v = .int .i64 0,
       .one fun v _ => v = .int .i64 0,
       .one fun v _ => v = .bool true,
       .one fun v _ => v = .bool true,
       .one fun v _ => v = .bool true,
       .one fun v _ => v = .agg #[.bool b27_7, .slice a27_7 n27_7 c27_7, .slice d27_7 m27_7 o27_7],
       .one fun v _ => v = .agg #[.bool b28_7, .slice a28_7 n28_7 c28_7, .slice d28_7 m28_7 o28_7],
       .one fun v _ => v = .bool true,
       .one fun v _ => v = .bool true,
       .one fun v _ => v = .bool true,
       .one fun v _ => v = .int .i64 0,
       .one fun v _ => v = .int .i64 0,
       .one fun v _ => v = .bool true,
       .one fun v _ => v = .bool true,
       .one fun v _ => v = .bool true]
      (fun W => Ext w W ∧ Bx3 W w.heap.size 27 (.bool b1) (.slice a1 n1 c1) (.slice d1 m1 o1) ∧ Bx2 W (w.heap.size + 1) 25 (.bool b2) (.slice a2 n2 c2) ∧ Rw W (.agg #[.bool b1, .slice a1 n1 c1, .slice d1 m1 o1]) x ∧ Zw W (.agg #[.bool b2, .slice a2 n2 c2]) z ∧ Zw W (.agg #[.bool b21_7, .slice a21_7 n21_7 c21_7]) ((x * P2 K).floor) ∧ Bx2 W g21_7 25 (.bool b21_7) (.slice a21_7 n21_7 c21_7) ∧ Zw W (.agg #[.bool b22_7, .slice a22_7 n22_7 c22_7]) ((x * P2 K).floor) ∧ Bx2 W g22_7 25 (.bool b22_7) (.slice a22_7 n22_7 c22_7) ∧ Zw W (.agg #[.bool b23_7, .slice a23_7 n23_7 c23_7]) ((x * P2 K).ceil) ∧ Bx2 W g23_7 25 (.bool b23_7) (.slice a23_7 n23_7 c23_7) ∧ Zw W (.agg #[.bool b24_7, .slice a24_7 n24_7 c24_7]) ((x * P2 K).ceil) ∧ Bx2 W g24_7 25 (.bool b24_7) (.slice a24_7 n24_7 c24_7) ∧ Zw W (.agg #[.bool b25_7, .slice a25_7 n25_7 c25_7]) (nearR (x * P2 K)) ∧ Bx2 W g25_7 25 (.bool b25_7) (.slice a25_7 n25_7 c25_7) ∧ Zw W (.agg #[.bool b26_7, .slice a26_7 n26_7 c26_7]) (nearR (x * P2 K)) ∧ Bx2 W g26_7 25 (.bool b26_7) (.slice a26_7 n26_7 c26_7) ∧ Rw W (.agg #[.bool b27_7, .slice a27_7 n27_7 c27_7, .slice d27_7 m27_7 o27_7]) ((z : Rat) / P2 K) ∧ Bx3 W g27_7 27 (.bool b27_7) (.slice a27_7 n27_7 c27_7) (.slice d27_7 m27_7 o27_7) ∧ Rw W (.agg #[.bool b28_7, .slice a28_7 n28_7 c28_7, .slice d28_7 m28_7 o28_7]) ((z : Rat) / P2 K) ∧ Bx3 W g28_7 27 (.bool b28_7) (.slice a28_7 n28_7 c28_7) (.slice d28_7 m28_7 o28_7) ∧ W29.heap.size ≤ W.heap.size) ⟨Good.is _, Good.is _, Good.is _, Good.is _, Good.is _, Good.is _, Good.is _, Good.is _, Good.is _, Good.is _, Good.is _, Good.is _, Good.is _, Good.is _, Good.is _, Good.is _, Good.is _, Good.is _, Good.is _, Good.is _, Good.is _, Good.is _, Good.is _, Good.is _, Good.is _, trivial⟩
      ⟨E0, p3, p4, hx1, hx2, h21_4, p21_7, h22_4, p22_7, h23_4, p23_7, h24_4, p24_7, h25_4, p25_7, h26_4, p26_7, h27_4, p27_7, h28_4, p28_7, Nat.le_refl _⟩ (A := ?A30) ?hA30 ?howe30 ?hfin30
     case hA30 =>
      intro vs
      simp only [putAll, Act.put, sA, sZ, sS, Nat.zero_add, Nat.reduceAdd]
      exact rfl
     case howe30 =>
      clear E0 p3 p4 hx1 hx2 h21_4 p21_7 h22_4 p22_7 h23_4 p23_7 h24_4 p24_7 h25_4 p25_7 h26_4 p26_7 h27_4 p27_7 h28_4 p28_7
      intro hf
      refine ⟨oE 0 [] hf rfl ?_, oE 1 [0] hf rfl ?_, oE 2 [1] hf rfl ?_, oE 3 [1, 2] hf rfl ?_, oE 4 [3] hf rfl ?_, oE 5 [4] hf rfl ?_, oE 6 [4] hf rfl ?_, oE 7 [4, 5, 6] hf rfl ?_, oE 8 [4, 7] hf rfl ?_, oE 9 [8] hf rfl ?_, oE 10 [9] hf rfl ?_, oE 11 [9] hf rfl ?_, oE 12 [9, 10, 11] hf rfl ?_, oE 13 [9, 12] hf rfl ?_, oE 14 [13] hf rfl ?_, oE 15 [14] hf rfl ?_, oE 16 [14] hf rfl ?_, oE 17 [14, 15, 16] hf rfl ?_, oE 18 [14, 17] hf rfl ?_, oE 19 [18] hf rfl ?_, oE 20 [19] hf rfl ?_, oE 21 [19] hf rfl ?_, oE 22 [19, 20, 21] hf rfl ?_, oE 23 [19, 22] hf rfl ?_, oE 24 [23] hf rfl ?_, trivial⟩
      all_goals intro vs W hS hp hx KO hKO
      all_goals simp only [Act.put, sA, sZ, sS] at hKO
      ·go_simp
       refine (Try.alive06 _).mono ?_
       rintro e W1 ⟨rfl, hE⟩
       exact hKO _ W1 hE rfl
      ·have e0 := isOf hp.1; simp only [e0] at hKO; go_simp; exact hKO _ W (.refl W) rfl
      ·have e1 := isOf hp.1; simp only [e1] at hKO; go_simp; exact hKO _ W (.refl W) rfl
      ·have e1 := isOf hp.1; have e2 := isOf hp.2.1; simp only [e1, e2] at hKO; go_simp; exact hKO _ W (.refl W) rfl
      ·have e3 := isOf hp.1; simp only [e3] at hKO; go_simp; exact hKO _ W (.refl W) rfl
      ·have e4 := isOf hp.1; simp only [e4] at hKO; have fc0 := hS.2.2.2.2.2.2.2.2.2.2.2.2.2.2.1.cell0; have fc1 := hS.2.2.2.2.2.2.2.2.2.2.2.2.2.2.1.cell1; go_simp; exact hKO _ W (.refl W) rfl
      ·have e4 := isOf hp.1; simp only [e4] at hKO; have fc0 := hS.2.2.2.2.2.2.2.2.2.2.2.2.2.2.2.2.1.cell0; have fc1 := hS.2.2.2.2.2.2.2.2.2.2.2.2.2.2.2.2.1.cell1; go_simp; exact hKO _ W (.refl W) rfl
      ·have e4 := isOf hp.1; have e5 := isOf hp.2.1; have e6 := isOf hp.2.2.1; simp only [e4, e5, e6] at hKO; go_simp
       refine (Try.refZSameD (hS.2.2.2.2.2.2.2.2.2.2.2.2.2.1) (hS.2.2.2.2.2.2.2.2.2.2.2.2.2.2.2.1) rfl).mono ?_
       rintro e W1 ⟨rfl, hE⟩
       exact hKO _ W1 hE rfl
      ·have e4 := isOf hp.1; have e7 := isOf hp.2.1; simp only [e4, e7] at hKO; go_simp; exact hKO _ W (.refl W) rfl
      ·have e8 := isOf hp.1; simp only [e8] at hKO; go_simp; exact hKO _ W (.refl W) rfl
      ·have e9 := isOf hp.1; simp only [e9] at hKO; go_simp; exact hKO _ W (.refl W) rfl
      ·have e9 := isOf hp.1; simp only [e9] at hKO; go_simp; exact hKO _ W (.refl W) rfl
      ·have e9 := isOf hp.1; have e10 := isOf hp.2.1; have e11 := isOf hp.2.2.1; simp only [e9, e10, e11] at hKO; go_simp; exact hKO _ W (.refl W) rfl
      ·have e9 := isOf hp.1; have e12 := isOf hp.2.1; simp only [e9, e12] at hKO; go_simp; exact hKO _ W (.refl W) rfl
      ·have e13 := isOf hp.1; simp only [e13] at hKO; go_simp; exact hKO _ W (.refl W) rfl
      ·have e14 := isOf hp.1; simp only [e14] at hKO; have fc0 := hS.2.2.2.2.2.2.2.2.2.2.2.2.2.2.2.2.2.2.1.cell0; have fc1 := hS.2.2.2.2.2.2.2.2.2.2.2.2.2.2.2.2.2.2.1.cell1; have fc2 := hS.2.2.2.2.2.2.2.2.2.2.2.2.2.2.2.2.2.2.1.cell2; go_simp; exact hKO _ W (.refl W) rfl
      ·have e14 := isOf hp.1; simp only [e14] at hKO; have fc0 := hS.2.2.2.2.2.2.2.2.2.2.2.2.2.2.2.2.2.2.2.2.1.cell0; have fc1 := hS.2.2.2.2.2.2.2.2.2.2.2.2.2.2.2.2.2.2.2.2.1.cell1; have fc2 := hS.2.2.2.2.2.2.2.2.2.2.2.2.2.2.2.2.2.2.2.2.1.cell2; go_simp; exact hKO _ W (.refl W) rfl
      ·have e14 := isOf hp.1; have e15 := isOf hp.2.1; have e16 := isOf hp.2.2.1; simp only [e14, e15, e16] at hKO; go_simp
       refine (Try.refRSameD (hS.2.2.2.2.2.2.2.2.2.2.2.2.2.2.2.2.2.1) (hS.2.2.2.2.2.2.2.2.2.2.2.2.2.2.2.2.2.2.2.1) rfl).mono ?_
       rintro e W1 ⟨rfl, hE⟩
       exact hKO _ W1 hE rfl
      ·have e14 := isOf hp.1; have e17 := isOf hp.2.1; simp only [e14, e17] at hKO; go_simp; exact hKO _ W (.refl W) rfl
      ·have e18 := isOf hp.1; simp only [e18] at hKO; go_simp; exact hKO _ W (.refl W) rfl
      ·have e19 := isOf hp.1; simp only [e19] at hKO; go_simp; exact hKO _ W (.refl W) rfl
      ·have e19 := isOf hp.1; simp only [e19] at hKO; go_simp; exact hKO _ W (.refl W) rfl
      ·have e19 := isOf hp.1; have e20 := isOf hp.2.1; have e21 := isOf hp.2.2.1; simp only [e19, e20, e21] at hKO; go_simp; exact hKO _ W (.refl W) rfl
      ·have e19 := isOf hp.1; have e22 := isOf hp.2.1; simp only [e19, e22] at hKO; go_simp; exact hKO _ W (.refl W) rfl
      ·have e23 := isOf hp.1; simp only [e23] at hKO; go_simp; exact hKO _ W (.refl W) rfl
     intro vs W30 hS hp
     clear szw30 E0 p3 p4 hx1 hx2 h21_4 p21_7 h22_4 p22_7 h23_4 p23_7 h24_4 p24_7 h25_4 p25_7 h26_4 p26_7 h27_4 p27_7 h28_4 p28_7
     obtain ⟨E0, p3, p4, hx1, hx2, h21_4, p21_7, h22_4, p22_7, h23_4, p23_7, h24_4, p24_7, h25_4, p25_7, h26_4, p26_7, h27_4, p27_7, h28_4, p28_7, sz30⟩ := hS
     obtain ⟨h30_0, h30_1, h30_2, h30_3, h30_4, h30_5, h30_6, h30_7, h30_8, h30_9, h30_10, h30_11, h30_12, h30_13, h30_14, h30_15, h30_16, h30_17, h30_18, h30_19, h30_20, h30_21, h30_22, h30_23, h30_24, -⟩ := hp
     replace h30_0 : vs 0 = .bool true := h30_0
     replace h30_1 : vs 1 = .bool true := h30_1
     replace h30_2 : vs 2 = .bool true := h30_2
     replace h30_3 : vs 3 = .bool true := h30_3
     replace h30_4 : vs 4 = .bool true := h30_4
     replace h30_5 : vs 5 = .agg #[.bool b25_7, .slice a25_7 n25_7 c25_7] := h30_5
     replace h30_6 : vs 6 = .agg #[.bool b26_7, .slice a26_7 n26_7 c26_7] := h30_6
     replace h30_7 : vs 7 = .bool true := h30_7
     replace h30_8 : vs 8 = .bool true := h30_8
     replace h30_9 : vs 9 = .bool true := h30_9
     replace h30_10 : vs 10 = .int .i64 0 := h30_10
     replace h30_11 : vs 11 = .int .i64 0 := h30_11
     replace h30_12 : vs 12 = .bool true := h30_12
     replace h30_13 : vs 13 = .bool true := h30_13
     replace h30_14 : vs 14 = .bool true := h30_14
     replace h30_15 : vs 15 = .agg #[.bool b27_7, .slice a27_7 n27_7 c27_7, .slice d27_7 m27_7 o27_7] := h30_15
     replace h30_16 : vs 16 = .agg #[.bool b28_7, .slice a28_7 n28_7 c28_7, .slice d28_7 m28_7 o28_7] := h30_16
     replace h30_17 : vs 17 = .bool true := h30_17
     replace h30_18 : vs 18 = .bool true := h30_18
     replace h30_19 : vs 19 = .bool true := h30_19
     replace h30_20 : vs 20 = .int .i64 0 := h30_20
     replace h30_21 : vs 21 = .int .i64 0 := h30_21
     replace h30_22 : vs 22 = .bool true := h30_22
     replace h30_23 : vs 23 = .bool true := h30_23
     replace h30_24 : vs 24 = .bool true := h30_24
     simp only [h30_0, h30_1, h30_2, h30_3, h30_4, h30_5, h30_6, h30_7, h30_8, h30_9, h30_10, h30_11, h30_12, h30_13, h30_14, h30_15, h30_16, h30_17, h30_18, h30_19, h30_20, h30_21, h30_22, h30_23, h30_24]
     clear h30_0 h30_1 h30_2 h30_3 h30_4 h30_5 h30_6 h30_7 h30_8 h30_9 h30_10 h30_11 h30_12 h30_13 h30_14 h30_15 h30_16 h30_17 h30_18 h30_19 h30_20 h30_21 h30_22 h30_23 h30_24
     obtain ⟨kp3_0, kp3_1, kp3_2⟩ := p3.c3
     obtain ⟨kp4_0, kp4_1⟩ := p4.c2
     obtain ⟨kp21_7_0, kp21_7_1⟩ := p21_7.c2
     obtain ⟨kp22_7_0, kp22_7_1⟩ := p22_7.c2
     obtain ⟨kp23_7_0, kp23_7_1⟩ := p23_7.c2
     obtain ⟨kp24_7_0, kp24_7_1⟩ := p24_7.c2
     obtain ⟨kp25_7_0, kp25_7_1⟩ := p25_7.c2
     obtain ⟨kp26_7_0, kp26_7_1⟩ := p26_7.c2
     obtain ⟨kp27_7_0, kp27_7_1, kp27_7_2⟩ := p27_7.c3
     obtain ⟨kp28_7_0, kp28_7_1, kp28_7_2⟩ := p28_7.c3
     go_wp2; go_ret
     exact ⟨rfl, E0⟩

end Go.Rt
