/-
  The laws of chapter 08 (numbers of a fixed point): Numbers.
-/
import Derived.Test.YtnldjpnjifnbeaaGreatFixN
import Derived.Test.YtnldjpnjifnbeaaGreatLaw05
namespace Go.Rt
open Go Go.RowKit Go.Proofs


set_option maxRecDepth 100000 in
set_option maxHeartbeats 4000000 in
theorem Tryz.lawFixNumbers {b1 : Bool} {a1 : Option Addr} {n1 c1 : Nat} {d1 : Option Addr} {m1 o1 : Nat} {xs1 ys1 : List Nat} {w : World} (h1 : Nt w (.slice a1 n1 c1) xs1) (k1 : Nt w (.slice d1 m1 o1) ys1) (aa : Int) (ha1 : -9223372036854775808 ≤ aa) (ha2 : aa < 9223372036854775808) (ff : Int) :
    Calls Tryz.prog 3 #[.agg #[.bool b1, .slice a1 n1 c1, .slice d1 m1 o1], .int .i64 aa, .int .i64 ff] w fun e w' => e = .returned (.bool true) ∧ Ext w w' := by
  cases hg0 : fewR b1 xs1 ys1 ((4 : Nat) : Int)
  · have HG0 := Lib.hid hg0
    clear hg0
    obtain ⟨W0, hW0⟩ : ∃ W0, W0 = (w.alloc (.cells #[.bool b1, .slice a1 n1 c1, .slice d1 m1 o1] 27)) := ⟨_, rfl⟩
    have E0 : Ext w W0 := by rw [hW0]; exact (Ext.alloc1 w (.cells #[.bool b1, .slice a1 n1 c1, .slice d1 m1 o1] 27))
    replace h1 : Nt W0 (.slice a1 n1 c1) xs1 := h1.ext E0
    replace k1 : Nt W0 (.slice d1 m1 o1) ys1 := k1.ext E0
    have p3 : Bx3 W0 w.heap.size 27 (.bool b1) (.slice a1 n1 c1) (.slice d1 m1 o1) := by rw [hW0]; exact (Bx3.new w 27 (.bool b1) (.slice a1 n1 c1) (.slice d1 m1 o1))
    go_enter Tryz.func3, Tryz.ntmps3
    have kp3_0 := p3.cell0
    have kp3_1 := p3.cell1
    have kp3_2 := p3.cell2
    go_wp2_with fail
    rw [← hW0]
    clear hW0
    clear kp3_0 kp3_1 kp3_2
    refine (Tryz.refRFew h1 k1 4 (by omega)).mono ?_
    rintro e Wf0 ⟨rfl, hE⟩
    rw [HG0.out]
    replace E0 := (Ext.trans E0 hE)
    replace h1 := (h1.ext hE)
    replace k1 := (k1.ext hE)
    replace p3 := (p3.ext hE)
    clear hE
    have kp3_0 := p3.cell0
    have kp3_1 := p3.cell1
    have kp3_2 := p3.cell2
    go_wp2_with fail
    clear kp3_0 kp3_1 kp3_2
    refine (Tryz.alive08 _).mono ?_
    rintro e We ⟨rfl, hE⟩
    replace E0 := (Ext.trans E0 hE)
    replace h1 := (h1.ext hE)
    replace k1 := (k1.ext hE)
    replace p3 := (p3.ext hE)
    clear hE
    have kp3_0 := p3.cell0
    have kp3_1 := p3.cell1
    have kp3_2 := p3.cell2
    go_wp2
    go_ret
    exact ⟨rfl, E0⟩
  · have HG0 := Lib.hid hg0
    clear hg0
    obtain ⟨W0, hW0⟩ : ∃ W0, W0 = (w.alloc (.cells #[.bool b1, .slice a1 n1 c1, .slice d1 m1 o1] 27)) := ⟨_, rfl⟩
    have E0 : Ext w W0 := by rw [hW0]; exact (Ext.alloc1 w (.cells #[.bool b1, .slice a1 n1 c1, .slice d1 m1 o1] 27))
    replace h1 : Nt W0 (.slice a1 n1 c1) xs1 := h1.ext E0
    replace k1 : Nt W0 (.slice d1 m1 o1) ys1 := k1.ext E0
    have p3 : Bx3 W0 w.heap.size 27 (.bool b1) (.slice a1 n1 c1) (.slice d1 m1 o1) := by rw [hW0]; exact (Bx3.new w 27 (.bool b1) (.slice a1 n1 c1) (.slice d1 m1 o1))
    go_enter Tryz.func3, Tryz.ntmps3
    have kp3_0 := p3.cell0
    have kp3_1 := p3.cell1
    have kp3_2 := p3.cell2
    go_wp2_with fail
    rw [← hW0]
    clear hW0
    clear kp3_0 kp3_1 kp3_2
    refine (Tryz.refRFew h1 k1 4 (by omega)).mono ?_
    rintro e Wf0 ⟨rfl, hE⟩
    rw [HG0.out]
    replace E0 := (Ext.trans E0 hE)
    replace h1 := (h1.ext hE)
    replace k1 := (k1.ext hE)
    replace p3 := (p3.ext hE)
    clear hE
    obtain ⟨x, hx1, s1⟩ := fewR_rw (L := 4) h1 k1 HG0.out
    clear h1 k1 HG0
    cases hfr : fracB ff
    · have HFR := Lib.hid hfr
      clear hfr
      have kp3_0 := p3.cell0
      have kp3_1 := p3.cell1
      have kp3_2 := p3.cell2
      go_upto_region 3 with (fail)
      clear kp3_0 kp3_1 kp3_2
      have ltp3 := p3.lt
      have szw4 := Ext.size E0
      refine region_go [.one fun v _ => v = .agg #[.bool b1, .slice a1 n1 c1, .slice d1 m1 o1],
          .one fun v _ => v = .int .i64 ff,
          .one fun v _ => v = .tuple #[.int .i64 0, .int .i64 1],
          .one fun v _ => v = .tuple #[.int .i64 0, .int .i64 1],
          .one fun v _ => v = .int .i64 0,
          .one fun v _ => v = .int .i64 1,
          .one fun v _ => v = .int .i64 0,
          .one fun v _ => v = .int .i64 1]
        (fun W => Ext w W ∧ Bx3 W w.heap.size 27 (.bool b1) (.slice a1 n1 c1) (.slice d1 m1 o1) ∧ Rw W (.agg #[.bool b1, .slice a1 n1 c1, .slice d1 m1 o1]) x ∧ Wf0.heap.size ≤ W.heap.size) ⟨Good.is _, Good.is _, Good.is _, Good.is _, Good.is _, Good.is _, Good.is _, Good.is _, trivial⟩
        (fun W W1 hS hE => ⟨(Ext.trans hS.1 hE), (hS.2.1.ext hE), (hS.2.2.1.ext hE), (Nat.le_trans hS.2.2.2 (Ext.size hE))⟩) ⟨E0, p3, hx1, Nat.le_refl _⟩ (by kernel_rfl) (by kernel_rfl) (by kernel_rfl) (by kernel_rfl) (A := ?A4) ?hA4 ?howe4 ?hfin4
      case hA4 =>
        intro vs
        simp only [putAll, Act.put, List.setIfInBounds_toArray, List.set_cons_zero, List.set_cons_succ, Nat.zero_add, Nat.reduceAdd]
        exact rfl
      case howe4 =>
        clear E0 p3 hx1
        intro hf
        refine ⟨owesE 0 [] hf rfl (by kernel_rfl) ?_, owesE 1 [] hf rfl (by kernel_rfl) ?_, owesE 2 [0, 1] hf rfl (by kernel_rfl) ?_, owesE 3 [2] hf rfl (by kernel_rfl) ?_, owesE 4 [3] hf rfl (by kernel_rfl) ?_, owesE 5 [3] hf rfl (by kernel_rfl) ?_, owesE 6 [4] hf rfl (by kernel_rfl) ?_, owesE 7 [5] hf rfl (by kernel_rfl) ?_, trivial⟩
        all_goals intro vs W hS hp hx KO hKO
        all_goals simp only [Act.put, List.setIfInBounds_toArray, List.set_cons_zero, List.set_cons_succ] at hKO
        · have fc0 := hS.2.1.cell0
          have fc1 := hS.2.1.cell1
          have fc2 := hS.2.1.cell2
          go_simp
          exact hKO _ W (Ext.refl W) rfl
        · go_simp
          exact hKO _ W (Ext.refl W) rfl
        · have e0 := isOf hp.1
          have e1 := isOf hp.2.1
          simp only [e0, e1] at hKO
          go_simp
          refine (Tryz.fixOfNo (hS.2.2.1) ff HFR.out).mono ?_
          rintro e W1 ⟨rfl, hE⟩
          exact hKO _ W1 hE rfl
        · have e2 := isOf hp.1
          simp only [e2] at hKO
          go_simp
          exact hKO _ W (Ext.refl W) rfl
        · have e3 := isOf hp.1
          simp only [e3] at hKO
          go_simp
          exact hKO _ W (Ext.refl W) rfl
        · have e3 := isOf hp.1
          simp only [e3] at hKO
          go_simp
          exact hKO _ W (Ext.refl W) rfl
        · have e4 := isOf hp.1
          simp only [e4] at hKO
          go_simp
          exact hKO _ W (Ext.refl W) rfl
        · have e5 := isOf hp.1
          simp only [e5] at hKO
          go_simp
          exact hKO _ W (Ext.refl W) rfl
      intro vs W4 hS hp
      clear szw4 E0 p3 hx1
      obtain ⟨E0, p3, hx1, sz4⟩ := hS
      obtain ⟨h4_0, h4_1, h4_2, h4_3, h4_4, h4_5, h4_6, h4_7, -⟩ := hp
      replace h4_0 : vs 0 = .agg #[.bool b1, .slice a1 n1 c1, .slice d1 m1 o1] := h4_0
      replace h4_1 : vs 1 = .int .i64 ff := h4_1
      replace h4_2 : vs 2 = .tuple #[.int .i64 0, .int .i64 1] := h4_2
      replace h4_3 : vs 3 = .tuple #[.int .i64 0, .int .i64 1] := h4_3
      replace h4_4 : vs 4 = .int .i64 0 := h4_4
      replace h4_5 : vs 5 = .int .i64 1 := h4_5
      replace h4_6 : vs 6 = .int .i64 0 := h4_6
      replace h4_7 : vs 7 = .int .i64 1 := h4_7
      simp only [h4_0, h4_1, h4_2, h4_3, h4_4, h4_5, h4_6, h4_7]
      clear h4_0 h4_1 h4_2 h4_3 h4_4 h4_5 h4_6 h4_7
      have kp3_0 := p3.cell0
      have kp3_1 := p3.cell1
      have kp3_2 := p3.cell2
      go_upto_region 4 with (fail)
      clear kp3_0 kp3_1 kp3_2
      have szw5 := Ext.size E0
      refine region_go [.one fun v _ => v = .agg #[.bool b1, .slice a1 n1 c1, .slice d1 m1 o1],
          .one fun v _ => v = .int .i64 ff,
          .one fun v _ => v = .tuple #[.int .i64 0, .int .i64 1],
          .one fun v _ => v = .tuple #[.int .i64 0, .int .i64 1],
          .one fun v _ => v = .int .i64 0,
          .one fun v _ => v = .int .i64 1,
          .one fun v _ => v = .int .i64 0,
          .one fun v _ => v = .int .i64 1]
        (fun W => Ext w W ∧ Bx3 W w.heap.size 27 (.bool b1) (.slice a1 n1 c1) (.slice d1 m1 o1) ∧ Rw W (.agg #[.bool b1, .slice a1 n1 c1, .slice d1 m1 o1]) x ∧ W4.heap.size ≤ W.heap.size) ⟨Good.is _, Good.is _, Good.is _, Good.is _, Good.is _, Good.is _, Good.is _, Good.is _, trivial⟩
        (fun W W1 hS hE => ⟨(Ext.trans hS.1 hE), (hS.2.1.ext hE), (hS.2.2.1.ext hE), (Nat.le_trans hS.2.2.2 (Ext.size hE))⟩) ⟨E0, p3, hx1, Nat.le_refl _⟩ (by kernel_rfl) (by kernel_rfl) (by kernel_rfl) (by kernel_rfl) (A := ?A5) ?hA5 ?howe5 ?hfin5
      case hA5 =>
        intro vs
        simp only [putAll, Act.put, List.setIfInBounds_toArray, List.set_cons_zero, List.set_cons_succ, Nat.zero_add, Nat.reduceAdd]
        exact rfl
      case howe5 =>
        clear E0 p3 hx1
        intro hf
        refine ⟨owesE 0 [] hf rfl (by kernel_rfl) ?_, owesE 1 [] hf rfl (by kernel_rfl) ?_, owesE 2 [0, 1] hf rfl (by kernel_rfl) ?_, owesE 3 [2] hf rfl (by kernel_rfl) ?_, owesE 4 [3] hf rfl (by kernel_rfl) ?_, owesE 5 [3] hf rfl (by kernel_rfl) ?_, owesE 6 [4] hf rfl (by kernel_rfl) ?_, owesE 7 [5] hf rfl (by kernel_rfl) ?_, trivial⟩
        all_goals intro vs W hS hp hx KO hKO
        all_goals simp only [Act.put, List.setIfInBounds_toArray, List.set_cons_zero, List.set_cons_succ] at hKO
        · have fc0 := hS.2.1.cell0
          have fc1 := hS.2.1.cell1
          have fc2 := hS.2.1.cell2
          go_simp
          exact hKO _ W (Ext.refl W) rfl
        · go_simp
          exact hKO _ W (Ext.refl W) rfl
        · have e0 := isOf hp.1
          have e1 := isOf hp.2.1
          simp only [e0, e1] at hKO
          go_simp
          refine (Tryz.ref08OfNo (hS.2.2.1) ff HFR.out).mono ?_
          rintro e W1 ⟨rfl, hE⟩
          exact hKO _ W1 hE rfl
        · have e2 := isOf hp.1
          simp only [e2] at hKO
          go_simp
          exact hKO _ W (Ext.refl W) rfl
        · have e3 := isOf hp.1
          simp only [e3] at hKO
          go_simp
          exact hKO _ W (Ext.refl W) rfl
        · have e3 := isOf hp.1
          simp only [e3] at hKO
          go_simp
          exact hKO _ W (Ext.refl W) rfl
        · have e4 := isOf hp.1
          simp only [e4] at hKO
          go_simp
          exact hKO _ W (Ext.refl W) rfl
        · have e5 := isOf hp.1
          simp only [e5] at hKO
          go_simp
          exact hKO _ W (Ext.refl W) rfl
      intro vs W5 hS hp
      clear szw5 E0 p3 hx1
      obtain ⟨E0, p3, hx1, sz5⟩ := hS
      obtain ⟨h5_0, h5_1, h5_2, h5_3, h5_4, h5_5, h5_6, h5_7, -⟩ := hp
      replace h5_0 : vs 0 = .agg #[.bool b1, .slice a1 n1 c1, .slice d1 m1 o1] := h5_0
      replace h5_1 : vs 1 = .int .i64 ff := h5_1
      replace h5_2 : vs 2 = .tuple #[.int .i64 0, .int .i64 1] := h5_2
      replace h5_3 : vs 3 = .tuple #[.int .i64 0, .int .i64 1] := h5_3
      replace h5_4 : vs 4 = .int .i64 0 := h5_4
      replace h5_5 : vs 5 = .int .i64 1 := h5_5
      replace h5_6 : vs 6 = .int .i64 0 := h5_6
      replace h5_7 : vs 7 = .int .i64 1 := h5_7
      simp only [h5_0, h5_1, h5_2, h5_3, h5_4, h5_5, h5_6, h5_7]
      clear h5_0 h5_1 h5_2 h5_3 h5_4 h5_5 h5_6 h5_7
      have kp3_0 := p3.cell0
      have kp3_1 := p3.cell1
      have kp3_2 := p3.cell2
      go_upto_region 5 with (fail)
      clear kp3_0 kp3_1 kp3_2
      have szw6 := Ext.size E0
      refine region_go [.one fun v _ => v = .int .i64 aa,
          .one fun v _ => v = .int .i64 ff,
          .one fun v _ => v = .tuple #[.agg #[.bool false, .slice none 0 0, .slice none 0 0], .int .i64 1],
          .one fun v _ => v = .tuple #[.agg #[.bool false, .slice none 0 0, .slice none 0 0], .int .i64 1],
          .one fun v _ => v = .agg #[.bool false, .slice none 0 0, .slice none 0 0],
          .one fun v _ => v = .int .i64 1,
          .one fun v W => ∃ g, v = .pointer (some ⟨g, 0, none⟩) ∧ W5.heap.size ≤ g ∧ Form W g 27 3,
          .two 6 (fun p _ W => New3 W5.heap.size 27 (.bool false) (.slice none 0 0) (.slice none 0 0) p W),
          .one fun v _ => v = .int .i64 1]
        (fun W => Ext w W ∧ Bx3 W w.heap.size 27 (.bool b1) (.slice a1 n1 c1) (.slice d1 m1 o1) ∧ Rw W (.agg #[.bool b1, .slice a1 n1 c1, .slice d1 m1 o1]) x ∧ W5.heap.size ≤ W.heap.size) ⟨Good.is _, Good.is _, Good.is _, Good.is _, Good.is _, Good.is _, Good.box _ _ _, cert_new3, Good.is _, trivial⟩
        (fun W W1 hS hE => ⟨(Ext.trans hS.1 hE), (hS.2.1.ext hE), (hS.2.2.1.ext hE), (Nat.le_trans hS.2.2.2 (Ext.size hE))⟩) ⟨E0, p3, hx1, Nat.le_refl _⟩ (by kernel_rfl) (by kernel_rfl) (by kernel_rfl) (by kernel_rfl) (A := ?A6) ?hA6 ?howe6 ?hfin6
      case hA6 =>
        intro vs
        simp only [putAll, Act.put, List.setIfInBounds_toArray, List.set_cons_zero, List.set_cons_succ, Nat.zero_add, Nat.reduceAdd]
        exact rfl
      case howe6 =>
        clear E0 p3 hx1
        intro hf
        refine ⟨owesE 0 [] hf rfl (by kernel_rfl) ?_, owesE 1 [] hf rfl (by kernel_rfl) ?_, owesE 2 [0, 1] hf rfl (by kernel_rfl) ?_, owesE 3 [2] hf rfl (by kernel_rfl) ?_, owesE 4 [3] hf rfl (by kernel_rfl) ?_, owesE 5 [3] hf rfl (by kernel_rfl) ?_, owesE 6 [] hf rfl (by kernel_rfl) ?_, owesW 7 [6, 4] hf rfl (by kernel_rfl) (by kernel_rfl) ?_, owesE 8 [5] hf rfl (by kernel_rfl) ?_, trivial⟩
        all_goals intro vs W hS hp hx KO hKO
        all_goals simp only [Act.put, List.setIfInBounds_toArray, List.set_cons_zero, List.set_cons_succ] at hKO
        · go_simp
          exact hKO _ W (Ext.refl W) rfl
        · go_simp
          exact hKO _ W (Ext.refl W) rfl
        · have e0 := isOf hp.1
          have e1 := isOf hp.2.1
          simp only [e0, e1] at hKO
          go_simp
          refine (Tryz.fixRatNo aa ff HFR.out _).mono ?_
          rintro e W1 ⟨rfl, hE⟩
          exact hKO _ W1 hE rfl
        · have e2 := isOf hp.1
          simp only [e2] at hKO
          go_simp
          exact hKO _ W (Ext.refl W) rfl
        · have e3 := isOf hp.1
          simp only [e3] at hKO
          go_simp
          exact hKO _ W (Ext.refl W) rfl
        · have e3 := isOf hp.1
          simp only [e3] at hKO
          go_simp
          exact hKO _ W (Ext.refl W) rfl
        · have hn := Bx3.new W 27 (.bool false) (.slice none 0 0) (.slice none 0 0)
          have hE := Ext.alloc1 W (.cells #[.bool false, .slice none 0 0, .slice none 0 0] 27)
          have hsz := hS.2.2.2
          go_simp
          exact hKO _ _ hE ⟨_, rfl, hsz, hn.form⟩
        · have q6 := hp.1
          have e4 := isOf hp.2.1
          simp only [e4] at hKO
          obtain ⟨g, ev, hg, hf⟩ := q6
          replace ev : vs 6 = _ := ev
          obtain ⟨x0, y0, z0, hx, hno⟩ := hf.bx3
          have r0 := hx.froz0
          have t0 := hx.cell0
          have r1 := hx.froz1
          have t1 := hx.cell1
          have r2 := hx.froz2
          have t2 := hx.cell2
          have hw := Wr.set3 hx hno false none 0 0 none 0 0
          have hq := hx.set (.bool false) (.slice none 0 0) (.slice none 0 0)
          simp only [ev] at hKO
          go_simp
          exact hKO _ _ hw ⟨(Ext.wr hS.1 hw (by omega)), (hS.2.1.wr hw (by omega)), (hS.2.2.1.wr hw), (Nat.le_trans hS.2.2.2 hw.apart.size)⟩ ⟨g, ev, hg, hq⟩
        · have e5 := isOf hp.1
          simp only [e5] at hKO
          go_simp
          exact hKO _ W (Ext.refl W) rfl
      intro vs W6 hS hp
      clear szw6 E0 p3 hx1
      obtain ⟨E0, p3, hx1, sz6⟩ := hS
      obtain ⟨h6_0, h6_1, h6_2, h6_3, h6_4, h6_5, h6_6, h6_7, h6_8, -⟩ := hp
      obtain ⟨g6_7, ev6_7, hg6_7, p6_7⟩ := h6_7
      replace ev6_7 : vs 6 = _ := ev6_7
      replace h6_0 : vs 0 = .int .i64 aa := h6_0
      replace h6_1 : vs 1 = .int .i64 ff := h6_1
      replace h6_2 : vs 2 = .tuple #[.agg #[.bool false, .slice none 0 0, .slice none 0 0], .int .i64 1] := h6_2
      replace h6_3 : vs 3 = .tuple #[.agg #[.bool false, .slice none 0 0, .slice none 0 0], .int .i64 1] := h6_3
      replace h6_4 : vs 4 = .agg #[.bool false, .slice none 0 0, .slice none 0 0] := h6_4
      replace h6_5 : vs 5 = .int .i64 1 := h6_5
      replace h6_8 : vs 8 = .int .i64 1 := h6_8
      simp only [ev6_7, h6_0, h6_1, h6_2, h6_3, h6_4, h6_5, h6_8]
      clear ev6_7 h6_0 h6_1 h6_2 h6_3 h6_4 h6_5 h6_8 h6_6
      have kp3_0 := p3.cell0
      have kp3_1 := p3.cell1
      have kp3_2 := p3.cell2
      have kp6_7_0 := p6_7.cell0
      have kp6_7_1 := p6_7.cell1
      have kp6_7_2 := p6_7.cell2
      go_upto_region 6 with (fail)
      clear kp3_0 kp3_1 kp3_2 kp6_7_0 kp6_7_1 kp6_7_2
      have ltp6_7 := p6_7.lt
      have szw7 := Ext.size E0
      refine region_go [.one fun v _ => v = .int .i64 aa,
          .one fun v _ => v = .int .i64 ff,
          .one fun v _ => v = .tuple #[.agg #[.bool false, .slice none 0 0, .slice none 0 0], .int .i64 1],
          .one fun v _ => v = .tuple #[.agg #[.bool false, .slice none 0 0, .slice none 0 0], .int .i64 1],
          .one fun v _ => v = .agg #[.bool false, .slice none 0 0, .slice none 0 0],
          .one fun v _ => v = .int .i64 1,
          .one fun v W => ∃ g, v = .pointer (some ⟨g, 0, none⟩) ∧ W6.heap.size ≤ g ∧ Form W g 27 3,
          .two 6 (fun p _ W => New3 W6.heap.size 27 (.bool false) (.slice none 0 0) (.slice none 0 0) p W),
          .one fun v _ => v = .int .i64 1]
        (fun W => Ext w W ∧ Bx3 W w.heap.size 27 (.bool b1) (.slice a1 n1 c1) (.slice d1 m1 o1) ∧ Rw W (.agg #[.bool b1, .slice a1 n1 c1, .slice d1 m1 o1]) x ∧ Bx3 W g6_7 27 (.bool false) (.slice none 0 0) (.slice none 0 0) ∧ W6.heap.size ≤ W.heap.size) ⟨Good.is _, Good.is _, Good.is _, Good.is _, Good.is _, Good.is _, Good.box _ _ _, cert_new3, Good.is _, trivial⟩
        (fun W W1 hS hE => ⟨(Ext.trans hS.1 hE), (hS.2.1.ext hE), (hS.2.2.1.ext hE), (hS.2.2.2.1.ext hE), (Nat.le_trans hS.2.2.2.2 (Ext.size hE))⟩) ⟨E0, p3, hx1, p6_7, Nat.le_refl _⟩ (by kernel_rfl) (by kernel_rfl) (by kernel_rfl) (by kernel_rfl) (A := ?A7) ?hA7 ?howe7 ?hfin7
      case hA7 =>
        intro vs
        simp only [putAll, Act.put, List.setIfInBounds_toArray, List.set_cons_zero, List.set_cons_succ, Nat.zero_add, Nat.reduceAdd]
        exact rfl
      case howe7 =>
        clear E0 p3 hx1 p6_7
        intro hf
        refine ⟨owesE 0 [] hf rfl (by kernel_rfl) ?_, owesE 1 [] hf rfl (by kernel_rfl) ?_, owesE 2 [0, 1] hf rfl (by kernel_rfl) ?_, owesE 3 [2] hf rfl (by kernel_rfl) ?_, owesE 4 [3] hf rfl (by kernel_rfl) ?_, owesE 5 [3] hf rfl (by kernel_rfl) ?_, owesE 6 [] hf rfl (by kernel_rfl) ?_, owesW 7 [6, 4] hf rfl (by kernel_rfl) (by kernel_rfl) ?_, owesE 8 [5] hf rfl (by kernel_rfl) ?_, trivial⟩
        all_goals intro vs W hS hp hx KO hKO
        all_goals simp only [Act.put, List.setIfInBounds_toArray, List.set_cons_zero, List.set_cons_succ] at hKO
        · go_simp
          exact hKO _ W (Ext.refl W) rfl
        · go_simp
          exact hKO _ W (Ext.refl W) rfl
        · have e0 := isOf hp.1
          have e1 := isOf hp.2.1
          simp only [e0, e1] at hKO
          go_simp
          refine (Tryz.ref08RatNo aa ff HFR.out _).mono ?_
          rintro e W1 ⟨rfl, hE⟩
          exact hKO _ W1 hE rfl
        · have e2 := isOf hp.1
          simp only [e2] at hKO
          go_simp
          exact hKO _ W (Ext.refl W) rfl
        · have e3 := isOf hp.1
          simp only [e3] at hKO
          go_simp
          exact hKO _ W (Ext.refl W) rfl
        · have e3 := isOf hp.1
          simp only [e3] at hKO
          go_simp
          exact hKO _ W (Ext.refl W) rfl
        · have hn := Bx3.new W 27 (.bool false) (.slice none 0 0) (.slice none 0 0)
          have hE := Ext.alloc1 W (.cells #[.bool false, .slice none 0 0, .slice none 0 0] 27)
          have hsz := hS.2.2.2.2
          go_simp
          exact hKO _ _ hE ⟨_, rfl, hsz, hn.form⟩
        · have q6 := hp.1
          have e4 := isOf hp.2.1
          simp only [e4] at hKO
          obtain ⟨g, ev, hg, hf⟩ := q6
          replace ev : vs 6 = _ := ev
          obtain ⟨x0, y0, z0, hx, hno⟩ := hf.bx3
          have r0 := hx.froz0
          have t0 := hx.cell0
          have r1 := hx.froz1
          have t1 := hx.cell1
          have r2 := hx.froz2
          have t2 := hx.cell2
          have hw := Wr.set3 hx hno false none 0 0 none 0 0
          have hq := hx.set (.bool false) (.slice none 0 0) (.slice none 0 0)
          simp only [ev] at hKO
          go_simp
          exact hKO _ _ hw ⟨(Ext.wr hS.1 hw (by omega)), (hS.2.1.wr hw (by omega)), (hS.2.2.1.wr hw), (hS.2.2.2.1.wr hw (by omega)), (Nat.le_trans hS.2.2.2.2 hw.apart.size)⟩ ⟨g, ev, hg, hq⟩
        · have e5 := isOf hp.1
          simp only [e5] at hKO
          go_simp
          exact hKO _ W (Ext.refl W) rfl
      intro vs W7 hS hp
      clear szw7 E0 p3 hx1 p6_7
      obtain ⟨E0, p3, hx1, p6_7, sz7⟩ := hS
      obtain ⟨h7_0, h7_1, h7_2, h7_3, h7_4, h7_5, h7_6, h7_7, h7_8, -⟩ := hp
      obtain ⟨g7_7, ev7_7, hg7_7, p7_7⟩ := h7_7
      replace ev7_7 : vs 6 = _ := ev7_7
      replace h7_0 : vs 0 = .int .i64 aa := h7_0
      replace h7_1 : vs 1 = .int .i64 ff := h7_1
      replace h7_2 : vs 2 = .tuple #[.agg #[.bool false, .slice none 0 0, .slice none 0 0], .int .i64 1] := h7_2
      replace h7_3 : vs 3 = .tuple #[.agg #[.bool false, .slice none 0 0, .slice none 0 0], .int .i64 1] := h7_3
      replace h7_4 : vs 4 = .agg #[.bool false, .slice none 0 0, .slice none 0 0] := h7_4
      replace h7_5 : vs 5 = .int .i64 1 := h7_5
      replace h7_8 : vs 8 = .int .i64 1 := h7_8
      simp only [ev7_7, h7_0, h7_1, h7_2, h7_3, h7_4, h7_5, h7_8]
      clear ev7_7 h7_0 h7_1 h7_2 h7_3 h7_4 h7_5 h7_8 h7_6
      have kp3_0 := p3.cell0
      have kp3_1 := p3.cell1
      have kp3_2 := p3.cell2
      have kp6_7_0 := p6_7.cell0
      have kp6_7_1 := p6_7.cell1
      have kp6_7_2 := p6_7.cell2
      have kp7_7_0 := p7_7.cell0
      have kp7_7_1 := p7_7.cell1
      have kp7_7_2 := p7_7.cell2
      go_upto_region 7 with (fail)
      clear kp3_0 kp3_1 kp3_2 kp6_7_0 kp6_7_1 kp6_7_2 kp7_7_0 kp7_7_1 kp7_7_2
      have ltp7_7 := p7_7.lt
      have szw8 := Ext.size E0
      refine region_go [.one fun v _ => v = .bool true,
          .one fun v _ => v = .bool true,
          .one fun v _ => v = .int .i64 0,
          .one fun v _ => v = .int .i64 0,
          .one fun v _ => v = .bool true,
          .one fun v _ => v = .bool true,
          .one fun v _ => v = .bool true,
          .one fun v _ => v = .int .i64 1,
          .one fun v _ => v = .int .i64 1,
          .one fun v _ => v = .bool true,
          .one fun v _ => v = .bool true,
          .one fun v _ => v = .bool true,
          .one fun v _ => v = .agg #[.bool false, .slice none 0 0, .slice none 0 0],
          .one fun v _ => v = .agg #[.bool false, .slice none 0 0, .slice none 0 0],
          .one fun v _ => v = .bool true,
          .one fun v _ => v = .bool true,
          .one fun v _ => v = .bool true,
          .one fun v _ => v = .int .i64 1,
          .one fun v _ => v = .int .i64 1,
          .one fun v _ => v = .bool true,
          .one fun v _ => v = .bool true,
          .one fun v _ => v = .bool true]
        (fun W => Ext w W ∧ Bx3 W w.heap.size 27 (.bool b1) (.slice a1 n1 c1) (.slice d1 m1 o1) ∧ Rw W (.agg #[.bool b1, .slice a1 n1 c1, .slice d1 m1 o1]) x ∧ Bx3 W g6_7 27 (.bool false) (.slice none 0 0) (.slice none 0 0) ∧ Bx3 W g7_7 27 (.bool false) (.slice none 0 0) (.slice none 0 0) ∧ W7.heap.size ≤ W.heap.size) ⟨Good.is _, Good.is _, Good.is _, Good.is _, Good.is _, Good.is _, Good.is _, Good.is _, Good.is _, Good.is _, Good.is _, Good.is _, Good.is _, Good.is _, Good.is _, Good.is _, Good.is _, Good.is _, Good.is _, Good.is _, Good.is _, Good.is _, trivial⟩
        (fun W W1 hS hE => ⟨(Ext.trans hS.1 hE), (hS.2.1.ext hE), (hS.2.2.1.ext hE), (hS.2.2.2.1.ext hE), (hS.2.2.2.2.1.ext hE), (Nat.le_trans hS.2.2.2.2.2 (Ext.size hE))⟩) ⟨E0, p3, hx1, p6_7, p7_7, Nat.le_refl _⟩ (by kernel_rfl) (by kernel_rfl) (by kernel_rfl) (by kernel_rfl) (A := ?A8) ?hA8 ?howe8 ?hfin8
      case hA8 =>
        intro vs
        simp only [putAll, Act.put, List.setIfInBounds_toArray, List.set_cons_zero, List.set_cons_succ, Nat.zero_add, Nat.reduceAdd]
        exact rfl
      case howe8 =>
        clear E0 p3 hx1 p6_7 p7_7
        intro hf
        refine ⟨owesE 0 [] hf rfl (by kernel_rfl) ?_, owesE 1 [0] hf rfl (by kernel_rfl) ?_, owesE 2 [1] hf rfl (by kernel_rfl) ?_, owesE 3 [1] hf rfl (by kernel_rfl) ?_, owesE 4 [1, 2, 3] hf rfl (by kernel_rfl) ?_, owesE 5 [1, 4] hf rfl (by kernel_rfl) ?_, owesE 6 [5] hf rfl (by kernel_rfl) ?_, owesE 7 [6] hf rfl (by kernel_rfl) ?_, owesE 8 [6] hf rfl (by kernel_rfl) ?_, owesE 9 [6, 7, 8] hf rfl (by kernel_rfl) ?_, owesE 10 [6, 9] hf rfl (by kernel_rfl) ?_, owesE 11 [10] hf rfl (by kernel_rfl) ?_, owesE 12 [11] hf rfl (by kernel_rfl) ?_, owesE 13 [11] hf rfl (by kernel_rfl) ?_, owesE 14 [11, 12, 13] hf rfl (by kernel_rfl) ?_, owesE 15 [11, 14] hf rfl (by kernel_rfl) ?_, owesE 16 [15] hf rfl (by kernel_rfl) ?_, owesE 17 [16] hf rfl (by kernel_rfl) ?_, owesE 18 [16] hf rfl (by kernel_rfl) ?_, owesE 19 [16, 17, 18] hf rfl (by kernel_rfl) ?_, owesE 20 [16, 19] hf rfl (by kernel_rfl) ?_, owesE 21 [20] hf rfl (by kernel_rfl) ?_, trivial⟩
        all_goals intro vs W hS hp hx KO hKO
        all_goals simp only [Act.put, List.setIfInBounds_toArray, List.set_cons_zero, List.set_cons_succ] at hKO
        · go_simp
          refine (Tryz.alive08 _).mono ?_
          rintro e W1 ⟨rfl, hE⟩
          exact hKO _ W1 hE rfl
        · have e0 := isOf hp.1
          simp only [e0] at hKO
          go_simp
          exact hKO _ W (Ext.refl W) rfl
        · have e1 := isOf hp.1
          simp only [e1] at hKO
          go_simp
          exact hKO _ W (Ext.refl W) rfl
        · have e1 := isOf hp.1
          simp only [e1] at hKO
          go_simp
          exact hKO _ W (Ext.refl W) rfl
        · have e1 := isOf hp.1
          have e2 := isOf hp.2.1
          have e3 := isOf hp.2.2.1
          simp only [e1, e2, e3] at hKO
          go_simp
          exact hKO _ W (Ext.refl W) rfl
        · have e1 := isOf hp.1
          have e4 := isOf hp.2.1
          simp only [e1, e4] at hKO
          go_simp
          exact hKO _ W (Ext.refl W) rfl
        · have e5 := isOf hp.1
          simp only [e5] at hKO
          go_simp
          exact hKO _ W (Ext.refl W) rfl
        · have e6 := isOf hp.1
          simp only [e6] at hKO
          go_simp
          exact hKO _ W (Ext.refl W) rfl
        · have e6 := isOf hp.1
          simp only [e6] at hKO
          go_simp
          exact hKO _ W (Ext.refl W) rfl
        · have e6 := isOf hp.1
          have e7 := isOf hp.2.1
          have e8 := isOf hp.2.2.1
          simp only [e6, e7, e8] at hKO
          go_simp
          exact hKO _ W (Ext.refl W) rfl
        · have e6 := isOf hp.1
          have e9 := isOf hp.2.1
          simp only [e6, e9] at hKO
          go_simp
          exact hKO _ W (Ext.refl W) rfl
        · have e10 := isOf hp.1
          simp only [e10] at hKO
          go_simp
          exact hKO _ W (Ext.refl W) rfl
        · have e11 := isOf hp.1
          simp only [e11] at hKO
          have fc0 := hS.2.2.2.1.cell0
          have fc1 := hS.2.2.2.1.cell1
          have fc2 := hS.2.2.2.1.cell2
          go_simp
          exact hKO _ W (Ext.refl W) rfl
        · have e11 := isOf hp.1
          simp only [e11] at hKO
          have fc0 := hS.2.2.2.2.1.cell0
          have fc1 := hS.2.2.2.2.1.cell1
          have fc2 := hS.2.2.2.2.1.cell2
          go_simp
          exact hKO _ W (Ext.refl W) rfl
        · have e11 := isOf hp.1
          have e12 := isOf hp.2.1
          have e13 := isOf hp.2.2.1
          simp only [e11, e12, e13] at hKO
          go_simp
          refine (Tryz.refRSame0 _).mono ?_
          rintro e W1 ⟨rfl, hE⟩
          exact hKO _ W1 hE rfl
        · have e11 := isOf hp.1
          have e14 := isOf hp.2.1
          simp only [e11, e14] at hKO
          go_simp
          exact hKO _ W (Ext.refl W) rfl
        · have e15 := isOf hp.1
          simp only [e15] at hKO
          go_simp
          exact hKO _ W (Ext.refl W) rfl
        · have e16 := isOf hp.1
          simp only [e16] at hKO
          go_simp
          exact hKO _ W (Ext.refl W) rfl
        · have e16 := isOf hp.1
          simp only [e16] at hKO
          go_simp
          exact hKO _ W (Ext.refl W) rfl
        · have e16 := isOf hp.1
          have e17 := isOf hp.2.1
          have e18 := isOf hp.2.2.1
          simp only [e16, e17, e18] at hKO
          go_simp
          exact hKO _ W (Ext.refl W) rfl
        · have e16 := isOf hp.1
          have e19 := isOf hp.2.1
          simp only [e16, e19] at hKO
          go_simp
          exact hKO _ W (Ext.refl W) rfl
        · have e20 := isOf hp.1
          simp only [e20] at hKO
          go_simp
          exact hKO _ W (Ext.refl W) rfl
      intro vs W8 hS hp
      clear szw8 E0 p3 hx1 p6_7 p7_7
      obtain ⟨E0, p3, hx1, p6_7, p7_7, sz8⟩ := hS
      obtain ⟨h8_0, h8_1, h8_2, h8_3, h8_4, h8_5, h8_6, h8_7, h8_8, h8_9, h8_10, h8_11, h8_12, h8_13, h8_14, h8_15, h8_16, h8_17, h8_18, h8_19, h8_20, h8_21, -⟩ := hp
      replace h8_0 : vs 0 = .bool true := h8_0
      replace h8_1 : vs 1 = .bool true := h8_1
      replace h8_2 : vs 2 = .int .i64 0 := h8_2
      replace h8_3 : vs 3 = .int .i64 0 := h8_3
      replace h8_4 : vs 4 = .bool true := h8_4
      replace h8_5 : vs 5 = .bool true := h8_5
      replace h8_6 : vs 6 = .bool true := h8_6
      replace h8_7 : vs 7 = .int .i64 1 := h8_7
      replace h8_8 : vs 8 = .int .i64 1 := h8_8
      replace h8_9 : vs 9 = .bool true := h8_9
      replace h8_10 : vs 10 = .bool true := h8_10
      replace h8_11 : vs 11 = .bool true := h8_11
      replace h8_12 : vs 12 = .agg #[.bool false, .slice none 0 0, .slice none 0 0] := h8_12
      replace h8_13 : vs 13 = .agg #[.bool false, .slice none 0 0, .slice none 0 0] := h8_13
      replace h8_14 : vs 14 = .bool true := h8_14
      replace h8_15 : vs 15 = .bool true := h8_15
      replace h8_16 : vs 16 = .bool true := h8_16
      replace h8_17 : vs 17 = .int .i64 1 := h8_17
      replace h8_18 : vs 18 = .int .i64 1 := h8_18
      replace h8_19 : vs 19 = .bool true := h8_19
      replace h8_20 : vs 20 = .bool true := h8_20
      replace h8_21 : vs 21 = .bool true := h8_21
      simp only [h8_0, h8_1, h8_2, h8_3, h8_4, h8_5, h8_6, h8_7, h8_8, h8_9, h8_10, h8_11, h8_12, h8_13, h8_14, h8_15, h8_16, h8_17, h8_18, h8_19, h8_20, h8_21]
      clear h8_0 h8_1 h8_2 h8_3 h8_4 h8_5 h8_6 h8_7 h8_8 h8_9 h8_10 h8_11 h8_12 h8_13 h8_14 h8_15 h8_16 h8_17 h8_18 h8_19 h8_20 h8_21
      have kp3_0 := p3.cell0
      have kp3_1 := p3.cell1
      have kp3_2 := p3.cell2
      have kp6_7_0 := p6_7.cell0
      have kp6_7_1 := p6_7.cell1
      have kp6_7_2 := p6_7.cell2
      have kp7_7_0 := p7_7.cell0
      have kp7_7_1 := p7_7.cell1
      have kp7_7_2 := p7_7.cell2
      go_wp2
      go_ret
      exact ⟨rfl, E0⟩
    · have hfb : 0 ≤ ff ∧ ff ≤ 40 := of_decide_eq_true hfr
      clear hfr
      obtain ⟨K, rfl⟩ := Int.eq_ofNat_of_zero_le hfb.1
      have hK : K ≤ 40 := by omega
      clear hfb
      obtain ⟨V, hV⟩ : ∃ V, fitV (nearR (x * P2 K)) = V := ⟨_, rfl⟩
      obtain ⟨E, hE_⟩ : ∃ V, fitE (nearR (x * P2 K)) = V := ⟨_, rfl⟩
      have HV := Lib.hid hV
      have HEE := Lib.hid hE_
      clear hV hE_
      have HB := Lib.hid (And.intro ha1 ha2)
      clear ha1 ha2
      have kp3_0 := p3.cell0
      have kp3_1 := p3.cell1
      have kp3_2 := p3.cell2
      go_upto_region 3 with (fail)
      clear kp3_0 kp3_1 kp3_2
      have ltp3 := p3.lt
      have szw9 := Ext.size E0
      refine region_go [.one fun v _ => v = .agg #[.bool b1, .slice a1 n1 c1, .slice d1 m1 o1],
          .one fun v _ => v = .int .i64 (K : Int),
          .one fun v _ => v = .tuple #[.int .i64 V, .int .i64 E],
          .one fun v _ => v = .tuple #[.int .i64 V, .int .i64 E],
          .one fun v _ => v = .int .i64 V,
          .one fun v _ => v = .int .i64 E,
          .one fun v _ => v = .int .i64 V,
          .one fun v _ => v = .int .i64 E]
        (fun W => Ext w W ∧ Bx3 W w.heap.size 27 (.bool b1) (.slice a1 n1 c1) (.slice d1 m1 o1) ∧ Rw W (.agg #[.bool b1, .slice a1 n1 c1, .slice d1 m1 o1]) x ∧ Wf0.heap.size ≤ W.heap.size) ⟨Good.is _, Good.is _, Good.is _, Good.is _, Good.is _, Good.is _, Good.is _, Good.is _, trivial⟩
        (fun W W1 hS hE => ⟨(Ext.trans hS.1 hE), (hS.2.1.ext hE), (hS.2.2.1.ext hE), (Nat.le_trans hS.2.2.2 (Ext.size hE))⟩) ⟨E0, p3, hx1, Nat.le_refl _⟩ (by kernel_rfl) (by kernel_rfl) (by kernel_rfl) (by kernel_rfl) (A := ?A9) ?hA9 ?howe9 ?hfin9
      case hA9 =>
        intro vs
        simp only [putAll, Act.put, List.setIfInBounds_toArray, List.set_cons_zero, List.set_cons_succ, Nat.zero_add, Nat.reduceAdd]
        exact rfl
      case howe9 =>
        clear E0 p3 hx1
        intro hf
        refine ⟨owesE 0 [] hf rfl (by kernel_rfl) ?_, owesE 1 [] hf rfl (by kernel_rfl) ?_, owesE 2 [0, 1] hf rfl (by kernel_rfl) ?_, owesE 3 [2] hf rfl (by kernel_rfl) ?_, owesE 4 [3] hf rfl (by kernel_rfl) ?_, owesE 5 [3] hf rfl (by kernel_rfl) ?_, owesE 6 [4] hf rfl (by kernel_rfl) ?_, owesE 7 [5] hf rfl (by kernel_rfl) ?_, trivial⟩
        all_goals intro vs W hS hp hx KO hKO
        all_goals simp only [Act.put, List.setIfInBounds_toArray, List.set_cons_zero, List.set_cons_succ] at hKO
        · have fc0 := hS.2.1.cell0
          have fc1 := hS.2.1.cell1
          have fc2 := hS.2.1.cell2
          go_simp
          exact hKO _ W (Ext.refl W) rfl
        · go_simp
          exact hKO _ W (Ext.refl W) rfl
        · have e0 := isOf hp.1
          have e1 := isOf hp.2.1
          simp only [e0, e1] at hKO
          go_simp
          refine (Tryz.fixOf (hS.2.2.1) s1 (by omega) K hK HV.out HEE.out).mono ?_
          rintro e W1 ⟨rfl, hE⟩
          exact hKO _ W1 hE rfl
        · have e2 := isOf hp.1
          simp only [e2] at hKO
          go_simp
          exact hKO _ W (Ext.refl W) rfl
        · have e3 := isOf hp.1
          simp only [e3] at hKO
          go_simp
          exact hKO _ W (Ext.refl W) rfl
        · have e3 := isOf hp.1
          simp only [e3] at hKO
          go_simp
          exact hKO _ W (Ext.refl W) rfl
        · have e4 := isOf hp.1
          simp only [e4] at hKO
          go_simp
          exact hKO _ W (Ext.refl W) rfl
        · have e5 := isOf hp.1
          simp only [e5] at hKO
          go_simp
          exact hKO _ W (Ext.refl W) rfl
      intro vs W9 hS hp
      clear szw9 E0 p3 hx1
      obtain ⟨E0, p3, hx1, sz9⟩ := hS
      obtain ⟨h9_0, h9_1, h9_2, h9_3, h9_4, h9_5, h9_6, h9_7, -⟩ := hp
      replace h9_0 : vs 0 = .agg #[.bool b1, .slice a1 n1 c1, .slice d1 m1 o1] := h9_0
      replace h9_1 : vs 1 = .int .i64 (K : Int) := h9_1
      replace h9_2 : vs 2 = .tuple #[.int .i64 V, .int .i64 E] := h9_2
      replace h9_3 : vs 3 = .tuple #[.int .i64 V, .int .i64 E] := h9_3
      replace h9_4 : vs 4 = .int .i64 V := h9_4
      replace h9_5 : vs 5 = .int .i64 E := h9_5
      replace h9_6 : vs 6 = .int .i64 V := h9_6
      replace h9_7 : vs 7 = .int .i64 E := h9_7
      simp only [h9_0, h9_1, h9_2, h9_3, h9_4, h9_5, h9_6, h9_7]
      clear h9_0 h9_1 h9_2 h9_3 h9_4 h9_5 h9_6 h9_7
      have kp3_0 := p3.cell0
      have kp3_1 := p3.cell1
      have kp3_2 := p3.cell2
      go_upto_region 4 with (fail)
      clear kp3_0 kp3_1 kp3_2
      have szw10 := Ext.size E0
      refine region_go [.one fun v _ => v = .agg #[.bool b1, .slice a1 n1 c1, .slice d1 m1 o1],
          .one fun v _ => v = .int .i64 (K : Int),
          .one fun v _ => v = .tuple #[.int .i64 V, .int .i64 E],
          .one fun v _ => v = .tuple #[.int .i64 V, .int .i64 E],
          .one fun v _ => v = .int .i64 V,
          .one fun v _ => v = .int .i64 E,
          .one fun v _ => v = .int .i64 V,
          .one fun v _ => v = .int .i64 E]
        (fun W => Ext w W ∧ Bx3 W w.heap.size 27 (.bool b1) (.slice a1 n1 c1) (.slice d1 m1 o1) ∧ Rw W (.agg #[.bool b1, .slice a1 n1 c1, .slice d1 m1 o1]) x ∧ W9.heap.size ≤ W.heap.size) ⟨Good.is _, Good.is _, Good.is _, Good.is _, Good.is _, Good.is _, Good.is _, Good.is _, trivial⟩
        (fun W W1 hS hE => ⟨(Ext.trans hS.1 hE), (hS.2.1.ext hE), (hS.2.2.1.ext hE), (Nat.le_trans hS.2.2.2 (Ext.size hE))⟩) ⟨E0, p3, hx1, Nat.le_refl _⟩ (by kernel_rfl) (by kernel_rfl) (by kernel_rfl) (by kernel_rfl) (A := ?A10) ?hA10 ?howe10 ?hfin10
      case hA10 =>
        intro vs
        simp only [putAll, Act.put, List.setIfInBounds_toArray, List.set_cons_zero, List.set_cons_succ, Nat.zero_add, Nat.reduceAdd]
        exact rfl
      case howe10 =>
        clear E0 p3 hx1
        intro hf
        refine ⟨owesE 0 [] hf rfl (by kernel_rfl) ?_, owesE 1 [] hf rfl (by kernel_rfl) ?_, owesE 2 [0, 1] hf rfl (by kernel_rfl) ?_, owesE 3 [2] hf rfl (by kernel_rfl) ?_, owesE 4 [3] hf rfl (by kernel_rfl) ?_, owesE 5 [3] hf rfl (by kernel_rfl) ?_, owesE 6 [4] hf rfl (by kernel_rfl) ?_, owesE 7 [5] hf rfl (by kernel_rfl) ?_, trivial⟩
        all_goals intro vs W hS hp hx KO hKO
        all_goals simp only [Act.put, List.setIfInBounds_toArray, List.set_cons_zero, List.set_cons_succ] at hKO
        · have fc0 := hS.2.1.cell0
          have fc1 := hS.2.1.cell1
          have fc2 := hS.2.1.cell2
          go_simp
          exact hKO _ W (Ext.refl W) rfl
        · go_simp
          exact hKO _ W (Ext.refl W) rfl
        · have e0 := isOf hp.1
          have e1 := isOf hp.2.1
          simp only [e0, e1] at hKO
          go_simp
          refine (Tryz.ref08Of (hS.2.2.1) s1 (by omega) K hK HV.out HEE.out).mono ?_
          rintro e W1 ⟨rfl, hE⟩
          exact hKO _ W1 hE rfl
        · have e2 := isOf hp.1
          simp only [e2] at hKO
          go_simp
          exact hKO _ W (Ext.refl W) rfl
        · have e3 := isOf hp.1
          simp only [e3] at hKO
          go_simp
          exact hKO _ W (Ext.refl W) rfl
        · have e3 := isOf hp.1
          simp only [e3] at hKO
          go_simp
          exact hKO _ W (Ext.refl W) rfl
        · have e4 := isOf hp.1
          simp only [e4] at hKO
          go_simp
          exact hKO _ W (Ext.refl W) rfl
        · have e5 := isOf hp.1
          simp only [e5] at hKO
          go_simp
          exact hKO _ W (Ext.refl W) rfl
      intro vs W10 hS hp
      clear szw10 E0 p3 hx1
      obtain ⟨E0, p3, hx1, sz10⟩ := hS
      obtain ⟨h10_0, h10_1, h10_2, h10_3, h10_4, h10_5, h10_6, h10_7, -⟩ := hp
      replace h10_0 : vs 0 = .agg #[.bool b1, .slice a1 n1 c1, .slice d1 m1 o1] := h10_0
      replace h10_1 : vs 1 = .int .i64 (K : Int) := h10_1
      replace h10_2 : vs 2 = .tuple #[.int .i64 V, .int .i64 E] := h10_2
      replace h10_3 : vs 3 = .tuple #[.int .i64 V, .int .i64 E] := h10_3
      replace h10_4 : vs 4 = .int .i64 V := h10_4
      replace h10_5 : vs 5 = .int .i64 E := h10_5
      replace h10_6 : vs 6 = .int .i64 V := h10_6
      replace h10_7 : vs 7 = .int .i64 E := h10_7
      simp only [h10_0, h10_1, h10_2, h10_3, h10_4, h10_5, h10_6, h10_7]
      clear h10_0 h10_1 h10_2 h10_3 h10_4 h10_5 h10_6 h10_7
      have kp3_0 := p3.cell0
      have kp3_1 := p3.cell1
      have kp3_2 := p3.cell2
      go_upto_region 5 with (fail)
      clear kp3_0 kp3_1 kp3_2
      have szw11 := Ext.size E0
      refine region_go [.one fun v _ => v = .int .i64 aa,
          .one fun v _ => v = .int .i64 (K : Int),
          .one fun v W => ∃ v', v = .tuple #[v', .int .i64 0] ∧ (fun v W => Rw W v ((aa : Rat) / P2 K)) v' W,
          .one fun v W => ∃ v', v = .tuple #[v', .int .i64 0] ∧ (fun v W => Rw W v ((aa : Rat) / P2 K)) v' W,
          .one fun v W => Rw W v ((aa : Rat) / P2 K),
          .one fun v _ => v = .int .i64 0,
          .one fun v W => ∃ g, v = .pointer (some ⟨g, 0, none⟩) ∧ W10.heap.size ≤ g ∧ Form W g 27 3,
          .three 6 4 (fun p r _ W => Put3 W10.heap.size 27 p r W),
          .one fun v _ => v = .int .i64 0]
        (fun W => Ext w W ∧ Bx3 W w.heap.size 27 (.bool b1) (.slice a1 n1 c1) (.slice d1 m1 o1) ∧ Rw W (.agg #[.bool b1, .slice a1 n1 c1, .slice d1 m1 o1]) x ∧ W10.heap.size ≤ W.heap.size) ⟨Good.is _, Good.is _, (Good.rat _).tup _, (Good.rat _).tup _, Good.rat _, Good.is _, Good.box _ _ _, cert_put3, Good.is _, trivial⟩
        (fun W W1 hS hE => ⟨(Ext.trans hS.1 hE), (hS.2.1.ext hE), (hS.2.2.1.ext hE), (Nat.le_trans hS.2.2.2 (Ext.size hE))⟩) ⟨E0, p3, hx1, Nat.le_refl _⟩ (by kernel_rfl) (by kernel_rfl) (by kernel_rfl) (by kernel_rfl) (A := ?A11) ?hA11 ?howe11 ?hfin11
      case hA11 =>
        intro vs
        simp only [putAll, Act.put, List.setIfInBounds_toArray, List.set_cons_zero, List.set_cons_succ, Nat.zero_add, Nat.reduceAdd]
        exact rfl
      case howe11 =>
        clear E0 p3 hx1
        intro hf
        refine ⟨owesE 0 [] hf rfl (by kernel_rfl) ?_, owesE 1 [] hf rfl (by kernel_rfl) ?_, owesE 2 [0, 1] hf rfl (by kernel_rfl) ?_, owesE 3 [2] hf rfl (by kernel_rfl) ?_, owesE 4 [3] hf rfl (by kernel_rfl) ?_, owesE 5 [3] hf rfl (by kernel_rfl) ?_, owesE 6 [] hf rfl (by kernel_rfl) ?_, owesW 7 [6, 4] hf rfl (by kernel_rfl) (by kernel_rfl) ?_, owesE 8 [5] hf rfl (by kernel_rfl) ?_, trivial⟩
        all_goals intro vs W hS hp hx KO hKO
        all_goals simp only [Act.put, List.setIfInBounds_toArray, List.set_cons_zero, List.set_cons_succ] at hKO
        · go_simp
          exact hKO _ W (Ext.refl W) rfl
        · go_simp
          exact hKO _ W (Ext.refl W) rfl
        · have e0 := isOf hp.1
          have e1 := isOf hp.2.1
          simp only [e0, e1] at hKO
          go_simp
          refine (Tryz.fixRat aa K hK _ HB.out.1 HB.out.2).mono ?_
          rintro e W1 ⟨v, rfl, hv, hE⟩
          exact hKO _ W1 hE ⟨_, rfl, hv⟩
        · have q2 := hp.1
          obtain ⟨u, ev, hu⟩ := q2
          replace ev : vs 2 = _ := ev
          simp only [ev] at hKO
          go_simp
          exact hKO _ W (Ext.refl W) ⟨u, rfl, hu⟩
        · have q3 := hp.1
          obtain ⟨u, ev, hu⟩ := q3
          replace ev : vs 3 = _ := ev
          simp only [ev] at hKO
          go_simp
          exact hKO _ W (Ext.refl W) hu
        · have q3 := hp.1
          obtain ⟨u, ev, hu⟩ := q3
          replace ev : vs 3 = _ := ev
          simp only [ev] at hKO
          go_simp
          exact hKO _ W (Ext.refl W) rfl
        · have hn := Bx3.new W 27 (.bool false) (.slice none 0 0) (.slice none 0 0)
          have hE := Ext.alloc1 W (.cells #[.bool false, .slice none 0 0, .slice none 0 0] 27)
          have hsz := hS.2.2.2
          go_simp
          exact hKO _ _ hE ⟨_, rfl, hsz, hn.form⟩
        · have q6 := hp.1
          have q4 := hp.2.1
          obtain ⟨g, ev, hg, hf⟩ := q6
          replace ev : vs 6 = _ := ev
          obtain ⟨x0, y0, z0, hx, hno⟩ := hf.bx3
          have qr := q4
          obtain ⟨b3, a3, n3, c3, d3, m3, o3, er, -, -, -⟩ := qr
          replace er : vs 4 = _ := er
          have r0 := hx.froz0
          have t0 := hx.cell0
          have r1 := hx.froz1
          have t1 := hx.cell1
          have r2 := hx.froz2
          have t2 := hx.cell2
          have hw := Wr.set3 hx hno b3 a3 n3 c3 d3 m3 o3
          have hq := hx.set (.bool b3) (.slice a3 n3 c3) (.slice d3 m3 o3)
          simp only [ev, er] at hKO
          go_simp
          exact hKO _ _ hw ⟨(Ext.wr hS.1 hw (by omega)), (hS.2.1.wr hw (by omega)), (hS.2.2.1.wr hw), (Nat.le_trans hS.2.2.2 hw.apart.size)⟩ ⟨g, b3, a3, n3, c3, d3, m3, o3, ev, er, hg, hq⟩
        · have e5 := isOf hp.1
          simp only [e5] at hKO
          go_simp
          exact hKO _ W (Ext.refl W) rfl
      intro vs W11 hS hp
      clear szw11 E0 p3 hx1
      obtain ⟨E0, p3, hx1, sz11⟩ := hS
      obtain ⟨h11_0, h11_1, h11_2, h11_3, h11_4, h11_5, h11_6, h11_7, h11_8, -⟩ := hp
      obtain ⟨g11_7, b11_7, a11_7, n11_7, c11_7, d11_7, m11_7, o11_7, ev11_7, er11_7, hg11_7, p11_7⟩ := h11_7
      replace ev11_7 : vs 6 = _ := ev11_7
      replace er11_7 : vs 4 = _ := er11_7
      replace h11_4 := (show Rw W11 (vs 4) ((aa : Rat) / P2 K) from h11_4)
      rw [er11_7] at h11_4
      replace h11_0 : vs 0 = .int .i64 aa := h11_0
      replace h11_1 : vs 1 = .int .i64 (K : Int) := h11_1
      replace h11_5 : vs 5 = .int .i64 0 := h11_5
      replace h11_8 : vs 8 = .int .i64 0 := h11_8
      simp only [ev11_7, er11_7, h11_0, h11_1, h11_5, h11_8]
      clear ev11_7 er11_7 h11_0 h11_1 h11_5 h11_8 h11_2 h11_3 h11_6
      have kp3_0 := p3.cell0
      have kp3_1 := p3.cell1
      have kp3_2 := p3.cell2
      have kp11_7_0 := p11_7.cell0
      have kp11_7_1 := p11_7.cell1
      have kp11_7_2 := p11_7.cell2
      go_upto_region 6 with (fail)
      clear kp3_0 kp3_1 kp3_2 kp11_7_0 kp11_7_1 kp11_7_2
      have ltp11_7 := p11_7.lt
      have szw12 := Ext.size E0
      refine region_go [.one fun v _ => v = .int .i64 aa,
          .one fun v _ => v = .int .i64 (K : Int),
          .one fun v W => ∃ v', v = .tuple #[v', .int .i64 0] ∧ (fun v W => Rw W v ((aa : Rat) / P2 K)) v' W,
          .one fun v W => ∃ v', v = .tuple #[v', .int .i64 0] ∧ (fun v W => Rw W v ((aa : Rat) / P2 K)) v' W,
          .one fun v W => Rw W v ((aa : Rat) / P2 K),
          .one fun v _ => v = .int .i64 0,
          .one fun v W => ∃ g, v = .pointer (some ⟨g, 0, none⟩) ∧ W11.heap.size ≤ g ∧ Form W g 27 3,
          .three 6 4 (fun p r _ W => Put3 W11.heap.size 27 p r W),
          .one fun v _ => v = .int .i64 0]
        (fun W => Ext w W ∧ Bx3 W w.heap.size 27 (.bool b1) (.slice a1 n1 c1) (.slice d1 m1 o1) ∧ Rw W (.agg #[.bool b1, .slice a1 n1 c1, .slice d1 m1 o1]) x ∧ Rw W (.agg #[.bool b11_7, .slice a11_7 n11_7 c11_7, .slice d11_7 m11_7 o11_7]) ((aa : Rat) / P2 K) ∧ Bx3 W g11_7 27 (.bool b11_7) (.slice a11_7 n11_7 c11_7) (.slice d11_7 m11_7 o11_7) ∧ W11.heap.size ≤ W.heap.size) ⟨Good.is _, Good.is _, (Good.rat _).tup _, (Good.rat _).tup _, Good.rat _, Good.is _, Good.box _ _ _, cert_put3, Good.is _, trivial⟩
        (fun W W1 hS hE => ⟨(Ext.trans hS.1 hE), (hS.2.1.ext hE), (hS.2.2.1.ext hE), (hS.2.2.2.1.ext hE), (hS.2.2.2.2.1.ext hE), (Nat.le_trans hS.2.2.2.2.2 (Ext.size hE))⟩) ⟨E0, p3, hx1, h11_4, p11_7, Nat.le_refl _⟩ (by kernel_rfl) (by kernel_rfl) (by kernel_rfl) (by kernel_rfl) (A := ?A12) ?hA12 ?howe12 ?hfin12
      case hA12 =>
        intro vs
        simp only [putAll, Act.put, List.setIfInBounds_toArray, List.set_cons_zero, List.set_cons_succ, Nat.zero_add, Nat.reduceAdd]
        exact rfl
      case howe12 =>
        clear E0 p3 hx1 h11_4 p11_7
        intro hf
        refine ⟨owesE 0 [] hf rfl (by kernel_rfl) ?_, owesE 1 [] hf rfl (by kernel_rfl) ?_, owesE 2 [0, 1] hf rfl (by kernel_rfl) ?_, owesE 3 [2] hf rfl (by kernel_rfl) ?_, owesE 4 [3] hf rfl (by kernel_rfl) ?_, owesE 5 [3] hf rfl (by kernel_rfl) ?_, owesE 6 [] hf rfl (by kernel_rfl) ?_, owesW 7 [6, 4] hf rfl (by kernel_rfl) (by kernel_rfl) ?_, owesE 8 [5] hf rfl (by kernel_rfl) ?_, trivial⟩
        all_goals intro vs W hS hp hx KO hKO
        all_goals simp only [Act.put, List.setIfInBounds_toArray, List.set_cons_zero, List.set_cons_succ] at hKO
        · go_simp
          exact hKO _ W (Ext.refl W) rfl
        · go_simp
          exact hKO _ W (Ext.refl W) rfl
        · have e0 := isOf hp.1
          have e1 := isOf hp.2.1
          simp only [e0, e1] at hKO
          go_simp
          refine (Tryz.ref08Rat aa K hK _ HB.out.1 HB.out.2).mono ?_
          rintro e W1 ⟨v, rfl, hv, hE⟩
          exact hKO _ W1 hE ⟨_, rfl, hv⟩
        · have q2 := hp.1
          obtain ⟨u, ev, hu⟩ := q2
          replace ev : vs 2 = _ := ev
          simp only [ev] at hKO
          go_simp
          exact hKO _ W (Ext.refl W) ⟨u, rfl, hu⟩
        · have q3 := hp.1
          obtain ⟨u, ev, hu⟩ := q3
          replace ev : vs 3 = _ := ev
          simp only [ev] at hKO
          go_simp
          exact hKO _ W (Ext.refl W) hu
        · have q3 := hp.1
          obtain ⟨u, ev, hu⟩ := q3
          replace ev : vs 3 = _ := ev
          simp only [ev] at hKO
          go_simp
          exact hKO _ W (Ext.refl W) rfl
        · have hn := Bx3.new W 27 (.bool false) (.slice none 0 0) (.slice none 0 0)
          have hE := Ext.alloc1 W (.cells #[.bool false, .slice none 0 0, .slice none 0 0] 27)
          have hsz := hS.2.2.2.2.2
          go_simp
          exact hKO _ _ hE ⟨_, rfl, hsz, hn.form⟩
        · have q6 := hp.1
          have q4 := hp.2.1
          obtain ⟨g, ev, hg, hf⟩ := q6
          replace ev : vs 6 = _ := ev
          obtain ⟨x0, y0, z0, hx, hno⟩ := hf.bx3
          have qr := q4
          obtain ⟨b3, a3, n3, c3, d3, m3, o3, er, -, -, -⟩ := qr
          replace er : vs 4 = _ := er
          have r0 := hx.froz0
          have t0 := hx.cell0
          have r1 := hx.froz1
          have t1 := hx.cell1
          have r2 := hx.froz2
          have t2 := hx.cell2
          have hw := Wr.set3 hx hno b3 a3 n3 c3 d3 m3 o3
          have hq := hx.set (.bool b3) (.slice a3 n3 c3) (.slice d3 m3 o3)
          simp only [ev, er] at hKO
          go_simp
          exact hKO _ _ hw ⟨(Ext.wr hS.1 hw (by omega)), (hS.2.1.wr hw (by omega)), (hS.2.2.1.wr hw), (hS.2.2.2.1.wr hw), (hS.2.2.2.2.1.wr hw (by omega)), (Nat.le_trans hS.2.2.2.2.2 hw.apart.size)⟩ ⟨g, b3, a3, n3, c3, d3, m3, o3, ev, er, hg, hq⟩
        · have e5 := isOf hp.1
          simp only [e5] at hKO
          go_simp
          exact hKO _ W (Ext.refl W) rfl
      intro vs W12 hS hp
      clear szw12 E0 p3 hx1 h11_4 p11_7
      obtain ⟨E0, p3, hx1, h11_4, p11_7, sz12⟩ := hS
      obtain ⟨h12_0, h12_1, h12_2, h12_3, h12_4, h12_5, h12_6, h12_7, h12_8, -⟩ := hp
      obtain ⟨g12_7, b12_7, a12_7, n12_7, c12_7, d12_7, m12_7, o12_7, ev12_7, er12_7, hg12_7, p12_7⟩ := h12_7
      replace ev12_7 : vs 6 = _ := ev12_7
      replace er12_7 : vs 4 = _ := er12_7
      replace h12_4 := (show Rw W12 (vs 4) ((aa : Rat) / P2 K) from h12_4)
      rw [er12_7] at h12_4
      replace h12_0 : vs 0 = .int .i64 aa := h12_0
      replace h12_1 : vs 1 = .int .i64 (K : Int) := h12_1
      replace h12_5 : vs 5 = .int .i64 0 := h12_5
      replace h12_8 : vs 8 = .int .i64 0 := h12_8
      simp only [ev12_7, er12_7, h12_0, h12_1, h12_5, h12_8]
      clear ev12_7 er12_7 h12_0 h12_1 h12_5 h12_8 h12_2 h12_3 h12_6
      have kp3_0 := p3.cell0
      have kp3_1 := p3.cell1
      have kp3_2 := p3.cell2
      have kp11_7_0 := p11_7.cell0
      have kp11_7_1 := p11_7.cell1
      have kp11_7_2 := p11_7.cell2
      have kp12_7_0 := p12_7.cell0
      have kp12_7_1 := p12_7.cell1
      have kp12_7_2 := p12_7.cell2
      go_upto_region 7 with (fail)
      clear kp3_0 kp3_1 kp3_2 kp11_7_0 kp11_7_1 kp11_7_2 kp12_7_0 kp12_7_1 kp12_7_2
      have ltp12_7 := p12_7.lt
      have szw13 := Ext.size E0
      refine region_go [.one fun v _ => v = .bool true,
          .one fun v _ => v = .bool true,
          .one fun v _ => v = .int .i64 V,
          .one fun v _ => v = .int .i64 V,
          .one fun v _ => v = .bool true,
          .one fun v _ => v = .bool true,
          .one fun v _ => v = .bool true,
          .one fun v _ => v = .int .i64 E,
          .one fun v _ => v = .int .i64 E,
          .one fun v _ => v = .bool true,
          .one fun v _ => v = .bool true,
          .one fun v _ => v = .bool true,
          .one fun v _ => v = .agg #[.bool b11_7, .slice a11_7 n11_7 c11_7, .slice d11_7 m11_7 o11_7],
          .one fun v _ => v = .agg #[.bool b12_7, .slice a12_7 n12_7 c12_7, .slice d12_7 m12_7 o12_7],
          .one fun v _ => v = .bool true,
          .one fun v _ => v = .bool true,
          .one fun v _ => v = .bool true,
          .one fun v _ => v = .int .i64 0,
          .one fun v _ => v = .int .i64 0,
          .one fun v _ => v = .bool true,
          .one fun v _ => v = .bool true,
          .one fun v _ => v = .bool true]
        (fun W => Ext w W ∧ Bx3 W w.heap.size 27 (.bool b1) (.slice a1 n1 c1) (.slice d1 m1 o1) ∧ Rw W (.agg #[.bool b1, .slice a1 n1 c1, .slice d1 m1 o1]) x ∧ Rw W (.agg #[.bool b11_7, .slice a11_7 n11_7 c11_7, .slice d11_7 m11_7 o11_7]) ((aa : Rat) / P2 K) ∧ Bx3 W g11_7 27 (.bool b11_7) (.slice a11_7 n11_7 c11_7) (.slice d11_7 m11_7 o11_7) ∧ Rw W (.agg #[.bool b12_7, .slice a12_7 n12_7 c12_7, .slice d12_7 m12_7 o12_7]) ((aa : Rat) / P2 K) ∧ Bx3 W g12_7 27 (.bool b12_7) (.slice a12_7 n12_7 c12_7) (.slice d12_7 m12_7 o12_7) ∧ W12.heap.size ≤ W.heap.size) ⟨Good.is _, Good.is _, Good.is _, Good.is _, Good.is _, Good.is _, Good.is _, Good.is _, Good.is _, Good.is _, Good.is _, Good.is _, Good.is _, Good.is _, Good.is _, Good.is _, Good.is _, Good.is _, Good.is _, Good.is _, Good.is _, Good.is _, trivial⟩
        (fun W W1 hS hE => ⟨(Ext.trans hS.1 hE), (hS.2.1.ext hE), (hS.2.2.1.ext hE), (hS.2.2.2.1.ext hE), (hS.2.2.2.2.1.ext hE), (hS.2.2.2.2.2.1.ext hE), (hS.2.2.2.2.2.2.1.ext hE), (Nat.le_trans hS.2.2.2.2.2.2.2 (Ext.size hE))⟩) ⟨E0, p3, hx1, h11_4, p11_7, h12_4, p12_7, Nat.le_refl _⟩ (by kernel_rfl) (by kernel_rfl) (by kernel_rfl) (by kernel_rfl) (A := ?A13) ?hA13 ?howe13 ?hfin13
      case hA13 =>
        intro vs
        simp only [putAll, Act.put, List.setIfInBounds_toArray, List.set_cons_zero, List.set_cons_succ, Nat.zero_add, Nat.reduceAdd]
        exact rfl
      case howe13 =>
        clear E0 p3 hx1 h11_4 p11_7 h12_4 p12_7
        intro hf
        refine ⟨owesE 0 [] hf rfl (by kernel_rfl) ?_, owesE 1 [0] hf rfl (by kernel_rfl) ?_, owesE 2 [1] hf rfl (by kernel_rfl) ?_, owesE 3 [1] hf rfl (by kernel_rfl) ?_, owesE 4 [1, 2, 3] hf rfl (by kernel_rfl) ?_, owesE 5 [1, 4] hf rfl (by kernel_rfl) ?_, owesE 6 [5] hf rfl (by kernel_rfl) ?_, owesE 7 [6] hf rfl (by kernel_rfl) ?_, owesE 8 [6] hf rfl (by kernel_rfl) ?_, owesE 9 [6, 7, 8] hf rfl (by kernel_rfl) ?_, owesE 10 [6, 9] hf rfl (by kernel_rfl) ?_, owesE 11 [10] hf rfl (by kernel_rfl) ?_, owesE 12 [11] hf rfl (by kernel_rfl) ?_, owesE 13 [11] hf rfl (by kernel_rfl) ?_, owesE 14 [11, 12, 13] hf rfl (by kernel_rfl) ?_, owesE 15 [11, 14] hf rfl (by kernel_rfl) ?_, owesE 16 [15] hf rfl (by kernel_rfl) ?_, owesE 17 [16] hf rfl (by kernel_rfl) ?_, owesE 18 [16] hf rfl (by kernel_rfl) ?_, owesE 19 [16, 17, 18] hf rfl (by kernel_rfl) ?_, owesE 20 [16, 19] hf rfl (by kernel_rfl) ?_, owesE 21 [20] hf rfl (by kernel_rfl) ?_, trivial⟩
        all_goals intro vs W hS hp hx KO hKO
        all_goals simp only [Act.put, List.setIfInBounds_toArray, List.set_cons_zero, List.set_cons_succ] at hKO
        · go_simp
          refine (Tryz.alive08 _).mono ?_
          rintro e W1 ⟨rfl, hE⟩
          exact hKO _ W1 hE rfl
        · have e0 := isOf hp.1
          simp only [e0] at hKO
          go_simp
          exact hKO _ W (Ext.refl W) rfl
        · have e1 := isOf hp.1
          simp only [e1] at hKO
          go_simp
          exact hKO _ W (Ext.refl W) rfl
        · have e1 := isOf hp.1
          simp only [e1] at hKO
          go_simp
          exact hKO _ W (Ext.refl W) rfl
        · have e1 := isOf hp.1
          have e2 := isOf hp.2.1
          have e3 := isOf hp.2.2.1
          simp only [e1, e2, e3] at hKO
          go_simp
          exact hKO _ W (Ext.refl W) rfl
        · have e1 := isOf hp.1
          have e4 := isOf hp.2.1
          simp only [e1, e4] at hKO
          go_simp
          exact hKO _ W (Ext.refl W) rfl
        · have e5 := isOf hp.1
          simp only [e5] at hKO
          go_simp
          exact hKO _ W (Ext.refl W) rfl
        · have e6 := isOf hp.1
          simp only [e6] at hKO
          go_simp
          exact hKO _ W (Ext.refl W) rfl
        · have e6 := isOf hp.1
          simp only [e6] at hKO
          go_simp
          exact hKO _ W (Ext.refl W) rfl
        · have e6 := isOf hp.1
          have e7 := isOf hp.2.1
          have e8 := isOf hp.2.2.1
          simp only [e6, e7, e8] at hKO
          go_simp
          exact hKO _ W (Ext.refl W) rfl
        · have e6 := isOf hp.1
          have e9 := isOf hp.2.1
          simp only [e6, e9] at hKO
          go_simp
          exact hKO _ W (Ext.refl W) rfl
        · have e10 := isOf hp.1
          simp only [e10] at hKO
          go_simp
          exact hKO _ W (Ext.refl W) rfl
        · have e11 := isOf hp.1
          simp only [e11] at hKO
          have fc0 := hS.2.2.2.2.1.cell0
          have fc1 := hS.2.2.2.2.1.cell1
          have fc2 := hS.2.2.2.2.1.cell2
          go_simp
          exact hKO _ W (Ext.refl W) rfl
        · have e11 := isOf hp.1
          simp only [e11] at hKO
          have fc0 := hS.2.2.2.2.2.2.1.cell0
          have fc1 := hS.2.2.2.2.2.2.1.cell1
          have fc2 := hS.2.2.2.2.2.2.1.cell2
          go_simp
          exact hKO _ W (Ext.refl W) rfl
        · have e11 := isOf hp.1
          have e12 := isOf hp.2.1
          have e13 := isOf hp.2.2.1
          simp only [e11, e12, e13] at hKO
          go_simp
          refine (Tryz.refRSameT (hS.2.2.2.1) (hS.2.2.2.2.2.1) rfl).mono ?_
          rintro e W1 ⟨rfl, hE⟩
          exact hKO _ W1 hE rfl
        · have e11 := isOf hp.1
          have e14 := isOf hp.2.1
          simp only [e11, e14] at hKO
          go_simp
          exact hKO _ W (Ext.refl W) rfl
        · have e15 := isOf hp.1
          simp only [e15] at hKO
          go_simp
          exact hKO _ W (Ext.refl W) rfl
        · have e16 := isOf hp.1
          simp only [e16] at hKO
          go_simp
          exact hKO _ W (Ext.refl W) rfl
        · have e16 := isOf hp.1
          simp only [e16] at hKO
          go_simp
          exact hKO _ W (Ext.refl W) rfl
        · have e16 := isOf hp.1
          have e17 := isOf hp.2.1
          have e18 := isOf hp.2.2.1
          simp only [e16, e17, e18] at hKO
          go_simp
          exact hKO _ W (Ext.refl W) rfl
        · have e16 := isOf hp.1
          have e19 := isOf hp.2.1
          simp only [e16, e19] at hKO
          go_simp
          exact hKO _ W (Ext.refl W) rfl
        · have e20 := isOf hp.1
          simp only [e20] at hKO
          go_simp
          exact hKO _ W (Ext.refl W) rfl
      intro vs W13 hS hp
      clear szw13 E0 p3 hx1 h11_4 p11_7 h12_4 p12_7
      obtain ⟨E0, p3, hx1, h11_4, p11_7, h12_4, p12_7, sz13⟩ := hS
      obtain ⟨h13_0, h13_1, h13_2, h13_3, h13_4, h13_5, h13_6, h13_7, h13_8, h13_9, h13_10, h13_11, h13_12, h13_13, h13_14, h13_15, h13_16, h13_17, h13_18, h13_19, h13_20, h13_21, -⟩ := hp
      replace h13_0 : vs 0 = .bool true := h13_0
      replace h13_1 : vs 1 = .bool true := h13_1
      replace h13_2 : vs 2 = .int .i64 V := h13_2
      replace h13_3 : vs 3 = .int .i64 V := h13_3
      replace h13_4 : vs 4 = .bool true := h13_4
      replace h13_5 : vs 5 = .bool true := h13_5
      replace h13_6 : vs 6 = .bool true := h13_6
      replace h13_7 : vs 7 = .int .i64 E := h13_7
      replace h13_8 : vs 8 = .int .i64 E := h13_8
      replace h13_9 : vs 9 = .bool true := h13_9
      replace h13_10 : vs 10 = .bool true := h13_10
      replace h13_11 : vs 11 = .bool true := h13_11
      replace h13_12 : vs 12 = .agg #[.bool b11_7, .slice a11_7 n11_7 c11_7, .slice d11_7 m11_7 o11_7] := h13_12
      replace h13_13 : vs 13 = .agg #[.bool b12_7, .slice a12_7 n12_7 c12_7, .slice d12_7 m12_7 o12_7] := h13_13
      replace h13_14 : vs 14 = .bool true := h13_14
      replace h13_15 : vs 15 = .bool true := h13_15
      replace h13_16 : vs 16 = .bool true := h13_16
      replace h13_17 : vs 17 = .int .i64 0 := h13_17
      replace h13_18 : vs 18 = .int .i64 0 := h13_18
      replace h13_19 : vs 19 = .bool true := h13_19
      replace h13_20 : vs 20 = .bool true := h13_20
      replace h13_21 : vs 21 = .bool true := h13_21
      simp only [h13_0, h13_1, h13_2, h13_3, h13_4, h13_5, h13_6, h13_7, h13_8, h13_9, h13_10, h13_11, h13_12, h13_13, h13_14, h13_15, h13_16, h13_17, h13_18, h13_19, h13_20, h13_21]
      clear h13_0 h13_1 h13_2 h13_3 h13_4 h13_5 h13_6 h13_7 h13_8 h13_9 h13_10 h13_11 h13_12 h13_13 h13_14 h13_15 h13_16 h13_17 h13_18 h13_19 h13_20 h13_21
      have kp3_0 := p3.cell0
      have kp3_1 := p3.cell1
      have kp3_2 := p3.cell2
      have kp11_7_0 := p11_7.cell0
      have kp11_7_1 := p11_7.cell1
      have kp11_7_2 := p11_7.cell2
      have kp12_7_0 := p12_7.cell0
      have kp12_7_1 := p12_7.cell1
      have kp12_7_2 := p12_7.cell2
      go_wp2
      go_ret
      exact ⟨rfl, E0⟩

end Go.Rt
