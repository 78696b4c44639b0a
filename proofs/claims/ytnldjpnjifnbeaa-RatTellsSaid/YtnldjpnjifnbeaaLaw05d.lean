/-
 The laws of chapter 05 (fractions): Tells.
-/
import Derived.Test.YtnldjpnjifnbeaaLaw05
import Derived.Test.YtnldjpnjifnbeaaFixD
namespace Go.Rt
open Go Go.RowKit Go.Proofs


set_option maxRecDepth 100000 in
set_option maxHeartbeats 8000000 in
theorem Try.lawRatTells {b1 : Bool} {a1 : Option Addr} {n1 c1 : Nat} {d1 : Option Addr} {m1 o1 : Nat} {xs1 ys1 : List Nat} {b2 : Bool} {a2 : Option Addr} {n2 c2 : Nat} {xs2 : List Nat} {a3 : Option Addr} {n3 c3 : Nat} {xs3 : List Nat} {w : World} (h1 : Nt w (.slice a1 n1 c1) xs1) (k1 : Nt w (.slice d1 m1 o1) ys1) (h2 : Nt w (.slice a2 n2 c2) xs2) (h3 : Nt w (.slice a3 n3 c3) xs3) :
  Calls Try.prog 9 #[.agg #[.bool b1, .slice a1 n1 c1, .slice d1 m1 o1], .agg #[.bool b2, .slice a2 n2 c2], .slice a3 n3 c3] w fun e w' => e = .returned (.bool true) ∧ Ext w w' := by
 obtain ⟨W0, hW0⟩ : ∃ W0, W0 = ((w.alloc (.cells #[.bool b1, .slice a1 n1 c1, .slice d1 m1 o1] 27)).alloc (.cells #[.bool b2, .slice a2 n2 c2] 25)) := ⟨_, rfl⟩
 have E0 : Ext w W0 := by rw [hW0]; exact ((Ext.alloc1 w (.cells #[.bool b1, .slice a1 n1 c1, .slice d1 m1 o1] 27)).alloc (.cells #[.bool b2, .slice a2 n2 c2] 25))
 replace h1 : Nt W0 (.slice a1 n1 c1) xs1 := h1.ext E0
 replace k1 : Nt W0 (.slice d1 m1 o1) ys1 := k1.ext E0
 replace h2 : Nt W0 (.slice a2 n2 c2) xs2 := h2.ext E0
 replace h3 : Nt W0 (.slice a3 n3 c3) xs3 := h3.ext E0
 have p3 : Bx3 W0 w.heap.size 27 (.bool b1) (.slice a1 n1 c1) (.slice d1 m1 o1) := by rw [hW0]; exact (Bx3.new w 27 (.bool b1) (.slice a1 n1 c1) (.slice d1 m1 o1)).ext (Ext.alloc1 (w.alloc (.cells #[.bool b1, .slice a1 n1 c1, .slice d1 m1 o1] 27)) (.cells #[.bool b2, .slice a2 n2 c2] 25))
 have p4 : Bx2 W0 (w.heap.size + 1) 25 (.bool b2) (.slice a2 n2 c2) := by rw [hW0]; simpa using (Bx2.new (w.alloc (.cells #[.bool b1, .slice a1 n1 c1, .slice d1 m1 o1] 27)) 25 (.bool b2) (.slice a2 n2 c2))
 go_enter Try.func9, Try.ntmps9
 by_cases ht0 : 6 < n1
 ·have ht0I : (6 : Int) < (n1 : Int) := by omega
  have ht0d := decide_eq_true ht0I
  have kp3_0 := p3.cell0
  have kp3_1 := p3.cell1
  have kp3_2 := p3.cell2
  have kp4_0 := p4.cell0
  have kp4_1 := p4.cell1
  go_wp2_with fail
  rw [← hW0]
  clear hW0
  clear kp3_0 kp3_1 kp3_2 kp4_0 kp4_1
  refine (Try.alive05 _).mono ?_
  rintro e Vk1 ⟨rfl, hE⟩
  replace E0 := (Ext.trans E0 hE)
  replace h1 := (h1.ext hE)
  replace k1 := (k1.ext hE)
  replace h2 := (h2.ext hE)
  replace h3 := (h3.ext hE)
  replace p3 := (p3.ext hE)
  replace p4 := (p4.ext hE)
  clear hE
  have kp3_0 := p3.cell0
  have kp3_1 := p3.cell1
  have kp3_2 := p3.cell2
  have kp4_0 := p4.cell0
  have kp4_1 := p4.cell1
  go_wp2
  go_ret
  exact ⟨rfl, E0⟩
 ·have ht0I : ¬ (6 : Int) < (n1 : Int) := by omega
  have ht0d := decide_eq_false ht0I
  by_cases ht1 : 6 < m1
  ·have ht1I : (6 : Int) < (m1 : Int) := by omega
   have ht1d := decide_eq_true ht1I
   have kp3_0 := p3.cell0
   have kp3_1 := p3.cell1
   have kp3_2 := p3.cell2
   have kp4_0 := p4.cell0
   have kp4_1 := p4.cell1
   go_wp2_with fail
   rw [← hW0]
   clear hW0
   clear kp3_0 kp3_1 kp3_2 kp4_0 kp4_1
   refine (Try.alive05 _).mono ?_
   rintro e Vk2 ⟨rfl, hE⟩
   replace E0 := (Ext.trans E0 hE)
   replace h1 := (h1.ext hE)
   replace k1 := (k1.ext hE)
   replace h2 := (h2.ext hE)
   replace h3 := (h3.ext hE)
   replace p3 := (p3.ext hE)
   replace p4 := (p4.ext hE)
   clear hE
   have kp3_0 := p3.cell0
   have kp3_1 := p3.cell1
   have kp3_2 := p3.cell2
   have kp4_0 := p4.cell0
   have kp4_1 := p4.cell1
   go_wp2
   go_ret
   exact ⟨rfl, E0⟩
  ·have ht1I : ¬ (6 : Int) < (m1 : Int) := by omega
   have ht1d := decide_eq_false ht1I
   cases hg2 : fewZ b2 xs2 ((6 : Nat) : Int)
   ·have HG2 := Lib.hid hg2
    clear hg2
    have kp3_0 := p3.cell0
    have kp3_1 := p3.cell1
    have kp3_2 := p3.cell2
    have kp4_0 := p4.cell0
    have kp4_1 := p4.cell1
    go_wp2_with fail
    rw [← hW0]
    clear hW0
    clear kp3_0 kp3_1 kp3_2 kp4_0 kp4_1
    refine (Try.refZFew h2 ((6 : Nat) : Int)).mono ?_
    rintro e Vk3 ⟨rfl, hE⟩
    rw [HG2.out]
    replace E0 := (Ext.trans E0 hE)
    replace h1 := (h1.ext hE)
    replace k1 := (k1.ext hE)
    replace h2 := (h2.ext hE)
    replace h3 := (h3.ext hE)
    replace p3 := (p3.ext hE)
    replace p4 := (p4.ext hE)
    clear hE
    have kp3_0 := p3.cell0
    have kp3_1 := p3.cell1
    have kp3_2 := p3.cell2
    have kp4_0 := p4.cell0
    have kp4_1 := p4.cell1
    go_wp2_with fail
    clear kp3_0 kp3_1 kp3_2 kp4_0 kp4_1
    refine (Try.alive05 _).mono ?_
    rintro e Vk4 ⟨rfl, hE⟩
    replace E0 := (Ext.trans E0 hE)
    replace h1 := (h1.ext hE)
    replace k1 := (k1.ext hE)
    replace h2 := (h2.ext hE)
    replace h3 := (h3.ext hE)
    replace p3 := (p3.ext hE)
    replace p4 := (p4.ext hE)
    clear hE
    have kp3_0 := p3.cell0
    have kp3_1 := p3.cell1
    have kp3_2 := p3.cell2
    have kp4_0 := p4.cell0
    have kp4_1 := p4.cell1
    go_wp2
    go_ret
    exact ⟨rfl, E0⟩
   ·have HG2 := Lib.hid hg2
    clear hg2
    have kp3_0 := p3.cell0
    have kp3_1 := p3.cell1
    have kp3_2 := p3.cell2
    have kp4_0 := p4.cell0
    have kp4_1 := p4.cell1
    go_wp2_with fail
    rw [← hW0]
    clear hW0
    clear kp3_0 kp3_1 kp3_2 kp4_0 kp4_1
    refine (Try.refZFew h2 ((6 : Nat) : Int)).mono ?_
    rintro e Vk5 ⟨rfl, hE⟩
    rw [HG2.out]
    replace E0 := (Ext.trans E0 hE)
    replace h1 := (h1.ext hE)
    replace k1 := (k1.ext hE)
    replace h2 := (h2.ext hE)
    replace h3 := (h3.ext hE)
    replace p3 := (p3.ext hE)
    replace p4 := (p4.ext hE)
    clear hE
    by_cases ht3 : 6 < n3
    ·have ht3I : (6 : Int) < (n3 : Int) := by omega
     have ht3d := decide_eq_true ht3I
     have kp3_0 := p3.cell0
     have kp3_1 := p3.cell1
     have kp3_2 := p3.cell2
     have kp4_0 := p4.cell0
     have kp4_1 := p4.cell1
     go_wp2_with fail
     clear kp3_0 kp3_1 kp3_2 kp4_0 kp4_1
     refine (Try.alive05 _).mono ?_
     rintro e Vk6 ⟨rfl, hE⟩
     replace E0 := (Ext.trans E0 hE)
     replace h1 := (h1.ext hE)
     replace k1 := (k1.ext hE)
     replace h2 := (h2.ext hE)
     replace h3 := (h3.ext hE)
     replace p3 := (p3.ext hE)
     replace p4 := (p4.ext hE)
     clear hE
     have kp3_0 := p3.cell0
     have kp3_1 := p3.cell1
     have kp3_2 := p3.cell2
     have kp4_0 := p4.cell0
     have kp4_1 := p4.cell1
     go_wp2
     go_ret
     exact ⟨rfl, E0⟩
    ·have ht3I : ¬ (6 : Int) < (n3 : Int) := by omega
     have ht3d := decide_eq_false ht3I
     cases hg4 : normB xs3
     ·have HG4 := Lib.hid hg4
      clear hg4
      have kp3_0 := p3.cell0
      have kp3_1 := p3.cell1
      have kp3_2 := p3.cell2
      have kp4_0 := p4.cell0
      have kp4_1 := p4.cell1
      go_wp2_with fail
      clear kp3_0 kp3_1 kp3_2 kp4_0 kp4_1
      refine (Try.refRight h3).mono ?_
      rintro e Vk7 ⟨rfl, rfl⟩
      rw [HG4.out]
      have kp3_0 := p3.cell0
      have kp3_1 := p3.cell1
      have kp3_2 := p3.cell2
      have kp4_0 := p4.cell0
      have kp4_1 := p4.cell1
      go_wp2_with fail
      clear kp3_0 kp3_1 kp3_2 kp4_0 kp4_1
      refine (Try.alive05 _).mono ?_
      rintro e Vk8 ⟨rfl, hE⟩
      replace E0 := (Ext.trans E0 hE)
      replace h1 := (h1.ext hE)
      replace k1 := (k1.ext hE)
      replace h2 := (h2.ext hE)
      replace h3 := (h3.ext hE)
      replace p3 := (p3.ext hE)
      replace p4 := (p4.ext hE)
      clear hE
      have kp3_0 := p3.cell0
      have kp3_1 := p3.cell1
      have kp3_2 := p3.cell2
      have kp4_0 := p4.cell0
      have kp4_1 := p4.cell1
      go_wp2
      go_ret
      exact ⟨rfl, E0⟩
     ·have HG4 := Lib.hid hg4
      clear hg4
      have kp3_0 := p3.cell0
      have kp3_1 := p3.cell1
      have kp3_2 := p3.cell2
      have kp4_0 := p4.cell0
      have kp4_1 := p4.cell1
      go_wp2_with fail
      clear kp3_0 kp3_1 kp3_2 kp4_0 kp4_1
      refine (Try.refRight h3).mono ?_
      rintro e Vk9 ⟨rfl, rfl⟩
      rw [HG4.out]
      obtain ⟨z, hx2, s2⟩ := fewZ_zw (L := 6) h2 HG2.out
      have hq := h3.nw HG4.out
      have sq : Sm 6 (ev B64 xs3) := by
       have := h3.slice
       exact Nat.lt_of_lt_of_le (ev_lt h3.lim) (Nat.pow_le_pow_right B64_pos (by omega))
      clear h2 HG2 HG4
      obtain ⟨Q, hQ⟩ : ∃ Q, ev B64 xs3 = Q := ⟨_, rfl⟩
      rw [hQ] at hq sq
      clear hQ
      obtain ⟨RB, hRB⟩ : ∃ RB, rightR b1 xs1 ys1 = RB := ⟨_, rfl⟩
      have HRB := Lib.hid hRB
      clear hRB
      have hn1 : n1 ≤ 6 := by omega
      have hm1 : m1 ≤ 6 := by omega
      have SQ := Lib.hid sq
      clear sq ht3 ht3I ht3d ht0 ht0I ht0d ht1 ht1I ht1d
      clear h3
      by_cases hQ0 : Q = 0
      ·subst hQ0
       have kp3_0 := p3.cell0
       have kp3_1 := p3.cell1
       have kp3_2 := p3.cell2
       have kp4_0 := p4.cell0
       have kp4_1 := p4.cell1
       go_upto_region 3 with (fail)
       clear kp3_0 kp3_1 kp3_2 kp4_0 kp4_1
       have ltp3 := p3.lt
       have ltp4 := p4.lt
       have szw1 := Ext.size E0
       refine region_go [.one fun v _ => v = .agg #[.bool b2, .slice a2 n2 c2],
         .one fun v _ => v = .slice a3 n3 c3,
         .one fun v _ => v = .tuple #[.agg #[.bool false, .slice none 0 0, .slice none 0 0], .int .i64 4],
         .one fun v _ => v = .tuple #[.agg #[.bool false, .slice none 0 0, .slice none 0 0], .int .i64 4],
         .one fun v _ => v = .agg #[.bool false, .slice none 0 0, .slice none 0 0],
         .one fun v _ => v = .int .i64 4,
         .one fun v W => ∃ g, v = .pointer (some ⟨g, 0, none⟩) ∧ Vk5.heap.size ≤ g ∧ Form W g 27 3,
         .two 6 (fun p _ W => New3 Vk5.heap.size 27 (.bool false) (.slice none 0 0) (.slice none 0 0) p W),
         .one fun v _ => v = .int .i64 4]
        (fun W => Ext w W ∧ Nt W (.slice a1 n1 c1) xs1 ∧ Nt W (.slice d1 m1 o1) ys1 ∧ Bx3 W w.heap.size 27 (.bool b1) (.slice a1 n1 c1) (.slice d1 m1 o1) ∧ Bx2 W (w.heap.size + 1) 25 (.bool b2) (.slice a2 n2 c2) ∧ Zw W (.agg #[.bool b2, .slice a2 n2 c2]) z ∧ Nw W (.slice a3 n3 c3) 0 ∧ Vk5.heap.size ≤ W.heap.size) ⟨Good.is _, Good.is _, Good.is _, Good.is _, Good.is _, Good.is _, Good.box _ _ _, cert_new3, Good.is _, trivial⟩
        (fun W W1 hS hE => ⟨(Ext.trans hS.1 hE), (hS.2.1.ext hE), (hS.2.2.1.ext hE), (hS.2.2.2.1.ext hE), (hS.2.2.2.2.1.ext hE), (hS.2.2.2.2.2.1.ext hE), (hS.2.2.2.2.2.2.1.ext hE), (Nat.le_trans hS.2.2.2.2.2.2.2 (Ext.size hE))⟩) ⟨E0, h1, k1, p3, p4, hx2, hq, Nat.le_refl _⟩ (by kernel_rfl) (by kernel_rfl) (by kernel_rfl) (by kernel_rfl) (A := ?A1) ?hA1 ?howe1 ?hfin1
       case hA1 =>
        intro vs
        simp only [putAll, Act.put, List.setIfInBounds_toArray, List.set_cons_zero, List.set_cons_succ, Nat.zero_add, Nat.reduceAdd]
        exact rfl
       case howe1 =>
        clear E0 h1 k1 p3 p4 hx2 hq
        intro hf
        refine ⟨owesE 0 [] hf rfl (by kernel_rfl) ?_, owesE 1 [] hf rfl (by kernel_rfl) ?_, owesE 2 [0, 1] hf rfl (by kernel_rfl) ?_, owesE 3 [2] hf rfl (by kernel_rfl) ?_, owesE 4 [3] hf rfl (by kernel_rfl) ?_, owesE 5 [3] hf rfl (by kernel_rfl) ?_, owesE 6 [] hf rfl (by kernel_rfl) ?_, owesW 7 [6, 4] hf rfl (by kernel_rfl) (by kernel_rfl) ?_, owesE 8 [5] hf rfl (by kernel_rfl) ?_, trivial⟩
        all_goals intro vs W hS hp hx KO hKO
        all_goals simp only [Act.put, List.setIfInBounds_toArray, List.set_cons_zero, List.set_cons_succ] at hKO
        ·have fc0 := hS.2.2.2.2.1.cell0
         have fc1 := hS.2.2.2.2.1.cell1
         go_simp
         exact hKO _ W (Ext.refl W) rfl
        ·go_simp
         exact hKO _ W (Ext.refl W) rfl
        ·have e0 := isOf hp.1
         have e1 := isOf hp.2.1
         simp only [e0, e1] at hKO
         go_simp
         refine (Try.ratMake0 (hS.2.2.2.2.2.1) (hS.2.2.2.2.2.2.1)).mono ?_
         rintro e W1 ⟨rfl, hE⟩
         exact hKO _ W1 hE rfl
        ·have e2 := isOf hp.1
         simp only [e2] at hKO
         go_simp
         exact hKO _ W (Ext.refl W) rfl
        ·have e3 := isOf hp.1
         simp only [e3] at hKO
         go_simp
         exact hKO _ W (Ext.refl W) rfl
        ·have e3 := isOf hp.1
         simp only [e3] at hKO
         go_simp
         exact hKO _ W (Ext.refl W) rfl
        ·have hn := Bx3.new W 27 (.bool false) (.slice none 0 0) (.slice none 0 0)
         have hE := Ext.alloc1 W (.cells #[.bool false, .slice none 0 0, .slice none 0 0] 27)
         have hsz := hS.2.2.2.2.2.2.2
         go_simp
         exact hKO _ _ hE ⟨_, rfl, hsz, hn.form⟩
        ·have q6 := hp.1
         have e4 := isOf hp.2.1
         simp only [e4] at hKO
         obtain ⟨g, ev, hg, hf⟩ := q6
         replace ev : vs 6 = _ := ev
         obtain ⟨x0, y0, z0, hx, hno⟩ := hf.bx3
         have r0 := hx.froz0
         have t0 := hx.cell0
         have r1 := hx.froz1
         have t1 := hx.cell1
         have r2 := hx.froz2
         have t2 := hx.cell2
         have hw := Wr.set3 hx hno false none 0 0 none 0 0
         have hq := hx.set (.bool false) (.slice none 0 0) (.slice none 0 0)
         simp only [ev] at hKO
         go_simp
         exact hKO _ _ hw ⟨(Ext.wr hS.1 hw (by omega)), (hS.2.1.wr hw), (hS.2.2.1.wr hw), (hS.2.2.2.1.wr hw (by omega)), (hS.2.2.2.2.1.wr hw (by omega)), (hS.2.2.2.2.2.1.wr hw), (hS.2.2.2.2.2.2.1.wr hw), (Nat.le_trans hS.2.2.2.2.2.2.2 hw.apart.size)⟩ ⟨g, ev, hg, hq⟩
        ·have e5 := isOf hp.1
         simp only [e5] at hKO
         go_simp
         exact hKO _ W (Ext.refl W) rfl
       intro vs W1 hS hp
       clear szw1 E0 h1 k1 p3 p4 hx2 hq
       obtain ⟨E0, h1, k1, p3, p4, hx2, hq, sz1⟩ := hS
       obtain ⟨h1_0, h1_1, h1_2, h1_3, h1_4, h1_5, h1_6, h1_7, h1_8, -⟩ := hp
       obtain ⟨g1_7, ev1_7, hg1_7, p1_7⟩ := h1_7
       replace ev1_7 : vs 6 = _ := ev1_7
       replace h1_0 : vs 0 = .agg #[.bool b2, .slice a2 n2 c2] := h1_0
       replace h1_1 : vs 1 = .slice a3 n3 c3 := h1_1
       replace h1_2 : vs 2 = .tuple #[.agg #[.bool false, .slice none 0 0, .slice none 0 0], .int .i64 4] := h1_2
       replace h1_3 : vs 3 = .tuple #[.agg #[.bool false, .slice none 0 0, .slice none 0 0], .int .i64 4] := h1_3
       replace h1_4 : vs 4 = .agg #[.bool false, .slice none 0 0, .slice none 0 0] := h1_4
       replace h1_5 : vs 5 = .int .i64 4 := h1_5
       replace h1_8 : vs 8 = .int .i64 4 := h1_8
       simp only [ev1_7, h1_0, h1_1, h1_2, h1_3, h1_4, h1_5, h1_8]
       clear ev1_7 h1_0 h1_1 h1_2 h1_3 h1_4 h1_5 h1_8 h1_6
       have kp3_0 := p3.cell0
       have kp3_1 := p3.cell1
       have kp3_2 := p3.cell2
       have kp4_0 := p4.cell0
       have kp4_1 := p4.cell1
       have kp1_7_0 := p1_7.cell0
       have kp1_7_1 := p1_7.cell1
       have kp1_7_2 := p1_7.cell2
       go_upto_region 4 with (fail)
       clear kp3_0 kp3_1 kp3_2 kp4_0 kp4_1 kp1_7_0 kp1_7_1 kp1_7_2
       have ltp1_7 := p1_7.lt
       have szw2 := Ext.size E0
       refine region_go [.one fun v _ => v = .agg #[.bool b2, .slice a2 n2 c2],
         .one fun v _ => v = .slice a3 n3 c3,
         .one fun v _ => v = .tuple #[.agg #[.bool false, .slice none 0 0, .slice none 0 0], .int .i64 4],
         .one fun v _ => v = .tuple #[.agg #[.bool false, .slice none 0 0, .slice none 0 0], .int .i64 4],
         .one fun v _ => v = .agg #[.bool false, .slice none 0 0, .slice none 0 0],
         .one fun v _ => v = .int .i64 4,
         .one fun v W => ∃ g, v = .pointer (some ⟨g, 0, none⟩) ∧ W1.heap.size ≤ g ∧ Form W g 27 3,
         .two 6 (fun p _ W => New3 W1.heap.size 27 (.bool false) (.slice none 0 0) (.slice none 0 0) p W),
         .one fun v _ => v = .int .i64 4]
        (fun W => Ext w W ∧ Nt W (.slice a1 n1 c1) xs1 ∧ Nt W (.slice d1 m1 o1) ys1 ∧ Bx3 W w.heap.size 27 (.bool b1) (.slice a1 n1 c1) (.slice d1 m1 o1) ∧ Bx2 W (w.heap.size + 1) 25 (.bool b2) (.slice a2 n2 c2) ∧ Zw W (.agg #[.bool b2, .slice a2 n2 c2]) z ∧ Nw W (.slice a3 n3 c3) 0 ∧ Bx3 W g1_7 27 (.bool false) (.slice none 0 0) (.slice none 0 0) ∧ W1.heap.size ≤ W.heap.size) ⟨Good.is _, Good.is _, Good.is _, Good.is _, Good.is _, Good.is _, Good.box _ _ _, cert_new3, Good.is _, trivial⟩
        (fun W W1 hS hE => ⟨(Ext.trans hS.1 hE), (hS.2.1.ext hE), (hS.2.2.1.ext hE), (hS.2.2.2.1.ext hE), (hS.2.2.2.2.1.ext hE), (hS.2.2.2.2.2.1.ext hE), (hS.2.2.2.2.2.2.1.ext hE), (hS.2.2.2.2.2.2.2.1.ext hE), (Nat.le_trans hS.2.2.2.2.2.2.2.2 (Ext.size hE))⟩) ⟨E0, h1, k1, p3, p4, hx2, hq, p1_7, Nat.le_refl _⟩ (by kernel_rfl) (by kernel_rfl) (by kernel_rfl) (by kernel_rfl) (A := ?A2) ?hA2 ?howe2 ?hfin2
       case hA2 =>
        intro vs
        simp only [putAll, Act.put, List.setIfInBounds_toArray, List.set_cons_zero, List.set_cons_succ, Nat.zero_add, Nat.reduceAdd]
        exact rfl
       case howe2 =>
        clear E0 h1 k1 p3 p4 hx2 hq p1_7
        intro hf
        refine ⟨owesE 0 [] hf rfl (by kernel_rfl) ?_, owesE 1 [] hf rfl (by kernel_rfl) ?_, owesE 2 [0, 1] hf rfl (by kernel_rfl) ?_, owesE 3 [2] hf rfl (by kernel_rfl) ?_, owesE 4 [3] hf rfl (by kernel_rfl) ?_, owesE 5 [3] hf rfl (by kernel_rfl) ?_, owesE 6 [] hf rfl (by kernel_rfl) ?_, owesW 7 [6, 4] hf rfl (by kernel_rfl) (by kernel_rfl) ?_, owesE 8 [5] hf rfl (by kernel_rfl) ?_, trivial⟩
        all_goals intro vs W hS hp hx KO hKO
        all_goals simp only [Act.put, List.setIfInBounds_toArray, List.set_cons_zero, List.set_cons_succ] at hKO
        ·have fc0 := hS.2.2.2.2.1.cell0
         have fc1 := hS.2.2.2.2.1.cell1
         go_simp
         exact hKO _ W (Ext.refl W) rfl
        ·go_simp
         exact hKO _ W (Ext.refl W) rfl
        ·have e0 := isOf hp.1
         have e1 := isOf hp.2.1
         simp only [e0, e1] at hKO
         go_simp
         refine (Try.refRMake0 (hS.2.2.2.2.2.1) (hS.2.2.2.2.2.2.1)).mono ?_
         rintro e W1 ⟨rfl, hE⟩
         exact hKO _ W1 hE rfl
        ·have e2 := isOf hp.1
         simp only [e2] at hKO
         go_simp
         exact hKO _ W (Ext.refl W) rfl
        ·have e3 := isOf hp.1
         simp only [e3] at hKO
         go_simp
         exact hKO _ W (Ext.refl W) rfl
        ·have e3 := isOf hp.1
         simp only [e3] at hKO
         go_simp
         exact hKO _ W (Ext.refl W) rfl
        ·have hn := Bx3.new W 27 (.bool false) (.slice none 0 0) (.slice none 0 0)
         have hE := Ext.alloc1 W (.cells #[.bool false, .slice none 0 0, .slice none 0 0] 27)
         have hsz := hS.2.2.2.2.2.2.2.2
         go_simp
         exact hKO _ _ hE ⟨_, rfl, hsz, hn.form⟩
        ·have q6 := hp.1
         have e4 := isOf hp.2.1
         simp only [e4] at hKO
         obtain ⟨g, ev, hg, hf⟩ := q6
         replace ev : vs 6 = _ := ev
         obtain ⟨x0, y0, z0, hx, hno⟩ := hf.bx3
         have r0 := hx.froz0
         have t0 := hx.cell0
         have r1 := hx.froz1
         have t1 := hx.cell1
         have r2 := hx.froz2
         have t2 := hx.cell2
         have hw := Wr.set3 hx hno false none 0 0 none 0 0
         have hq := hx.set (.bool false) (.slice none 0 0) (.slice none 0 0)
         simp only [ev] at hKO
         go_simp
         exact hKO _ _ hw ⟨(Ext.wr hS.1 hw (by omega)), (hS.2.1.wr hw), (hS.2.2.1.wr hw), (hS.2.2.2.1.wr hw (by omega)), (hS.2.2.2.2.1.wr hw (by omega)), (hS.2.2.2.2.2.1.wr hw), (hS.2.2.2.2.2.2.1.wr hw), (hS.2.2.2.2.2.2.2.1.wr hw (by omega)), (Nat.le_trans hS.2.2.2.2.2.2.2.2 hw.apart.size)⟩ ⟨g, ev, hg, hq⟩
        ·have e5 := isOf hp.1
         simp only [e5] at hKO
         go_simp
         exact hKO _ W (Ext.refl W) rfl
       intro vs W2 hS hp
       clear szw2 E0 h1 k1 p3 p4 hx2 hq p1_7
       obtain ⟨E0, h1, k1, p3, p4, hx2, hq, p1_7, sz2⟩ := hS
       obtain ⟨h2_0, h2_1, h2_2, h2_3, h2_4, h2_5, h2_6, h2_7, h2_8, -⟩ := hp
       obtain ⟨g2_7, ev2_7, hg2_7, p2_7⟩ := h2_7
       replace ev2_7 : vs 6 = _ := ev2_7
       replace h2_0 : vs 0 = .agg #[.bool b2, .slice a2 n2 c2] := h2_0
       replace h2_1 : vs 1 = .slice a3 n3 c3 := h2_1
       replace h2_2 : vs 2 = .tuple #[.agg #[.bool false, .slice none 0 0, .slice none 0 0], .int .i64 4] := h2_2
       replace h2_3 : vs 3 = .tuple #[.agg #[.bool false, .slice none 0 0, .slice none 0 0], .int .i64 4] := h2_3
       replace h2_4 : vs 4 = .agg #[.bool false, .slice none 0 0, .slice none 0 0] := h2_4
       replace h2_5 : vs 5 = .int .i64 4 := h2_5
       replace h2_8 : vs 8 = .int .i64 4 := h2_8
       simp only [ev2_7, h2_0, h2_1, h2_2, h2_3, h2_4, h2_5, h2_8]
       clear ev2_7 h2_0 h2_1 h2_2 h2_3 h2_4 h2_5 h2_8 h2_6
       have kp3_0 := p3.cell0
       have kp3_1 := p3.cell1
       have kp3_2 := p3.cell2
       have kp4_0 := p4.cell0
       have kp4_1 := p4.cell1
       have kp1_7_0 := p1_7.cell0
       have kp1_7_1 := p1_7.cell1
       have kp1_7_2 := p1_7.cell2
       have kp2_7_0 := p2_7.cell0
       have kp2_7_1 := p2_7.cell1
       have kp2_7_2 := p2_7.cell2
       go_upto_region 5 with (fail)
       clear kp3_0 kp3_1 kp3_2 kp4_0 kp4_1 kp1_7_0 kp1_7_1 kp1_7_2 kp2_7_0 kp2_7_1 kp2_7_2
       cases hf : fits z
       ·have HV : Hid (fitV z = 0) := Lib.hid (fitV_out hf)
        have HF := Lib.hid hf
        clear hf
        have ltp2_7 := p2_7.lt
        have szw3 := Ext.size E0
        refine region_go [.one fun v _ => v = .agg #[.bool b2, .slice a2 n2 c2],
          .one fun v _ => v = .tuple #[.int .i64 0, .bool false],
          .one fun v _ => v = .tuple #[.int .i64 0, .bool false],
          .one fun v _ => v = .int .i64 0,
          .one fun v _ => v = .bool false,
          .one fun v _ => v = .int .i64 0,
          .one fun v _ => v = .bool false]
         (fun W => Ext w W ∧ Nt W (.slice a1 n1 c1) xs1 ∧ Nt W (.slice d1 m1 o1) ys1 ∧ Bx3 W w.heap.size 27 (.bool b1) (.slice a1 n1 c1) (.slice d1 m1 o1) ∧ Bx2 W (w.heap.size + 1) 25 (.bool b2) (.slice a2 n2 c2) ∧ Zw W (.agg #[.bool b2, .slice a2 n2 c2]) z ∧ Nw W (.slice a3 n3 c3) 0 ∧ Bx3 W g1_7 27 (.bool false) (.slice none 0 0) (.slice none 0 0) ∧ Bx3 W g2_7 27 (.bool false) (.slice none 0 0) (.slice none 0 0) ∧ W2.heap.size ≤ W.heap.size) ⟨Good.is _, Good.is _, Good.is _, Good.is _, Good.is _, Good.is _, Good.is _, trivial⟩
         (fun W W1 hS hE => ⟨(Ext.trans hS.1 hE), (hS.2.1.ext hE), (hS.2.2.1.ext hE), (hS.2.2.2.1.ext hE), (hS.2.2.2.2.1.ext hE), (hS.2.2.2.2.2.1.ext hE), (hS.2.2.2.2.2.2.1.ext hE), (hS.2.2.2.2.2.2.2.1.ext hE), (hS.2.2.2.2.2.2.2.2.1.ext hE), (Nat.le_trans hS.2.2.2.2.2.2.2.2.2 (Ext.size hE))⟩) ⟨E0, h1, k1, p3, p4, hx2, hq, p1_7, p2_7, Nat.le_refl _⟩ (by kernel_rfl) (by kernel_rfl) (by kernel_rfl) (by kernel_rfl) (A := ?A3) ?hA3 ?howe3 ?hfin3
        case hA3 =>
         intro vs
         simp only [putAll, Act.put, List.setIfInBounds_toArray, List.set_cons_zero, List.set_cons_succ, Nat.zero_add, Nat.reduceAdd]
         exact rfl
        case howe3 =>
         clear E0 h1 k1 p3 p4 hx2 hq p1_7 p2_7
         intro hf
         refine ⟨owesE 0 [] hf rfl (by kernel_rfl) ?_, owesE 1 [0] hf rfl (by kernel_rfl) ?_, owesE 2 [1] hf rfl (by kernel_rfl) ?_, owesE 3 [2] hf rfl (by kernel_rfl) ?_, owesE 4 [2] hf rfl (by kernel_rfl) ?_, owesE 5 [3] hf rfl (by kernel_rfl) ?_, owesE 6 [4] hf rfl (by kernel_rfl) ?_, trivial⟩
         all_goals intro vs W hS hp hx KO hKO
         all_goals simp only [Act.put, List.setIfInBounds_toArray, List.set_cons_zero, List.set_cons_succ] at hKO
         ·have fc0 := hS.2.2.2.2.1.cell0
          have fc1 := hS.2.2.2.2.1.cell1
          go_simp
          exact hKO _ W (Ext.refl W) rfl
         ·have e0 := isOf hp.1
          simp only [e0] at hKO
          go_simp
          refine (Try.refZInt (hS.2.2.2.2.2.1)).mono ?_
          rintro e W1 ⟨rfl, hE⟩
          rw [HV.out, HF.out]
          exact hKO _ W1 hE rfl
         ·have e1 := isOf hp.1
          simp only [e1] at hKO
          go_simp
          exact hKO _ W (Ext.refl W) rfl
         ·have e2 := isOf hp.1
          simp only [e2] at hKO
          go_simp
          exact hKO _ W (Ext.refl W) rfl
         ·have e2 := isOf hp.1
          simp only [e2] at hKO
          go_simp
          exact hKO _ W (Ext.refl W) rfl
         ·have e3 := isOf hp.1
          simp only [e3] at hKO
          go_simp
          exact hKO _ W (Ext.refl W) rfl
         ·have e4 := isOf hp.1
          simp only [e4] at hKO
          go_simp
          exact hKO _ W (Ext.refl W) rfl
        intro vs W3 hS hp
        clear szw3 E0 h1 k1 p3 p4 hx2 hq p1_7 p2_7
        obtain ⟨E0, h1, k1, p3, p4, hx2, hq, p1_7, p2_7, sz3⟩ := hS
        obtain ⟨h3_0, h3_1, h3_2, h3_3, h3_4, h3_5, h3_6, -⟩ := hp
        replace h3_0 : vs 0 = .agg #[.bool b2, .slice a2 n2 c2] := h3_0
        replace h3_1 : vs 1 = .tuple #[.int .i64 0, .bool false] := h3_1
        replace h3_2 : vs 2 = .tuple #[.int .i64 0, .bool false] := h3_2
        replace h3_3 : vs 3 = .int .i64 0 := h3_3
        replace h3_4 : vs 4 = .bool false := h3_4
        replace h3_5 : vs 5 = .int .i64 0 := h3_5
        replace h3_6 : vs 6 = .bool false := h3_6
        simp only [h3_0, h3_1, h3_2, h3_3, h3_4, h3_5, h3_6]
        clear h3_0 h3_1 h3_2 h3_3 h3_4 h3_5 h3_6
        have kp3_0 := p3.cell0
        have kp3_1 := p3.cell1
        have kp3_2 := p3.cell2
        have kp4_0 := p4.cell0
        have kp4_1 := p4.cell1
        have kp1_7_0 := p1_7.cell0
        have kp1_7_1 := p1_7.cell1
        have kp1_7_2 := p1_7.cell2
        have kp2_7_0 := p2_7.cell0
        have kp2_7_1 := p2_7.cell1
        have kp2_7_2 := p2_7.cell2
        go_upto_region 6 with (fail)
        clear kp3_0 kp3_1 kp3_2 kp4_0 kp4_1 kp1_7_0 kp1_7_1 kp1_7_2 kp2_7_0 kp2_7_1 kp2_7_2
        have szw4 := Ext.size E0
        refine region_go [.one fun v _ => v = .bool true,
          .one fun v _ => v = .bool true,
          .one fun v _ => v = .agg #[.bool b1, .slice a1 n1 c1, .slice d1 m1 o1],
          .one fun v _ => v = .bool RB,
          .one fun v _ => v = .agg #[.bool b1, .slice a1 n1 c1, .slice d1 m1 o1],
          .one fun v _ => v = .bool RB,
          .one fun v _ => v = .bool true,
          .one fun v _ => v = .bool true,
          .one fun v _ => v = .bool true,
          .one fun v _ => v = .agg #[.bool false, .slice none 0 0, .slice none 0 0],
          .one fun v _ => v = .agg #[.bool false, .slice none 0 0, .slice none 0 0],
          .one fun v _ => v = .bool true,
          .one fun v _ => v = .bool true,
          .one fun v _ => v = .bool true,
          .one fun v _ => v = .int .i64 4,
          .one fun v _ => v = .int .i64 4,
          .one fun v _ => v = .bool true,
          .one fun v _ => v = .bool true,
          .one fun v _ => v = .bool true,
          .one fun v _ => v = .bool false,
          .one fun v _ => v = .bool true,
          .one fun v _ => v = .bool true,
          .one fun v _ => v = undef,
          .one fun v _ => v = undef,
          .one fun v _ => v = undef,
          .one fun v _ => v = undef,
          .one fun v _ => v = undef,
          .one fun v _ => v = .bool true,
          .one fun v _ => v = .bool true,
          .one fun v _ => v = .bool true]
         (fun W => Ext w W ∧ Nt W (.slice a1 n1 c1) xs1 ∧ Nt W (.slice d1 m1 o1) ys1 ∧ Bx3 W w.heap.size 27 (.bool b1) (.slice a1 n1 c1) (.slice d1 m1 o1) ∧ Bx2 W (w.heap.size + 1) 25 (.bool b2) (.slice a2 n2 c2) ∧ Zw W (.agg #[.bool b2, .slice a2 n2 c2]) z ∧ Nw W (.slice a3 n3 c3) 0 ∧ Bx3 W g1_7 27 (.bool false) (.slice none 0 0) (.slice none 0 0) ∧ Bx3 W g2_7 27 (.bool false) (.slice none 0 0) (.slice none 0 0) ∧ W3.heap.size ≤ W.heap.size) ⟨Good.is _, Good.is _, Good.is _, Good.is _, Good.is _, Good.is _, Good.is _, Good.is _, Good.is _, Good.is _, Good.is _, Good.is _, Good.is _, Good.is _, Good.is _, Good.is _, Good.is _, Good.is _, Good.is _, Good.is _, Good.is _, Good.is _, Good.is _, Good.is _, Good.is _, Good.is _, Good.is _, Good.is _, Good.is _, Good.is _, trivial⟩
         (fun W W1 hS hE => ⟨(Ext.trans hS.1 hE), (hS.2.1.ext hE), (hS.2.2.1.ext hE), (hS.2.2.2.1.ext hE), (hS.2.2.2.2.1.ext hE), (hS.2.2.2.2.2.1.ext hE), (hS.2.2.2.2.2.2.1.ext hE), (hS.2.2.2.2.2.2.2.1.ext hE), (hS.2.2.2.2.2.2.2.2.1.ext hE), (Nat.le_trans hS.2.2.2.2.2.2.2.2.2 (Ext.size hE))⟩) ⟨E0, h1, k1, p3, p4, hx2, hq, p1_7, p2_7, Nat.le_refl _⟩ (by kernel_rfl) (by kernel_rfl) (by kernel_rfl) (by kernel_rfl) (A := ?A4) ?hA4 ?howe4 ?hfin4
        case hA4 =>
         intro vs
         simp only [putAll, Act.put, List.setIfInBounds_toArray, List.set_cons_zero, List.set_cons_succ, Nat.zero_add, Nat.reduceAdd]
         exact rfl
        case howe4 =>
         clear E0 h1 k1 p3 p4 hx2 hq p1_7 p2_7
         intro hf
         refine ⟨owesE 0 [] hf rfl (by kernel_rfl) ?_, owesE 1 [0] hf rfl (by kernel_rfl) ?_, owesE 2 [1] hf rfl (by kernel_rfl) ?_, owesE 3 [1, 2] hf rfl (by kernel_rfl) ?_, owesE 4 [1] hf rfl (by kernel_rfl) ?_, owesE 5 [1, 4] hf rfl (by kernel_rfl) ?_, owesE 6 [1, 3, 5] hf rfl (by kernel_rfl) ?_, owesE 7 [1, 6] hf rfl (by kernel_rfl) ?_, owesE 8 [7] hf rfl (by kernel_rfl) ?_, owesE 9 [8] hf rfl (by kernel_rfl) ?_, owesE 10 [8] hf rfl (by kernel_rfl) ?_, owesE 11 [8, 9, 10] hf rfl (by kernel_rfl) ?_, owesE 12 [8, 11] hf rfl (by kernel_rfl) ?_, owesE 13 [12] hf rfl (by kernel_rfl) ?_, owesE 14 [13] hf rfl (by kernel_rfl) ?_, owesE 15 [13] hf rfl (by kernel_rfl) ?_, owesE 16 [13, 14, 15] hf rfl (by kernel_rfl) ?_, owesE 17 [13, 16] hf rfl (by kernel_rfl) ?_, owesE 18 [17] hf rfl (by kernel_rfl) ?_, owesE 19 [18] hf rfl (by kernel_rfl) ?_, owesE 20 [18, 19] hf rfl (by kernel_rfl) ?_, owesE 21 [18, 20] hf rfl (by kernel_rfl) ?_, owesE 22 [21] hf rfl (by kernel_rfl) ?_, owesE 23 [21] hf rfl (by kernel_rfl) ?_, owesE 24 [21] hf rfl (by kernel_rfl) ?_, owesE 25 [21] hf rfl (by kernel_rfl) ?_, owesE 26 [21] hf rfl (by kernel_rfl) ?_, owesE 27 [18, 21, 26] hf rfl (by kernel_rfl) ?_, owesE 28 [18, 27] hf rfl (by kernel_rfl) ?_, owesE 29 [28] hf rfl (by kernel_rfl) ?_, trivial⟩
         all_goals intro vs W hS hp hx KO hKO
         all_goals simp only [Act.put, List.setIfInBounds_toArray, List.set_cons_zero, List.set_cons_succ] at hKO
         ·go_simp
          refine (Try.alive05 _).mono ?_
          rintro e W1 ⟨rfl, hE⟩
          exact hKO _ W1 hE rfl
         ·have e0 := isOf hp.1
          simp only [e0] at hKO
          go_simp
          exact hKO _ W (Ext.refl W) rfl
         ·have e1 := isOf hp.1
          simp only [e1] at hKO
          have fc0 := hS.2.2.2.1.cell0
          have fc1 := hS.2.2.2.1.cell1
          have fc2 := hS.2.2.2.1.cell2
          go_simp
          exact hKO _ W (Ext.refl W) rfl
         ·have e1 := isOf hp.1
          have e2 := isOf hp.2.1
          simp only [e1, e2] at hKO
          go_simp
          refine (Try.ratRight hS.2.1 hS.2.2.1 (L := 6) hn1 hm1 (by omega)).mono ?_
          rintro e W1 ⟨rfl, hE⟩
          rw [HRB.out]
          exact hKO _ W1 hE rfl
         ·have e1 := isOf hp.1
          simp only [e1] at hKO
          have fc0 := hS.2.2.2.1.cell0
          have fc1 := hS.2.2.2.1.cell1
          have fc2 := hS.2.2.2.1.cell2
          go_simp
          exact hKO _ W (Ext.refl W) rfl
         ·have e1 := isOf hp.1
          have e4 := isOf hp.2.1
          simp only [e1, e4] at hKO
          go_simp
          refine (Try.refRRight hS.2.1 hS.2.2.1 (L := 6) hn1 hm1 (by omega)).mono ?_
          rintro e W1 ⟨rfl, hE⟩
          rw [HRB.out]
          exact hKO _ W1 hE rfl
         ·have e1 := isOf hp.1
          have e3 := isOf hp.2.1
          have e5 := isOf hp.2.2.1
          simp only [e1, e3, e5] at hKO
          go_simp
          exact hKO _ W (Ext.refl W) rfl
         ·have e1 := isOf hp.1
          have e6 := isOf hp.2.1
          simp only [e1, e6] at hKO
          go_simp
          exact hKO _ W (Ext.refl W) rfl
         ·have e7 := isOf hp.1
          simp only [e7] at hKO
          go_simp
          exact hKO _ W (Ext.refl W) rfl
         ·have e8 := isOf hp.1
          simp only [e8] at hKO
          have fc0 := hS.2.2.2.2.2.2.2.1.cell0
          have fc1 := hS.2.2.2.2.2.2.2.1.cell1
          have fc2 := hS.2.2.2.2.2.2.2.1.cell2
          go_simp
          exact hKO _ W (Ext.refl W) rfl
         ·have e8 := isOf hp.1
          simp only [e8] at hKO
          have fc0 := hS.2.2.2.2.2.2.2.2.1.cell0
          have fc1 := hS.2.2.2.2.2.2.2.2.1.cell1
          have fc2 := hS.2.2.2.2.2.2.2.2.1.cell2
          go_simp
          exact hKO _ W (Ext.refl W) rfl
         ·have e8 := isOf hp.1
          have e9 := isOf hp.2.1
          have e10 := isOf hp.2.2.1
          simp only [e8, e9, e10] at hKO
          go_simp
          refine (Try.refRSame0 _).mono ?_
          rintro e W1 ⟨rfl, hE⟩
          exact hKO _ W1 hE rfl
         ·have e8 := isOf hp.1
          have e11 := isOf hp.2.1
          simp only [e8, e11] at hKO
          go_simp
          exact hKO _ W (Ext.refl W) rfl
         ·have e12 := isOf hp.1
          simp only [e12] at hKO
          go_simp
          exact hKO _ W (Ext.refl W) rfl
         ·have e13 := isOf hp.1
          simp only [e13] at hKO
          go_simp
          exact hKO _ W (Ext.refl W) rfl
         ·have e13 := isOf hp.1
          simp only [e13] at hKO
          go_simp
          exact hKO _ W (Ext.refl W) rfl
         ·have e13 := isOf hp.1
          have e14 := isOf hp.2.1
          have e15 := isOf hp.2.2.1
          simp only [e13, e14, e15] at hKO
          go_simp
          exact hKO _ W (Ext.refl W) rfl
         ·have e13 := isOf hp.1
          have e16 := isOf hp.2.1
          simp only [e13, e16] at hKO
          go_simp
          exact hKO _ W (Ext.refl W) rfl
         ·have e17 := isOf hp.1
          simp only [e17] at hKO
          go_simp
          exact hKO _ W (Ext.refl W) rfl
         ·have e18 := isOf hp.1
          simp only [e18] at hKO
          go_simp
          exact hKO _ W (Ext.refl W) rfl
         ·have e18 := isOf hp.1
          have e19 := isOf hp.2.1
          simp only [e18, e19] at hKO
          go_simp
          exact hKO _ W (Ext.refl W) rfl
         ·have e18 := isOf hp.1
          have e20 := isOf hp.2.1
          simp only [e18, e20] at hKO
          go_simp
          exact hKO _ W (Ext.refl W) rfl
         ·have e21 := isOf hp.1
          simp only [e21] at hKO
          go_simp
          exact hKO _ W (Ext.refl W) rfl
         ·have e21 := isOf hp.1
          simp only [e21] at hKO
          go_simp
          exact hKO _ W (Ext.refl W) rfl
         ·have e21 := isOf hp.1
          simp only [e21] at hKO
          go_simp
          exact hKO _ W (Ext.refl W) rfl
         ·have e21 := isOf hp.1
          simp only [e21] at hKO
          go_simp
          exact hKO _ W (Ext.refl W) rfl
         ·have e21 := isOf hp.1
          simp only [e21] at hKO
          go_simp
          exact hKO _ W (Ext.refl W) rfl
         ·have e18 := isOf hp.1
          have e21 := isOf hp.2.1
          have e26 := isOf hp.2.2.1
          simp only [e18, e21, e26] at hKO
          go_simp
          exact hKO _ W (Ext.refl W) rfl
         ·have e18 := isOf hp.1
          have e27 := isOf hp.2.1
          simp only [e18, e27] at hKO
          go_simp
          exact hKO _ W (Ext.refl W) rfl
         ·have e28 := isOf hp.1
          simp only [e28] at hKO
          go_simp
          exact hKO _ W (Ext.refl W) rfl
        intro vs W4 hS hp
        clear szw4 E0 h1 k1 p3 p4 hx2 hq p1_7 p2_7
        obtain ⟨E0, h1, k1, p3, p4, hx2, hq, p1_7, p2_7, sz4⟩ := hS
        obtain ⟨h4_0, h4_1, h4_2, h4_3, h4_4, h4_5, h4_6, h4_7, h4_8, h4_9, h4_10, h4_11, h4_12, h4_13, h4_14, h4_15, h4_16, h4_17, h4_18, h4_19, h4_20, h4_21, h4_22, h4_23, h4_24, h4_25, h4_26, h4_27, h4_28, h4_29, -⟩ := hp
        replace h4_0 : vs 0 = .bool true := h4_0
        replace h4_1 : vs 1 = .bool true := h4_1
        replace h4_2 : vs 2 = .agg #[.bool b1, .slice a1 n1 c1, .slice d1 m1 o1] := h4_2
        replace h4_3 : vs 3 = .bool RB := h4_3
        replace h4_4 : vs 4 = .agg #[.bool b1, .slice a1 n1 c1, .slice d1 m1 o1] := h4_4
        replace h4_5 : vs 5 = .bool RB := h4_5
        replace h4_6 : vs 6 = .bool true := h4_6
        replace h4_7 : vs 7 = .bool true := h4_7
        replace h4_8 : vs 8 = .bool true := h4_8
        replace h4_9 : vs 9 = .agg #[.bool false, .slice none 0 0, .slice none 0 0] := h4_9
        replace h4_10 : vs 10 = .agg #[.bool false, .slice none 0 0, .slice none 0 0] := h4_10
        replace h4_11 : vs 11 = .bool true := h4_11
        replace h4_12 : vs 12 = .bool true := h4_12
        replace h4_13 : vs 13 = .bool true := h4_13
        replace h4_14 : vs 14 = .int .i64 4 := h4_14
        replace h4_15 : vs 15 = .int .i64 4 := h4_15
        replace h4_16 : vs 16 = .bool true := h4_16
        replace h4_17 : vs 17 = .bool true := h4_17
        replace h4_18 : vs 18 = .bool true := h4_18
        replace h4_19 : vs 19 = .bool false := h4_19
        replace h4_20 : vs 20 = .bool true := h4_20
        replace h4_21 : vs 21 = .bool true := h4_21
        replace h4_22 : vs 22 = undef := h4_22
        replace h4_23 : vs 23 = undef := h4_23
        replace h4_24 : vs 24 = undef := h4_24
        replace h4_25 : vs 25 = undef := h4_25
        replace h4_26 : vs 26 = undef := h4_26
        replace h4_27 : vs 27 = .bool true := h4_27
        replace h4_28 : vs 28 = .bool true := h4_28
        replace h4_29 : vs 29 = .bool true := h4_29
        simp only [h4_0, h4_1, h4_2, h4_3, h4_4, h4_5, h4_6, h4_7, h4_8, h4_9, h4_10, h4_11, h4_12, h4_13, h4_14, h4_15, h4_16, h4_17, h4_18, h4_19, h4_20, h4_21, h4_22, h4_23, h4_24, h4_25, h4_26, h4_27, h4_28, h4_29]
        clear h4_0 h4_1 h4_2 h4_3 h4_4 h4_5 h4_6 h4_7 h4_8 h4_9 h4_10 h4_11 h4_12 h4_13 h4_14 h4_15 h4_16 h4_17 h4_18 h4_19 h4_20 h4_21 h4_22 h4_23 h4_24 h4_25 h4_26 h4_27 h4_28 h4_29
        have kp3_0 := p3.cell0
        have kp3_1 := p3.cell1
        have kp3_2 := p3.cell2
        have kp4_0 := p4.cell0
        have kp4_1 := p4.cell1
        have kp1_7_0 := p1_7.cell0
        have kp1_7_1 := p1_7.cell1
        have kp1_7_2 := p1_7.cell2
        have kp2_7_0 := p2_7.cell0
        have kp2_7_1 := p2_7.cell1
        have kp2_7_2 := p2_7.cell2
        go_wp2
        go_ret
        exact ⟨rfl, E0⟩
       ·have HV : Hid (fitV z = z) := Lib.hid (fitV_in hf)
        have HF := Lib.hid hf
        have HZb := Lib.hid (fits_iff.1 hf)
        clear hf
        have ltp2_7 := p2_7.lt
        have szw5 := Ext.size E0
        refine region_go [.one fun v _ => v = .agg #[.bool b2, .slice a2 n2 c2],
          .one fun v _ => v = .tuple #[.int .i64 z, .bool true],
          .one fun v _ => v = .tuple #[.int .i64 z, .bool true],
          .one fun v _ => v = .int .i64 z,
          .one fun v _ => v = .bool true,
          .one fun v _ => v = .int .i64 z,
          .one fun v _ => v = .bool true]
         (fun W => Ext w W ∧ Nt W (.slice a1 n1 c1) xs1 ∧ Nt W (.slice d1 m1 o1) ys1 ∧ Bx3 W w.heap.size 27 (.bool b1) (.slice a1 n1 c1) (.slice d1 m1 o1) ∧ Bx2 W (w.heap.size + 1) 25 (.bool b2) (.slice a2 n2 c2) ∧ Zw W (.agg #[.bool b2, .slice a2 n2 c2]) z ∧ Nw W (.slice a3 n3 c3) 0 ∧ Bx3 W g1_7 27 (.bool false) (.slice none 0 0) (.slice none 0 0) ∧ Bx3 W g2_7 27 (.bool false) (.slice none 0 0) (.slice none 0 0) ∧ W2.heap.size ≤ W.heap.size) ⟨Good.is _, Good.is _, Good.is _, Good.is _, Good.is _, Good.is _, Good.is _, trivial⟩
         (fun W W1 hS hE => ⟨(Ext.trans hS.1 hE), (hS.2.1.ext hE), (hS.2.2.1.ext hE), (hS.2.2.2.1.ext hE), (hS.2.2.2.2.1.ext hE), (hS.2.2.2.2.2.1.ext hE), (hS.2.2.2.2.2.2.1.ext hE), (hS.2.2.2.2.2.2.2.1.ext hE), (hS.2.2.2.2.2.2.2.2.1.ext hE), (Nat.le_trans hS.2.2.2.2.2.2.2.2.2 (Ext.size hE))⟩) ⟨E0, h1, k1, p3, p4, hx2, hq, p1_7, p2_7, Nat.le_refl _⟩ (by kernel_rfl) (by kernel_rfl) (by kernel_rfl) (by kernel_rfl) (A := ?A5) ?hA5 ?howe5 ?hfin5
        case hA5 =>
         intro vs
         simp only [putAll, Act.put, List.setIfInBounds_toArray, List.set_cons_zero, List.set_cons_succ, Nat.zero_add, Nat.reduceAdd]
         exact rfl
        case howe5 =>
         clear E0 h1 k1 p3 p4 hx2 hq p1_7 p2_7
         intro hf
         refine ⟨owesE 0 [] hf rfl (by kernel_rfl) ?_, owesE 1 [0] hf rfl (by kernel_rfl) ?_, owesE 2 [1] hf rfl (by kernel_rfl) ?_, owesE 3 [2] hf rfl (by kernel_rfl) ?_, owesE 4 [2] hf rfl (by kernel_rfl) ?_, owesE 5 [3] hf rfl (by kernel_rfl) ?_, owesE 6 [4] hf rfl (by kernel_rfl) ?_, trivial⟩
         all_goals intro vs W hS hp hx KO hKO
         all_goals simp only [Act.put, List.setIfInBounds_toArray, List.set_cons_zero, List.set_cons_succ] at hKO
         ·have fc0 := hS.2.2.2.2.1.cell0
          have fc1 := hS.2.2.2.2.1.cell1
          go_simp
          exact hKO _ W (Ext.refl W) rfl
         ·have e0 := isOf hp.1
          simp only [e0] at hKO
          go_simp
          refine (Try.refZInt (hS.2.2.2.2.2.1)).mono ?_
          rintro e W1 ⟨rfl, hE⟩
          rw [HV.out, HF.out]
          exact hKO _ W1 hE rfl
         ·have e1 := isOf hp.1
          simp only [e1] at hKO
          go_simp
          exact hKO _ W (Ext.refl W) rfl
         ·have e2 := isOf hp.1
          simp only [e2] at hKO
          go_simp
          exact hKO _ W (Ext.refl W) rfl
         ·have e2 := isOf hp.1
          simp only [e2] at hKO
          go_simp
          exact hKO _ W (Ext.refl W) rfl
         ·have e3 := isOf hp.1
          simp only [e3] at hKO
          go_simp
          exact hKO _ W (Ext.refl W) rfl
         ·have e4 := isOf hp.1
          simp only [e4] at hKO
          go_simp
          exact hKO _ W (Ext.refl W) rfl
        intro vs W5 hS hp
        clear szw5 E0 h1 k1 p3 p4 hx2 hq p1_7 p2_7
        obtain ⟨E0, h1, k1, p3, p4, hx2, hq, p1_7, p2_7, sz5⟩ := hS
        obtain ⟨h5_0, h5_1, h5_2, h5_3, h5_4, h5_5, h5_6, -⟩ := hp
        replace h5_0 : vs 0 = .agg #[.bool b2, .slice a2 n2 c2] := h5_0
        replace h5_1 : vs 1 = .tuple #[.int .i64 z, .bool true] := h5_1
        replace h5_2 : vs 2 = .tuple #[.int .i64 z, .bool true] := h5_2
        replace h5_3 : vs 3 = .int .i64 z := h5_3
        replace h5_4 : vs 4 = .bool true := h5_4
        replace h5_5 : vs 5 = .int .i64 z := h5_5
        replace h5_6 : vs 6 = .bool true := h5_6
        simp only [h5_0, h5_1, h5_2, h5_3, h5_4, h5_5, h5_6]
        clear h5_0 h5_1 h5_2 h5_3 h5_4 h5_5 h5_6
        have kp3_0 := p3.cell0
        have kp3_1 := p3.cell1
        have kp3_2 := p3.cell2
        have kp4_0 := p4.cell0
        have kp4_1 := p4.cell1
        have kp1_7_0 := p1_7.cell0
        have kp1_7_1 := p1_7.cell1
        have kp1_7_2 := p1_7.cell2
        have kp2_7_0 := p2_7.cell0
        have kp2_7_1 := p2_7.cell1
        have kp2_7_2 := p2_7.cell2
        go_upto_region 6 with (fail)
        clear kp3_0 kp3_1 kp3_2 kp4_0 kp4_1 kp1_7_0 kp1_7_1 kp1_7_2 kp2_7_0 kp2_7_1 kp2_7_2
        have szw6 := Ext.size E0
        refine region_go [.one fun v _ => v = .bool true,
          .one fun v _ => v = .bool true,
          .one fun v _ => v = .agg #[.bool b1, .slice a1 n1 c1, .slice d1 m1 o1],
          .one fun v _ => v = .bool RB,
          .one fun v _ => v = .agg #[.bool b1, .slice a1 n1 c1, .slice d1 m1 o1],
          .one fun v _ => v = .bool RB,
          .one fun v _ => v = .bool true,
          .one fun v _ => v = .bool true,
          .one fun v _ => v = .bool true,
          .one fun v _ => v = .agg #[.bool false, .slice none 0 0, .slice none 0 0],
          .one fun v _ => v = .agg #[.bool false, .slice none 0 0, .slice none 0 0],
          .one fun v _ => v = .bool true,
          .one fun v _ => v = .bool true,
          .one fun v _ => v = .bool true,
          .one fun v _ => v = .int .i64 4,
          .one fun v _ => v = .int .i64 4,
          .one fun v _ => v = .bool true,
          .one fun v _ => v = .bool true,
          .one fun v _ => v = .bool true,
          .one fun v _ => v = .bool true,
          .one fun v _ => v = .bool false,
          .one fun v _ => v = .bool false,
          .one fun v _ => v = .int .i64 z,
          .one fun v W => Rw W v ((z : Rat)),
          .one fun v _ => v = .int .i64 z,
          .one fun v W => Rw W v ((z : Rat)),
          .one fun v _ => v = .bool true,
          .one fun v _ => v = .bool true,
          .one fun v _ => v = .bool true,
          .one fun v _ => v = .bool true]
         (fun W => Ext w W ∧ Nt W (.slice a1 n1 c1) xs1 ∧ Nt W (.slice d1 m1 o1) ys1 ∧ Bx3 W w.heap.size 27 (.bool b1) (.slice a1 n1 c1) (.slice d1 m1 o1) ∧ Bx2 W (w.heap.size + 1) 25 (.bool b2) (.slice a2 n2 c2) ∧ Zw W (.agg #[.bool b2, .slice a2 n2 c2]) z ∧ Nw W (.slice a3 n3 c3) 0 ∧ Bx3 W g1_7 27 (.bool false) (.slice none 0 0) (.slice none 0 0) ∧ Bx3 W g2_7 27 (.bool false) (.slice none 0 0) (.slice none 0 0) ∧ W5.heap.size ≤ W.heap.size) ⟨Good.is _, Good.is _, Good.is _, Good.is _, Good.is _, Good.is _, Good.is _, Good.is _, Good.is _, Good.is _, Good.is _, Good.is _, Good.is _, Good.is _, Good.is _, Good.is _, Good.is _, Good.is _, Good.is _, Good.is _, Good.is _, Good.is _, Good.is _, Good.rat _, Good.is _, Good.rat _, Good.is _, Good.is _, Good.is _, Good.is _, trivial⟩
         (fun W W1 hS hE => ⟨(Ext.trans hS.1 hE), (hS.2.1.ext hE), (hS.2.2.1.ext hE), (hS.2.2.2.1.ext hE), (hS.2.2.2.2.1.ext hE), (hS.2.2.2.2.2.1.ext hE), (hS.2.2.2.2.2.2.1.ext hE), (hS.2.2.2.2.2.2.2.1.ext hE), (hS.2.2.2.2.2.2.2.2.1.ext hE), (Nat.le_trans hS.2.2.2.2.2.2.2.2.2 (Ext.size hE))⟩) ⟨E0, h1, k1, p3, p4, hx2, hq, p1_7, p2_7, Nat.le_refl _⟩ (by kernel_rfl) (by kernel_rfl) (by kernel_rfl) (by kernel_rfl) (A := ?A6) ?hA6 ?howe6 ?hfin6
        case hA6 =>
         intro vs
         simp only [putAll, Act.put, List.setIfInBounds_toArray, List.set_cons_zero, List.set_cons_succ, Nat.zero_add, Nat.reduceAdd]
         exact rfl
        case howe6 =>
         clear E0 h1 k1 p3 p4 hx2 hq p1_7 p2_7
         intro hf
         refine ⟨owesE 0 [] hf rfl (by kernel_rfl) ?_, owesE 1 [0] hf rfl (by kernel_rfl) ?_, owesE 2 [1] hf rfl (by kernel_rfl) ?_, owesE 3 [1, 2] hf rfl (by kernel_rfl) ?_, owesE 4 [1] hf rfl (by kernel_rfl) ?_, owesE 5 [1, 4] hf rfl (by kernel_rfl) ?_, owesE 6 [1, 3, 5] hf rfl (by kernel_rfl) ?_, owesE 7 [1, 6] hf rfl (by kernel_rfl) ?_, owesE 8 [7] hf rfl (by kernel_rfl) ?_, owesE 9 [8] hf rfl (by kernel_rfl) ?_, owesE 10 [8] hf rfl (by kernel_rfl) ?_, owesE 11 [8, 9, 10] hf rfl (by kernel_rfl) ?_, owesE 12 [8, 11] hf rfl (by kernel_rfl) ?_, owesE 13 [12] hf rfl (by kernel_rfl) ?_, owesE 14 [13] hf rfl (by kernel_rfl) ?_, owesE 15 [13] hf rfl (by kernel_rfl) ?_, owesE 16 [13, 14, 15] hf rfl (by kernel_rfl) ?_, owesE 17 [13, 16] hf rfl (by kernel_rfl) ?_, owesE 18 [17] hf rfl (by kernel_rfl) ?_, owesE 19 [18] hf rfl (by kernel_rfl) ?_, owesE 20 [18, 19] hf rfl (by kernel_rfl) ?_, owesE 21 [18, 20] hf rfl (by kernel_rfl) ?_, owesE 22 [21] hf rfl (by kernel_rfl) ?_, owesE 23 [21, 22] hf rfl (by kernel_rfl) ?_, owesE 24 [21] hf rfl (by kernel_rfl) ?_, owesE 25 [21, 24] hf rfl (by kernel_rfl) ?_, owesE 26 [21, 23, 25] hf rfl (by kernel_rfl) ?_, owesE 27 [18, 21, 26] hf rfl (by kernel_rfl) ?_, owesE 28 [18, 27] hf rfl (by kernel_rfl) ?_, owesE 29 [28] hf rfl (by kernel_rfl) ?_, trivial⟩
         all_goals intro vs W hS hp hx KO hKO
         all_goals simp only [Act.put, List.setIfInBounds_toArray, List.set_cons_zero, List.set_cons_succ] at hKO
         ·go_simp
          refine (Try.alive05 _).mono ?_
          rintro e W1 ⟨rfl, hE⟩
          exact hKO _ W1 hE rfl
         ·have e0 := isOf hp.1
          simp only [e0] at hKO
          go_simp
          exact hKO _ W (Ext.refl W) rfl
         ·have e1 := isOf hp.1
          simp only [e1] at hKO
          have fc0 := hS.2.2.2.1.cell0
          have fc1 := hS.2.2.2.1.cell1
          have fc2 := hS.2.2.2.1.cell2
          go_simp
          exact hKO _ W (Ext.refl W) rfl
         ·have e1 := isOf hp.1
          have e2 := isOf hp.2.1
          simp only [e1, e2] at hKO
          go_simp
          refine (Try.ratRight hS.2.1 hS.2.2.1 (L := 6) hn1 hm1 (by omega)).mono ?_
          rintro e W1 ⟨rfl, hE⟩
          rw [HRB.out]
          exact hKO _ W1 hE rfl
         ·have e1 := isOf hp.1
          simp only [e1] at hKO
          have fc0 := hS.2.2.2.1.cell0
          have fc1 := hS.2.2.2.1.cell1
          have fc2 := hS.2.2.2.1.cell2
          go_simp
          exact hKO _ W (Ext.refl W) rfl
         ·have e1 := isOf hp.1
          have e4 := isOf hp.2.1
          simp only [e1, e4] at hKO
          go_simp
          refine (Try.refRRight hS.2.1 hS.2.2.1 (L := 6) hn1 hm1 (by omega)).mono ?_
          rintro e W1 ⟨rfl, hE⟩
          rw [HRB.out]
          exact hKO _ W1 hE rfl
         ·have e1 := isOf hp.1
          have e3 := isOf hp.2.1
          have e5 := isOf hp.2.2.1
          simp only [e1, e3, e5] at hKO
          go_simp
          exact hKO _ W (Ext.refl W) rfl
         ·have e1 := isOf hp.1
          have e6 := isOf hp.2.1
          simp only [e1, e6] at hKO
          go_simp
          exact hKO _ W (Ext.refl W) rfl
         ·have e7 := isOf hp.1
          simp only [e7] at hKO
          go_simp
          exact hKO _ W (Ext.refl W) rfl
         ·have e8 := isOf hp.1
          simp only [e8] at hKO
          have fc0 := hS.2.2.2.2.2.2.2.1.cell0
          have fc1 := hS.2.2.2.2.2.2.2.1.cell1
          have fc2 := hS.2.2.2.2.2.2.2.1.cell2
          go_simp
          exact hKO _ W (Ext.refl W) rfl
         ·have e8 := isOf hp.1
          simp only [e8] at hKO
          have fc0 := hS.2.2.2.2.2.2.2.2.1.cell0
          have fc1 := hS.2.2.2.2.2.2.2.2.1.cell1
          have fc2 := hS.2.2.2.2.2.2.2.2.1.cell2
          go_simp
          exact hKO _ W (Ext.refl W) rfl
         ·have e8 := isOf hp.1
          have e9 := isOf hp.2.1
          have e10 := isOf hp.2.2.1
          simp only [e8, e9, e10] at hKO
          go_simp
          refine (Try.refRSame0 _).mono ?_
          rintro e W1 ⟨rfl, hE⟩
          exact hKO _ W1 hE rfl
         ·have e8 := isOf hp.1
          have e11 := isOf hp.2.1
          simp only [e8, e11] at hKO
          go_simp
          exact hKO _ W (Ext.refl W) rfl
         ·have e12 := isOf hp.1
          simp only [e12] at hKO
          go_simp
          exact hKO _ W (Ext.refl W) rfl
         ·have e13 := isOf hp.1
          simp only [e13] at hKO
          go_simp
          exact hKO _ W (Ext.refl W) rfl
         ·have e13 := isOf hp.1
          simp only [e13] at hKO
          go_simp
          exact hKO _ W (Ext.refl W) rfl
         ·have e13 := isOf hp.1
          have e14 := isOf hp.2.1
          have e15 := isOf hp.2.2.1
          simp only [e13, e14, e15] at hKO
          go_simp
          exact hKO _ W (Ext.refl W) rfl
         ·have e13 := isOf hp.1
          have e16 := isOf hp.2.1
          simp only [e13, e16] at hKO
          go_simp
          exact hKO _ W (Ext.refl W) rfl
         ·have e17 := isOf hp.1
          simp only [e17] at hKO
          go_simp
          exact hKO _ W (Ext.refl W) rfl
         ·have e18 := isOf hp.1
          simp only [e18] at hKO
          go_simp
          exact hKO _ W (Ext.refl W) rfl
         ·have e18 := isOf hp.1
          have e19 := isOf hp.2.1
          simp only [e18, e19] at hKO
          go_simp
          exact hKO _ W (Ext.refl W) rfl
         ·have e18 := isOf hp.1
          have e20 := isOf hp.2.1
          simp only [e18, e20] at hKO
          go_simp
          exact hKO _ W (Ext.refl W) rfl
         ·have e21 := isOf hp.1
          simp only [e21] at hKO
          go_simp
          exact hKO _ W (Ext.refl W) rfl
         ·have e21 := isOf hp.1
          have e22 := isOf hp.2.1
          simp only [e21, e22] at hKO
          go_simp
          refine (Try.ratOf z _ HZb.out.1 HZb.out.2).mono ?_
          rintro e W1 ⟨v, rfl, hv, hE⟩
          exact hKO _ W1 hE hv
         ·have e21 := isOf hp.1
          simp only [e21] at hKO
          go_simp
          exact hKO _ W (Ext.refl W) rfl
         ·have e21 := isOf hp.1
          have e24 := isOf hp.2.1
          simp only [e21, e24] at hKO
          go_simp
          refine (Try.refROf z _ HZb.out.1 HZb.out.2).mono ?_
          rintro e W1 ⟨v, rfl, hv, hE⟩
          exact hKO _ W1 hE hv
         ·have e21 := isOf hp.1
          have q23 := hp.2.1
          have q25 := hp.2.2.1
          simp only [e21] at hKO
          go_simp
          refine (Try.refRSameT q23 q25 rfl).mono ?_
          rintro e W1 ⟨rfl, hE⟩
          exact hKO _ W1 hE rfl
         ·have e18 := isOf hp.1
          have e21 := isOf hp.2.1
          have e26 := isOf hp.2.2.1
          simp only [e18, e21, e26] at hKO
          go_simp
          exact hKO _ W (Ext.refl W) rfl
         ·have e18 := isOf hp.1
          have e27 := isOf hp.2.1
          simp only [e18, e27] at hKO
          go_simp
          exact hKO _ W (Ext.refl W) rfl
         ·have e28 := isOf hp.1
          simp only [e28] at hKO
          go_simp
          exact hKO _ W (Ext.refl W) rfl
        intro vs W6 hS hp
        clear szw6 E0 h1 k1 p3 p4 hx2 hq p1_7 p2_7
        obtain ⟨E0, h1, k1, p3, p4, hx2, hq, p1_7, p2_7, sz6⟩ := hS
        obtain ⟨h6_0, h6_1, h6_2, h6_3, h6_4, h6_5, h6_6, h6_7, h6_8, h6_9, h6_10, h6_11, h6_12, h6_13, h6_14, h6_15, h6_16, h6_17, h6_18, h6_19, h6_20, h6_21, h6_22, h6_23, h6_24, h6_25, h6_26, h6_27, h6_28, h6_29, -⟩ := hp
        replace h6_0 : vs 0 = .bool true := h6_0
        replace h6_1 : vs 1 = .bool true := h6_1
        replace h6_2 : vs 2 = .agg #[.bool b1, .slice a1 n1 c1, .slice d1 m1 o1] := h6_2
        replace h6_3 : vs 3 = .bool RB := h6_3
        replace h6_4 : vs 4 = .agg #[.bool b1, .slice a1 n1 c1, .slice d1 m1 o1] := h6_4
        replace h6_5 : vs 5 = .bool RB := h6_5
        replace h6_6 : vs 6 = .bool true := h6_6
        replace h6_7 : vs 7 = .bool true := h6_7
        replace h6_8 : vs 8 = .bool true := h6_8
        replace h6_9 : vs 9 = .agg #[.bool false, .slice none 0 0, .slice none 0 0] := h6_9
        replace h6_10 : vs 10 = .agg #[.bool false, .slice none 0 0, .slice none 0 0] := h6_10
        replace h6_11 : vs 11 = .bool true := h6_11
        replace h6_12 : vs 12 = .bool true := h6_12
        replace h6_13 : vs 13 = .bool true := h6_13
        replace h6_14 : vs 14 = .int .i64 4 := h6_14
        replace h6_15 : vs 15 = .int .i64 4 := h6_15
        replace h6_16 : vs 16 = .bool true := h6_16
        replace h6_17 : vs 17 = .bool true := h6_17
        replace h6_18 : vs 18 = .bool true := h6_18
        replace h6_19 : vs 19 = .bool true := h6_19
        replace h6_20 : vs 20 = .bool false := h6_20
        replace h6_21 : vs 21 = .bool false := h6_21
        replace h6_22 : vs 22 = .int .i64 z := h6_22
        replace h6_24 : vs 24 = .int .i64 z := h6_24
        replace h6_26 : vs 26 = .bool true := h6_26
        replace h6_27 : vs 27 = .bool true := h6_27
        replace h6_28 : vs 28 = .bool true := h6_28
        replace h6_29 : vs 29 = .bool true := h6_29
        simp only [h6_0, h6_1, h6_2, h6_3, h6_4, h6_5, h6_6, h6_7, h6_8, h6_9, h6_10, h6_11, h6_12, h6_13, h6_14, h6_15, h6_16, h6_17, h6_18, h6_19, h6_20, h6_21, h6_22, h6_24, h6_26, h6_27, h6_28, h6_29]
        replace h6_23 : Rw W6 (vs 23) ((z : Rat)) := h6_23
        generalize vs 23 = u6_23 at h6_23 ⊢
        replace h6_25 : Rw W6 (vs 25) ((z : Rat)) := h6_25
        generalize vs 25 = u6_25 at h6_25 ⊢
        clear h6_0 h6_1 h6_2 h6_3 h6_4 h6_5 h6_6 h6_7 h6_8 h6_9 h6_10 h6_11 h6_12 h6_13 h6_14 h6_15 h6_16 h6_17 h6_18 h6_19 h6_20 h6_21 h6_22 h6_24 h6_26 h6_27 h6_28 h6_29
        have kp3_0 := p3.cell0
        have kp3_1 := p3.cell1
        have kp3_2 := p3.cell2
        have kp4_0 := p4.cell0
        have kp4_1 := p4.cell1
        have kp1_7_0 := p1_7.cell0
        have kp1_7_1 := p1_7.cell1
        have kp1_7_2 := p1_7.cell2
        have kp2_7_0 := p2_7.cell0
        have kp2_7_1 := p2_7.cell1
        have kp2_7_2 := p2_7.cell2
        go_wp2
        go_ret
        exact ⟨rfl, E0⟩
      ·have HQ := Lib.hid hQ0
       clear hQ0
       have kp3_0 := p3.cell0
       have kp3_1 := p3.cell1
       have kp3_2 := p3.cell2
       have kp4_0 := p4.cell0
       have kp4_1 := p4.cell1
       go_upto_region 3 with (fail)
       clear kp3_0 kp3_1 kp3_2 kp4_0 kp4_1
       have ltp3 := p3.lt
       have ltp4 := p4.lt
       have szw7 := Ext.size E0
       refine region_go [.one fun v _ => v = .agg #[.bool b2, .slice a2 n2 c2],
         .one fun v _ => v = .slice a3 n3 c3,
         .one fun v W => ∃ v', v = .tuple #[v', .int .i64 0] ∧ (fun v W => Rw W v (mkRat z Q)) v' W,
         .one fun v W => ∃ v', v = .tuple #[v', .int .i64 0] ∧ (fun v W => Rw W v (mkRat z Q)) v' W,
         .one fun v W => Rw W v (mkRat z Q),
         .one fun v _ => v = .int .i64 0,
         .one fun v W => ∃ g, v = .pointer (some ⟨g, 0, none⟩) ∧ Vk5.heap.size ≤ g ∧ Form W g 27 3,
         .three 6 4 (fun p r _ W => Put3 Vk5.heap.size 27 p r W),
         .one fun v _ => v = .int .i64 0]
        (fun W => Ext w W ∧ Nt W (.slice a1 n1 c1) xs1 ∧ Nt W (.slice d1 m1 o1) ys1 ∧ Bx3 W w.heap.size 27 (.bool b1) (.slice a1 n1 c1) (.slice d1 m1 o1) ∧ Bx2 W (w.heap.size + 1) 25 (.bool b2) (.slice a2 n2 c2) ∧ Zw W (.agg #[.bool b2, .slice a2 n2 c2]) z ∧ Nw W (.slice a3 n3 c3) Q ∧ Vk5.heap.size ≤ W.heap.size) ⟨Good.is _, Good.is _, (Good.rat _).tup _, (Good.rat _).tup _, Good.rat _, Good.is _, Good.box _ _ _, cert_put3, Good.is _, trivial⟩
        (fun W W1 hS hE => ⟨(Ext.trans hS.1 hE), (hS.2.1.ext hE), (hS.2.2.1.ext hE), (hS.2.2.2.1.ext hE), (hS.2.2.2.2.1.ext hE), (hS.2.2.2.2.2.1.ext hE), (hS.2.2.2.2.2.2.1.ext hE), (Nat.le_trans hS.2.2.2.2.2.2.2 (Ext.size hE))⟩) ⟨E0, h1, k1, p3, p4, hx2, hq, Nat.le_refl _⟩ (by kernel_rfl) (by kernel_rfl) (by kernel_rfl) (by kernel_rfl) (A := ?A7) ?hA7 ?howe7 ?hfin7
       case hA7 =>
        intro vs
        simp only [putAll, Act.put, List.setIfInBounds_toArray, List.set_cons_zero, List.set_cons_succ, Nat.zero_add, Nat.reduceAdd]
        exact rfl
       case howe7 =>
        clear E0 h1 k1 p3 p4 hx2 hq
        intro hf
        refine ⟨owesE 0 [] hf rfl (by kernel_rfl) ?_, owesE 1 [] hf rfl (by kernel_rfl) ?_, owesE 2 [0, 1] hf rfl (by kernel_rfl) ?_, owesE 3 [2] hf rfl (by kernel_rfl) ?_, owesE 4 [3] hf rfl (by kernel_rfl) ?_, owesE 5 [3] hf rfl (by kernel_rfl) ?_, owesE 6 [] hf rfl (by kernel_rfl) ?_, owesW 7 [6, 4] hf rfl (by kernel_rfl) (by kernel_rfl) ?_, owesE 8 [5] hf rfl (by kernel_rfl) ?_, trivial⟩
        all_goals intro vs W hS hp hx KO hKO
        all_goals simp only [Act.put, List.setIfInBounds_toArray, List.set_cons_zero, List.set_cons_succ] at hKO
        ·have fc0 := hS.2.2.2.2.1.cell0
         have fc1 := hS.2.2.2.2.1.cell1
         go_simp
         exact hKO _ W (Ext.refl W) rfl
        ·go_simp
         exact hKO _ W (Ext.refl W) rfl
        ·have e0 := isOf hp.1
         have e1 := isOf hp.2.1
         simp only [e0, e1] at hKO
         go_simp
         refine (Try.ratMake (hS.2.2.2.2.2.1) (hS.2.2.2.2.2.2.1) s2 SQ.out (by omega) HQ.out).mono ?_
         rintro e W1 ⟨v, rfl, hv, hE⟩
         exact hKO _ W1 hE ⟨_, rfl, hv⟩
        ·have q2 := hp.1
         obtain ⟨u, ev, hu⟩ := q2
         replace ev : vs 2 = _ := ev
         simp only [ev] at hKO
         go_simp
         exact hKO _ W (Ext.refl W) ⟨u, rfl, hu⟩
        ·have q3 := hp.1
         obtain ⟨u, ev, hu⟩ := q3
         replace ev : vs 3 = _ := ev
         simp only [ev] at hKO
         go_simp
         exact hKO _ W (Ext.refl W) hu
        ·have q3 := hp.1
         obtain ⟨u, ev, hu⟩ := q3
         replace ev : vs 3 = _ := ev
         simp only [ev] at hKO
         go_simp
         exact hKO _ W (Ext.refl W) rfl
        ·have hn := Bx3.new W 27 (.bool false) (.slice none 0 0) (.slice none 0 0)
         have hE := Ext.alloc1 W (.cells #[.bool false, .slice none 0 0, .slice none 0 0] 27)
         have hsz := hS.2.2.2.2.2.2.2
         go_simp
         exact hKO _ _ hE ⟨_, rfl, hsz, hn.form⟩
        ·have q6 := hp.1
         have q4 := hp.2.1
         obtain ⟨g, ev, hg, hf⟩ := q6
         replace ev : vs 6 = _ := ev
         obtain ⟨x0, y0, z0, hx, hno⟩ := hf.bx3
         have qr := q4
         obtain ⟨b3, a3, n3, c3, d3, m3, o3, er, -, -, -⟩ := qr
         replace er : vs 4 = _ := er
         have r0 := hx.froz0
         have t0 := hx.cell0
         have r1 := hx.froz1
         have t1 := hx.cell1
         have r2 := hx.froz2
         have t2 := hx.cell2
         have hw := Wr.set3 hx hno b3 a3 n3 c3 d3 m3 o3
         have hq := hx.set (.bool b3) (.slice a3 n3 c3) (.slice d3 m3 o3)
         simp only [ev, er] at hKO
         go_simp
         exact hKO _ _ hw ⟨(Ext.wr hS.1 hw (by omega)), (hS.2.1.wr hw), (hS.2.2.1.wr hw), (hS.2.2.2.1.wr hw (by omega)), (hS.2.2.2.2.1.wr hw (by omega)), (hS.2.2.2.2.2.1.wr hw), (hS.2.2.2.2.2.2.1.wr hw), (Nat.le_trans hS.2.2.2.2.2.2.2 hw.apart.size)⟩ ⟨g, b3, a3, n3, c3, d3, m3, o3, ev, er, hg, hq⟩
        ·have e5 := isOf hp.1
         simp only [e5] at hKO
         go_simp
         exact hKO _ W (Ext.refl W) rfl
       intro vs W7 hS hp
       clear szw7 E0 h1 k1 p3 p4 hx2 hq
       obtain ⟨E0, h1, k1, p3, p4, hx2, hq, sz7⟩ := hS
       obtain ⟨h7_0, h7_1, h7_2, h7_3, h7_4, h7_5, h7_6, h7_7, h7_8, -⟩ := hp
       obtain ⟨g7_7, b7_7, a7_7, n7_7, c7_7, d7_7, m7_7, o7_7, ev7_7, er7_7, hg7_7, p7_7⟩ := h7_7
       replace ev7_7 : vs 6 = _ := ev7_7
       replace er7_7 : vs 4 = _ := er7_7
       replace h7_4 := (show Rw W7 (vs 4) (mkRat z Q) from h7_4)
       rw [er7_7] at h7_4
       replace h7_0 : vs 0 = .agg #[.bool b2, .slice a2 n2 c2] := h7_0
       replace h7_1 : vs 1 = .slice a3 n3 c3 := h7_1
       replace h7_5 : vs 5 = .int .i64 0 := h7_5
       replace h7_8 : vs 8 = .int .i64 0 := h7_8
       simp only [ev7_7, er7_7, h7_0, h7_1, h7_5, h7_8]
       clear ev7_7 er7_7 h7_0 h7_1 h7_5 h7_8 h7_2 h7_3 h7_6
       have kp3_0 := p3.cell0
       have kp3_1 := p3.cell1
       have kp3_2 := p3.cell2
       have kp4_0 := p4.cell0
       have kp4_1 := p4.cell1
       have kp7_7_0 := p7_7.cell0
       have kp7_7_1 := p7_7.cell1
       have kp7_7_2 := p7_7.cell2
       go_upto_region 4 with (fail)
       clear kp3_0 kp3_1 kp3_2 kp4_0 kp4_1 kp7_7_0 kp7_7_1 kp7_7_2
       have ltp7_7 := p7_7.lt
       have szw8 := Ext.size E0
       refine region_go [.one fun v _ => v = .agg #[.bool b2, .slice a2 n2 c2],
         .one fun v _ => v = .slice a3 n3 c3,
         .one fun v W => ∃ v', v = .tuple #[v', .int .i64 0] ∧ (fun v W => Rw W v (mkRat z Q)) v' W,
         .one fun v W => ∃ v', v = .tuple #[v', .int .i64 0] ∧ (fun v W => Rw W v (mkRat z Q)) v' W,
         .one fun v W => Rw W v (mkRat z Q),
         .one fun v _ => v = .int .i64 0,
         .one fun v W => ∃ g, v = .pointer (some ⟨g, 0, none⟩) ∧ W7.heap.size ≤ g ∧ Form W g 27 3,
         .three 6 4 (fun p r _ W => Put3 W7.heap.size 27 p r W),
         .one fun v _ => v = .int .i64 0]
        (fun W => Ext w W ∧ Nt W (.slice a1 n1 c1) xs1 ∧ Nt W (.slice d1 m1 o1) ys1 ∧ Bx3 W w.heap.size 27 (.bool b1) (.slice a1 n1 c1) (.slice d1 m1 o1) ∧ Bx2 W (w.heap.size + 1) 25 (.bool b2) (.slice a2 n2 c2) ∧ Zw W (.agg #[.bool b2, .slice a2 n2 c2]) z ∧ Nw W (.slice a3 n3 c3) Q ∧ Rw W (.agg #[.bool b7_7, .slice a7_7 n7_7 c7_7, .slice d7_7 m7_7 o7_7]) (mkRat z Q) ∧ Bx3 W g7_7 27 (.bool b7_7) (.slice a7_7 n7_7 c7_7) (.slice d7_7 m7_7 o7_7) ∧ W7.heap.size ≤ W.heap.size) ⟨Good.is _, Good.is _, (Good.rat _).tup _, (Good.rat _).tup _, Good.rat _, Good.is _, Good.box _ _ _, cert_put3, Good.is _, trivial⟩
        (fun W W1 hS hE => ⟨(Ext.trans hS.1 hE), (hS.2.1.ext hE), (hS.2.2.1.ext hE), (hS.2.2.2.1.ext hE), (hS.2.2.2.2.1.ext hE), (hS.2.2.2.2.2.1.ext hE), (hS.2.2.2.2.2.2.1.ext hE), (hS.2.2.2.2.2.2.2.1.ext hE), (hS.2.2.2.2.2.2.2.2.1.ext hE), (Nat.le_trans hS.2.2.2.2.2.2.2.2.2 (Ext.size hE))⟩) ⟨E0, h1, k1, p3, p4, hx2, hq, h7_4, p7_7, Nat.le_refl _⟩ (by kernel_rfl) (by kernel_rfl) (by kernel_rfl) (by kernel_rfl) (A := ?A8) ?hA8 ?howe8 ?hfin8
       case hA8 =>
        intro vs
        simp only [putAll, Act.put, List.setIfInBounds_toArray, List.set_cons_zero, List.set_cons_succ, Nat.zero_add, Nat.reduceAdd]
        exact rfl
       case howe8 =>
        clear E0 h1 k1 p3 p4 hx2 hq h7_4 p7_7
        intro hf
        refine ⟨owesE 0 [] hf rfl (by kernel_rfl) ?_, owesE 1 [] hf rfl (by kernel_rfl) ?_, owesE 2 [0, 1] hf rfl (by kernel_rfl) ?_, owesE 3 [2] hf rfl (by kernel_rfl) ?_, owesE 4 [3] hf rfl (by kernel_rfl) ?_, owesE 5 [3] hf rfl (by kernel_rfl) ?_, owesE 6 [] hf rfl (by kernel_rfl) ?_, owesW 7 [6, 4] hf rfl (by kernel_rfl) (by kernel_rfl) ?_, owesE 8 [5] hf rfl (by kernel_rfl) ?_, trivial⟩
        all_goals intro vs W hS hp hx KO hKO
        all_goals simp only [Act.put, List.setIfInBounds_toArray, List.set_cons_zero, List.set_cons_succ] at hKO
        ·have fc0 := hS.2.2.2.2.1.cell0
         have fc1 := hS.2.2.2.2.1.cell1
         go_simp
         exact hKO _ W (Ext.refl W) rfl
        ·go_simp
         exact hKO _ W (Ext.refl W) rfl
        ·have e0 := isOf hp.1
         have e1 := isOf hp.2.1
         simp only [e0, e1] at hKO
         go_simp
         refine (Try.refRMake (hS.2.2.2.2.2.1) (hS.2.2.2.2.2.2.1) s2 SQ.out (by omega) HQ.out).mono ?_
         rintro e W1 ⟨v, rfl, hv, hE⟩
         exact hKO _ W1 hE ⟨_, rfl, hv⟩
        ·have q2 := hp.1
         obtain ⟨u, ev, hu⟩ := q2
         replace ev : vs 2 = _ := ev
         simp only [ev] at hKO
         go_simp
         exact hKO _ W (Ext.refl W) ⟨u, rfl, hu⟩
        ·have q3 := hp.1
         obtain ⟨u, ev, hu⟩ := q3
         replace ev : vs 3 = _ := ev
         simp only [ev] at hKO
         go_simp
         exact hKO _ W (Ext.refl W) hu
        ·have q3 := hp.1
         obtain ⟨u, ev, hu⟩ := q3
         replace ev : vs 3 = _ := ev
         simp only [ev] at hKO
         go_simp
         exact hKO _ W (Ext.refl W) rfl
        ·have hn := Bx3.new W 27 (.bool false) (.slice none 0 0) (.slice none 0 0)
         have hE := Ext.alloc1 W (.cells #[.bool false, .slice none 0 0, .slice none 0 0] 27)
         have hsz := hS.2.2.2.2.2.2.2.2.2
         go_simp
         exact hKO _ _ hE ⟨_, rfl, hsz, hn.form⟩
        ·have q6 := hp.1
         have q4 := hp.2.1
         obtain ⟨g, ev, hg, hf⟩ := q6
         replace ev : vs 6 = _ := ev
         obtain ⟨x0, y0, z0, hx, hno⟩ := hf.bx3
         have qr := q4
         obtain ⟨b3, a3, n3, c3, d3, m3, o3, er, -, -, -⟩ := qr
         replace er : vs 4 = _ := er
         have r0 := hx.froz0
         have t0 := hx.cell0
         have r1 := hx.froz1
         have t1 := hx.cell1
         have r2 := hx.froz2
         have t2 := hx.cell2
         have hw := Wr.set3 hx hno b3 a3 n3 c3 d3 m3 o3
         have hq := hx.set (.bool b3) (.slice a3 n3 c3) (.slice d3 m3 o3)
         simp only [ev, er] at hKO
         go_simp
         exact hKO _ _ hw ⟨(Ext.wr hS.1 hw (by omega)), (hS.2.1.wr hw), (hS.2.2.1.wr hw), (hS.2.2.2.1.wr hw (by omega)), (hS.2.2.2.2.1.wr hw (by omega)), (hS.2.2.2.2.2.1.wr hw), (hS.2.2.2.2.2.2.1.wr hw), (hS.2.2.2.2.2.2.2.1.wr hw), (hS.2.2.2.2.2.2.2.2.1.wr hw (by omega)), (Nat.le_trans hS.2.2.2.2.2.2.2.2.2 hw.apart.size)⟩ ⟨g, b3, a3, n3, c3, d3, m3, o3, ev, er, hg, hq⟩
        ·have e5 := isOf hp.1
         simp only [e5] at hKO
         go_simp
         exact hKO _ W (Ext.refl W) rfl
       intro vs W8 hS hp
       clear szw8 E0 h1 k1 p3 p4 hx2 hq h7_4 p7_7
       obtain ⟨E0, h1, k1, p3, p4, hx2, hq, h7_4, p7_7, sz8⟩ := hS
       obtain ⟨h8_0, h8_1, h8_2, h8_3, h8_4, h8_5, h8_6, h8_7, h8_8, -⟩ := hp
       obtain ⟨g8_7, b8_7, a8_7, n8_7, c8_7, d8_7, m8_7, o8_7, ev8_7, er8_7, hg8_7, p8_7⟩ := h8_7
       replace ev8_7 : vs 6 = _ := ev8_7
       replace er8_7 : vs 4 = _ := er8_7
       replace h8_4 := (show Rw W8 (vs 4) (mkRat z Q) from h8_4)
       rw [er8_7] at h8_4
       replace h8_0 : vs 0 = .agg #[.bool b2, .slice a2 n2 c2] := h8_0
       replace h8_1 : vs 1 = .slice a3 n3 c3 := h8_1
       replace h8_5 : vs 5 = .int .i64 0 := h8_5
       replace h8_8 : vs 8 = .int .i64 0 := h8_8
       simp only [ev8_7, er8_7, h8_0, h8_1, h8_5, h8_8]
       clear ev8_7 er8_7 h8_0 h8_1 h8_5 h8_8 h8_2 h8_3 h8_6
       have kp3_0 := p3.cell0
       have kp3_1 := p3.cell1
       have kp3_2 := p3.cell2
       have kp4_0 := p4.cell0
       have kp4_1 := p4.cell1
       have kp7_7_0 := p7_7.cell0
       have kp7_7_1 := p7_7.cell1
       have kp7_7_2 := p7_7.cell2
       have kp8_7_0 := p8_7.cell0
       have kp8_7_1 := p8_7.cell1
       have kp8_7_2 := p8_7.cell2
       go_upto_region 5 with (fail)
       clear kp3_0 kp3_1 kp3_2 kp4_0 kp4_1 kp7_7_0 kp7_7_1 kp7_7_2 kp8_7_0 kp8_7_1 kp8_7_2
       cases hf : fits z
       ·have HV : Hid (fitV z = 0) := Lib.hid (fitV_out hf)
        have HF := Lib.hid hf
        clear hf
        have ltp8_7 := p8_7.lt
        have szw9 := Ext.size E0
        refine region_go [.one fun v _ => v = .agg #[.bool b2, .slice a2 n2 c2],
          .one fun v _ => v = .tuple #[.int .i64 0, .bool false],
          .one fun v _ => v = .tuple #[.int .i64 0, .bool false],
          .one fun v _ => v = .int .i64 0,
          .one fun v _ => v = .bool false,
          .one fun v _ => v = .int .i64 0,
          .one fun v _ => v = .bool false]
         (fun W => Ext w W ∧ Nt W (.slice a1 n1 c1) xs1 ∧ Nt W (.slice d1 m1 o1) ys1 ∧ Bx3 W w.heap.size 27 (.bool b1) (.slice a1 n1 c1) (.slice d1 m1 o1) ∧ Bx2 W (w.heap.size + 1) 25 (.bool b2) (.slice a2 n2 c2) ∧ Zw W (.agg #[.bool b2, .slice a2 n2 c2]) z ∧ Nw W (.slice a3 n3 c3) Q ∧ Rw W (.agg #[.bool b7_7, .slice a7_7 n7_7 c7_7, .slice d7_7 m7_7 o7_7]) (mkRat z Q) ∧ Bx3 W g7_7 27 (.bool b7_7) (.slice a7_7 n7_7 c7_7) (.slice d7_7 m7_7 o7_7) ∧ Rw W (.agg #[.bool b8_7, .slice a8_7 n8_7 c8_7, .slice d8_7 m8_7 o8_7]) (mkRat z Q) ∧ Bx3 W g8_7 27 (.bool b8_7) (.slice a8_7 n8_7 c8_7) (.slice d8_7 m8_7 o8_7) ∧ W8.heap.size ≤ W.heap.size) ⟨Good.is _, Good.is _, Good.is _, Good.is _, Good.is _, Good.is _, Good.is _, trivial⟩
         (fun W W1 hS hE => ⟨(Ext.trans hS.1 hE), (hS.2.1.ext hE), (hS.2.2.1.ext hE), (hS.2.2.2.1.ext hE), (hS.2.2.2.2.1.ext hE), (hS.2.2.2.2.2.1.ext hE), (hS.2.2.2.2.2.2.1.ext hE), (hS.2.2.2.2.2.2.2.1.ext hE), (hS.2.2.2.2.2.2.2.2.1.ext hE), (hS.2.2.2.2.2.2.2.2.2.1.ext hE), (hS.2.2.2.2.2.2.2.2.2.2.1.ext hE), (Nat.le_trans hS.2.2.2.2.2.2.2.2.2.2.2 (Ext.size hE))⟩) ⟨E0, h1, k1, p3, p4, hx2, hq, h7_4, p7_7, h8_4, p8_7, Nat.le_refl _⟩ (by kernel_rfl) (by kernel_rfl) (by kernel_rfl) (by kernel_rfl) (A := ?A9) ?hA9 ?howe9 ?hfin9
        case hA9 =>
         intro vs
         simp only [putAll, Act.put, List.setIfInBounds_toArray, List.set_cons_zero, List.set_cons_succ, Nat.zero_add, Nat.reduceAdd]
         exact rfl
        case howe9 =>
         clear E0 h1 k1 p3 p4 hx2 hq h7_4 p7_7 h8_4 p8_7
         intro hf
         refine ⟨owesE 0 [] hf rfl (by kernel_rfl) ?_, owesE 1 [0] hf rfl (by kernel_rfl) ?_, owesE 2 [1] hf rfl (by kernel_rfl) ?_, owesE 3 [2] hf rfl (by kernel_rfl) ?_, owesE 4 [2] hf rfl (by kernel_rfl) ?_, owesE 5 [3] hf rfl (by kernel_rfl) ?_, owesE 6 [4] hf rfl (by kernel_rfl) ?_, trivial⟩
         all_goals intro vs W hS hp hx KO hKO
         all_goals simp only [Act.put, List.setIfInBounds_toArray, List.set_cons_zero, List.set_cons_succ] at hKO
         ·have fc0 := hS.2.2.2.2.1.cell0
          have fc1 := hS.2.2.2.2.1.cell1
          go_simp
          exact hKO _ W (Ext.refl W) rfl
         ·have e0 := isOf hp.1
          simp only [e0] at hKO
          go_simp
          refine (Try.refZInt (hS.2.2.2.2.2.1)).mono ?_
          rintro e W1 ⟨rfl, hE⟩
          rw [HV.out, HF.out]
          exact hKO _ W1 hE rfl
         ·have e1 := isOf hp.1
          simp only [e1] at hKO
          go_simp
          exact hKO _ W (Ext.refl W) rfl
         ·have e2 := isOf hp.1
          simp only [e2] at hKO
          go_simp
          exact hKO _ W (Ext.refl W) rfl
         ·have e2 := isOf hp.1
          simp only [e2] at hKO
          go_simp
          exact hKO _ W (Ext.refl W) rfl
         ·have e3 := isOf hp.1
          simp only [e3] at hKO
          go_simp
          exact hKO _ W (Ext.refl W) rfl
         ·have e4 := isOf hp.1
          simp only [e4] at hKO
          go_simp
          exact hKO _ W (Ext.refl W) rfl
        intro vs W9 hS hp
        clear szw9 E0 h1 k1 p3 p4 hx2 hq h7_4 p7_7 h8_4 p8_7
        obtain ⟨E0, h1, k1, p3, p4, hx2, hq, h7_4, p7_7, h8_4, p8_7, sz9⟩ := hS
        obtain ⟨h9_0, h9_1, h9_2, h9_3, h9_4, h9_5, h9_6, -⟩ := hp
        replace h9_0 : vs 0 = .agg #[.bool b2, .slice a2 n2 c2] := h9_0
        replace h9_1 : vs 1 = .tuple #[.int .i64 0, .bool false] := h9_1
        replace h9_2 : vs 2 = .tuple #[.int .i64 0, .bool false] := h9_2
        replace h9_3 : vs 3 = .int .i64 0 := h9_3
        replace h9_4 : vs 4 = .bool false := h9_4
        replace h9_5 : vs 5 = .int .i64 0 := h9_5
        replace h9_6 : vs 6 = .bool false := h9_6
        simp only [h9_0, h9_1, h9_2, h9_3, h9_4, h9_5, h9_6]
        clear h9_0 h9_1 h9_2 h9_3 h9_4 h9_5 h9_6
        have kp3_0 := p3.cell0
        have kp3_1 := p3.cell1
        have kp3_2 := p3.cell2
        have kp4_0 := p4.cell0
        have kp4_1 := p4.cell1
        have kp7_7_0 := p7_7.cell0
        have kp7_7_1 := p7_7.cell1
        have kp7_7_2 := p7_7.cell2
        have kp8_7_0 := p8_7.cell0
        have kp8_7_1 := p8_7.cell1
        have kp8_7_2 := p8_7.cell2
        go_upto_region 6 with (fail)
        clear kp3_0 kp3_1 kp3_2 kp4_0 kp4_1 kp7_7_0 kp7_7_1 kp7_7_2 kp8_7_0 kp8_7_1 kp8_7_2
        have szw10 := Ext.size E0
        refine region_go [.one fun v _ => v = .bool true,
          .one fun v _ => v = .bool true,
          .one fun v _ => v = .agg #[.bool b1, .slice a1 n1 c1, .slice d1 m1 o1],
          .one fun v _ => v = .bool RB,
          .one fun v _ => v = .agg #[.bool b1, .slice a1 n1 c1, .slice d1 m1 o1],
          .one fun v _ => v = .bool RB,
          .one fun v _ => v = .bool true,
          .one fun v _ => v = .bool true,
          .one fun v _ => v = .bool true,
          .one fun v _ => v = .agg #[.bool b7_7, .slice a7_7 n7_7 c7_7, .slice d7_7 m7_7 o7_7],
          .one fun v _ => v = .agg #[.bool b8_7, .slice a8_7 n8_7 c8_7, .slice d8_7 m8_7 o8_7],
          .one fun v _ => v = .bool true,
          .one fun v _ => v = .bool true,
          .one fun v _ => v = .bool true,
          .one fun v _ => v = .int .i64 0,
          .one fun v _ => v = .int .i64 0,
          .one fun v _ => v = .bool true,
          .one fun v _ => v = .bool true,
          .one fun v _ => v = .bool true,
          .one fun v _ => v = .bool false,
          .one fun v _ => v = .bool true,
          .one fun v _ => v = .bool true,
          .one fun v _ => v = undef,
          .one fun v _ => v = undef,
          .one fun v _ => v = undef,
          .one fun v _ => v = undef,
          .one fun v _ => v = undef,
          .one fun v _ => v = .bool true,
          .one fun v _ => v = .bool true,
          .one fun v _ => v = .bool true]
         (fun W => Ext w W ∧ Nt W (.slice a1 n1 c1) xs1 ∧ Nt W (.slice d1 m1 o1) ys1 ∧ Bx3 W w.heap.size 27 (.bool b1) (.slice a1 n1 c1) (.slice d1 m1 o1) ∧ Bx2 W (w.heap.size + 1) 25 (.bool b2) (.slice a2 n2 c2) ∧ Zw W (.agg #[.bool b2, .slice a2 n2 c2]) z ∧ Nw W (.slice a3 n3 c3) Q ∧ Rw W (.agg #[.bool b7_7, .slice a7_7 n7_7 c7_7, .slice d7_7 m7_7 o7_7]) (mkRat z Q) ∧ Bx3 W g7_7 27 (.bool b7_7) (.slice a7_7 n7_7 c7_7) (.slice d7_7 m7_7 o7_7) ∧ Rw W (.agg #[.bool b8_7, .slice a8_7 n8_7 c8_7, .slice d8_7 m8_7 o8_7]) (mkRat z Q) ∧ Bx3 W g8_7 27 (.bool b8_7) (.slice a8_7 n8_7 c8_7) (.slice d8_7 m8_7 o8_7) ∧ W9.heap.size ≤ W.heap.size) ⟨Good.is _, Good.is _, Good.is _, Good.is _, Good.is _, Good.is _, Good.is _, Good.is _, Good.is _, Good.is _, Good.is _, Good.is _, Good.is _, Good.is _, Good.is _, Good.is _, Good.is _, Good.is _, Good.is _, Good.is _, Good.is _, Good.is _, Good.is _, Good.is _, Good.is _, Good.is _, Good.is _, Good.is _, Good.is _, Good.is _, trivial⟩
         (fun W W1 hS hE => ⟨(Ext.trans hS.1 hE), (hS.2.1.ext hE), (hS.2.2.1.ext hE), (hS.2.2.2.1.ext hE), (hS.2.2.2.2.1.ext hE), (hS.2.2.2.2.2.1.ext hE), (hS.2.2.2.2.2.2.1.ext hE), (hS.2.2.2.2.2.2.2.1.ext hE), (hS.2.2.2.2.2.2.2.2.1.ext hE), (hS.2.2.2.2.2.2.2.2.2.1.ext hE), (hS.2.2.2.2.2.2.2.2.2.2.1.ext hE), (Nat.le_trans hS.2.2.2.2.2.2.2.2.2.2.2 (Ext.size hE))⟩) ⟨E0, h1, k1, p3, p4, hx2, hq, h7_4, p7_7, h8_4, p8_7, Nat.le_refl _⟩ (by kernel_rfl) (by kernel_rfl) (by kernel_rfl) (by kernel_rfl) (A := ?A10) ?hA10 ?howe10 ?hfin10
        case hA10 =>
         intro vs
         simp only [putAll, Act.put, List.setIfInBounds_toArray, List.set_cons_zero, List.set_cons_succ, Nat.zero_add, Nat.reduceAdd]
         exact rfl
        case howe10 =>
         clear E0 h1 k1 p3 p4 hx2 hq h7_4 p7_7 h8_4 p8_7
         intro hf
         refine ⟨owesE 0 [] hf rfl (by kernel_rfl) ?_, owesE 1 [0] hf rfl (by kernel_rfl) ?_, owesE 2 [1] hf rfl (by kernel_rfl) ?_, owesE 3 [1, 2] hf rfl (by kernel_rfl) ?_, owesE 4 [1] hf rfl (by kernel_rfl) ?_, owesE 5 [1, 4] hf rfl (by kernel_rfl) ?_, owesE 6 [1, 3, 5] hf rfl (by kernel_rfl) ?_, owesE 7 [1, 6] hf rfl (by kernel_rfl) ?_, owesE 8 [7] hf rfl (by kernel_rfl) ?_, owesE 9 [8] hf rfl (by kernel_rfl) ?_, owesE 10 [8] hf rfl (by kernel_rfl) ?_, owesE 11 [8, 9, 10] hf rfl (by kernel_rfl) ?_, owesE 12 [8, 11] hf rfl (by kernel_rfl) ?_, owesE 13 [12] hf rfl (by kernel_rfl) ?_, owesE 14 [13] hf rfl (by kernel_rfl) ?_, owesE 15 [13] hf rfl (by kernel_rfl) ?_, owesE 16 [13, 14, 15] hf rfl (by kernel_rfl) ?_, owesE 17 [13, 16] hf rfl (by kernel_rfl) ?_, owesE 18 [17] hf rfl (by kernel_rfl) ?_, owesE 19 [18] hf rfl (by kernel_rfl) ?_, owesE 20 [18, 19] hf rfl (by kernel_rfl) ?_, owesE 21 [18, 20] hf rfl (by kernel_rfl) ?_, owesE 22 [21] hf rfl (by kernel_rfl) ?_, owesE 23 [21] hf rfl (by kernel_rfl) ?_, owesE 24 [21] hf rfl (by kernel_rfl) ?_, owesE 25 [21] hf rfl (by kernel_rfl) ?_, owesE 26 [21] hf rfl (by kernel_rfl) ?_, owesE 27 [18, 21, 26] hf rfl (by kernel_rfl) ?_, owesE 28 [18, 27] hf rfl (by kernel_rfl) ?_, owesE 29 [28] hf rfl (by kernel_rfl) ?_, trivial⟩
         all_goals intro vs W hS hp hx KO hKO
         all_goals simp only [Act.put, List.setIfInBounds_toArray, List.set_cons_zero, List.set_cons_succ] at hKO
         ·go_simp
          refine (Try.alive05 _).mono ?_
          rintro e W1 ⟨rfl, hE⟩
          exact hKO _ W1 hE rfl
         ·have e0 := isOf hp.1
          simp only [e0] at hKO
          go_simp
          exact hKO _ W (Ext.refl W) rfl
         ·have e1 := isOf hp.1
          simp only [e1] at hKO
          have fc0 := hS.2.2.2.1.cell0
          have fc1 := hS.2.2.2.1.cell1
          have fc2 := hS.2.2.2.1.cell2
          go_simp
          exact hKO _ W (Ext.refl W) rfl
         ·have e1 := isOf hp.1
          have e2 := isOf hp.2.1
          simp only [e1, e2] at hKO
          go_simp
          refine (Try.ratRight hS.2.1 hS.2.2.1 (L := 6) hn1 hm1 (by omega)).mono ?_
          rintro e W1 ⟨rfl, hE⟩
          rw [HRB.out]
          exact hKO _ W1 hE rfl
         ·have e1 := isOf hp.1
          simp only [e1] at hKO
          have fc0 := hS.2.2.2.1.cell0
          have fc1 := hS.2.2.2.1.cell1
          have fc2 := hS.2.2.2.1.cell2
          go_simp
          exact hKO _ W (Ext.refl W) rfl
         ·have e1 := isOf hp.1
          have e4 := isOf hp.2.1
          simp only [e1, e4] at hKO
          go_simp
          refine (Try.refRRight hS.2.1 hS.2.2.1 (L := 6) hn1 hm1 (by omega)).mono ?_
          rintro e W1 ⟨rfl, hE⟩
          rw [HRB.out]
          exact hKO _ W1 hE rfl
         ·have e1 := isOf hp.1
          have e3 := isOf hp.2.1
          have e5 := isOf hp.2.2.1
          simp only [e1, e3, e5] at hKO
          go_simp
          exact hKO _ W (Ext.refl W) rfl
         ·have e1 := isOf hp.1
          have e6 := isOf hp.2.1
          simp only [e1, e6] at hKO
          go_simp
          exact hKO _ W (Ext.refl W) rfl
         ·have e7 := isOf hp.1
          simp only [e7] at hKO
          go_simp
          exact hKO _ W (Ext.refl W) rfl
         ·have e8 := isOf hp.1
          simp only [e8] at hKO
          have fc0 := hS.2.2.2.2.2.2.2.2.1.cell0
          have fc1 := hS.2.2.2.2.2.2.2.2.1.cell1
          have fc2 := hS.2.2.2.2.2.2.2.2.1.cell2
          go_simp
          exact hKO _ W (Ext.refl W) rfl
         ·have e8 := isOf hp.1
          simp only [e8] at hKO
          have fc0 := hS.2.2.2.2.2.2.2.2.2.2.1.cell0
          have fc1 := hS.2.2.2.2.2.2.2.2.2.2.1.cell1
          have fc2 := hS.2.2.2.2.2.2.2.2.2.2.1.cell2
          go_simp
          exact hKO _ W (Ext.refl W) rfl
         ·have e8 := isOf hp.1
          have e9 := isOf hp.2.1
          have e10 := isOf hp.2.2.1
          simp only [e8, e9, e10] at hKO
          go_simp
          refine (Try.refRSameT (hS.2.2.2.2.2.2.2.1) (hS.2.2.2.2.2.2.2.2.2.1) rfl).mono ?_
          rintro e W1 ⟨rfl, hE⟩
          exact hKO _ W1 hE rfl
         ·have e8 := isOf hp.1
          have e11 := isOf hp.2.1
          simp only [e8, e11] at hKO
          go_simp
          exact hKO _ W (Ext.refl W) rfl
         ·have e12 := isOf hp.1
          simp only [e12] at hKO
          go_simp
          exact hKO _ W (Ext.refl W) rfl
         ·have e13 := isOf hp.1
          simp only [e13] at hKO
          go_simp
          exact hKO _ W (Ext.refl W) rfl
         ·have e13 := isOf hp.1
          simp only [e13] at hKO
          go_simp
          exact hKO _ W (Ext.refl W) rfl
         ·have e13 := isOf hp.1
          have e14 := isOf hp.2.1
          have e15 := isOf hp.2.2.1
          simp only [e13, e14, e15] at hKO
          go_simp
          exact hKO _ W (Ext.refl W) rfl
         ·have e13 := isOf hp.1
          have e16 := isOf hp.2.1
          simp only [e13, e16] at hKO
          go_simp
          exact hKO _ W (Ext.refl W) rfl
         ·have e17 := isOf hp.1
          simp only [e17] at hKO
          go_simp
          exact hKO _ W (Ext.refl W) rfl
         ·have e18 := isOf hp.1
          simp only [e18] at hKO
          go_simp
          exact hKO _ W (Ext.refl W) rfl
         ·have e18 := isOf hp.1
          have e19 := isOf hp.2.1
          simp only [e18, e19] at hKO
          go_simp
          exact hKO _ W (Ext.refl W) rfl
         ·have e18 := isOf hp.1
          have e20 := isOf hp.2.1
          simp only [e18, e20] at hKO
          go_simp
          exact hKO _ W (Ext.refl W) rfl
         ·have e21 := isOf hp.1
          simp only [e21] at hKO
          go_simp
          exact hKO _ W (Ext.refl W) rfl
         ·have e21 := isOf hp.1
          simp only [e21] at hKO
          go_simp
          exact hKO _ W (Ext.refl W) rfl
         ·have e21 := isOf hp.1
          simp only [e21] at hKO
          go_simp
          exact hKO _ W (Ext.refl W) rfl
         ·have e21 := isOf hp.1
          simp only [e21] at hKO
          go_simp
          exact hKO _ W (Ext.refl W) rfl
         ·have e21 := isOf hp.1
          simp only [e21] at hKO
          go_simp
          exact hKO _ W (Ext.refl W) rfl
         ·have e18 := isOf hp.1
          have e21 := isOf hp.2.1
          have e26 := isOf hp.2.2.1
          simp only [e18, e21, e26] at hKO
          go_simp
          exact hKO _ W (Ext.refl W) rfl
         ·have e18 := isOf hp.1
          have e27 := isOf hp.2.1
          simp only [e18, e27] at hKO
          go_simp
          exact hKO _ W (Ext.refl W) rfl
         ·have e28 := isOf hp.1
          simp only [e28] at hKO
          go_simp
          exact hKO _ W (Ext.refl W) rfl
        intro vs W10 hS hp
        clear szw10 E0 h1 k1 p3 p4 hx2 hq h7_4 p7_7 h8_4 p8_7
        obtain ⟨E0, h1, k1, p3, p4, hx2, hq, h7_4, p7_7, h8_4, p8_7, sz10⟩ := hS
        obtain ⟨h10_0, h10_1, h10_2, h10_3, h10_4, h10_5, h10_6, h10_7, h10_8, h10_9, h10_10, h10_11, h10_12, h10_13, h10_14, h10_15, h10_16, h10_17, h10_18, h10_19, h10_20, h10_21, h10_22, h10_23, h10_24, h10_25, h10_26, h10_27, h10_28, h10_29, -⟩ := hp
        replace h10_0 : vs 0 = .bool true := h10_0
        replace h10_1 : vs 1 = .bool true := h10_1
        replace h10_2 : vs 2 = .agg #[.bool b1, .slice a1 n1 c1, .slice d1 m1 o1] := h10_2
        replace h10_3 : vs 3 = .bool RB := h10_3
        replace h10_4 : vs 4 = .agg #[.bool b1, .slice a1 n1 c1, .slice d1 m1 o1] := h10_4
        replace h10_5 : vs 5 = .bool RB := h10_5
        replace h10_6 : vs 6 = .bool true := h10_6
        replace h10_7 : vs 7 = .bool true := h10_7
        replace h10_8 : vs 8 = .bool true := h10_8
        replace h10_9 : vs 9 = .agg #[.bool b7_7, .slice a7_7 n7_7 c7_7, .slice d7_7 m7_7 o7_7] := h10_9
        replace h10_10 : vs 10 = .agg #[.bool b8_7, .slice a8_7 n8_7 c8_7, .slice d8_7 m8_7 o8_7] := h10_10
        replace h10_11 : vs 11 = .bool true := h10_11
        replace h10_12 : vs 12 = .bool true := h10_12
        replace h10_13 : vs 13 = .bool true := h10_13
        replace h10_14 : vs 14 = .int .i64 0 := h10_14
        replace h10_15 : vs 15 = .int .i64 0 := h10_15
        replace h10_16 : vs 16 = .bool true := h10_16
        replace h10_17 : vs 17 = .bool true := h10_17
        replace h10_18 : vs 18 = .bool true := h10_18
        replace h10_19 : vs 19 = .bool false := h10_19
        replace h10_20 : vs 20 = .bool true := h10_20
        replace h10_21 : vs 21 = .bool true := h10_21
        replace h10_22 : vs 22 = undef := h10_22
        replace h10_23 : vs 23 = undef := h10_23
        replace h10_24 : vs 24 = undef := h10_24
        replace h10_25 : vs 25 = undef := h10_25
        replace h10_26 : vs 26 = undef := h10_26
        replace h10_27 : vs 27 = .bool true := h10_27
        replace h10_28 : vs 28 = .bool true := h10_28
        replace h10_29 : vs 29 = .bool true := h10_29
        simp only [h10_0, h10_1, h10_2, h10_3, h10_4, h10_5, h10_6, h10_7, h10_8, h10_9, h10_10, h10_11, h10_12, h10_13, h10_14, h10_15, h10_16, h10_17, h10_18, h10_19, h10_20, h10_21, h10_22, h10_23, h10_24, h10_25, h10_26, h10_27, h10_28, h10_29]
        clear h10_0 h10_1 h10_2 h10_3 h10_4 h10_5 h10_6 h10_7 h10_8 h10_9 h10_10 h10_11 h10_12 h10_13 h10_14 h10_15 h10_16 h10_17 h10_18 h10_19 h10_20 h10_21 h10_22 h10_23 h10_24 h10_25 h10_26 h10_27 h10_28 h10_29
        have kp3_0 := p3.cell0
        have kp3_1 := p3.cell1
        have kp3_2 := p3.cell2
        have kp4_0 := p4.cell0
        have kp4_1 := p4.cell1
        have kp7_7_0 := p7_7.cell0
        have kp7_7_1 := p7_7.cell1
        have kp7_7_2 := p7_7.cell2
        have kp8_7_0 := p8_7.cell0
        have kp8_7_1 := p8_7.cell1
        have kp8_7_2 := p8_7.cell2
        go_wp2
        go_ret
        exact ⟨rfl, E0⟩
       ·have HV : Hid (fitV z = z) := Lib.hid (fitV_in hf)
        have HF := Lib.hid hf
        have HZb := Lib.hid (fits_iff.1 hf)
        clear hf
        have ltp8_7 := p8_7.lt
        have szw11 := Ext.size E0
        refine region_go [.one fun v _ => v = .agg #[.bool b2, .slice a2 n2 c2],
          .one fun v _ => v = .tuple #[.int .i64 z, .bool true],
          .one fun v _ => v = .tuple #[.int .i64 z, .bool true],
          .one fun v _ => v = .int .i64 z,
          .one fun v _ => v = .bool true,
          .one fun v _ => v = .int .i64 z,
          .one fun v _ => v = .bool true]
         (fun W => Ext w W ∧ Nt W (.slice a1 n1 c1) xs1 ∧ Nt W (.slice d1 m1 o1) ys1 ∧ Bx3 W w.heap.size 27 (.bool b1) (.slice a1 n1 c1) (.slice d1 m1 o1) ∧ Bx2 W (w.heap.size + 1) 25 (.bool b2) (.slice a2 n2 c2) ∧ Zw W (.agg #[.bool b2, .slice a2 n2 c2]) z ∧ Nw W (.slice a3 n3 c3) Q ∧ Rw W (.agg #[.bool b7_7, .slice a7_7 n7_7 c7_7, .slice d7_7 m7_7 o7_7]) (mkRat z Q) ∧ Bx3 W g7_7 27 (.bool b7_7) (.slice a7_7 n7_7 c7_7) (.slice d7_7 m7_7 o7_7) ∧ Rw W (.agg #[.bool b8_7, .slice a8_7 n8_7 c8_7, .slice d8_7 m8_7 o8_7]) (mkRat z Q) ∧ Bx3 W g8_7 27 (.bool b8_7) (.slice a8_7 n8_7 c8_7) (.slice d8_7 m8_7 o8_7) ∧ W8.heap.size ≤ W.heap.size) ⟨Good.is _, Good.is _, Good.is _, Good.is _, Good.is _, Good.is _, Good.is _, trivial⟩
         (fun W W1 hS hE => ⟨(Ext.trans hS.1 hE), (hS.2.1.ext hE), (hS.2.2.1.ext hE), (hS.2.2.2.1.ext hE), (hS.2.2.2.2.1.ext hE), (hS.2.2.2.2.2.1.ext hE), (hS.2.2.2.2.2.2.1.ext hE), (hS.2.2.2.2.2.2.2.1.ext hE), (hS.2.2.2.2.2.2.2.2.1.ext hE), (hS.2.2.2.2.2.2.2.2.2.1.ext hE), (hS.2.2.2.2.2.2.2.2.2.2.1.ext hE), (Nat.le_trans hS.2.2.2.2.2.2.2.2.2.2.2 (Ext.size hE))⟩) ⟨E0, h1, k1, p3, p4, hx2, hq, h7_4, p7_7, h8_4, p8_7, Nat.le_refl _⟩ (by kernel_rfl) (by kernel_rfl) (by kernel_rfl) (by kernel_rfl) (A := ?A11) ?hA11 ?howe11 ?hfin11
        case hA11 =>
         intro vs
         simp only [putAll, Act.put, List.setIfInBounds_toArray, List.set_cons_zero, List.set_cons_succ, Nat.zero_add, Nat.reduceAdd]
         exact rfl
        case howe11 =>
         clear E0 h1 k1 p3 p4 hx2 hq h7_4 p7_7 h8_4 p8_7
         intro hf
         refine ⟨owesE 0 [] hf rfl (by kernel_rfl) ?_, owesE 1 [0] hf rfl (by kernel_rfl) ?_, owesE 2 [1] hf rfl (by kernel_rfl) ?_, owesE 3 [2] hf rfl (by kernel_rfl) ?_, owesE 4 [2] hf rfl (by kernel_rfl) ?_, owesE 5 [3] hf rfl (by kernel_rfl) ?_, owesE 6 [4] hf rfl (by kernel_rfl) ?_, trivial⟩
         all_goals intro vs W hS hp hx KO hKO
         all_goals simp only [Act.put, List.setIfInBounds_toArray, List.set_cons_zero, List.set_cons_succ] at hKO
         ·have fc0 := hS.2.2.2.2.1.cell0
          have fc1 := hS.2.2.2.2.1.cell1
          go_simp
          exact hKO _ W (Ext.refl W) rfl
         ·have e0 := isOf hp.1
          simp only [e0] at hKO
          go_simp
          refine (Try.refZInt (hS.2.2.2.2.2.1)).mono ?_
          rintro e W1 ⟨rfl, hE⟩
          rw [HV.out, HF.out]
          exact hKO _ W1 hE rfl
         ·have e1 := isOf hp.1
          simp only [e1] at hKO
          go_simp
          exact hKO _ W (Ext.refl W) rfl
         ·have e2 := isOf hp.1
          simp only [e2] at hKO
          go_simp
          exact hKO _ W (Ext.refl W) rfl
         ·have e2 := isOf hp.1
          simp only [e2] at hKO
          go_simp
          exact hKO _ W (Ext.refl W) rfl
         ·have e3 := isOf hp.1
          simp only [e3] at hKO
          go_simp
          exact hKO _ W (Ext.refl W) rfl
         ·have e4 := isOf hp.1
          simp only [e4] at hKO
          go_simp
          exact hKO _ W (Ext.refl W) rfl
        intro vs W11 hS hp
        clear szw11 E0 h1 k1 p3 p4 hx2 hq h7_4 p7_7 h8_4 p8_7
        obtain ⟨E0, h1, k1, p3, p4, hx2, hq, h7_4, p7_7, h8_4, p8_7, sz11⟩ := hS
        obtain ⟨h11_0, h11_1, h11_2, h11_3, h11_4, h11_5, h11_6, -⟩ := hp
        replace h11_0 : vs 0 = .agg #[.bool b2, .slice a2 n2 c2] := h11_0
        replace h11_1 : vs 1 = .tuple #[.int .i64 z, .bool true] := h11_1
        replace h11_2 : vs 2 = .tuple #[.int .i64 z, .bool true] := h11_2
        replace h11_3 : vs 3 = .int .i64 z := h11_3
        replace h11_4 : vs 4 = .bool true := h11_4
        replace h11_5 : vs 5 = .int .i64 z := h11_5
        replace h11_6 : vs 6 = .bool true := h11_6
        simp only [h11_0, h11_1, h11_2, h11_3, h11_4, h11_5, h11_6]
        clear h11_0 h11_1 h11_2 h11_3 h11_4 h11_5 h11_6
        have kp3_0 := p3.cell0
        have kp3_1 := p3.cell1
        have kp3_2 := p3.cell2
        have kp4_0 := p4.cell0
        have kp4_1 := p4.cell1
        have kp7_7_0 := p7_7.cell0
        have kp7_7_1 := p7_7.cell1
        have kp7_7_2 := p7_7.cell2
        have kp8_7_0 := p8_7.cell0
        have kp8_7_1 := p8_7.cell1
        have kp8_7_2 := p8_7.cell2
        go_upto_region 6 with (fail)
        clear kp3_0 kp3_1 kp3_2 kp4_0 kp4_1 kp7_7_0 kp7_7_1 kp7_7_2 kp8_7_0 kp8_7_1 kp8_7_2
        have szw12 := Ext.size E0
        refine region_go [.one fun v _ => v = .bool true,
          .one fun v _ => v = .bool true,
          .one fun v _ => v = .agg #[.bool b1, .slice a1 n1 c1, .slice d1 m1 o1],
          .one fun v _ => v = .bool RB,
          .one fun v _ => v = .agg #[.bool b1, .slice a1 n1 c1, .slice d1 m1 o1],
          .one fun v _ => v = .bool RB,
          .one fun v _ => v = .bool true,
          .one fun v _ => v = .bool true,
          .one fun v _ => v = .bool true,
          .one fun v _ => v = .agg #[.bool b7_7, .slice a7_7 n7_7 c7_7, .slice d7_7 m7_7 o7_7],
          .one fun v _ => v = .agg #[.bool b8_7, .slice a8_7 n8_7 c8_7, .slice d8_7 m8_7 o8_7],
          .one fun v _ => v = .bool true,
          .one fun v _ => v = .bool true,
          .one fun v _ => v = .bool true,
          .one fun v _ => v = .int .i64 0,
          .one fun v _ => v = .int .i64 0,
          .one fun v _ => v = .bool true,
          .one fun v _ => v = .bool true,
          .one fun v _ => v = .bool true,
          .one fun v _ => v = .bool true,
          .one fun v _ => v = .bool false,
          .one fun v _ => v = .bool false,
          .one fun v _ => v = .int .i64 z,
          .one fun v W => Rw W v ((z : Rat)),
          .one fun v _ => v = .int .i64 z,
          .one fun v W => Rw W v ((z : Rat)),
          .one fun v _ => v = .bool true,
          .one fun v _ => v = .bool true,
          .one fun v _ => v = .bool true,
          .one fun v _ => v = .bool true]
         (fun W => Ext w W ∧ Nt W (.slice a1 n1 c1) xs1 ∧ Nt W (.slice d1 m1 o1) ys1 ∧ Bx3 W w.heap.size 27 (.bool b1) (.slice a1 n1 c1) (.slice d1 m1 o1) ∧ Bx2 W (w.heap.size + 1) 25 (.bool b2) (.slice a2 n2 c2) ∧ Zw W (.agg #[.bool b2, .slice a2 n2 c2]) z ∧ Nw W (.slice a3 n3 c3) Q ∧ Rw W (.agg #[.bool b7_7, .slice a7_7 n7_7 c7_7, .slice d7_7 m7_7 o7_7]) (mkRat z Q) ∧ Bx3 W g7_7 27 (.bool b7_7) (.slice a7_7 n7_7 c7_7) (.slice d7_7 m7_7 o7_7) ∧ Rw W (.agg #[.bool b8_7, .slice a8_7 n8_7 c8_7, .slice d8_7 m8_7 o8_7]) (mkRat z Q) ∧ Bx3 W g8_7 27 (.bool b8_7) (.slice a8_7 n8_7 c8_7) (.slice d8_7 m8_7 o8_7) ∧ W11.heap.size ≤ W.heap.size) ⟨Good.is _, Good.is _, Good.is _, Good.is _, Good.is _, Good.is _, Good.is _, Good.is _, Good.is _, Good.is _, Good.is _, Good.is _, Good.is _, Good.is _, Good.is _, Good.is _, Good.is _, Good.is _, Good.is _, Good.is _, Good.is _, Good.is _, Good.is _, Good.rat _, Good.is _, Good.rat _, Good.is _, Good.is _, Good.is _, Good.is _, trivial⟩
         (fun W W1 hS hE => ⟨(Ext.trans hS.1 hE), (hS.2.1.ext hE), (hS.2.2.1.ext hE), (hS.2.2.2.1.ext hE), (hS.2.2.2.2.1.ext hE), (hS.2.2.2.2.2.1.ext hE), (hS.2.2.2.2.2.2.1.ext hE), (hS.2.2.2.2.2.2.2.1.ext hE), (hS.2.2.2.2.2.2.2.2.1.ext hE), (hS.2.2.2.2.2.2.2.2.2.1.ext hE), (hS.2.2.2.2.2.2.2.2.2.2.1.ext hE), (Nat.le_trans hS.2.2.2.2.2.2.2.2.2.2.2 (Ext.size hE))⟩) ⟨E0, h1, k1, p3, p4, hx2, hq, h7_4, p7_7, h8_4, p8_7, Nat.le_refl _⟩ (by kernel_rfl) (by kernel_rfl) (by kernel_rfl) (by kernel_rfl) (A := ?A12) ?hA12 ?howe12 ?hfin12
        case hA12 =>
         intro vs
         simp only [putAll, Act.put, List.setIfInBounds_toArray, List.set_cons_zero, List.set_cons_succ, Nat.zero_add, Nat.reduceAdd]
         exact rfl
        case howe12 =>
         clear E0 h1 k1 p3 p4 hx2 hq h7_4 p7_7 h8_4 p8_7
         intro hf
         refine ⟨owesE 0 [] hf rfl (by kernel_rfl) ?_, owesE 1 [0] hf rfl (by kernel_rfl) ?_, owesE 2 [1] hf rfl (by kernel_rfl) ?_, owesE 3 [1, 2] hf rfl (by kernel_rfl) ?_, owesE 4 [1] hf rfl (by kernel_rfl) ?_, owesE 5 [1, 4] hf rfl (by kernel_rfl) ?_, owesE 6 [1, 3, 5] hf rfl (by kernel_rfl) ?_, owesE 7 [1, 6] hf rfl (by kernel_rfl) ?_, owesE 8 [7] hf rfl (by kernel_rfl) ?_, owesE 9 [8] hf rfl (by kernel_rfl) ?_, owesE 10 [8] hf rfl (by kernel_rfl) ?_, owesE 11 [8, 9, 10] hf rfl (by kernel_rfl) ?_, owesE 12 [8, 11] hf rfl (by kernel_rfl) ?_, owesE 13 [12] hf rfl (by kernel_rfl) ?_, owesE 14 [13] hf rfl (by kernel_rfl) ?_, owesE 15 [13] hf rfl (by kernel_rfl) ?_, owesE 16 [13, 14, 15] hf rfl (by kernel_rfl) ?_, owesE 17 [13, 16] hf rfl (by kernel_rfl) ?_, owesE 18 [17] hf rfl (by kernel_rfl) ?_, owesE 19 [18] hf rfl (by kernel_rfl) ?_, owesE 20 [18, 19] hf rfl (by kernel_rfl) ?_, owesE 21 [18, 20] hf rfl (by kernel_rfl) ?_, owesE 22 [21] hf rfl (by kernel_rfl) ?_, owesE 23 [21, 22] hf rfl (by kernel_rfl) ?_, owesE 24 [21] hf rfl (by kernel_rfl) ?_, owesE 25 [21, 24] hf rfl (by kernel_rfl) ?_, owesE 26 [21, 23, 25] hf rfl (by kernel_rfl) ?_, owesE 27 [18, 21, 26] hf rfl (by kernel_rfl) ?_, owesE 28 [18, 27] hf rfl (by kernel_rfl) ?_, owesE 29 [28] hf rfl (by kernel_rfl) ?_, trivial⟩
         all_goals intro vs W hS hp hx KO hKO
         all_goals simp only [Act.put, List.setIfInBounds_toArray, List.set_cons_zero, List.set_cons_succ] at hKO
         ·go_simp
          refine (Try.alive05 _).mono ?_
          rintro e W1 ⟨rfl, hE⟩
          exact hKO _ W1 hE rfl
         ·have e0 := isOf hp.1
          simp only [e0] at hKO
          go_simp
          exact hKO _ W (Ext.refl W) rfl
         ·have e1 := isOf hp.1
          simp only [e1] at hKO
          have fc0 := hS.2.2.2.1.cell0
          have fc1 := hS.2.2.2.1.cell1
          have fc2 := hS.2.2.2.1.cell2
          go_simp
          exact hKO _ W (Ext.refl W) rfl
         ·have e1 := isOf hp.1
          have e2 := isOf hp.2.1
          simp only [e1, e2] at hKO
          go_simp
          refine (Try.ratRight hS.2.1 hS.2.2.1 (L := 6) hn1 hm1 (by omega)).mono ?_
          rintro e W1 ⟨rfl, hE⟩
          rw [HRB.out]
          exact hKO _ W1 hE rfl
         ·have e1 := isOf hp.1
          simp only [e1] at hKO
          have fc0 := hS.2.2.2.1.cell0
          have fc1 := hS.2.2.2.1.cell1
          have fc2 := hS.2.2.2.1.cell2
          go_simp
          exact hKO _ W (Ext.refl W) rfl
         ·have e1 := isOf hp.1
          have e4 := isOf hp.2.1
          simp only [e1, e4] at hKO
          go_simp
          refine (Try.refRRight hS.2.1 hS.2.2.1 (L := 6) hn1 hm1 (by omega)).mono ?_
          rintro e W1 ⟨rfl, hE⟩
          rw [HRB.out]
          exact hKO _ W1 hE rfl
         ·have e1 := isOf hp.1
          have e3 := isOf hp.2.1
          have e5 := isOf hp.2.2.1
          simp only [e1, e3, e5] at hKO
          go_simp
          exact hKO _ W (Ext.refl W) rfl
         ·have e1 := isOf hp.1
          have e6 := isOf hp.2.1
          simp only [e1, e6] at hKO
          go_simp
          exact hKO _ W (Ext.refl W) rfl
         ·have e7 := isOf hp.1
          simp only [e7] at hKO
          go_simp
          exact hKO _ W (Ext.refl W) rfl
         ·have e8 := isOf hp.1
          simp only [e8] at hKO
          have fc0 := hS.2.2.2.2.2.2.2.2.1.cell0
          have fc1 := hS.2.2.2.2.2.2.2.2.1.cell1
          have fc2 := hS.2.2.2.2.2.2.2.2.1.cell2
          go_simp
          exact hKO _ W (Ext.refl W) rfl
         ·have e8 := isOf hp.1
          simp only [e8] at hKO
          have fc0 := hS.2.2.2.2.2.2.2.2.2.2.1.cell0
          have fc1 := hS.2.2.2.2.2.2.2.2.2.2.1.cell1
          have fc2 := hS.2.2.2.2.2.2.2.2.2.2.1.cell2
          go_simp
          exact hKO _ W (Ext.refl W) rfl
         ·have e8 := isOf hp.1
          have e9 := isOf hp.2.1
          have e10 := isOf hp.2.2.1
          simp only [e8, e9, e10] at hKO
          go_simp
          refine (Try.refRSameT (hS.2.2.2.2.2.2.2.1) (hS.2.2.2.2.2.2.2.2.2.1) rfl).mono ?_
          rintro e W1 ⟨rfl, hE⟩
          exact hKO _ W1 hE rfl
         ·have e8 := isOf hp.1
          have e11 := isOf hp.2.1
          simp only [e8, e11] at hKO
          go_simp
          exact hKO _ W (Ext.refl W) rfl
         ·have e12 := isOf hp.1
          simp only [e12] at hKO
          go_simp
          exact hKO _ W (Ext.refl W) rfl
         ·have e13 := isOf hp.1
          simp only [e13] at hKO
          go_simp
          exact hKO _ W (Ext.refl W) rfl
         ·have e13 := isOf hp.1
          simp only [e13] at hKO
          go_simp
          exact hKO _ W (Ext.refl W) rfl
         ·have e13 := isOf hp.1
          have e14 := isOf hp.2.1
          have e15 := isOf hp.2.2.1
          simp only [e13, e14, e15] at hKO
          go_simp
          exact hKO _ W (Ext.refl W) rfl
         ·have e13 := isOf hp.1
          have e16 := isOf hp.2.1
          simp only [e13, e16] at hKO
          go_simp
          exact hKO _ W (Ext.refl W) rfl
         ·have e17 := isOf hp.1
          simp only [e17] at hKO
          go_simp
          exact hKO _ W (Ext.refl W) rfl
         ·have e18 := isOf hp.1
          simp only [e18] at hKO
          go_simp
          exact hKO _ W (Ext.refl W) rfl
         ·have e18 := isOf hp.1
          have e19 := isOf hp.2.1
          simp only [e18, e19] at hKO
          go_simp
          exact hKO _ W (Ext.refl W) rfl
         ·have e18 := isOf hp.1
          have e20 := isOf hp.2.1
          simp only [e18, e20] at hKO
          go_simp
          exact hKO _ W (Ext.refl W) rfl
         ·have e21 := isOf hp.1
          simp only [e21] at hKO
          go_simp
          exact hKO _ W (Ext.refl W) rfl
         ·have e21 := isOf hp.1
          have e22 := isOf hp.2.1
          simp only [e21, e22] at hKO
          go_simp
          refine (Try.ratOf z _ HZb.out.1 HZb.out.2).mono ?_
          rintro e W1 ⟨v, rfl, hv, hE⟩
          exact hKO _ W1 hE hv
         ·have e21 := isOf hp.1
          simp only [e21] at hKO
          go_simp
          exact hKO _ W (Ext.refl W) rfl
         ·have e21 := isOf hp.1
          have e24 := isOf hp.2.1
          simp only [e21, e24] at hKO
          go_simp
          refine (Try.refROf z _ HZb.out.1 HZb.out.2).mono ?_
          rintro e W1 ⟨v, rfl, hv, hE⟩
          exact hKO _ W1 hE hv
         ·have e21 := isOf hp.1
          have q23 := hp.2.1
          have q25 := hp.2.2.1
          simp only [e21] at hKO
          go_simp
          refine (Try.refRSameT q23 q25 rfl).mono ?_
          rintro e W1 ⟨rfl, hE⟩
          exact hKO _ W1 hE rfl
         ·have e18 := isOf hp.1
          have e21 := isOf hp.2.1
          have e26 := isOf hp.2.2.1
          simp only [e18, e21, e26] at hKO
          go_simp
          exact hKO _ W (Ext.refl W) rfl
         ·have e18 := isOf hp.1
          have e27 := isOf hp.2.1
          simp only [e18, e27] at hKO
          go_simp
          exact hKO _ W (Ext.refl W) rfl
         ·have e28 := isOf hp.1
          simp only [e28] at hKO
          go_simp
          exact hKO _ W (Ext.refl W) rfl
        intro vs W12 hS hp
        clear szw12 E0 h1 k1 p3 p4 hx2 hq h7_4 p7_7 h8_4 p8_7
        obtain ⟨E0, h1, k1, p3, p4, hx2, hq, h7_4, p7_7, h8_4, p8_7, sz12⟩ := hS
        obtain ⟨h12_0, h12_1, h12_2, h12_3, h12_4, h12_5, h12_6, h12_7, h12_8, h12_9, h12_10, h12_11, h12_12, h12_13, h12_14, h12_15, h12_16, h12_17, h12_18, h12_19, h12_20, h12_21, h12_22, h12_23, h12_24, h12_25, h12_26, h12_27, h12_28, h12_29, -⟩ := hp
        replace h12_0 : vs 0 = .bool true := h12_0
        replace h12_1 : vs 1 = .bool true := h12_1
        replace h12_2 : vs 2 = .agg #[.bool b1, .slice a1 n1 c1, .slice d1 m1 o1] := h12_2
        replace h12_3 : vs 3 = .bool RB := h12_3
        replace h12_4 : vs 4 = .agg #[.bool b1, .slice a1 n1 c1, .slice d1 m1 o1] := h12_4
        replace h12_5 : vs 5 = .bool RB := h12_5
        replace h12_6 : vs 6 = .bool true := h12_6
        replace h12_7 : vs 7 = .bool true := h12_7
        replace h12_8 : vs 8 = .bool true := h12_8
        replace h12_9 : vs 9 = .agg #[.bool b7_7, .slice a7_7 n7_7 c7_7, .slice d7_7 m7_7 o7_7] := h12_9
        replace h12_10 : vs 10 = .agg #[.bool b8_7, .slice a8_7 n8_7 c8_7, .slice d8_7 m8_7 o8_7] := h12_10
        replace h12_11 : vs 11 = .bool true := h12_11
        replace h12_12 : vs 12 = .bool true := h12_12
        replace h12_13 : vs 13 = .bool true := h12_13
        replace h12_14 : vs 14 = .int .i64 0 := h12_14
        replace h12_15 : vs 15 = .int .i64 0 := h12_15
        replace h12_16 : vs 16 = .bool true := h12_16
        replace h12_17 : vs 17 = .bool true := h12_17
        replace h12_18 : vs 18 = .bool true := h12_18
        replace h12_19 : vs 19 = .bool true := h12_19
        replace h12_20 : vs 20 = .bool false := h12_20
        replace h12_21 : vs 21 = .bool false := h12_21
        replace h12_22 : vs 22 = .int .i64 z := h12_22
        replace h12_24 : vs 24 = .int .i64 z := h12_24
        replace h12_26 : vs 26 = .bool true := h12_26
        replace h12_27 : vs 27 = .bool true := h12_27
        replace h12_28 : vs 28 = .bool true := h12_28
        replace h12_29 : vs 29 = .bool true := h12_29
        simp only [h12_0, h12_1, h12_2, h12_3, h12_4, h12_5, h12_6, h12_7, h12_8, h12_9, h12_10, h12_11, h12_12, h12_13, h12_14, h12_15, h12_16, h12_17, h12_18, h12_19, h12_20, h12_21, h12_22, h12_24, h12_26, h12_27, h12_28, h12_29]
        replace h12_23 : Rw W12 (vs 23) ((z : Rat)) := h12_23
        generalize vs 23 = u12_23 at h12_23 ⊢
        replace h12_25 : Rw W12 (vs 25) ((z : Rat)) := h12_25
        generalize vs 25 = u12_25 at h12_25 ⊢
        clear h12_0 h12_1 h12_2 h12_3 h12_4 h12_5 h12_6 h12_7 h12_8 h12_9 h12_10 h12_11 h12_12 h12_13 h12_14 h12_15 h12_16 h12_17 h12_18 h12_19 h12_20 h12_21 h12_22 h12_24 h12_26 h12_27 h12_28 h12_29
        have kp3_0 := p3.cell0
        have kp3_1 := p3.cell1
        have kp3_2 := p3.cell2
        have kp4_0 := p4.cell0
        have kp4_1 := p4.cell1
        have kp7_7_0 := p7_7.cell0
        have kp7_7_1 := p7_7.cell1
        have kp7_7_2 := p7_7.cell2
        have kp8_7_0 := p8_7.cell0
        have kp8_7_1 := p8_7.cell1
        have kp8_7_2 := p8_7.cell2
        go_wp2
        go_ret
        exact ⟨rfl, E0⟩

end Go.Rt
