/-
 The laws of chapter 06 (dyads): Order.
-/
import Derived.Test.YtnldjpnjifnbeaaSqz
import Derived.Test.YtnldjpnjifnbeaaDyadD
namespace Go.Rt
open Go Go.RowKit Go.Proofs


set_option maxRecDepth 100000 in
set_option maxHeartbeats 16000000 in
theorem Try.lawDyadOrder {b1 : Bool} {a1 : Option Addr} {n1 c1 : Nat} {d1 : Option Addr} {m1 o1 : Nat} {xs1 ys1 : List Nat} {b2 : Bool} {a2 : Option Addr} {n2 c2 : Nat} {d2 : Option Addr} {m2 o2 : Nat} {xs2 ys2 : List Nat} {w : World} (h1 : Nt w (.slice a1 n1 c1) xs1) (k1 : Nt w (.slice d1 m1 o1) ys1) (h2 : Nt w (.slice a2 n2 c2) xs2) (k2 : Nt w (.slice d2 m2 o2) ys2) (kk : Int) :
  Calls Try.prog 5 #[.agg #[.bool b1, .slice a1 n1 c1, .slice d1 m1 o1], .agg #[.bool b2, .slice a2 n2 c2, .slice d2 m2 o2], .int .i64 kk] w fun e w' => e = .returned (.bool true) ∧ Ext w w' := by
 cases hg0 : fewR b1 xs1 ys1 ((4 : Nat) : Int)
 ·have HG0 := Lib.hid hg0
  clear hg0
  obtain ⟨W0, hW0⟩ : ∃ W0, W0 = ((w.alloc (.cells #[.bool b1, .slice a1 n1 c1, .slice d1 m1 o1] 27)).alloc (.cells #[.bool b2, .slice a2 n2 c2, .slice d2 m2 o2] 27)) := ⟨_, rfl⟩
  have E0 : Ext w W0 := by rw [hW0]; exact ((Ext.alloc1 w (.cells #[.bool b1, .slice a1 n1 c1, .slice d1 m1 o1] 27)).alloc (.cells #[.bool b2, .slice a2 n2 c2, .slice d2 m2 o2] 27))
  replace h1 : Nt W0 (.slice a1 n1 c1) xs1 := h1.ext E0
  replace k1 : Nt W0 (.slice d1 m1 o1) ys1 := k1.ext E0
  replace h2 : Nt W0 (.slice a2 n2 c2) xs2 := h2.ext E0
  replace k2 : Nt W0 (.slice d2 m2 o2) ys2 := k2.ext E0
  have p3 : Bx3 W0 w.heap.size 27 (.bool b1) (.slice a1 n1 c1) (.slice d1 m1 o1) := by rw [hW0]; exact (Bx3.new w 27 (.bool b1) (.slice a1 n1 c1) (.slice d1 m1 o1)).ext (Ext.alloc1 (w.alloc (.cells #[.bool b1, .slice a1 n1 c1, .slice d1 m1 o1] 27)) (.cells #[.bool b2, .slice a2 n2 c2, .slice d2 m2 o2] 27))
  have p4 : Bx3 W0 (w.heap.size + 1) 27 (.bool b2) (.slice a2 n2 c2) (.slice d2 m2 o2) := by rw [hW0]; simpa using (Bx3.new (w.alloc (.cells #[.bool b1, .slice a1 n1 c1, .slice d1 m1 o1] 27)) 27 (.bool b2) (.slice a2 n2 c2) (.slice d2 m2 o2))
  go_enter Try.func5, Try.ntmps5
  obtain ⟨kp3_0, kp3_1, kp3_2⟩ := p3.c3
  obtain ⟨kp4_0, kp4_1, kp4_2⟩ := p4.c3
  go_wp2_with fail
  rw [← hW0]
  clear hW0; clear kp3_0 kp3_1 kp3_2 kp4_0 kp4_1 kp4_2
  refine (Try.refRFew h1 k1 4 (by omega)).mono ?_
  rintro e Wf0 ⟨rfl, hE⟩
  rw [HG0.out]; replace E0 := (Ext.trans E0 hE); replace h1 := (h1.ext hE)
  replace k1 := (k1.ext hE)
  replace h2 := (h2.ext hE)
  replace k2 := (k2.ext hE)
  replace p3 := (p3.ext hE); replace p4 := (p4.ext hE); clear hE
  obtain ⟨kp3_0, kp3_1, kp3_2⟩ := p3.c3
  obtain ⟨kp4_0, kp4_1, kp4_2⟩ := p4.c3
  go_wp2_with fail
  clear kp3_0 kp3_1 kp3_2 kp4_0 kp4_1 kp4_2
  refine (Try.alive06 _).mono ?_
  rintro e We ⟨rfl, hE⟩
  replace E0 := (Ext.trans E0 hE); replace h1 := (h1.ext hE)
  replace k1 := (k1.ext hE)
  replace h2 := (h2.ext hE)
  replace k2 := (k2.ext hE)
  replace p3 := (p3.ext hE); replace p4 := (p4.ext hE); clear hE
  obtain ⟨kp3_0, kp3_1, kp3_2⟩ := p3.c3
  obtain ⟨kp4_0, kp4_1, kp4_2⟩ := p4.c3
  go_wp2; go_ret
  exact ⟨rfl, E0⟩
 ·have HG0 := Lib.hid hg0
  clear hg0
  obtain ⟨W0, hW0⟩ : ∃ W0, W0 = ((w.alloc (.cells #[.bool b1, .slice a1 n1 c1, .slice d1 m1 o1] 27)).alloc (.cells #[.bool b2, .slice a2 n2 c2, .slice d2 m2 o2] 27)) := ⟨_, rfl⟩
  have E0 : Ext w W0 := by rw [hW0]; exact ((Ext.alloc1 w (.cells #[.bool b1, .slice a1 n1 c1, .slice d1 m1 o1] 27)).alloc (.cells #[.bool b2, .slice a2 n2 c2, .slice d2 m2 o2] 27))
  replace h1 : Nt W0 (.slice a1 n1 c1) xs1 := h1.ext E0
  replace k1 : Nt W0 (.slice d1 m1 o1) ys1 := k1.ext E0
  replace h2 : Nt W0 (.slice a2 n2 c2) xs2 := h2.ext E0
  replace k2 : Nt W0 (.slice d2 m2 o2) ys2 := k2.ext E0
  have p3 : Bx3 W0 w.heap.size 27 (.bool b1) (.slice a1 n1 c1) (.slice d1 m1 o1) := by rw [hW0]; exact (Bx3.new w 27 (.bool b1) (.slice a1 n1 c1) (.slice d1 m1 o1)).ext (Ext.alloc1 (w.alloc (.cells #[.bool b1, .slice a1 n1 c1, .slice d1 m1 o1] 27)) (.cells #[.bool b2, .slice a2 n2 c2, .slice d2 m2 o2] 27))
  have p4 : Bx3 W0 (w.heap.size + 1) 27 (.bool b2) (.slice a2 n2 c2) (.slice d2 m2 o2) := by rw [hW0]; simpa using (Bx3.new (w.alloc (.cells #[.bool b1, .slice a1 n1 c1, .slice d1 m1 o1] 27)) 27 (.bool b2) (.slice a2 n2 c2) (.slice d2 m2 o2))
  go_enter Try.func5, Try.ntmps5
  obtain ⟨kp3_0, kp3_1, kp3_2⟩ := p3.c3
  obtain ⟨kp4_0, kp4_1, kp4_2⟩ := p4.c3
  go_wp2_with fail
  rw [← hW0]
  clear hW0; clear kp3_0 kp3_1 kp3_2 kp4_0 kp4_1 kp4_2
  refine (Try.refRFew h1 k1 4 (by omega)).mono ?_
  rintro e Wf0 ⟨rfl, hE⟩
  rw [HG0.out]; replace E0 := (Ext.trans E0 hE); replace h1 := (h1.ext hE)
  replace k1 := (k1.ext hE)
  replace h2 := (h2.ext hE)
  replace k2 := (k2.ext hE)
  replace p3 := (p3.ext hE); replace p4 := (p4.ext hE); clear hE
  cases hg1 : fewR b2 xs2 ys2 ((4 : Nat) : Int)
  ·have HG1 := Lib.hid hg1
   clear hg1
   obtain ⟨kp3_0, kp3_1, kp3_2⟩ := p3.c3
   obtain ⟨kp4_0, kp4_1, kp4_2⟩ := p4.c3
   go_wp2_with fail
   clear kp3_0 kp3_1 kp3_2 kp4_0 kp4_1 kp4_2
   refine (Try.refRFew h2 k2 4 (by omega)).mono ?_
   rintro e Wf1 ⟨rfl, hE⟩
   rw [HG1.out]; replace E0 := (Ext.trans E0 hE); replace h1 := (h1.ext hE)
   replace k1 := (k1.ext hE)
   replace h2 := (h2.ext hE)
   replace k2 := (k2.ext hE)
   replace p3 := (p3.ext hE); replace p4 := (p4.ext hE); clear hE
   obtain ⟨kp3_0, kp3_1, kp3_2⟩ := p3.c3
   obtain ⟨kp4_0, kp4_1, kp4_2⟩ := p4.c3
   go_wp2_with fail
   clear kp3_0 kp3_1 kp3_2 kp4_0 kp4_1 kp4_2
   refine (Try.alive06 _).mono ?_
   rintro e We ⟨rfl, hE⟩
   replace E0 := (Ext.trans E0 hE); replace h1 := (h1.ext hE)
   replace k1 := (k1.ext hE)
   replace h2 := (h2.ext hE)
   replace k2 := (k2.ext hE)
   replace p3 := (p3.ext hE); replace p4 := (p4.ext hE); clear hE
   obtain ⟨kp3_0, kp3_1, kp3_2⟩ := p3.c3
   obtain ⟨kp4_0, kp4_1, kp4_2⟩ := p4.c3
   go_wp2; go_ret
   exact ⟨rfl, E0⟩
  ·have HG1 := Lib.hid hg1
   clear hg1
   obtain ⟨kp3_0, kp3_1, kp3_2⟩ := p3.c3
   obtain ⟨kp4_0, kp4_1, kp4_2⟩ := p4.c3
   go_wp2_with fail
   clear kp3_0 kp3_1 kp3_2 kp4_0 kp4_1 kp4_2
   refine (Try.refRFew h2 k2 4 (by omega)).mono ?_
   rintro e Wf1 ⟨rfl, hE⟩
   rw [HG1.out]; replace E0 := (Ext.trans E0 hE); replace h1 := (h1.ext hE)
   replace k1 := (k1.ext hE)
   replace h2 := (h2.ext hE)
   replace k2 := (k2.ext hE)
   replace p3 := (p3.ext hE); replace p4 := (p4.ext hE); clear hE
   obtain ⟨x, hx1, s1⟩ := fewR_rw (L := 4) h1 k1 HG0.out
   clear h1 k1 HG0
   obtain ⟨y, hx2, s2⟩ := fewR_rw (L := 4) h2 k2 HG1.out
   clear h2 k2 HG1
   by_cases hk0 : kk < 0
   ·have hk0d := decide_eq_true hk0
    obtain ⟨kp3_0, kp3_1, kp3_2⟩ := p3.c3
    obtain ⟨kp4_0, kp4_1, kp4_2⟩ := p4.c3
    go_wp2_with fail
    clear kp3_0 kp3_1 kp3_2 kp4_0 kp4_1 kp4_2
    refine (Try.alive06 _).mono ?_
    rintro e We ⟨rfl, hE⟩
    replace E0 := (Ext.trans E0 hE); replace p3 := (p3.ext hE); replace p4 := (p4.ext hE); replace hx1 := (hx1.ext hE); replace hx2 := (hx2.ext hE); clear hE
    obtain ⟨kp3_0, kp3_1, kp3_2⟩ := p3.c3
    obtain ⟨kp4_0, kp4_1, kp4_2⟩ := p4.c3
    go_wp2; go_ret
    exact ⟨rfl, E0⟩
   ·have hk0d := decide_eq_false hk0
    by_cases hk4 : 400 < kk
    ·have hk4d := decide_eq_true hk4
     obtain ⟨kp3_0, kp3_1, kp3_2⟩ := p3.c3
     obtain ⟨kp4_0, kp4_1, kp4_2⟩ := p4.c3
     go_wp2_with fail
     clear kp3_0 kp3_1 kp3_2 kp4_0 kp4_1 kp4_2
     refine (Try.alive06 _).mono ?_
     rintro e We ⟨rfl, hE⟩
     replace E0 := (Ext.trans E0 hE); replace p3 := (p3.ext hE); replace p4 := (p4.ext hE); replace hx1 := (hx1.ext hE); replace hx2 := (hx2.ext hE); clear hE
     obtain ⟨kp3_0, kp3_1, kp3_2⟩ := p3.c3
     obtain ⟨kp4_0, kp4_1, kp4_2⟩ := p4.c3
     go_wp2; go_ret
     exact ⟨rfl, E0⟩
    ·have hk4d := decide_eq_false hk4
     obtain ⟨K, rfl⟩ := Int.eq_ofNat_of_zero_le (show 0 ≤ kk by omega)
     have hKb : K ≤ 400 := by omega
     have hk4n : ¬ 400 < K := by omega
     have hk0n : 0 ≤ K := Nat.zero_le K
     obtain ⟨F, hF_⟩ : ∃ F : Int, (x * P2 K).floor = F := ⟨_, rfl⟩
     obtain ⟨C, hC_⟩ : ∃ C : Int, (x * P2 K).ceil = C := ⟨_, rfl⟩
     obtain ⟨M, hM_⟩ : ∃ M : Int, nearR (x * P2 K) = M := ⟨_, rfl⟩
     obtain ⟨G, hG_⟩ : ∃ G : Int, (y * P2 K).floor = G := ⟨_, rfl⟩
     obtain ⟨J, hJ_⟩ : ∃ J : Int, (y * P2 K).ceil = J := ⟨_, rfl⟩
     obtain ⟨N, hN_⟩ : ∃ N : Int, nearR (y * P2 K) = N := ⟨_, rfl⟩
     obtain ⟨e1, he1_⟩ : ∃ e1 : Int, cmpI F G = e1 := ⟨_, rfl⟩
     obtain ⟨e2, he2_⟩ : ∃ e2 : Int, cmpI C J = e2 := ⟨_, rfl⟩
     obtain ⟨e3, he3_⟩ : ∃ e3 : Int, cmpI M N = e3 := ⟨_, rfl⟩
     obtain ⟨e4, he4_⟩ : ∃ e4 : Int, cmpR x y = e4 := ⟨_, rfl⟩
     have HF1 := Lib.hid hF_
     have HCe1 := Lib.hid hC_
     have HN1 := Lib.hid hM_
     have HF2 := Lib.hid hG_
     have HCe2 := Lib.hid hJ_
     have HN2 := Lib.hid hN_
     have HC1 := Lib.hid he1_
     have HC2 := Lib.hid he2_
     have HC3 := Lib.hid he3_
     have HC4 := Lib.hid he4_
     have HNF : Hid ((-x * P2 K).ceil = -F) := Lib.hid (by rw [neg_floor, hF_])
     have HNN : Hid (nearR (-x * P2 K) = -M) := Lib.hid (by rw [neg_near, hM_])
     have h14 : e4 ≤ 0 → e1 ≤ 0 ∧ e2 ≤ 0 ∧ e3 ≤ 0 := by
      rw [← he4_, cmpR_le0]
      intro hle
      have hu := scale_up K hle
      rw [← he1_, ← he2_, ← he3_, cmpI_le0, cmpI_le0, cmpI_le0, ← hF_, ← hG_, ← hC_, ← hJ_, ← hM_, ← hN_]
      exact ⟨floor_up hu, ceil_up hu, near_mono hu⟩
     clear hF_ hC_ hM_ hG_ hJ_ hN_ he1_ he2_ he3_ he4_
     have H14 := Lib.hid h14
     clear h14
     have sN := Lib.hid s1.neg
     obtain ⟨kp3_0, kp3_1, kp3_2⟩ := p3.c3
     obtain ⟨kp4_0, kp4_1, kp4_2⟩ := p4.c3
     go_upto_region 3 with (fail)
     clear kp3_0 kp3_1 kp3_2 kp4_0 kp4_1 kp4_2; have ltp3 := p3.lt; have ltp4 := p4.lt; have szw79 := Ext.size E0
     refine region_gs [.one fun v _ => v = .agg #[.bool b1, .slice a1 n1 c1, .slice d1 m1 o1],
       .one fun v _ => v = .int .i64 (K : Int),
       .one fun v W => ∃ v', v = .tuple #[v', .int .i64 0] ∧ (fun v W => Zw W v F) v' W,
       .one fun v W => ∃ v', v = .tuple #[v', .int .i64 0] ∧ (fun v W => Zw W v F) v' W,
       .one fun v W => Zw W v F,
       .one fun v _ => v = .int .i64 0,
       .one fun v W => ∃ g, v = .pointer (some ⟨g, 0, none⟩) ∧ Wf1.heap.size ≤ g ∧ Form W g 25 2,
       .three 6 4 (fun p r _ W => Put2 Wf1.heap.size 25 p r W),
       .one fun v _ => v = .int .i64 0]
      (fun W => Ext w W ∧ Bx3 W w.heap.size 27 (.bool b1) (.slice a1 n1 c1) (.slice d1 m1 o1) ∧ Bx3 W (w.heap.size + 1) 27 (.bool b2) (.slice a2 n2 c2) (.slice d2 m2 o2) ∧ Rw W (.agg #[.bool b1, .slice a1 n1 c1, .slice d1 m1 o1]) x ∧ Rw W (.agg #[.bool b2, .slice a2 n2 c2, .slice d2 m2 o2]) y ∧ Wf1.heap.size ≤ W.heap.size) ⟨Good.is _, Good.is _, (Good.zed _).tup _, (Good.zed _).tup _, Good.zed _, Good.is _, Good.box _ _ _, cert_put2, Good.is _, trivial⟩
      ⟨E0, p3, p4, hx1, hx2, Nat.le_refl _⟩ (A := ?A79) ?hA79 ?howe79 ?hfin79
     case hA79 =>
      intro vs
      simp only [putAll, Act.put, sA, sZ, sS, Nat.zero_add, Nat.reduceAdd]
      exact rfl
     case howe79 =>
      clear E0 p3 p4 hx1 hx2
      intro hf
      refine ⟨oE 0 [] hf rfl ?_, oE 1 [] hf rfl ?_, oE 2 [0, 1] hf rfl ?_, oE 3 [2] hf rfl ?_, oE 4 [3] hf rfl ?_, oE 5 [3] hf rfl ?_, oE 6 [] hf rfl ?_, oW 7 [6, 4] hf rfl ?_, oE 8 [5] hf rfl ?_, trivial⟩
      all_goals intro vs W hS hp hx KO hKO
      all_goals simp only [Act.put, sA, sZ, sS] at hKO
      ·have fc0 := hS.2.1.cell0; have fc1 := hS.2.1.cell1; have fc2 := hS.2.1.cell2; go_simp; exact hKO _ W (.refl W) rfl
      ·go_simp; exact hKO _ W (.refl W) rfl
      ·have e0 := isOf hp.1; have e1 := isOf hp.2.1; simp only [e0, e1] at hKO; go_simp
       refine (Try.dyadFloor (hS.2.2.2.1) s1 (by omega) K (by omega)).mono ?_
       rintro e W1 ⟨v, rfl, hv, hE⟩
       rw [HF1.out] at hv
       exact hKO _ W1 hE ⟨_, rfl, hv⟩
      ·have q2 := hp.1
       obtain ⟨u, ev, hu⟩ := q2
       replace ev : vs 2 = _ := ev; simp only [ev] at hKO; go_simp; exact hKO _ W (Ext.refl W) ⟨u, rfl, hu⟩
      ·have q3 := hp.1
       obtain ⟨u, ev, hu⟩ := q3
       replace ev : vs 3 = _ := ev; simp only [ev] at hKO; go_simp; exact hKO _ W (Ext.refl W) hu
      ·have q3 := hp.1
       obtain ⟨u, ev, hu⟩ := q3
       replace ev : vs 3 = _ := ev; simp only [ev] at hKO; go_simp; exact hKO _ W (.refl W) rfl
      ·have hn := Bx2.new W 25 (.bool false) (.slice none 0 0)
       have hE := Ext.alloc1 W (.cells #[.bool false, .slice none 0 0] 25)
       have hsz := hS.2.2.2.2.2
       go_simp
       exact hKO _ _ hE ⟨_, rfl, hsz, hn.form⟩
      ·have q6 := hp.1; have q4 := hp.2.1
       obtain ⟨g, ev, hg, hf⟩ := q6
       replace ev : vs 6 = _ := ev
       obtain ⟨x0_0, x0_1, hx, hno⟩ := hf.bx2
       have qr := q4
       obtain ⟨b3, a3, n3, c3, er, -, -⟩ := qr
       replace er : vs 4 = _ := er
       have r0 := hx.froz0
       have t0 := hx.cell0
       have r1 := hx.froz1
       have t1 := hx.cell1
       have hw := Wr.set2 hx hno b3 a3 n3 c3
       have hq := hx.set (.bool b3) (.slice a3 n3 c3)
       simp only [ev, er] at hKO; go_simp
       exact hKO _ _ hw ⟨(Ext.wr hS.1 hw (by omega)), (hS.2.1.wr hw (by omega)), (hS.2.2.1.wr hw (by omega)), (hS.2.2.2.1.wr hw), (hS.2.2.2.2.1.wr hw), (Nat.le_trans hS.2.2.2.2.2 hw.apart.size)⟩ ⟨g, b3, a3, n3, c3, ev, er, hg, hq⟩
      ·have e5 := isOf hp.1; simp only [e5] at hKO; go_simp; exact hKO _ W (.refl W) rfl
     intro vs W79 hS hp
     clear szw79 E0 p3 p4 hx1 hx2
     obtain ⟨E0, p3, p4, hx1, hx2, sz79⟩ := hS
     obtain ⟨h79_0, h79_1, h79_2, h79_3, h79_4, h79_5, h79_6, h79_7, h79_8, -⟩ := hp
     obtain ⟨g79_7, b79_7, a79_7, n79_7, c79_7, ev79_7, er79_7, hg79_7, p79_7⟩ := h79_7
     replace ev79_7 : vs 6 = _ := ev79_7; replace er79_7 : vs 4 = _ := er79_7; replace h79_4 := (show Zw W79 (vs 4) F from h79_4)
     rw [er79_7] at h79_4
     replace h79_0 : vs 0 = .agg #[.bool b1, .slice a1 n1 c1, .slice d1 m1 o1] := h79_0
     replace h79_1 : vs 1 = .int .i64 (K : Int) := h79_1
     replace h79_5 : vs 5 = .int .i64 0 := h79_5
     replace h79_8 : vs 8 = .int .i64 0 := h79_8
     simp only [ev79_7, er79_7, h79_0, h79_1, h79_5, h79_8]
     clear ev79_7 er79_7 h79_0 h79_1 h79_5 h79_8 h79_2 h79_3 h79_6
     obtain ⟨kp3_0, kp3_1, kp3_2⟩ := p3.c3
     obtain ⟨kp4_0, kp4_1, kp4_2⟩ := p4.c3
     obtain ⟨kp79_7_0, kp79_7_1⟩ := p79_7.c2
     go_upto_region 4 with (fail)
     clear kp3_0 kp3_1 kp3_2 kp4_0 kp4_1 kp4_2 kp79_7_0 kp79_7_1; have ltp79_7 := p79_7.lt; have szw80 := Ext.size E0
     refine region_gs [.one fun v _ => v = .agg #[.bool b1, .slice a1 n1 c1, .slice d1 m1 o1],
       .one fun v _ => v = .int .i64 (K : Int),
       .one fun v W => ∃ v', v = .tuple #[v', .int .i64 0] ∧ (fun v W => Zw W v C) v' W,
       .one fun v W => ∃ v', v = .tuple #[v', .int .i64 0] ∧ (fun v W => Zw W v C) v' W,
       .one fun v W => Zw W v C,
       .one fun v _ => v = .int .i64 0,
       .one fun v W => ∃ g, v = .pointer (some ⟨g, 0, none⟩) ∧ W79.heap.size ≤ g ∧ Form W g 25 2,
       .three 6 4 (fun p r _ W => Put2 W79.heap.size 25 p r W),
       .one fun v _ => v = .int .i64 0]
      (fun W => Ext w W ∧ Bx3 W w.heap.size 27 (.bool b1) (.slice a1 n1 c1) (.slice d1 m1 o1) ∧ Bx3 W (w.heap.size + 1) 27 (.bool b2) (.slice a2 n2 c2) (.slice d2 m2 o2) ∧ Rw W (.agg #[.bool b1, .slice a1 n1 c1, .slice d1 m1 o1]) x ∧ Rw W (.agg #[.bool b2, .slice a2 n2 c2, .slice d2 m2 o2]) y ∧ Zw W (.agg #[.bool b79_7, .slice a79_7 n79_7 c79_7]) F ∧ Bx2 W g79_7 25 (.bool b79_7) (.slice a79_7 n79_7 c79_7) ∧ W79.heap.size ≤ W.heap.size) ⟨Good.is _, Good.is _, (Good.zed _).tup _, (Good.zed _).tup _, Good.zed _, Good.is _, Good.box _ _ _, cert_put2, Good.is _, trivial⟩
      ⟨E0, p3, p4, hx1, hx2, h79_4, p79_7, Nat.le_refl _⟩ (A := ?A80) ?hA80 ?howe80 ?hfin80
     case hA80 =>
      intro vs
      simp only [putAll, Act.put, sA, sZ, sS, Nat.zero_add, Nat.reduceAdd]
      exact rfl
     case howe80 =>
      clear E0 p3 p4 hx1 hx2 h79_4 p79_7
      intro hf
      refine ⟨oE 0 [] hf rfl ?_, oE 1 [] hf rfl ?_, oE 2 [0, 1] hf rfl ?_, oE 3 [2] hf rfl ?_, oE 4 [3] hf rfl ?_, oE 5 [3] hf rfl ?_, oE 6 [] hf rfl ?_, oW 7 [6, 4] hf rfl ?_, oE 8 [5] hf rfl ?_, trivial⟩
      all_goals intro vs W hS hp hx KO hKO
      all_goals simp only [Act.put, sA, sZ, sS] at hKO
      ·have fc0 := hS.2.1.cell0; have fc1 := hS.2.1.cell1; have fc2 := hS.2.1.cell2; go_simp; exact hKO _ W (.refl W) rfl
      ·go_simp; exact hKO _ W (.refl W) rfl
      ·have e0 := isOf hp.1; have e1 := isOf hp.2.1; simp only [e0, e1] at hKO; go_simp
       refine (Try.dyadCeil (hS.2.2.2.1) s1 (by omega) K (by omega)).mono ?_
       rintro e W1 ⟨v, rfl, hv, hE⟩
       rw [HCe1.out] at hv
       exact hKO _ W1 hE ⟨_, rfl, hv⟩
      ·have q2 := hp.1
       obtain ⟨u, ev, hu⟩ := q2
       replace ev : vs 2 = _ := ev; simp only [ev] at hKO; go_simp; exact hKO _ W (Ext.refl W) ⟨u, rfl, hu⟩
      ·have q3 := hp.1
       obtain ⟨u, ev, hu⟩ := q3
       replace ev : vs 3 = _ := ev; simp only [ev] at hKO; go_simp; exact hKO _ W (Ext.refl W) hu
      ·have q3 := hp.1
       obtain ⟨u, ev, hu⟩ := q3
       replace ev : vs 3 = _ := ev; simp only [ev] at hKO; go_simp; exact hKO _ W (.refl W) rfl
      ·have hn := Bx2.new W 25 (.bool false) (.slice none 0 0)
       have hE := Ext.alloc1 W (.cells #[.bool false, .slice none 0 0] 25)
       have hsz := hS.2.2.2.2.2.2.2
       go_simp
       exact hKO _ _ hE ⟨_, rfl, hsz, hn.form⟩
      ·have q6 := hp.1; have q4 := hp.2.1
       obtain ⟨g, ev, hg, hf⟩ := q6
       replace ev : vs 6 = _ := ev
       obtain ⟨x0_0, x0_1, hx, hno⟩ := hf.bx2
       have qr := q4
       obtain ⟨b3, a3, n3, c3, er, -, -⟩ := qr
       replace er : vs 4 = _ := er
       have r0 := hx.froz0
       have t0 := hx.cell0
       have r1 := hx.froz1
       have t1 := hx.cell1
       have hw := Wr.set2 hx hno b3 a3 n3 c3
       have hq := hx.set (.bool b3) (.slice a3 n3 c3)
       simp only [ev, er] at hKO; go_simp
       exact hKO _ _ hw ⟨(Ext.wr hS.1 hw (by omega)), (hS.2.1.wr hw (by omega)), (hS.2.2.1.wr hw (by omega)), (hS.2.2.2.1.wr hw), (hS.2.2.2.2.1.wr hw), (hS.2.2.2.2.2.1.wr hw), (hS.2.2.2.2.2.2.1.wr hw (by omega)), (Nat.le_trans hS.2.2.2.2.2.2.2 hw.apart.size)⟩ ⟨g, b3, a3, n3, c3, ev, er, hg, hq⟩
      ·have e5 := isOf hp.1; simp only [e5] at hKO; go_simp; exact hKO _ W (.refl W) rfl
     intro vs W80 hS hp
     clear szw80 E0 p3 p4 hx1 hx2 h79_4 p79_7
     obtain ⟨E0, p3, p4, hx1, hx2, h79_4, p79_7, sz80⟩ := hS
     obtain ⟨h80_0, h80_1, h80_2, h80_3, h80_4, h80_5, h80_6, h80_7, h80_8, -⟩ := hp
     obtain ⟨g80_7, b80_7, a80_7, n80_7, c80_7, ev80_7, er80_7, hg80_7, p80_7⟩ := h80_7
     replace ev80_7 : vs 6 = _ := ev80_7; replace er80_7 : vs 4 = _ := er80_7; replace h80_4 := (show Zw W80 (vs 4) C from h80_4)
     rw [er80_7] at h80_4
     replace h80_0 : vs 0 = .agg #[.bool b1, .slice a1 n1 c1, .slice d1 m1 o1] := h80_0
     replace h80_1 : vs 1 = .int .i64 (K : Int) := h80_1
     replace h80_5 : vs 5 = .int .i64 0 := h80_5
     replace h80_8 : vs 8 = .int .i64 0 := h80_8
     simp only [ev80_7, er80_7, h80_0, h80_1, h80_5, h80_8]
     clear ev80_7 er80_7 h80_0 h80_1 h80_5 h80_8 h80_2 h80_3 h80_6
     obtain ⟨kp3_0, kp3_1, kp3_2⟩ := p3.c3
     obtain ⟨kp4_0, kp4_1, kp4_2⟩ := p4.c3
     obtain ⟨kp79_7_0, kp79_7_1⟩ := p79_7.c2
     obtain ⟨kp80_7_0, kp80_7_1⟩ := p80_7.c2
     go_upto_region 5 with (fail)
     clear kp3_0 kp3_1 kp3_2 kp4_0 kp4_1 kp4_2 kp79_7_0 kp79_7_1 kp80_7_0 kp80_7_1; have ltp80_7 := p80_7.lt; have szw81 := Ext.size E0
     refine region_gs [.one fun v _ => v = .agg #[.bool b1, .slice a1 n1 c1, .slice d1 m1 o1],
       .one fun v _ => v = .int .i64 (K : Int),
       .one fun v W => ∃ v', v = .tuple #[v', .int .i64 0] ∧ (fun v W => Zw W v M) v' W,
       .one fun v W => ∃ v', v = .tuple #[v', .int .i64 0] ∧ (fun v W => Zw W v M) v' W,
       .one fun v W => Zw W v M,
       .one fun v _ => v = .int .i64 0,
       .one fun v W => ∃ g, v = .pointer (some ⟨g, 0, none⟩) ∧ W80.heap.size ≤ g ∧ Form W g 25 2,
       .three 6 4 (fun p r _ W => Put2 W80.heap.size 25 p r W),
       .one fun v _ => v = .int .i64 0]
      (fun W => Ext w W ∧ Bx3 W w.heap.size 27 (.bool b1) (.slice a1 n1 c1) (.slice d1 m1 o1) ∧ Bx3 W (w.heap.size + 1) 27 (.bool b2) (.slice a2 n2 c2) (.slice d2 m2 o2) ∧ Rw W (.agg #[.bool b1, .slice a1 n1 c1, .slice d1 m1 o1]) x ∧ Rw W (.agg #[.bool b2, .slice a2 n2 c2, .slice d2 m2 o2]) y ∧ Zw W (.agg #[.bool b79_7, .slice a79_7 n79_7 c79_7]) F ∧ Bx2 W g79_7 25 (.bool b79_7) (.slice a79_7 n79_7 c79_7) ∧ Zw W (.agg #[.bool b80_7, .slice a80_7 n80_7 c80_7]) C ∧ Bx2 W g80_7 25 (.bool b80_7) (.slice a80_7 n80_7 c80_7) ∧ W80.heap.size ≤ W.heap.size) ⟨Good.is _, Good.is _, (Good.zed _).tup _, (Good.zed _).tup _, Good.zed _, Good.is _, Good.box _ _ _, cert_put2, Good.is _, trivial⟩
      ⟨E0, p3, p4, hx1, hx2, h79_4, p79_7, h80_4, p80_7, Nat.le_refl _⟩ (A := ?A81) ?hA81 ?howe81 ?hfin81
     case hA81 =>
      intro vs
      simp only [putAll, Act.put, sA, sZ, sS, Nat.zero_add, Nat.reduceAdd]
      exact rfl
     case howe81 =>
      clear E0 p3 p4 hx1 hx2 h79_4 p79_7 h80_4 p80_7
      intro hf
      refine ⟨oE 0 [] hf rfl ?_, oE 1 [] hf rfl ?_, oE 2 [0, 1] hf rfl ?_, oE 3 [2] hf rfl ?_, oE 4 [3] hf rfl ?_, oE 5 [3] hf rfl ?_, oE 6 [] hf rfl ?_, oW 7 [6, 4] hf rfl ?_, oE 8 [5] hf rfl ?_, trivial⟩
      all_goals intro vs W hS hp hx KO hKO
      all_goals simp only [Act.put, sA, sZ, sS] at hKO
      ·have fc0 := hS.2.1.cell0; have fc1 := hS.2.1.cell1; have fc2 := hS.2.1.cell2; go_simp; exact hKO _ W (.refl W) rfl
      ·go_simp; exact hKO _ W (.refl W) rfl
      ·have e0 := isOf hp.1; have e1 := isOf hp.2.1; simp only [e0, e1] at hKO; go_simp
       refine (Try.dyadNear (hS.2.2.2.1) s1 (by omega) K (by omega)).mono ?_
       rintro e W1 ⟨v, rfl, hv, hE⟩
       rw [HN1.out] at hv
       exact hKO _ W1 hE ⟨_, rfl, hv⟩
      ·have q2 := hp.1
       obtain ⟨u, ev, hu⟩ := q2
       replace ev : vs 2 = _ := ev; simp only [ev] at hKO; go_simp; exact hKO _ W (Ext.refl W) ⟨u, rfl, hu⟩
      ·have q3 := hp.1
       obtain ⟨u, ev, hu⟩ := q3
       replace ev : vs 3 = _ := ev; simp only [ev] at hKO; go_simp; exact hKO _ W (Ext.refl W) hu
      ·have q3 := hp.1
       obtain ⟨u, ev, hu⟩ := q3
       replace ev : vs 3 = _ := ev; simp only [ev] at hKO; go_simp; exact hKO _ W (.refl W) rfl
      ·have hn := Bx2.new W 25 (.bool false) (.slice none 0 0)
       have hE := Ext.alloc1 W (.cells #[.bool false, .slice none 0 0] 25)
       have hsz := hS.2.2.2.2.2.2.2.2.2
       go_simp
       exact hKO _ _ hE ⟨_, rfl, hsz, hn.form⟩
      ·have q6 := hp.1; have q4 := hp.2.1
       obtain ⟨g, ev, hg, hf⟩ := q6
       replace ev : vs 6 = _ := ev
       obtain ⟨x0_0, x0_1, hx, hno⟩ := hf.bx2
       have qr := q4
       obtain ⟨b3, a3, n3, c3, er, -, -⟩ := qr
       replace er : vs 4 = _ := er
       have r0 := hx.froz0
       have t0 := hx.cell0
       have r1 := hx.froz1
       have t1 := hx.cell1
       have hw := Wr.set2 hx hno b3 a3 n3 c3
       have hq := hx.set (.bool b3) (.slice a3 n3 c3)
       simp only [ev, er] at hKO; go_simp
       exact hKO _ _ hw ⟨(Ext.wr hS.1 hw (by omega)), (hS.2.1.wr hw (by omega)), (hS.2.2.1.wr hw (by omega)), (hS.2.2.2.1.wr hw), (hS.2.2.2.2.1.wr hw), (hS.2.2.2.2.2.1.wr hw), (hS.2.2.2.2.2.2.1.wr hw (by omega)), (hS.2.2.2.2.2.2.2.1.wr hw), (hS.2.2.2.2.2.2.2.2.1.wr hw (by omega)), (Nat.le_trans hS.2.2.2.2.2.2.2.2.2 hw.apart.size)⟩ ⟨g, b3, a3, n3, c3, ev, er, hg, hq⟩
      ·have e5 := isOf hp.1; simp only [e5] at hKO; go_simp; exact hKO _ W (.refl W) rfl
     intro vs W81 hS hp
     clear szw81 E0 p3 p4 hx1 hx2 h79_4 p79_7 h80_4 p80_7
     obtain ⟨E0, p3, p4, hx1, hx2, h79_4, p79_7, h80_4, p80_7, sz81⟩ := hS
     obtain ⟨h81_0, h81_1, h81_2, h81_3, h81_4, h81_5, h81_6, h81_7, h81_8, -⟩ := hp
     obtain ⟨g81_7, b81_7, a81_7, n81_7, c81_7, ev81_7, er81_7, hg81_7, p81_7⟩ := h81_7
     replace ev81_7 : vs 6 = _ := ev81_7; replace er81_7 : vs 4 = _ := er81_7; replace h81_4 := (show Zw W81 (vs 4) M from h81_4)
     rw [er81_7] at h81_4
     replace h81_0 : vs 0 = .agg #[.bool b1, .slice a1 n1 c1, .slice d1 m1 o1] := h81_0
     replace h81_1 : vs 1 = .int .i64 (K : Int) := h81_1
     replace h81_5 : vs 5 = .int .i64 0 := h81_5
     replace h81_8 : vs 8 = .int .i64 0 := h81_8
     simp only [ev81_7, er81_7, h81_0, h81_1, h81_5, h81_8]
     clear ev81_7 er81_7 h81_0 h81_1 h81_5 h81_8 h81_2 h81_3 h81_6
     obtain ⟨kp3_0, kp3_1, kp3_2⟩ := p3.c3
     obtain ⟨kp4_0, kp4_1, kp4_2⟩ := p4.c3
     obtain ⟨kp79_7_0, kp79_7_1⟩ := p79_7.c2
     obtain ⟨kp80_7_0, kp80_7_1⟩ := p80_7.c2
     obtain ⟨kp81_7_0, kp81_7_1⟩ := p81_7.c2
     go_upto_region 6 with (fail)
     clear kp3_0 kp3_1 kp3_2 kp4_0 kp4_1 kp4_2 kp79_7_0 kp79_7_1 kp80_7_0 kp80_7_1 kp81_7_0 kp81_7_1; have ltp81_7 := p81_7.lt; have szw82 := Ext.size E0
     refine region_gs [.one fun v _ => v = .agg #[.bool b2, .slice a2 n2 c2, .slice d2 m2 o2],
       .one fun v _ => v = .int .i64 (K : Int),
       .one fun v W => ∃ v', v = .tuple #[v', .int .i64 0] ∧ (fun v W => Zw W v G) v' W,
       .one fun v W => ∃ v', v = .tuple #[v', .int .i64 0] ∧ (fun v W => Zw W v G) v' W,
       .one fun v W => Zw W v G,
       .one fun v _ => v = .int .i64 0,
       .one fun v W => ∃ g, v = .pointer (some ⟨g, 0, none⟩) ∧ W81.heap.size ≤ g ∧ Form W g 25 2,
       .three 6 4 (fun p r _ W => Put2 W81.heap.size 25 p r W),
       .one fun v _ => v = .int .i64 0]
      (fun W => Ext w W ∧ Bx3 W w.heap.size 27 (.bool b1) (.slice a1 n1 c1) (.slice d1 m1 o1) ∧ Bx3 W (w.heap.size + 1) 27 (.bool b2) (.slice a2 n2 c2) (.slice d2 m2 o2) ∧ Rw W (.agg #[.bool b1, .slice a1 n1 c1, .slice d1 m1 o1]) x ∧ Rw W (.agg #[.bool b2, .slice a2 n2 c2, .slice d2 m2 o2]) y ∧ Zw W (.agg #[.bool b79_7, .slice a79_7 n79_7 c79_7]) F ∧ Bx2 W g79_7 25 (.bool b79_7) (.slice a79_7 n79_7 c79_7) ∧ Zw W (.agg #[.bool b80_7, .slice a80_7 n80_7 c80_7]) C ∧ Bx2 W g80_7 25 (.bool b80_7) (.slice a80_7 n80_7 c80_7) ∧ Zw W (.agg #[.bool b81_7, .slice a81_7 n81_7 c81_7]) M ∧ Bx2 W g81_7 25 (.bool b81_7) (.slice a81_7 n81_7 c81_7) ∧ W81.heap.size ≤ W.heap.size) ⟨Good.is _, Good.is _, (Good.zed _).tup _, (Good.zed _).tup _, Good.zed _, Good.is _, Good.box _ _ _, cert_put2, Good.is _, trivial⟩
      ⟨E0, p3, p4, hx1, hx2, h79_4, p79_7, h80_4, p80_7, h81_4, p81_7, Nat.le_refl _⟩ (A := ?A82) ?hA82 ?howe82 ?hfin82
     case hA82 =>
      intro vs
      simp only [putAll, Act.put, sA, sZ, sS, Nat.zero_add, Nat.reduceAdd]
      exact rfl
     case howe82 =>
      clear E0 p3 p4 hx1 hx2 h79_4 p79_7 h80_4 p80_7 h81_4 p81_7
      intro hf
      refine ⟨oE 0 [] hf rfl ?_, oE 1 [] hf rfl ?_, oE 2 [0, 1] hf rfl ?_, oE 3 [2] hf rfl ?_, oE 4 [3] hf rfl ?_, oE 5 [3] hf rfl ?_, oE 6 [] hf rfl ?_, oW 7 [6, 4] hf rfl ?_, oE 8 [5] hf rfl ?_, trivial⟩
      all_goals intro vs W hS hp hx KO hKO
      all_goals simp only [Act.put, sA, sZ, sS] at hKO
      ·have fc0 := hS.2.2.1.cell0; have fc1 := hS.2.2.1.cell1; have fc2 := hS.2.2.1.cell2; go_simp; exact hKO _ W (.refl W) rfl
      ·go_simp; exact hKO _ W (.refl W) rfl
      ·have e0 := isOf hp.1; have e1 := isOf hp.2.1; simp only [e0, e1] at hKO; go_simp
       refine (Try.dyadFloor (hS.2.2.2.2.1) s2 (by omega) K (by omega)).mono ?_
       rintro e W1 ⟨v, rfl, hv, hE⟩
       rw [HF2.out] at hv
       exact hKO _ W1 hE ⟨_, rfl, hv⟩
      ·have q2 := hp.1
       obtain ⟨u, ev, hu⟩ := q2
       replace ev : vs 2 = _ := ev; simp only [ev] at hKO; go_simp; exact hKO _ W (Ext.refl W) ⟨u, rfl, hu⟩
      ·have q3 := hp.1
       obtain ⟨u, ev, hu⟩ := q3
       replace ev : vs 3 = _ := ev; simp only [ev] at hKO; go_simp; exact hKO _ W (Ext.refl W) hu
      ·have q3 := hp.1
       obtain ⟨u, ev, hu⟩ := q3
       replace ev : vs 3 = _ := ev; simp only [ev] at hKO; go_simp; exact hKO _ W (.refl W) rfl
      ·have hn := Bx2.new W 25 (.bool false) (.slice none 0 0)
       have hE := Ext.alloc1 W (.cells #[.bool false, .slice none 0 0] 25)
       have hsz := hS.2.2.2.2.2.2.2.2.2.2.2
       go_simp
       exact hKO _ _ hE ⟨_, rfl, hsz, hn.form⟩
      ·have q6 := hp.1; have q4 := hp.2.1
       obtain ⟨g, ev, hg, hf⟩ := q6
       replace ev : vs 6 = _ := ev
       obtain ⟨x0_0, x0_1, hx, hno⟩ := hf.bx2
       have qr := q4
       obtain ⟨b3, a3, n3, c3, er, -, -⟩ := qr
       replace er : vs 4 = _ := er
       have r0 := hx.froz0
       have t0 := hx.cell0
       have r1 := hx.froz1
       have t1 := hx.cell1
       have hw := Wr.set2 hx hno b3 a3 n3 c3
       have hq := hx.set (.bool b3) (.slice a3 n3 c3)
       simp only [ev, er] at hKO; go_simp
       exact hKO _ _ hw ⟨(Ext.wr hS.1 hw (by omega)), (hS.2.1.wr hw (by omega)), (hS.2.2.1.wr hw (by omega)), (hS.2.2.2.1.wr hw), (hS.2.2.2.2.1.wr hw), (hS.2.2.2.2.2.1.wr hw), (hS.2.2.2.2.2.2.1.wr hw (by omega)), (hS.2.2.2.2.2.2.2.1.wr hw), (hS.2.2.2.2.2.2.2.2.1.wr hw (by omega)), (hS.2.2.2.2.2.2.2.2.2.1.wr hw), (hS.2.2.2.2.2.2.2.2.2.2.1.wr hw (by omega)), (Nat.le_trans hS.2.2.2.2.2.2.2.2.2.2.2 hw.apart.size)⟩ ⟨g, b3, a3, n3, c3, ev, er, hg, hq⟩
      ·have e5 := isOf hp.1; simp only [e5] at hKO; go_simp; exact hKO _ W (.refl W) rfl
     intro vs W82 hS hp
     clear szw82 E0 p3 p4 hx1 hx2 h79_4 p79_7 h80_4 p80_7 h81_4 p81_7
     obtain ⟨E0, p3, p4, hx1, hx2, h79_4, p79_7, h80_4, p80_7, h81_4, p81_7, sz82⟩ := hS
     obtain ⟨h82_0, h82_1, h82_2, h82_3, h82_4, h82_5, h82_6, h82_7, h82_8, -⟩ := hp
     obtain ⟨g82_7, b82_7, a82_7, n82_7, c82_7, ev82_7, er82_7, hg82_7, p82_7⟩ := h82_7
     replace ev82_7 : vs 6 = _ := ev82_7; replace er82_7 : vs 4 = _ := er82_7; replace h82_4 := (show Zw W82 (vs 4) G from h82_4)
     rw [er82_7] at h82_4
     replace h82_0 : vs 0 = .agg #[.bool b2, .slice a2 n2 c2, .slice d2 m2 o2] := h82_0
     replace h82_1 : vs 1 = .int .i64 (K : Int) := h82_1
     replace h82_5 : vs 5 = .int .i64 0 := h82_5
     replace h82_8 : vs 8 = .int .i64 0 := h82_8
     simp only [ev82_7, er82_7, h82_0, h82_1, h82_5, h82_8]
     clear ev82_7 er82_7 h82_0 h82_1 h82_5 h82_8 h82_2 h82_3 h82_6
     obtain ⟨kp3_0, kp3_1, kp3_2⟩ := p3.c3
     obtain ⟨kp4_0, kp4_1, kp4_2⟩ := p4.c3
     obtain ⟨kp79_7_0, kp79_7_1⟩ := p79_7.c2
     obtain ⟨kp80_7_0, kp80_7_1⟩ := p80_7.c2
     obtain ⟨kp81_7_0, kp81_7_1⟩ := p81_7.c2
     obtain ⟨kp82_7_0, kp82_7_1⟩ := p82_7.c2
     go_upto_region 7 with (fail)
     clear kp3_0 kp3_1 kp3_2 kp4_0 kp4_1 kp4_2 kp79_7_0 kp79_7_1 kp80_7_0 kp80_7_1 kp81_7_0 kp81_7_1 kp82_7_0 kp82_7_1; have ltp82_7 := p82_7.lt; have szw83 := Ext.size E0
     refine region_gs [.one fun v _ => v = .agg #[.bool b2, .slice a2 n2 c2, .slice d2 m2 o2],
       .one fun v _ => v = .int .i64 (K : Int),
       .one fun v W => ∃ v', v = .tuple #[v', .int .i64 0] ∧ (fun v W => Zw W v J) v' W,
       .one fun v W => ∃ v', v = .tuple #[v', .int .i64 0] ∧ (fun v W => Zw W v J) v' W,
       .one fun v W => Zw W v J,
       .one fun v _ => v = .int .i64 0,
       .one fun v W => ∃ g, v = .pointer (some ⟨g, 0, none⟩) ∧ W82.heap.size ≤ g ∧ Form W g 25 2,
       .three 6 4 (fun p r _ W => Put2 W82.heap.size 25 p r W),
       .one fun v _ => v = .int .i64 0]
      (fun W => Ext w W ∧ Bx3 W w.heap.size 27 (.bool b1) (.slice a1 n1 c1) (.slice d1 m1 o1) ∧ Bx3 W (w.heap.size + 1) 27 (.bool b2) (.slice a2 n2 c2) (.slice d2 m2 o2) ∧ Rw W (.agg #[.bool b1, .slice a1 n1 c1, .slice d1 m1 o1]) x ∧ Rw W (.agg #[.bool b2, .slice a2 n2 c2, .slice d2 m2 o2]) y ∧ Zw W (.agg #[.bool b79_7, .slice a79_7 n79_7 c79_7]) F ∧ Bx2 W g79_7 25 (.bool b79_7) (.slice a79_7 n79_7 c79_7) ∧ Zw W (.agg #[.bool b80_7, .slice a80_7 n80_7 c80_7]) C ∧ Bx2 W g80_7 25 (.bool b80_7) (.slice a80_7 n80_7 c80_7) ∧ Zw W (.agg #[.bool b81_7, .slice a81_7 n81_7 c81_7]) M ∧ Bx2 W g81_7 25 (.bool b81_7) (.slice a81_7 n81_7 c81_7) ∧ Zw W (.agg #[.bool b82_7, .slice a82_7 n82_7 c82_7]) G ∧ Bx2 W g82_7 25 (.bool b82_7) (.slice a82_7 n82_7 c82_7) ∧ W82.heap.size ≤ W.heap.size) ⟨Good.is _, Good.is _, (Good.zed _).tup _, (Good.zed _).tup _, Good.zed _, Good.is _, Good.box _ _ _, cert_put2, Good.is _, trivial⟩
      ⟨E0, p3, p4, hx1, hx2, h79_4, p79_7, h80_4, p80_7, h81_4, p81_7, h82_4, p82_7, Nat.le_refl _⟩ (A := ?A83) ?hA83 ?howe83 ?hfin83
     case hA83 =>
      intro vs
      simp only [putAll, Act.put, sA, sZ, sS, Nat.zero_add, Nat.reduceAdd]
      exact rfl
     case howe83 =>
      clear E0 p3 p4 hx1 hx2 h79_4 p79_7 h80_4 p80_7 h81_4 p81_7 h82_4 p82_7
      intro hf
      refine ⟨oE 0 [] hf rfl ?_, oE 1 [] hf rfl ?_, oE 2 [0, 1] hf rfl ?_, oE 3 [2] hf rfl ?_, oE 4 [3] hf rfl ?_, oE 5 [3] hf rfl ?_, oE 6 [] hf rfl ?_, oW 7 [6, 4] hf rfl ?_, oE 8 [5] hf rfl ?_, trivial⟩
      all_goals intro vs W hS hp hx KO hKO
      all_goals simp only [Act.put, sA, sZ, sS] at hKO
      ·have fc0 := hS.2.2.1.cell0; have fc1 := hS.2.2.1.cell1; have fc2 := hS.2.2.1.cell2; go_simp; exact hKO _ W (.refl W) rfl
      ·go_simp; exact hKO _ W (.refl W) rfl
      ·have e0 := isOf hp.1; have e1 := isOf hp.2.1; simp only [e0, e1] at hKO; go_simp
       refine (Try.dyadCeil (hS.2.2.2.2.1) s2 (by omega) K (by omega)).mono ?_
       rintro e W1 ⟨v, rfl, hv, hE⟩
       rw [HCe2.out] at hv
       exact hKO _ W1 hE ⟨_, rfl, hv⟩
      ·have q2 := hp.1
       obtain ⟨u, ev, hu⟩ := q2
       replace ev : vs 2 = _ := ev; simp only [ev] at hKO; go_simp; exact hKO _ W (Ext.refl W) ⟨u, rfl, hu⟩
      ·have q3 := hp.1
       obtain ⟨u, ev, hu⟩ := q3
       replace ev : vs 3 = _ := ev; simp only [ev] at hKO; go_simp; exact hKO _ W (Ext.refl W) hu
      ·have q3 := hp.1
       obtain ⟨u, ev, hu⟩ := q3
       replace ev : vs 3 = _ := ev; simp only [ev] at hKO; go_simp; exact hKO _ W (.refl W) rfl
      ·have hn := Bx2.new W 25 (.bool false) (.slice none 0 0)
       have hE := Ext.alloc1 W (.cells #[.bool false, .slice none 0 0] 25)
       have hsz := hS.2.2.2.2.2.2.2.2.2.2.2.2.2
       go_simp
       exact hKO _ _ hE ⟨_, rfl, hsz, hn.form⟩
      ·have q6 := hp.1; have q4 := hp.2.1
       obtain ⟨g, ev, hg, hf⟩ := q6
       replace ev : vs 6 = _ := ev
       obtain ⟨x0_0, x0_1, hx, hno⟩ := hf.bx2
       have qr := q4
       obtain ⟨b3, a3, n3, c3, er, -, -⟩ := qr
       replace er : vs 4 = _ := er
       have r0 := hx.froz0
       have t0 := hx.cell0
       have r1 := hx.froz1
       have t1 := hx.cell1
       have hw := Wr.set2 hx hno b3 a3 n3 c3
       have hq := hx.set (.bool b3) (.slice a3 n3 c3)
       simp only [ev, er] at hKO; go_simp
       exact hKO _ _ hw ⟨(Ext.wr hS.1 hw (by omega)), (hS.2.1.wr hw (by omega)), (hS.2.2.1.wr hw (by omega)), (hS.2.2.2.1.wr hw), (hS.2.2.2.2.1.wr hw), (hS.2.2.2.2.2.1.wr hw), (hS.2.2.2.2.2.2.1.wr hw (by omega)), (hS.2.2.2.2.2.2.2.1.wr hw), (hS.2.2.2.2.2.2.2.2.1.wr hw (by omega)), (hS.2.2.2.2.2.2.2.2.2.1.wr hw), (hS.2.2.2.2.2.2.2.2.2.2.1.wr hw (by omega)), (hS.2.2.2.2.2.2.2.2.2.2.2.1.wr hw), (hS.2.2.2.2.2.2.2.2.2.2.2.2.1.wr hw (by omega)), (Nat.le_trans hS.2.2.2.2.2.2.2.2.2.2.2.2.2 hw.apart.size)⟩ ⟨g, b3, a3, n3, c3, ev, er, hg, hq⟩
      ·have e5 := isOf hp.1; simp only [e5] at hKO; go_simp; exact hKO _ W (.refl W) rfl
     intro vs W83 hS hp
     clear szw83 E0 p3 p4 hx1 hx2 h79_4 p79_7 h80_4 p80_7 h81_4 p81_7 h82_4 p82_7
     obtain ⟨E0, p3, p4, hx1, hx2, h79_4, p79_7, h80_4, p80_7, h81_4, p81_7, h82_4, p82_7, sz83⟩ := hS
     obtain ⟨h83_0, h83_1, h83_2, h83_3, h83_4, h83_5, h83_6, h83_7, h83_8, -⟩ := hp
     obtain ⟨g83_7, b83_7, a83_7, n83_7, c83_7, ev83_7, er83_7, hg83_7, p83_7⟩ := h83_7
     replace ev83_7 : vs 6 = _ := ev83_7; replace er83_7 : vs 4 = _ := er83_7; replace h83_4 := (show Zw W83 (vs 4) J from h83_4)
     rw [er83_7] at h83_4
     replace h83_0 : vs 0 = .agg #[.bool b2, .slice a2 n2 c2, .slice d2 m2 o2] := h83_0
     replace h83_1 : vs 1 = .int .i64 (K : Int) := h83_1
     replace h83_5 : vs 5 = .int .i64 0 := h83_5
     replace h83_8 : vs 8 = .int .i64 0 := h83_8
     simp only [ev83_7, er83_7, h83_0, h83_1, h83_5, h83_8]
     clear ev83_7 er83_7 h83_0 h83_1 h83_5 h83_8 h83_2 h83_3 h83_6
     obtain ⟨kp3_0, kp3_1, kp3_2⟩ := p3.c3
     obtain ⟨kp4_0, kp4_1, kp4_2⟩ := p4.c3
     obtain ⟨kp79_7_0, kp79_7_1⟩ := p79_7.c2
     obtain ⟨kp80_7_0, kp80_7_1⟩ := p80_7.c2
     obtain ⟨kp81_7_0, kp81_7_1⟩ := p81_7.c2
     obtain ⟨kp82_7_0, kp82_7_1⟩ := p82_7.c2
     obtain ⟨kp83_7_0, kp83_7_1⟩ := p83_7.c2
     go_upto_region 8 with (fail)
     clear kp3_0 kp3_1 kp3_2 kp4_0 kp4_1 kp4_2 kp79_7_0 kp79_7_1 kp80_7_0 kp80_7_1 kp81_7_0 kp81_7_1 kp82_7_0 kp82_7_1 kp83_7_0 kp83_7_1; have ltp83_7 := p83_7.lt; have szw84 := Ext.size E0
     refine region_gs [.one fun v _ => v = .agg #[.bool b2, .slice a2 n2 c2, .slice d2 m2 o2],
       .one fun v _ => v = .int .i64 (K : Int),
       .one fun v W => ∃ v', v = .tuple #[v', .int .i64 0] ∧ (fun v W => Zw W v N) v' W,
       .one fun v W => ∃ v', v = .tuple #[v', .int .i64 0] ∧ (fun v W => Zw W v N) v' W,
       .one fun v W => Zw W v N,
       .one fun v _ => v = .int .i64 0,
       .one fun v W => ∃ g, v = .pointer (some ⟨g, 0, none⟩) ∧ W83.heap.size ≤ g ∧ Form W g 25 2,
       .three 6 4 (fun p r _ W => Put2 W83.heap.size 25 p r W),
       .one fun v _ => v = .int .i64 0]
      (fun W => Ext w W ∧ Bx3 W w.heap.size 27 (.bool b1) (.slice a1 n1 c1) (.slice d1 m1 o1) ∧ Bx3 W (w.heap.size + 1) 27 (.bool b2) (.slice a2 n2 c2) (.slice d2 m2 o2) ∧ Rw W (.agg #[.bool b1, .slice a1 n1 c1, .slice d1 m1 o1]) x ∧ Rw W (.agg #[.bool b2, .slice a2 n2 c2, .slice d2 m2 o2]) y ∧ Zw W (.agg #[.bool b79_7, .slice a79_7 n79_7 c79_7]) F ∧ Bx2 W g79_7 25 (.bool b79_7) (.slice a79_7 n79_7 c79_7) ∧ Zw W (.agg #[.bool b80_7, .slice a80_7 n80_7 c80_7]) C ∧ Bx2 W g80_7 25 (.bool b80_7) (.slice a80_7 n80_7 c80_7) ∧ Zw W (.agg #[.bool b81_7, .slice a81_7 n81_7 c81_7]) M ∧ Bx2 W g81_7 25 (.bool b81_7) (.slice a81_7 n81_7 c81_7) ∧ Zw W (.agg #[.bool b82_7, .slice a82_7 n82_7 c82_7]) G ∧ Bx2 W g82_7 25 (.bool b82_7) (.slice a82_7 n82_7 c82_7) ∧ Zw W (.agg #[.bool b83_7, .slice a83_7 n83_7 c83_7]) J ∧ Bx2 W g83_7 25 (.bool b83_7) (.slice a83_7 n83_7 c83_7) ∧ W83.heap.size ≤ W.heap.size) ⟨Good.is _, Good.is _, (Good.zed _).tup _, (Good.zed _).tup _, Good.zed _, Good.is _, Good.box _ _ _, cert_put2, Good.is _, trivial⟩
      ⟨E0, p3, p4, hx1, hx2, h79_4, p79_7, h80_4, p80_7, h81_4, p81_7, h82_4, p82_7, h83_4, p83_7, Nat.le_refl _⟩ (A := ?A84) ?hA84 ?howe84 ?hfin84
     case hA84 =>
      intro vs
      simp only [putAll, Act.put, sA, sZ, sS, Nat.zero_add, Nat.reduceAdd]
      exact rfl
     case howe84 =>
      clear E0 p3 p4 hx1 hx2 h79_4 p79_7 h80_4 p80_7 h81_4 p81_7 h82_4 p82_7 h83_4 p83_7
      intro hf
      refine ⟨oE 0 [] hf rfl ?_, oE 1 [] hf rfl ?_, oE 2 [0, 1] hf rfl ?_, oE 3 [2] hf rfl ?_, oE 4 [3] hf rfl ?_, oE 5 [3] hf rfl ?_, oE 6 [] hf rfl ?_, oW 7 [6, 4] hf rfl ?_, oE 8 [5] hf rfl ?_, trivial⟩
      all_goals intro vs W hS hp hx KO hKO
      all_goals simp only [Act.put, sA, sZ, sS] at hKO
      ·have fc0 := hS.2.2.1.cell0; have fc1 := hS.2.2.1.cell1; have fc2 := hS.2.2.1.cell2; go_simp; exact hKO _ W (.refl W) rfl
      ·go_simp; exact hKO _ W (.refl W) rfl
      ·have e0 := isOf hp.1; have e1 := isOf hp.2.1; simp only [e0, e1] at hKO; go_simp
       refine (Try.dyadNear (hS.2.2.2.2.1) s2 (by omega) K (by omega)).mono ?_
       rintro e W1 ⟨v, rfl, hv, hE⟩
       rw [HN2.out] at hv
       exact hKO _ W1 hE ⟨_, rfl, hv⟩
      ·have q2 := hp.1
       obtain ⟨u, ev, hu⟩ := q2
       replace ev : vs 2 = _ := ev; simp only [ev] at hKO; go_simp; exact hKO _ W (Ext.refl W) ⟨u, rfl, hu⟩
      ·have q3 := hp.1
       obtain ⟨u, ev, hu⟩ := q3
       replace ev : vs 3 = _ := ev; simp only [ev] at hKO; go_simp; exact hKO _ W (Ext.refl W) hu
      ·have q3 := hp.1
       obtain ⟨u, ev, hu⟩ := q3
       replace ev : vs 3 = _ := ev; simp only [ev] at hKO; go_simp; exact hKO _ W (.refl W) rfl
      ·have hn := Bx2.new W 25 (.bool false) (.slice none 0 0)
       have hE := Ext.alloc1 W (.cells #[.bool false, .slice none 0 0] 25)
       have hsz := hS.2.2.2.2.2.2.2.2.2.2.2.2.2.2.2
       go_simp
       exact hKO _ _ hE ⟨_, rfl, hsz, hn.form⟩
      ·have q6 := hp.1; have q4 := hp.2.1
       obtain ⟨g, ev, hg, hf⟩ := q6
       replace ev : vs 6 = _ := ev
       obtain ⟨x0_0, x0_1, hx, hno⟩ := hf.bx2
       have qr := q4
       obtain ⟨b3, a3, n3, c3, er, -, -⟩ := qr
       replace er : vs 4 = _ := er
       have r0 := hx.froz0
       have t0 := hx.cell0
       have r1 := hx.froz1
       have t1 := hx.cell1
       have hw := Wr.set2 hx hno b3 a3 n3 c3
       have hq := hx.set (.bool b3) (.slice a3 n3 c3)
       simp only [ev, er] at hKO; go_simp
       exact hKO _ _ hw ⟨(Ext.wr hS.1 hw (by omega)), (hS.2.1.wr hw (by omega)), (hS.2.2.1.wr hw (by omega)), (hS.2.2.2.1.wr hw), (hS.2.2.2.2.1.wr hw), (hS.2.2.2.2.2.1.wr hw), (hS.2.2.2.2.2.2.1.wr hw (by omega)), (hS.2.2.2.2.2.2.2.1.wr hw), (hS.2.2.2.2.2.2.2.2.1.wr hw (by omega)), (hS.2.2.2.2.2.2.2.2.2.1.wr hw), (hS.2.2.2.2.2.2.2.2.2.2.1.wr hw (by omega)), (hS.2.2.2.2.2.2.2.2.2.2.2.1.wr hw), (hS.2.2.2.2.2.2.2.2.2.2.2.2.1.wr hw (by omega)), (hS.2.2.2.2.2.2.2.2.2.2.2.2.2.1.wr hw), (hS.2.2.2.2.2.2.2.2.2.2.2.2.2.2.1.wr hw (by omega)), (Nat.le_trans hS.2.2.2.2.2.2.2.2.2.2.2.2.2.2.2 hw.apart.size)⟩ ⟨g, b3, a3, n3, c3, ev, er, hg, hq⟩
      ·have e5 := isOf hp.1; simp only [e5] at hKO; go_simp; exact hKO _ W (.refl W) rfl
     intro vs W84 hS hp
     clear szw84 E0 p3 p4 hx1 hx2 h79_4 p79_7 h80_4 p80_7 h81_4 p81_7 h82_4 p82_7 h83_4 p83_7
     obtain ⟨E0, p3, p4, hx1, hx2, h79_4, p79_7, h80_4, p80_7, h81_4, p81_7, h82_4, p82_7, h83_4, p83_7, sz84⟩ := hS
     obtain ⟨h84_0, h84_1, h84_2, h84_3, h84_4, h84_5, h84_6, h84_7, h84_8, -⟩ := hp
     obtain ⟨g84_7, b84_7, a84_7, n84_7, c84_7, ev84_7, er84_7, hg84_7, p84_7⟩ := h84_7
     replace ev84_7 : vs 6 = _ := ev84_7; replace er84_7 : vs 4 = _ := er84_7; replace h84_4 := (show Zw W84 (vs 4) N from h84_4)
     rw [er84_7] at h84_4
     replace h84_0 : vs 0 = .agg #[.bool b2, .slice a2 n2 c2, .slice d2 m2 o2] := h84_0
     replace h84_1 : vs 1 = .int .i64 (K : Int) := h84_1
     replace h84_5 : vs 5 = .int .i64 0 := h84_5
     replace h84_8 : vs 8 = .int .i64 0 := h84_8
     simp only [ev84_7, er84_7, h84_0, h84_1, h84_5, h84_8]
     clear ev84_7 er84_7 h84_0 h84_1 h84_5 h84_8 h84_2 h84_3 h84_6
     obtain ⟨kp3_0, kp3_1, kp3_2⟩ := p3.c3
     obtain ⟨kp4_0, kp4_1, kp4_2⟩ := p4.c3
     obtain ⟨kp79_7_0, kp79_7_1⟩ := p79_7.c2
     obtain ⟨kp80_7_0, kp80_7_1⟩ := p80_7.c2
     obtain ⟨kp81_7_0, kp81_7_1⟩ := p81_7.c2
     obtain ⟨kp82_7_0, kp82_7_1⟩ := p82_7.c2
     obtain ⟨kp83_7_0, kp83_7_1⟩ := p83_7.c2
     obtain ⟨kp84_7_0, kp84_7_1⟩ := p84_7.c2
     go_upto_region 9 with (fail)
     clear kp3_0 kp3_1 kp3_2 kp4_0 kp4_1 kp4_2 kp79_7_0 kp79_7_1 kp80_7_0 kp80_7_1 kp81_7_0 kp81_7_1 kp82_7_0 kp82_7_1 kp83_7_0 kp83_7_1 kp84_7_0 kp84_7_1; have ltp84_7 := p84_7.lt; have szw85 := Ext.size E0
     refine region_gs [.one fun v _ => v = .agg #[.bool b1, .slice a1 n1 c1, .slice d1 m1 o1],
       .one fun v W => Rw W v (-x),
       .one fun v _ => v = .int .i64 (K : Int),
       .one fun v W => ∃ v', v = .tuple #[v', .int .i64 0] ∧ (fun v W => Zw W v (-F)) v' W,
       .one fun v W => ∃ v', v = .tuple #[v', .int .i64 0] ∧ (fun v W => Zw W v (-F)) v' W,
       .one fun v W => Zw W v (-F),
       .one fun v _ => v = .int .i64 0,
       .one fun v W => ∃ g, v = .pointer (some ⟨g, 0, none⟩) ∧ W84.heap.size ≤ g ∧ Form W g 25 2,
       .three 7 5 (fun p r _ W => Put2 W84.heap.size 25 p r W),
       .one fun v _ => v = .int .i64 0]
      (fun W => Ext w W ∧ Bx3 W w.heap.size 27 (.bool b1) (.slice a1 n1 c1) (.slice d1 m1 o1) ∧ Bx3 W (w.heap.size + 1) 27 (.bool b2) (.slice a2 n2 c2) (.slice d2 m2 o2) ∧ Rw W (.agg #[.bool b1, .slice a1 n1 c1, .slice d1 m1 o1]) x ∧ Rw W (.agg #[.bool b2, .slice a2 n2 c2, .slice d2 m2 o2]) y ∧ Zw W (.agg #[.bool b79_7, .slice a79_7 n79_7 c79_7]) F ∧ Bx2 W g79_7 25 (.bool b79_7) (.slice a79_7 n79_7 c79_7) ∧ Zw W (.agg #[.bool b80_7, .slice a80_7 n80_7 c80_7]) C ∧ Bx2 W g80_7 25 (.bool b80_7) (.slice a80_7 n80_7 c80_7) ∧ Zw W (.agg #[.bool b81_7, .slice a81_7 n81_7 c81_7]) M ∧ Bx2 W g81_7 25 (.bool b81_7) (.slice a81_7 n81_7 c81_7) ∧ Zw W (.agg #[.bool b82_7, .slice a82_7 n82_7 c82_7]) G ∧ Bx2 W g82_7 25 (.bool b82_7) (.slice a82_7 n82_7 c82_7) ∧ Zw W (.agg #[.bool b83_7, .slice a83_7 n83_7 c83_7]) J ∧ Bx2 W g83_7 25 (.bool b83_7) (.slice a83_7 n83_7 c83_7) ∧ Zw W (.agg #[.bool b84_7, .slice a84_7 n84_7 c84_7]) N ∧ Bx2 W g84_7 25 (.bool b84_7) (.slice a84_7 n84_7 c84_7) ∧ W84.heap.size ≤ W.heap.size) ⟨Good.is _, Good.rat _, Good.is _, (Good.zed _).tup _, (Good.zed _).tup _, Good.zed _, Good.is _, Good.box _ _ _, cert_put2, Good.is _, trivial⟩
      ⟨E0, p3, p4, hx1, hx2, h79_4, p79_7, h80_4, p80_7, h81_4, p81_7, h82_4, p82_7, h83_4, p83_7, h84_4, p84_7, Nat.le_refl _⟩ (A := ?A85) ?hA85 ?howe85 ?hfin85
     case hA85 =>
      intro vs
      simp only [putAll, Act.put, sA, sZ, sS, Nat.zero_add, Nat.reduceAdd]
      exact rfl
     case howe85 =>
      clear E0 p3 p4 hx1 hx2 h79_4 p79_7 h80_4 p80_7 h81_4 p81_7 h82_4 p82_7 h83_4 p83_7 h84_4 p84_7
      intro hf
      refine ⟨oE 0 [] hf rfl ?_, oE 1 [0] hf rfl ?_, oE 2 [] hf rfl ?_, oE 3 [1, 2] hf rfl ?_, oE 4 [3] hf rfl ?_, oE 5 [4] hf rfl ?_, oE 6 [4] hf rfl ?_, oE 7 [] hf rfl ?_, oW 8 [7, 5] hf rfl ?_, oE 9 [6] hf rfl ?_, trivial⟩
      all_goals intro vs W hS hp hx KO hKO
      all_goals simp only [Act.put, sA, sZ, sS] at hKO
      ·have fc0 := hS.2.1.cell0; have fc1 := hS.2.1.cell1; have fc2 := hS.2.1.cell2; go_simp; exact hKO _ W (.refl W) rfl
      ·have e0 := isOf hp.1; simp only [e0] at hKO; go_simp
       refine (Try.refRNeg (hS.2.2.2.1)).mono ?_
       rintro e W1 ⟨v, rfl, hv, hE⟩
       exact hKO _ W1 hE hv
      ·go_simp; exact hKO _ W (.refl W) rfl
      ·have q1 := hp.1; have e2 := isOf hp.2.1; simp only [e2] at hKO; go_simp
       refine (Try.dyadCeil q1 sN.out (by omega) K (by omega)).mono ?_
       rintro e W1 ⟨v, rfl, hv, hE⟩
       rw [HNF.out] at hv
       exact hKO _ W1 hE ⟨_, rfl, hv⟩
      ·have q3 := hp.1
       obtain ⟨u, ev, hu⟩ := q3
       replace ev : vs 3 = _ := ev; simp only [ev] at hKO; go_simp; exact hKO _ W (Ext.refl W) ⟨u, rfl, hu⟩
      ·have q4 := hp.1
       obtain ⟨u, ev, hu⟩ := q4
       replace ev : vs 4 = _ := ev; simp only [ev] at hKO; go_simp; exact hKO _ W (Ext.refl W) hu
      ·have q4 := hp.1
       obtain ⟨u, ev, hu⟩ := q4
       replace ev : vs 4 = _ := ev; simp only [ev] at hKO; go_simp; exact hKO _ W (.refl W) rfl
      ·have hn := Bx2.new W 25 (.bool false) (.slice none 0 0)
       have hE := Ext.alloc1 W (.cells #[.bool false, .slice none 0 0] 25)
       have hsz := hS.2.2.2.2.2.2.2.2.2.2.2.2.2.2.2.2.2
       go_simp
       exact hKO _ _ hE ⟨_, rfl, hsz, hn.form⟩
      ·have q7 := hp.1; have q5 := hp.2.1
       obtain ⟨g, ev, hg, hf⟩ := q7
       replace ev : vs 7 = _ := ev
       obtain ⟨x0_0, x0_1, hx, hno⟩ := hf.bx2
       have qr := q5
       obtain ⟨b3, a3, n3, c3, er, -, -⟩ := qr
       replace er : vs 5 = _ := er
       have r0 := hx.froz0
       have t0 := hx.cell0
       have r1 := hx.froz1
       have t1 := hx.cell1
       have hw := Wr.set2 hx hno b3 a3 n3 c3
       have hq := hx.set (.bool b3) (.slice a3 n3 c3)
       simp only [ev, er] at hKO; go_simp
       exact hKO _ _ hw ⟨(Ext.wr hS.1 hw (by omega)), (hS.2.1.wr hw (by omega)), (hS.2.2.1.wr hw (by omega)), (hS.2.2.2.1.wr hw), (hS.2.2.2.2.1.wr hw), (hS.2.2.2.2.2.1.wr hw), (hS.2.2.2.2.2.2.1.wr hw (by omega)), (hS.2.2.2.2.2.2.2.1.wr hw), (hS.2.2.2.2.2.2.2.2.1.wr hw (by omega)), (hS.2.2.2.2.2.2.2.2.2.1.wr hw), (hS.2.2.2.2.2.2.2.2.2.2.1.wr hw (by omega)), (hS.2.2.2.2.2.2.2.2.2.2.2.1.wr hw), (hS.2.2.2.2.2.2.2.2.2.2.2.2.1.wr hw (by omega)), (hS.2.2.2.2.2.2.2.2.2.2.2.2.2.1.wr hw), (hS.2.2.2.2.2.2.2.2.2.2.2.2.2.2.1.wr hw (by omega)), (hS.2.2.2.2.2.2.2.2.2.2.2.2.2.2.2.1.wr hw), (hS.2.2.2.2.2.2.2.2.2.2.2.2.2.2.2.2.1.wr hw (by omega)), (Nat.le_trans hS.2.2.2.2.2.2.2.2.2.2.2.2.2.2.2.2.2 hw.apart.size)⟩ ⟨g, b3, a3, n3, c3, ev, er, hg, hq⟩
      ·have e6 := isOf hp.1; simp only [e6] at hKO; go_simp; exact hKO _ W (.refl W) rfl
     intro vs W85 hS hp
     clear szw85 E0 p3 p4 hx1 hx2 h79_4 p79_7 h80_4 p80_7 h81_4 p81_7 h82_4 p82_7 h83_4 p83_7 h84_4 p84_7
     obtain ⟨E0, p3, p4, hx1, hx2, h79_4, p79_7, h80_4, p80_7, h81_4, p81_7, h82_4, p82_7, h83_4, p83_7, h84_4, p84_7, sz85⟩ := hS
     obtain ⟨h85_0, h85_1, h85_2, h85_3, h85_4, h85_5, h85_6, h85_7, h85_8, h85_9, -⟩ := hp
     obtain ⟨g85_8, b85_8, a85_8, n85_8, c85_8, ev85_8, er85_8, hg85_8, p85_8⟩ := h85_8
     replace ev85_8 : vs 7 = _ := ev85_8; replace er85_8 : vs 5 = _ := er85_8; replace h85_5 := (show Zw W85 (vs 5) (-F) from h85_5)
     rw [er85_8] at h85_5
     replace h85_0 : vs 0 = .agg #[.bool b1, .slice a1 n1 c1, .slice d1 m1 o1] := h85_0
     replace h85_2 : vs 2 = .int .i64 (K : Int) := h85_2
     replace h85_6 : vs 6 = .int .i64 0 := h85_6
     replace h85_9 : vs 9 = .int .i64 0 := h85_9
     simp only [ev85_8, er85_8, h85_0, h85_2, h85_6, h85_9]
     replace h85_1 : Rw W85 (vs 1) (-x) := h85_1
     generalize vs 1 = u85_1 at h85_1 ⊢
     clear ev85_8 er85_8 h85_0 h85_2 h85_6 h85_9 h85_3 h85_4 h85_7
     obtain ⟨kp3_0, kp3_1, kp3_2⟩ := p3.c3
     obtain ⟨kp4_0, kp4_1, kp4_2⟩ := p4.c3
     obtain ⟨kp79_7_0, kp79_7_1⟩ := p79_7.c2
     obtain ⟨kp80_7_0, kp80_7_1⟩ := p80_7.c2
     obtain ⟨kp81_7_0, kp81_7_1⟩ := p81_7.c2
     obtain ⟨kp82_7_0, kp82_7_1⟩ := p82_7.c2
     obtain ⟨kp83_7_0, kp83_7_1⟩ := p83_7.c2
     obtain ⟨kp84_7_0, kp84_7_1⟩ := p84_7.c2
     obtain ⟨kp85_8_0, kp85_8_1⟩ := p85_8.c2
     go_upto_region 10 with (fail)
     clear kp3_0 kp3_1 kp3_2 kp4_0 kp4_1 kp4_2 kp79_7_0 kp79_7_1 kp80_7_0 kp80_7_1 kp81_7_0 kp81_7_1 kp82_7_0 kp82_7_1 kp83_7_0 kp83_7_1 kp84_7_0 kp84_7_1 kp85_8_0 kp85_8_1; have ltp85_8 := p85_8.lt; have szw86 := Ext.size E0
     refine region_gs [.one fun v _ => v = .agg #[.bool b1, .slice a1 n1 c1, .slice d1 m1 o1],
       .one fun v W => Rw W v (-x),
       .one fun v _ => v = .int .i64 (K : Int),
       .one fun v W => ∃ v', v = .tuple #[v', .int .i64 0] ∧ (fun v W => Zw W v (-M)) v' W,
       .one fun v W => ∃ v', v = .tuple #[v', .int .i64 0] ∧ (fun v W => Zw W v (-M)) v' W,
       .one fun v W => Zw W v (-M),
       .one fun v _ => v = .int .i64 0,
       .one fun v W => ∃ g, v = .pointer (some ⟨g, 0, none⟩) ∧ W85.heap.size ≤ g ∧ Form W g 25 2,
       .three 7 5 (fun p r _ W => Put2 W85.heap.size 25 p r W),
       .one fun v _ => v = .int .i64 0]
      (fun W => Ext w W ∧ Bx3 W w.heap.size 27 (.bool b1) (.slice a1 n1 c1) (.slice d1 m1 o1) ∧ Bx3 W (w.heap.size + 1) 27 (.bool b2) (.slice a2 n2 c2) (.slice d2 m2 o2) ∧ Rw W (.agg #[.bool b1, .slice a1 n1 c1, .slice d1 m1 o1]) x ∧ Rw W (.agg #[.bool b2, .slice a2 n2 c2, .slice d2 m2 o2]) y ∧ Zw W (.agg #[.bool b79_7, .slice a79_7 n79_7 c79_7]) F ∧ Bx2 W g79_7 25 (.bool b79_7) (.slice a79_7 n79_7 c79_7) ∧ Zw W (.agg #[.bool b80_7, .slice a80_7 n80_7 c80_7]) C ∧ Bx2 W g80_7 25 (.bool b80_7) (.slice a80_7 n80_7 c80_7) ∧ Zw W (.agg #[.bool b81_7, .slice a81_7 n81_7 c81_7]) M ∧ Bx2 W g81_7 25 (.bool b81_7) (.slice a81_7 n81_7 c81_7) ∧ Zw W (.agg #[.bool b82_7, .slice a82_7 n82_7 c82_7]) G ∧ Bx2 W g82_7 25 (.bool b82_7) (.slice a82_7 n82_7 c82_7) ∧ Zw W (.agg #[.bool b83_7, .slice a83_7 n83_7 c83_7]) J ∧ Bx2 W g83_7 25 (.bool b83_7) (.slice a83_7 n83_7 c83_7) ∧ Zw W (.agg #[.bool b84_7, .slice a84_7 n84_7 c84_7]) N ∧ Bx2 W g84_7 25 (.bool b84_7) (.slice a84_7 n84_7 c84_7) ∧ Zw W (.agg #[.bool b85_8, .slice a85_8 n85_8 c85_8]) (-F) ∧ Bx2 W g85_8 25 (.bool b85_8) (.slice a85_8 n85_8 c85_8) ∧ Rw W u85_1 (-x) ∧ W85.heap.size ≤ W.heap.size) ⟨Good.is _, Good.rat _, Good.is _, (Good.zed _).tup _, (Good.zed _).tup _, Good.zed _, Good.is _, Good.box _ _ _, cert_put2, Good.is _, trivial⟩
      ⟨E0, p3, p4, hx1, hx2, h79_4, p79_7, h80_4, p80_7, h81_4, p81_7, h82_4, p82_7, h83_4, p83_7, h84_4, p84_7, h85_5, p85_8, h85_1, Nat.le_refl _⟩ (A := ?A86) ?hA86 ?howe86 ?hfin86
     case hA86 =>
      intro vs
      simp only [putAll, Act.put, sA, sZ, sS, Nat.zero_add, Nat.reduceAdd]
      exact rfl
     case howe86 =>
      clear E0 p3 p4 hx1 hx2 h79_4 p79_7 h80_4 p80_7 h81_4 p81_7 h82_4 p82_7 h83_4 p83_7 h84_4 p84_7 h85_5 p85_8 h85_1
      intro hf
      refine ⟨oE 0 [] hf rfl ?_, oE 1 [0] hf rfl ?_, oE 2 [] hf rfl ?_, oE 3 [1, 2] hf rfl ?_, oE 4 [3] hf rfl ?_, oE 5 [4] hf rfl ?_, oE 6 [4] hf rfl ?_, oE 7 [] hf rfl ?_, oW 8 [7, 5] hf rfl ?_, oE 9 [6] hf rfl ?_, trivial⟩
      all_goals intro vs W hS hp hx KO hKO
      all_goals simp only [Act.put, sA, sZ, sS] at hKO
      ·have fc0 := hS.2.1.cell0; have fc1 := hS.2.1.cell1; have fc2 := hS.2.1.cell2; go_simp; exact hKO _ W (.refl W) rfl
      ·have e0 := isOf hp.1; simp only [e0] at hKO; go_simp
       refine (Try.refRNeg (hS.2.2.2.1)).mono ?_
       rintro e W1 ⟨v, rfl, hv, hE⟩
       exact hKO _ W1 hE hv
      ·go_simp; exact hKO _ W (.refl W) rfl
      ·have q1 := hp.1; have e2 := isOf hp.2.1; simp only [e2] at hKO; go_simp
       refine (Try.dyadNear q1 sN.out (by omega) K (by omega)).mono ?_
       rintro e W1 ⟨v, rfl, hv, hE⟩
       rw [HNN.out] at hv
       exact hKO _ W1 hE ⟨_, rfl, hv⟩
      ·have q3 := hp.1
       obtain ⟨u, ev, hu⟩ := q3
       replace ev : vs 3 = _ := ev; simp only [ev] at hKO; go_simp; exact hKO _ W (Ext.refl W) ⟨u, rfl, hu⟩
      ·have q4 := hp.1
       obtain ⟨u, ev, hu⟩ := q4
       replace ev : vs 4 = _ := ev; simp only [ev] at hKO; go_simp; exact hKO _ W (Ext.refl W) hu
      ·have q4 := hp.1
       obtain ⟨u, ev, hu⟩ := q4
       replace ev : vs 4 = _ := ev; simp only [ev] at hKO; go_simp; exact hKO _ W (.refl W) rfl
      ·have hn := Bx2.new W 25 (.bool false) (.slice none 0 0)
       have hE := Ext.alloc1 W (.cells #[.bool false, .slice none 0 0] 25)
       have hsz := hS.2.2.2.2.2.2.2.2.2.2.2.2.2.2.2.2.2.2.2.2
       go_simp
       exact hKO _ _ hE ⟨_, rfl, hsz, hn.form⟩
      ·have q7 := hp.1; have q5 := hp.2.1
       obtain ⟨g, ev, hg, hf⟩ := q7
       replace ev : vs 7 = _ := ev
       obtain ⟨x0_0, x0_1, hx, hno⟩ := hf.bx2
       have qr := q5
       obtain ⟨b3, a3, n3, c3, er, -, -⟩ := qr
       replace er : vs 5 = _ := er
       have r0 := hx.froz0
       have t0 := hx.cell0
       have r1 := hx.froz1
       have t1 := hx.cell1
       have hw := Wr.set2 hx hno b3 a3 n3 c3
       have hq := hx.set (.bool b3) (.slice a3 n3 c3)
       simp only [ev, er] at hKO; go_simp
       exact hKO _ _ hw ⟨(Ext.wr hS.1 hw (by omega)), (hS.2.1.wr hw (by omega)), (hS.2.2.1.wr hw (by omega)), (hS.2.2.2.1.wr hw), (hS.2.2.2.2.1.wr hw), (hS.2.2.2.2.2.1.wr hw), (hS.2.2.2.2.2.2.1.wr hw (by omega)), (hS.2.2.2.2.2.2.2.1.wr hw), (hS.2.2.2.2.2.2.2.2.1.wr hw (by omega)), (hS.2.2.2.2.2.2.2.2.2.1.wr hw), (hS.2.2.2.2.2.2.2.2.2.2.1.wr hw (by omega)), (hS.2.2.2.2.2.2.2.2.2.2.2.1.wr hw), (hS.2.2.2.2.2.2.2.2.2.2.2.2.1.wr hw (by omega)), (hS.2.2.2.2.2.2.2.2.2.2.2.2.2.1.wr hw), (hS.2.2.2.2.2.2.2.2.2.2.2.2.2.2.1.wr hw (by omega)), (hS.2.2.2.2.2.2.2.2.2.2.2.2.2.2.2.1.wr hw), (hS.2.2.2.2.2.2.2.2.2.2.2.2.2.2.2.2.1.wr hw (by omega)), (hS.2.2.2.2.2.2.2.2.2.2.2.2.2.2.2.2.2.1.wr hw), (hS.2.2.2.2.2.2.2.2.2.2.2.2.2.2.2.2.2.2.1.wr hw (by omega)), (hS.2.2.2.2.2.2.2.2.2.2.2.2.2.2.2.2.2.2.2.1.wr hw), (Nat.le_trans hS.2.2.2.2.2.2.2.2.2.2.2.2.2.2.2.2.2.2.2.2 hw.apart.size)⟩ ⟨g, b3, a3, n3, c3, ev, er, hg, hq⟩
      ·have e6 := isOf hp.1; simp only [e6] at hKO; go_simp; exact hKO _ W (.refl W) rfl
     intro vs W86 hS hp
     clear szw86 E0 p3 p4 hx1 hx2 h79_4 p79_7 h80_4 p80_7 h81_4 p81_7 h82_4 p82_7 h83_4 p83_7 h84_4 p84_7 h85_5 p85_8 h85_1
     obtain ⟨E0, p3, p4, hx1, hx2, h79_4, p79_7, h80_4, p80_7, h81_4, p81_7, h82_4, p82_7, h83_4, p83_7, h84_4, p84_7, h85_5, p85_8, h85_1, sz86⟩ := hS
     obtain ⟨h86_0, h86_1, h86_2, h86_3, h86_4, h86_5, h86_6, h86_7, h86_8, h86_9, -⟩ := hp
     obtain ⟨g86_8, b86_8, a86_8, n86_8, c86_8, ev86_8, er86_8, hg86_8, p86_8⟩ := h86_8
     replace ev86_8 : vs 7 = _ := ev86_8; replace er86_8 : vs 5 = _ := er86_8; replace h86_5 := (show Zw W86 (vs 5) (-M) from h86_5)
     rw [er86_8] at h86_5
     replace h86_0 : vs 0 = .agg #[.bool b1, .slice a1 n1 c1, .slice d1 m1 o1] := h86_0
     replace h86_2 : vs 2 = .int .i64 (K : Int) := h86_2
     replace h86_6 : vs 6 = .int .i64 0 := h86_6
     replace h86_9 : vs 9 = .int .i64 0 := h86_9
     simp only [ev86_8, er86_8, h86_0, h86_2, h86_6, h86_9]
     replace h86_1 : Rw W86 (vs 1) (-x) := h86_1
     generalize vs 1 = u86_1 at h86_1 ⊢
     clear ev86_8 er86_8 h86_0 h86_2 h86_6 h86_9 h86_3 h86_4 h86_7
     obtain ⟨kp3_0, kp3_1, kp3_2⟩ := p3.c3
     obtain ⟨kp4_0, kp4_1, kp4_2⟩ := p4.c3
     obtain ⟨kp79_7_0, kp79_7_1⟩ := p79_7.c2
     obtain ⟨kp80_7_0, kp80_7_1⟩ := p80_7.c2
     obtain ⟨kp81_7_0, kp81_7_1⟩ := p81_7.c2
     obtain ⟨kp82_7_0, kp82_7_1⟩ := p82_7.c2
     obtain ⟨kp83_7_0, kp83_7_1⟩ := p83_7.c2
     obtain ⟨kp84_7_0, kp84_7_1⟩ := p84_7.c2
     obtain ⟨kp85_8_0, kp85_8_1⟩ := p85_8.c2
     obtain ⟨kp86_8_0, kp86_8_1⟩ := p86_8.c2
     go_upto_region 11 with (fail)
     clear kp3_0 kp3_1 kp3_2 kp4_0 kp4_1 kp4_2 kp79_7_0 kp79_7_1 kp80_7_0 kp80_7_1 kp81_7_0 kp81_7_1 kp82_7_0 kp82_7_1 kp83_7_0 kp83_7_1 kp84_7_0 kp84_7_1 kp85_8_0 kp85_8_1 kp86_8_0 kp86_8_1; have ltp86_8 := p86_8.lt; have szw87 := Ext.size E0
     refine region_gs [.one fun v _ => v = .agg #[.bool b85_8, .slice a85_8 n85_8 c85_8],
       .one fun v _ => v = .agg #[.bool b79_7, .slice a79_7 n79_7 c79_7],
       .one fun v W => Zw W v (-F),
       .one fun v _ => v = .bool true,
       .one fun v _ => v = .bool false,
       .one fun v _ => v = .bool false,
       .one fun v _ => v = .agg #[.bool b86_8, .slice a86_8 n86_8 c86_8],
       .one fun v _ => v = .agg #[.bool b81_7, .slice a81_7 n81_7 c81_7],
       .one fun v W => Zw W v (-M),
       .one fun v _ => v = .bool true,
       .one fun v _ => v = .bool false,
       .one fun v _ => v = .bool false]
      (fun W => Ext w W ∧ Bx3 W w.heap.size 27 (.bool b1) (.slice a1 n1 c1) (.slice d1 m1 o1) ∧ Bx3 W (w.heap.size + 1) 27 (.bool b2) (.slice a2 n2 c2) (.slice d2 m2 o2) ∧ Rw W (.agg #[.bool b1, .slice a1 n1 c1, .slice d1 m1 o1]) x ∧ Rw W (.agg #[.bool b2, .slice a2 n2 c2, .slice d2 m2 o2]) y ∧ Zw W (.agg #[.bool b79_7, .slice a79_7 n79_7 c79_7]) F ∧ Bx2 W g79_7 25 (.bool b79_7) (.slice a79_7 n79_7 c79_7) ∧ Zw W (.agg #[.bool b80_7, .slice a80_7 n80_7 c80_7]) C ∧ Bx2 W g80_7 25 (.bool b80_7) (.slice a80_7 n80_7 c80_7) ∧ Zw W (.agg #[.bool b81_7, .slice a81_7 n81_7 c81_7]) M ∧ Bx2 W g81_7 25 (.bool b81_7) (.slice a81_7 n81_7 c81_7) ∧ Zw W (.agg #[.bool b82_7, .slice a82_7 n82_7 c82_7]) G ∧ Bx2 W g82_7 25 (.bool b82_7) (.slice a82_7 n82_7 c82_7) ∧ Zw W (.agg #[.bool b83_7, .slice a83_7 n83_7 c83_7]) J ∧ Bx2 W g83_7 25 (.bool b83_7) (.slice a83_7 n83_7 c83_7) ∧ Zw W (.agg #[.bool b84_7, .slice a84_7 n84_7 c84_7]) N ∧ Bx2 W g84_7 25 (.bool b84_7) (.slice a84_7 n84_7 c84_7) ∧ Zw W (.agg #[.bool b85_8, .slice a85_8 n85_8 c85_8]) (-F) ∧ Bx2 W g85_8 25 (.bool b85_8) (.slice a85_8 n85_8 c85_8) ∧ Rw W u85_1 (-x) ∧ Zw W (.agg #[.bool b86_8, .slice a86_8 n86_8 c86_8]) (-M) ∧ Bx2 W g86_8 25 (.bool b86_8) (.slice a86_8 n86_8 c86_8) ∧ Rw W u86_1 (-x) ∧ W86.heap.size ≤ W.heap.size) ⟨Good.is _, Good.is _, Good.zed _, Good.is _, Good.is _, Good.is _, Good.is _, Good.is _, Good.zed _, Good.is _, Good.is _, Good.is _, trivial⟩
      ⟨E0, p3, p4, hx1, hx2, h79_4, p79_7, h80_4, p80_7, h81_4, p81_7, h82_4, p82_7, h83_4, p83_7, h84_4, p84_7, h85_5, p85_8, h85_1, h86_5, p86_8, h86_1, Nat.le_refl _⟩ (A := ?A87) ?hA87 ?howe87 ?hfin87
     case hA87 =>
      intro vs
      simp only [putAll, Act.put, sA, sZ, sS, Nat.zero_add, Nat.reduceAdd]
      exact rfl
     case howe87 =>
      clear E0 p3 p4 hx1 hx2 h79_4 p79_7 h80_4 p80_7 h81_4 p81_7 h82_4 p82_7 h83_4 p83_7 h84_4 p84_7 h85_5 p85_8 h85_1 h86_5 p86_8 h86_1
      intro hf
      refine ⟨oE 0 [] hf rfl ?_, oE 1 [] hf rfl ?_, oE 2 [1] hf rfl ?_, oE 3 [0, 2] hf rfl ?_, oE 4 [3] hf rfl ?_, oE 5 [4] hf rfl ?_, oE 6 [5] hf rfl ?_, oE 7 [5] hf rfl ?_, oE 8 [5, 7] hf rfl ?_, oE 9 [5, 6, 8] hf rfl ?_, oE 10 [5, 9] hf rfl ?_, oE 11 [5, 10] hf rfl ?_, trivial⟩
      all_goals intro vs W hS hp hx KO hKO
      all_goals simp only [Act.put, sA, sZ, sS] at hKO
      ·have fc0 := hS.2.2.2.2.2.2.2.2.2.2.2.2.2.2.2.2.2.2.1.cell0; have fc1 := hS.2.2.2.2.2.2.2.2.2.2.2.2.2.2.2.2.2.2.1.cell1; go_simp; exact hKO _ W (.refl W) rfl
      ·have fc0 := hS.2.2.2.2.2.2.1.cell0; have fc1 := hS.2.2.2.2.2.2.1.cell1; go_simp; exact hKO _ W (.refl W) rfl
      ·have e1 := isOf hp.1; simp only [e1] at hKO; go_simp
       refine (Try.refNeg (hS.2.2.2.2.2.1)).mono ?_
       rintro e W1 ⟨v, rfl, hv, hE⟩
       exact hKO _ W1 hE hv
      ·have e0 := isOf hp.1; have q2 := hp.2.1; simp only [e0] at hKO; go_simp
       refine (Try.refZSameD (hS.2.2.2.2.2.2.2.2.2.2.2.2.2.2.2.2.2.1) q2 rfl).mono ?_
       rintro e W1 ⟨rfl, hE⟩
       exact hKO _ W1 hE rfl
      ·have e3 := isOf hp.1; simp only [e3] at hKO; go_simp; exact hKO _ W (.refl W) rfl
      ·have e4 := isOf hp.1; simp only [e4] at hKO; go_simp; exact hKO _ W (.refl W) rfl
      ·have e5 := isOf hp.1; simp only [e5] at hKO; have fc0 := hS.2.2.2.2.2.2.2.2.2.2.2.2.2.2.2.2.2.2.2.2.2.1.cell0; have fc1 := hS.2.2.2.2.2.2.2.2.2.2.2.2.2.2.2.2.2.2.2.2.2.1.cell1; go_simp; exact hKO _ W (.refl W) rfl
      ·have e5 := isOf hp.1; simp only [e5] at hKO; have fc0 := hS.2.2.2.2.2.2.2.2.2.2.1.cell0; have fc1 := hS.2.2.2.2.2.2.2.2.2.2.1.cell1; go_simp; exact hKO _ W (.refl W) rfl
      ·have e5 := isOf hp.1; have e7 := isOf hp.2.1; simp only [e5, e7] at hKO; go_simp
       refine (Try.refNeg (hS.2.2.2.2.2.2.2.2.2.1)).mono ?_
       rintro e W1 ⟨v, rfl, hv, hE⟩
       exact hKO _ W1 hE hv
      ·have e5 := isOf hp.1; have e6 := isOf hp.2.1; have q8 := hp.2.2.1; simp only [e5, e6] at hKO; go_simp
       refine (Try.refZSameD (hS.2.2.2.2.2.2.2.2.2.2.2.2.2.2.2.2.2.2.2.2.1) q8 rfl).mono ?_
       rintro e W1 ⟨rfl, hE⟩
       exact hKO _ W1 hE rfl
      ·have e5 := isOf hp.1; have e9 := isOf hp.2.1; simp only [e5, e9] at hKO; go_simp; exact hKO _ W (.refl W) rfl
      ·have e5 := isOf hp.1; have e10 := isOf hp.2.1; simp only [e5, e10] at hKO; go_simp; exact hKO _ W (.refl W) rfl
     intro vs W87 hS hp
     clear szw87 E0 p3 p4 hx1 hx2 h79_4 p79_7 h80_4 p80_7 h81_4 p81_7 h82_4 p82_7 h83_4 p83_7 h84_4 p84_7 h85_5 p85_8 h85_1 h86_5 p86_8 h86_1
     obtain ⟨E0, p3, p4, hx1, hx2, h79_4, p79_7, h80_4, p80_7, h81_4, p81_7, h82_4, p82_7, h83_4, p83_7, h84_4, p84_7, h85_5, p85_8, h85_1, h86_5, p86_8, h86_1, sz87⟩ := hS
     obtain ⟨h87_0, h87_1, h87_2, h87_3, h87_4, h87_5, h87_6, h87_7, h87_8, h87_9, h87_10, h87_11, -⟩ := hp
     replace h87_0 : vs 0 = .agg #[.bool b85_8, .slice a85_8 n85_8 c85_8] := h87_0
     replace h87_1 : vs 1 = .agg #[.bool b79_7, .slice a79_7 n79_7 c79_7] := h87_1
     replace h87_3 : vs 3 = .bool true := h87_3
     replace h87_4 : vs 4 = .bool false := h87_4
     replace h87_5 : vs 5 = .bool false := h87_5
     replace h87_6 : vs 6 = .agg #[.bool b86_8, .slice a86_8 n86_8 c86_8] := h87_6
     replace h87_7 : vs 7 = .agg #[.bool b81_7, .slice a81_7 n81_7 c81_7] := h87_7
     replace h87_9 : vs 9 = .bool true := h87_9
     replace h87_10 : vs 10 = .bool false := h87_10
     replace h87_11 : vs 11 = .bool false := h87_11
     simp only [h87_0, h87_1, h87_3, h87_4, h87_5, h87_6, h87_7, h87_9, h87_10, h87_11]
     replace h87_2 : Zw W87 (vs 2) (-F) := h87_2
     generalize vs 2 = u87_2 at h87_2 ⊢
     replace h87_8 : Zw W87 (vs 8) (-M) := h87_8
     generalize vs 8 = u87_8 at h87_8 ⊢
     clear h87_0 h87_1 h87_3 h87_4 h87_5 h87_6 h87_7 h87_9 h87_10 h87_11
     obtain ⟨kp3_0, kp3_1, kp3_2⟩ := p3.c3
     obtain ⟨kp4_0, kp4_1, kp4_2⟩ := p4.c3
     obtain ⟨kp79_7_0, kp79_7_1⟩ := p79_7.c2
     obtain ⟨kp80_7_0, kp80_7_1⟩ := p80_7.c2
     obtain ⟨kp81_7_0, kp81_7_1⟩ := p81_7.c2
     obtain ⟨kp82_7_0, kp82_7_1⟩ := p82_7.c2
     obtain ⟨kp83_7_0, kp83_7_1⟩ := p83_7.c2
     obtain ⟨kp84_7_0, kp84_7_1⟩ := p84_7.c2
     obtain ⟨kp85_8_0, kp85_8_1⟩ := p85_8.c2
     obtain ⟨kp86_8_0, kp86_8_1⟩ := p86_8.c2
     go_upto_region 13 with (fail)
     clear kp3_0 kp3_1 kp3_2 kp4_0 kp4_1 kp4_2 kp79_7_0 kp79_7_1 kp80_7_0 kp80_7_1 kp81_7_0 kp81_7_1 kp82_7_0 kp82_7_1 kp83_7_0 kp83_7_1 kp84_7_0 kp84_7_1 kp85_8_0 kp85_8_1 kp86_8_0 kp86_8_1
     have h14 := H14.out
     clear H14
     by_cases h4 : e4 ≤ 0
     ·have h14 := h14 h4
      have he1 := Lib.hid h14.1
      have he2 := Lib.hid h14.2.1
      have he3 := Lib.hid h14.2.2
      have he4 := Lib.hid h4
      clear h14 h4
      have e1le : e1 ≤ 0 := he1.out
      have e1led := decide_eq_true e1le
      have e1gt : ¬ (0 < e1) := by omega
      have e1gtd := decide_eq_false e1gt
      have e2le : e2 ≤ 0 := he2.out
      have e2led := decide_eq_true e2le
      have e2gt : ¬ (0 < e2) := by omega
      have e2gtd := decide_eq_false e2gt
      have e3le : e3 ≤ 0 := he3.out
      have e3led := decide_eq_true e3le
      have e3gt : ¬ (0 < e3) := by omega
      have e3gtd := decide_eq_false e3gt
      have e4le : e4 ≤ 0 := he4.out
      have e4led := decide_eq_true e4le
      have e4gt : ¬ (0 < e4) := by omega
      have e4gtd := decide_eq_false e4gt
      have szw88 := Ext.size E0
      refine region_gs [.one fun v _ => v = .agg #[.bool b79_7, .slice a79_7 n79_7 c79_7],
        .one fun v _ => v = .agg #[.bool b82_7, .slice a82_7 n82_7 c82_7],
        .one fun v _ => v = .int .i64 e1,
        .one fun v _ => v = .bool true,
        .one fun v _ => v = .bool true,
        .one fun v _ => v = .agg #[.bool b80_7, .slice a80_7 n80_7 c80_7],
        .one fun v _ => v = .agg #[.bool b83_7, .slice a83_7 n83_7 c83_7],
        .one fun v _ => v = .int .i64 e2,
        .one fun v _ => v = .bool true,
        .one fun v _ => v = .bool true,
        .one fun v _ => v = .bool true,
        .one fun v _ => v = .agg #[.bool b81_7, .slice a81_7 n81_7 c81_7],
        .one fun v _ => v = .agg #[.bool b84_7, .slice a84_7 n84_7 c84_7],
        .one fun v _ => v = .int .i64 e3,
        .one fun v _ => v = .bool true,
        .one fun v _ => v = .bool true,
        .one fun v _ => v = .bool true]
       (fun W => Ext w W ∧ Bx3 W w.heap.size 27 (.bool b1) (.slice a1 n1 c1) (.slice d1 m1 o1) ∧ Bx3 W (w.heap.size + 1) 27 (.bool b2) (.slice a2 n2 c2) (.slice d2 m2 o2) ∧ Rw W (.agg #[.bool b1, .slice a1 n1 c1, .slice d1 m1 o1]) x ∧ Rw W (.agg #[.bool b2, .slice a2 n2 c2, .slice d2 m2 o2]) y ∧ Zw W (.agg #[.bool b79_7, .slice a79_7 n79_7 c79_7]) F ∧ Bx2 W g79_7 25 (.bool b79_7) (.slice a79_7 n79_7 c79_7) ∧ Zw W (.agg #[.bool b80_7, .slice a80_7 n80_7 c80_7]) C ∧ Bx2 W g80_7 25 (.bool b80_7) (.slice a80_7 n80_7 c80_7) ∧ Zw W (.agg #[.bool b81_7, .slice a81_7 n81_7 c81_7]) M ∧ Bx2 W g81_7 25 (.bool b81_7) (.slice a81_7 n81_7 c81_7) ∧ Zw W (.agg #[.bool b82_7, .slice a82_7 n82_7 c82_7]) G ∧ Bx2 W g82_7 25 (.bool b82_7) (.slice a82_7 n82_7 c82_7) ∧ Zw W (.agg #[.bool b83_7, .slice a83_7 n83_7 c83_7]) J ∧ Bx2 W g83_7 25 (.bool b83_7) (.slice a83_7 n83_7 c83_7) ∧ Zw W (.agg #[.bool b84_7, .slice a84_7 n84_7 c84_7]) N ∧ Bx2 W g84_7 25 (.bool b84_7) (.slice a84_7 n84_7 c84_7) ∧ Zw W (.agg #[.bool b85_8, .slice a85_8 n85_8 c85_8]) (-F) ∧ Bx2 W g85_8 25 (.bool b85_8) (.slice a85_8 n85_8 c85_8) ∧ Rw W u85_1 (-x) ∧ Zw W (.agg #[.bool b86_8, .slice a86_8 n86_8 c86_8]) (-M) ∧ Bx2 W g86_8 25 (.bool b86_8) (.slice a86_8 n86_8 c86_8) ∧ Rw W u86_1 (-x) ∧ Zw W u87_2 (-F) ∧ Zw W u87_8 (-M) ∧ W87.heap.size ≤ W.heap.size) ⟨Good.is _, Good.is _, Good.is _, Good.is _, Good.is _, Good.is _, Good.is _, Good.is _, Good.is _, Good.is _, Good.is _, Good.is _, Good.is _, Good.is _, Good.is _, Good.is _, Good.is _, trivial⟩
       ⟨E0, p3, p4, hx1, hx2, h79_4, p79_7, h80_4, p80_7, h81_4, p81_7, h82_4, p82_7, h83_4, p83_7, h84_4, p84_7, h85_5, p85_8, h85_1, h86_5, p86_8, h86_1, h87_2, h87_8, Nat.le_refl _⟩ (A := ?A88) ?hA88 ?howe88 ?hfin88
      case hA88 =>
       intro vs
       simp only [putAll, Act.put, sA, sZ, sS, Nat.zero_add, Nat.reduceAdd]
       exact rfl
      case howe88 =>
       clear E0 p3 p4 hx1 hx2 h79_4 p79_7 h80_4 p80_7 h81_4 p81_7 h82_4 p82_7 h83_4 p83_7 h84_4 p84_7 h85_5 p85_8 h85_1 h86_5 p86_8 h86_1 h87_2 h87_8
       intro hf
       refine ⟨oE 0 [] hf rfl ?_, oE 1 [] hf rfl ?_, oE 2 [0, 1] hf rfl ?_, oE 3 [2] hf rfl ?_, oE 4 [3] hf rfl ?_, oE 5 [4] hf rfl ?_, oE 6 [4] hf rfl ?_, oE 7 [4, 5, 6] hf rfl ?_, oE 8 [4, 7] hf rfl ?_, oE 9 [4, 8] hf rfl ?_, oE 10 [9] hf rfl ?_, oE 11 [10] hf rfl ?_, oE 12 [10] hf rfl ?_, oE 13 [10, 11, 12] hf rfl ?_, oE 14 [10, 13] hf rfl ?_, oE 15 [10, 14] hf rfl ?_, oE 16 [15] hf rfl ?_, trivial⟩
       all_goals intro vs W hS hp hx KO hKO
       all_goals simp only [Act.put, sA, sZ, sS] at hKO
       ·have fc0 := hS.2.2.2.2.2.2.1.cell0; have fc1 := hS.2.2.2.2.2.2.1.cell1; go_simp; exact hKO _ W (.refl W) rfl
       ·have fc0 := hS.2.2.2.2.2.2.2.2.2.2.2.2.1.cell0; have fc1 := hS.2.2.2.2.2.2.2.2.2.2.2.2.1.cell1; go_simp; exact hKO _ W (.refl W) rfl
       ·have e0 := isOf hp.1; have e1 := isOf hp.2.1; simp only [e0, e1] at hKO; go_simp
        refine (Try.refZCmpV (hS.2.2.2.2.2.1) (hS.2.2.2.2.2.2.2.2.2.2.2.1) HC1.out).mono ?_
        rintro e W1 ⟨rfl, hE⟩
        exact hKO _ W1 hE rfl
       ·have e2 := isOf hp.1; simp only [e2] at hKO; go_simp; exact hKO _ W (.refl W) rfl
       ·have e3 := isOf hp.1; simp only [e3] at hKO; go_simp; exact hKO _ W (.refl W) rfl
       ·have e4 := isOf hp.1; simp only [e4] at hKO; have fc0 := hS.2.2.2.2.2.2.2.2.1.cell0; have fc1 := hS.2.2.2.2.2.2.2.2.1.cell1; go_simp; exact hKO _ W (.refl W) rfl
       ·have e4 := isOf hp.1; simp only [e4] at hKO; have fc0 := hS.2.2.2.2.2.2.2.2.2.2.2.2.2.2.1.cell0; have fc1 := hS.2.2.2.2.2.2.2.2.2.2.2.2.2.2.1.cell1; go_simp; exact hKO _ W (.refl W) rfl
       ·have e4 := isOf hp.1; have e5 := isOf hp.2.1; have e6 := isOf hp.2.2.1; simp only [e4, e5, e6] at hKO; go_simp
        refine (Try.refZCmpV (hS.2.2.2.2.2.2.2.1) (hS.2.2.2.2.2.2.2.2.2.2.2.2.2.1) HC2.out).mono ?_
        rintro e W1 ⟨rfl, hE⟩
        exact hKO _ W1 hE rfl
       ·have e4 := isOf hp.1; have e7 := isOf hp.2.1; simp only [e4, e7] at hKO; go_simp; exact hKO _ W (.refl W) rfl
       ·have e4 := isOf hp.1; have e8 := isOf hp.2.1; simp only [e4, e8] at hKO; go_simp; exact hKO _ W (.refl W) rfl
       ·have e9 := isOf hp.1; simp only [e9] at hKO; go_simp; exact hKO _ W (.refl W) rfl
       ·have e10 := isOf hp.1; simp only [e10] at hKO; have fc0 := hS.2.2.2.2.2.2.2.2.2.2.1.cell0; have fc1 := hS.2.2.2.2.2.2.2.2.2.2.1.cell1; go_simp; exact hKO _ W (.refl W) rfl
       ·have e10 := isOf hp.1; simp only [e10] at hKO; have fc0 := hS.2.2.2.2.2.2.2.2.2.2.2.2.2.2.2.2.1.cell0; have fc1 := hS.2.2.2.2.2.2.2.2.2.2.2.2.2.2.2.2.1.cell1; go_simp; exact hKO _ W (.refl W) rfl
       ·have e10 := isOf hp.1; have e11 := isOf hp.2.1; have e12 := isOf hp.2.2.1; simp only [e10, e11, e12] at hKO; go_simp
        refine (Try.refZCmpV (hS.2.2.2.2.2.2.2.2.2.1) (hS.2.2.2.2.2.2.2.2.2.2.2.2.2.2.2.1) HC3.out).mono ?_
        rintro e W1 ⟨rfl, hE⟩
        exact hKO _ W1 hE rfl
       ·have e10 := isOf hp.1; have e13 := isOf hp.2.1; simp only [e10, e13] at hKO; go_simp; exact hKO _ W (.refl W) rfl
       ·have e10 := isOf hp.1; have e14 := isOf hp.2.1; simp only [e10, e14] at hKO; go_simp; exact hKO _ W (.refl W) rfl
       ·have e15 := isOf hp.1; simp only [e15] at hKO; go_simp; exact hKO _ W (.refl W) rfl
      intro vs W88 hS hp
      clear szw88 E0 p3 p4 hx1 hx2 h79_4 p79_7 h80_4 p80_7 h81_4 p81_7 h82_4 p82_7 h83_4 p83_7 h84_4 p84_7 h85_5 p85_8 h85_1 h86_5 p86_8 h86_1 h87_2 h87_8
      obtain ⟨E0, p3, p4, hx1, hx2, h79_4, p79_7, h80_4, p80_7, h81_4, p81_7, h82_4, p82_7, h83_4, p83_7, h84_4, p84_7, h85_5, p85_8, h85_1, h86_5, p86_8, h86_1, h87_2, h87_8, sz88⟩ := hS
      obtain ⟨h88_0, h88_1, h88_2, h88_3, h88_4, h88_5, h88_6, h88_7, h88_8, h88_9, h88_10, h88_11, h88_12, h88_13, h88_14, h88_15, h88_16, -⟩ := hp
      replace h88_0 : vs 0 = .agg #[.bool b79_7, .slice a79_7 n79_7 c79_7] := h88_0
      replace h88_1 : vs 1 = .agg #[.bool b82_7, .slice a82_7 n82_7 c82_7] := h88_1
      replace h88_2 : vs 2 = .int .i64 e1 := h88_2
      replace h88_3 : vs 3 = .bool true := h88_3
      replace h88_4 : vs 4 = .bool true := h88_4
      replace h88_5 : vs 5 = .agg #[.bool b80_7, .slice a80_7 n80_7 c80_7] := h88_5
      replace h88_6 : vs 6 = .agg #[.bool b83_7, .slice a83_7 n83_7 c83_7] := h88_6
      replace h88_7 : vs 7 = .int .i64 e2 := h88_7
      replace h88_8 : vs 8 = .bool true := h88_8
      replace h88_9 : vs 9 = .bool true := h88_9
      replace h88_10 : vs 10 = .bool true := h88_10
      replace h88_11 : vs 11 = .agg #[.bool b81_7, .slice a81_7 n81_7 c81_7] := h88_11
      replace h88_12 : vs 12 = .agg #[.bool b84_7, .slice a84_7 n84_7 c84_7] := h88_12
      replace h88_13 : vs 13 = .int .i64 e3 := h88_13
      replace h88_14 : vs 14 = .bool true := h88_14
      replace h88_15 : vs 15 = .bool true := h88_15
      replace h88_16 : vs 16 = .bool true := h88_16
      simp only [h88_0, h88_1, h88_2, h88_3, h88_4, h88_5, h88_6, h88_7, h88_8, h88_9, h88_10, h88_11, h88_12, h88_13, h88_14, h88_15, h88_16]
      clear h88_0 h88_1 h88_2 h88_3 h88_4 h88_5 h88_6 h88_7 h88_8 h88_9 h88_10 h88_11 h88_12 h88_13 h88_14 h88_15 h88_16
      obtain ⟨kp3_0, kp3_1, kp3_2⟩ := p3.c3
      obtain ⟨kp4_0, kp4_1, kp4_2⟩ := p4.c3
      obtain ⟨kp79_7_0, kp79_7_1⟩ := p79_7.c2
      obtain ⟨kp80_7_0, kp80_7_1⟩ := p80_7.c2
      obtain ⟨kp81_7_0, kp81_7_1⟩ := p81_7.c2
      obtain ⟨kp82_7_0, kp82_7_1⟩ := p82_7.c2
      obtain ⟨kp83_7_0, kp83_7_1⟩ := p83_7.c2
      obtain ⟨kp84_7_0, kp84_7_1⟩ := p84_7.c2
      obtain ⟨kp85_8_0, kp85_8_1⟩ := p85_8.c2
      obtain ⟨kp86_8_0, kp86_8_1⟩ := p86_8.c2
      go_upto_region 14 with (fail)
      clear kp3_0 kp3_1 kp3_2 kp4_0 kp4_1 kp4_2 kp79_7_0 kp79_7_1 kp80_7_0 kp80_7_1 kp81_7_0 kp81_7_1 kp82_7_0 kp82_7_1 kp83_7_0 kp83_7_1 kp84_7_0 kp84_7_1 kp85_8_0 kp85_8_1 kp86_8_0 kp86_8_1; have szw89 := Ext.size E0
      refine region_gs [.one fun v _ => v = .bool true,
        .one fun v _ => v = .bool true,
        .one fun v _ => v = .agg #[.bool b1, .slice a1 n1 c1, .slice d1 m1 o1],
        .one fun v _ => v = .agg #[.bool b2, .slice a2 n2 c2, .slice d2 m2 o2],
        .one fun v _ => v = .int .i64 e4,
        .one fun v _ => v = .bool false,
        .one fun v _ => v = .bool false,
        .one fun v _ => v = .bool true,
        .one fun v _ => v = .bool true,
        .one fun v _ => v = .bool true,
        .one fun v _ => v = .bool true]
       (fun W => Ext w W ∧ Bx3 W w.heap.size 27 (.bool b1) (.slice a1 n1 c1) (.slice d1 m1 o1) ∧ Bx3 W (w.heap.size + 1) 27 (.bool b2) (.slice a2 n2 c2) (.slice d2 m2 o2) ∧ Rw W (.agg #[.bool b1, .slice a1 n1 c1, .slice d1 m1 o1]) x ∧ Rw W (.agg #[.bool b2, .slice a2 n2 c2, .slice d2 m2 o2]) y ∧ Zw W (.agg #[.bool b79_7, .slice a79_7 n79_7 c79_7]) F ∧ Bx2 W g79_7 25 (.bool b79_7) (.slice a79_7 n79_7 c79_7) ∧ Zw W (.agg #[.bool b80_7, .slice a80_7 n80_7 c80_7]) C ∧ Bx2 W g80_7 25 (.bool b80_7) (.slice a80_7 n80_7 c80_7) ∧ Zw W (.agg #[.bool b81_7, .slice a81_7 n81_7 c81_7]) M ∧ Bx2 W g81_7 25 (.bool b81_7) (.slice a81_7 n81_7 c81_7) ∧ Zw W (.agg #[.bool b82_7, .slice a82_7 n82_7 c82_7]) G ∧ Bx2 W g82_7 25 (.bool b82_7) (.slice a82_7 n82_7 c82_7) ∧ Zw W (.agg #[.bool b83_7, .slice a83_7 n83_7 c83_7]) J ∧ Bx2 W g83_7 25 (.bool b83_7) (.slice a83_7 n83_7 c83_7) ∧ Zw W (.agg #[.bool b84_7, .slice a84_7 n84_7 c84_7]) N ∧ Bx2 W g84_7 25 (.bool b84_7) (.slice a84_7 n84_7 c84_7) ∧ Zw W (.agg #[.bool b85_8, .slice a85_8 n85_8 c85_8]) (-F) ∧ Bx2 W g85_8 25 (.bool b85_8) (.slice a85_8 n85_8 c85_8) ∧ Rw W u85_1 (-x) ∧ Zw W (.agg #[.bool b86_8, .slice a86_8 n86_8 c86_8]) (-M) ∧ Bx2 W g86_8 25 (.bool b86_8) (.slice a86_8 n86_8 c86_8) ∧ Rw W u86_1 (-x) ∧ Zw W u87_2 (-F) ∧ Zw W u87_8 (-M) ∧ W88.heap.size ≤ W.heap.size) ⟨Good.is _, Good.is _, Good.is _, Good.is _, Good.is _, Good.is _, Good.is _, Good.is _, Good.is _, Good.is _, Good.is _, trivial⟩
       ⟨E0, p3, p4, hx1, hx2, h79_4, p79_7, h80_4, p80_7, h81_4, p81_7, h82_4, p82_7, h83_4, p83_7, h84_4, p84_7, h85_5, p85_8, h85_1, h86_5, p86_8, h86_1, h87_2, h87_8, Nat.le_refl _⟩ (A := ?A89) ?hA89 ?howe89 ?hfin89
      case hA89 =>
       intro vs
       simp only [putAll, Act.put, sA, sZ, sS, Nat.zero_add, Nat.reduceAdd]
       exact rfl
      case howe89 =>
       clear E0 p3 p4 hx1 hx2 h79_4 p79_7 h80_4 p80_7 h81_4 p81_7 h82_4 p82_7 h83_4 p83_7 h84_4 p84_7 h85_5 p85_8 h85_1 h86_5 p86_8 h86_1 h87_2 h87_8
       intro hf
       refine ⟨oE 0 [] hf rfl ?_, oE 1 [0] hf rfl ?_, oE 2 [1] hf rfl ?_, oE 3 [1] hf rfl ?_, oE 4 [1, 2, 3] hf rfl ?_, oE 5 [1, 4] hf rfl ?_, oE 6 [1, 5] hf rfl ?_, oE 7 [6] hf rfl ?_, oE 8 [1, 6, 7] hf rfl ?_, oE 9 [1, 8] hf rfl ?_, oE 10 [9] hf rfl ?_, trivial⟩
       all_goals intro vs W hS hp hx KO hKO
       all_goals simp only [Act.put, sA, sZ, sS] at hKO
       ·go_simp
        refine (Try.alive06 _).mono ?_
        rintro e W1 ⟨rfl, hE⟩
        exact hKO _ W1 hE rfl
       ·have e0 := isOf hp.1; simp only [e0] at hKO; go_simp; exact hKO _ W (.refl W) rfl
       ·have e1 := isOf hp.1; simp only [e1] at hKO; have fc0 := hS.2.1.cell0; have fc1 := hS.2.1.cell1; have fc2 := hS.2.1.cell2; go_simp; exact hKO _ W (.refl W) rfl
       ·have e1 := isOf hp.1; simp only [e1] at hKO; have fc0 := hS.2.2.1.cell0; have fc1 := hS.2.2.1.cell1; have fc2 := hS.2.2.1.cell2; go_simp; exact hKO _ W (.refl W) rfl
       ·have e1 := isOf hp.1; have e2 := isOf hp.2.1; have e3 := isOf hp.2.2.1; simp only [e1, e2, e3] at hKO; go_simp
        refine (Try.refRCmpR (hS.2.2.2.1) (hS.2.2.2.2.1) s1 s2 (by omega) HC4.out).mono ?_
        rintro e W1 ⟨rfl, hE⟩
        exact hKO _ W1 hE rfl
       ·have e1 := isOf hp.1; have e4 := isOf hp.2.1; simp only [e1, e4] at hKO; go_simp; exact hKO _ W (.refl W) rfl
       ·have e1 := isOf hp.1; have e5 := isOf hp.2.1; simp only [e1, e5] at hKO; go_simp; exact hKO _ W (.refl W) rfl
       ·have e6 := isOf hp.1; simp only [e6] at hKO; go_simp; exact hKO _ W (.refl W) rfl
       ·have e1 := isOf hp.1; have e6 := isOf hp.2.1; have e7 := isOf hp.2.2.1; simp only [e1, e6, e7] at hKO; go_simp; exact hKO _ W (.refl W) rfl
       ·have e1 := isOf hp.1; have e8 := isOf hp.2.1; simp only [e1, e8] at hKO; go_simp; exact hKO _ W (.refl W) rfl
       ·have e9 := isOf hp.1; simp only [e9] at hKO; go_simp; exact hKO _ W (.refl W) rfl
      intro vs W89 hS hp
      clear szw89 E0 p3 p4 hx1 hx2 h79_4 p79_7 h80_4 p80_7 h81_4 p81_7 h82_4 p82_7 h83_4 p83_7 h84_4 p84_7 h85_5 p85_8 h85_1 h86_5 p86_8 h86_1 h87_2 h87_8
      obtain ⟨E0, p3, p4, hx1, hx2, h79_4, p79_7, h80_4, p80_7, h81_4, p81_7, h82_4, p82_7, h83_4, p83_7, h84_4, p84_7, h85_5, p85_8, h85_1, h86_5, p86_8, h86_1, h87_2, h87_8, sz89⟩ := hS
      obtain ⟨h89_0, h89_1, h89_2, h89_3, h89_4, h89_5, h89_6, h89_7, h89_8, h89_9, h89_10, -⟩ := hp
      replace h89_0 : vs 0 = .bool true := h89_0
      replace h89_1 : vs 1 = .bool true := h89_1
      replace h89_2 : vs 2 = .agg #[.bool b1, .slice a1 n1 c1, .slice d1 m1 o1] := h89_2
      replace h89_3 : vs 3 = .agg #[.bool b2, .slice a2 n2 c2, .slice d2 m2 o2] := h89_3
      replace h89_4 : vs 4 = .int .i64 e4 := h89_4
      replace h89_5 : vs 5 = .bool false := h89_5
      replace h89_6 : vs 6 = .bool false := h89_6
      replace h89_7 : vs 7 = .bool true := h89_7
      replace h89_8 : vs 8 = .bool true := h89_8
      replace h89_9 : vs 9 = .bool true := h89_9
      replace h89_10 : vs 10 = .bool true := h89_10
      simp only [h89_0, h89_1, h89_2, h89_3, h89_4, h89_5, h89_6, h89_7, h89_8, h89_9, h89_10]
      clear h89_0 h89_1 h89_2 h89_3 h89_4 h89_5 h89_6 h89_7 h89_8 h89_9 h89_10
      obtain ⟨kp3_0, kp3_1, kp3_2⟩ := p3.c3
      obtain ⟨kp4_0, kp4_1, kp4_2⟩ := p4.c3
      obtain ⟨kp79_7_0, kp79_7_1⟩ := p79_7.c2
      obtain ⟨kp80_7_0, kp80_7_1⟩ := p80_7.c2
      obtain ⟨kp81_7_0, kp81_7_1⟩ := p81_7.c2
      obtain ⟨kp82_7_0, kp82_7_1⟩ := p82_7.c2
      obtain ⟨kp83_7_0, kp83_7_1⟩ := p83_7.c2
      obtain ⟨kp84_7_0, kp84_7_1⟩ := p84_7.c2
      obtain ⟨kp85_8_0, kp85_8_1⟩ := p85_8.c2
      obtain ⟨kp86_8_0, kp86_8_1⟩ := p86_8.c2
      go_wp2; go_ret
      exact ⟨rfl, E0⟩
     ·have he4 := Lib.hid h4
      clear h14 h4
      by_cases h1 : e1 ≤ 0
      ·have he1 := Lib.hid h1
       clear h1
       by_cases h2 : e2 ≤ 0
       ·have he2 := Lib.hid h2
        clear h2
        by_cases h3 : e3 ≤ 0
        ·have he3 := Lib.hid h3
         clear h3
         have e1le : e1 ≤ 0 := he1.out
         have e1led := decide_eq_true e1le
         have e1gt : ¬ (0 < e1) := by omega
         have e1gtd := decide_eq_false e1gt
         have e2le : e2 ≤ 0 := he2.out
         have e2led := decide_eq_true e2le
         have e2gt : ¬ (0 < e2) := by omega
         have e2gtd := decide_eq_false e2gt
         have e3le : e3 ≤ 0 := he3.out
         have e3led := decide_eq_true e3le
         have e3gt : ¬ (0 < e3) := by omega
         have e3gtd := decide_eq_false e3gt
         have e4gt : 0 < e4 := by have := he4.out; omega
         have e4gtd := decide_eq_true e4gt
         have e4le : ¬ (e4 ≤ 0) := by omega
         have e4led := decide_eq_false e4le
         have szw90 := Ext.size E0
         refine region_gs [.one fun v _ => v = .agg #[.bool b79_7, .slice a79_7 n79_7 c79_7],
           .one fun v _ => v = .agg #[.bool b82_7, .slice a82_7 n82_7 c82_7],
           .one fun v _ => v = .int .i64 e1,
           .one fun v _ => v = .bool true,
           .one fun v _ => v = .bool true,
           .one fun v _ => v = .agg #[.bool b80_7, .slice a80_7 n80_7 c80_7],
           .one fun v _ => v = .agg #[.bool b83_7, .slice a83_7 n83_7 c83_7],
           .one fun v _ => v = .int .i64 e2,
           .one fun v _ => v = .bool true,
           .one fun v _ => v = .bool true,
           .one fun v _ => v = .bool true,
           .one fun v _ => v = .agg #[.bool b81_7, .slice a81_7 n81_7 c81_7],
           .one fun v _ => v = .agg #[.bool b84_7, .slice a84_7 n84_7 c84_7],
           .one fun v _ => v = .int .i64 e3,
           .one fun v _ => v = .bool true,
           .one fun v _ => v = .bool true,
           .one fun v _ => v = .bool true]
          (fun W => Ext w W ∧ Bx3 W w.heap.size 27 (.bool b1) (.slice a1 n1 c1) (.slice d1 m1 o1) ∧ Bx3 W (w.heap.size + 1) 27 (.bool b2) (.slice a2 n2 c2) (.slice d2 m2 o2) ∧ Rw W (.agg #[.bool b1, .slice a1 n1 c1, .slice d1 m1 o1]) x ∧ Rw W (.agg #[.bool b2, .slice a2 n2 c2, .slice d2 m2 o2]) y ∧ Zw W (.agg #[.bool b79_7, .slice a79_7 n79_7 c79_7]) F ∧ Bx2 W g79_7 25 (.bool b79_7) (.slice a79_7 n79_7 c79_7) ∧ Zw W (.agg #[.bool b80_7, .slice a80_7 n80_7 c80_7]) C ∧ Bx2 W g80_7 25 (.bool b80_7) (.slice a80_7 n80_7 c80_7) ∧ Zw W (.agg #[.bool b81_7, .slice a81_7 n81_7 c81_7]) M ∧ Bx2 W g81_7 25 (.bool b81_7) (.slice a81_7 n81_7 c81_7) ∧ Zw W (.agg #[.bool b82_7, .slice a82_7 n82_7 c82_7]) G ∧ Bx2 W g82_7 25 (.bool b82_7) (.slice a82_7 n82_7 c82_7) ∧ Zw W (.agg #[.bool b83_7, .slice a83_7 n83_7 c83_7]) J ∧ Bx2 W g83_7 25 (.bool b83_7) (.slice a83_7 n83_7 c83_7) ∧ Zw W (.agg #[.bool b84_7, .slice a84_7 n84_7 c84_7]) N ∧ Bx2 W g84_7 25 (.bool b84_7) (.slice a84_7 n84_7 c84_7) ∧ Zw W (.agg #[.bool b85_8, .slice a85_8 n85_8 c85_8]) (-F) ∧ Bx2 W g85_8 25 (.bool b85_8) (.slice a85_8 n85_8 c85_8) ∧ Rw W u85_1 (-x) ∧ Zw W (.agg #[.bool b86_8, .slice a86_8 n86_8 c86_8]) (-M) ∧ Bx2 W g86_8 25 (.bool b86_8) (.slice a86_8 n86_8 c86_8) ∧ Rw W u86_1 (-x) ∧ Zw W u87_2 (-F) ∧ Zw W u87_8 (-M) ∧ W87.heap.size ≤ W.heap.size) ⟨Good.is _, Good.is _, Good.is _, Good.is _, Good.is _, Good.is _, Good.is _, Good.is _, Good.is _, Good.is _, Good.is _, Good.is _, Good.is _, Good.is _, Good.is _, Good.is _, Good.is _, trivial⟩
          ⟨E0, p3, p4, hx1, hx2, h79_4, p79_7, h80_4, p80_7, h81_4, p81_7, h82_4, p82_7, h83_4, p83_7, h84_4, p84_7, h85_5, p85_8, h85_1, h86_5, p86_8, h86_1, h87_2, h87_8, Nat.le_refl _⟩ (A := ?A90) ?hA90 ?howe90 ?hfin90
         case hA90 =>
          intro vs
          simp only [putAll, Act.put, sA, sZ, sS, Nat.zero_add, Nat.reduceAdd]
          exact rfl
         case howe90 =>
          clear E0 p3 p4 hx1 hx2 h79_4 p79_7 h80_4 p80_7 h81_4 p81_7 h82_4 p82_7 h83_4 p83_7 h84_4 p84_7 h85_5 p85_8 h85_1 h86_5 p86_8 h86_1 h87_2 h87_8
          intro hf
          refine ⟨oE 0 [] hf rfl ?_, oE 1 [] hf rfl ?_, oE 2 [0, 1] hf rfl ?_, oE 3 [2] hf rfl ?_, oE 4 [3] hf rfl ?_, oE 5 [4] hf rfl ?_, oE 6 [4] hf rfl ?_, oE 7 [4, 5, 6] hf rfl ?_, oE 8 [4, 7] hf rfl ?_, oE 9 [4, 8] hf rfl ?_, oE 10 [9] hf rfl ?_, oE 11 [10] hf rfl ?_, oE 12 [10] hf rfl ?_, oE 13 [10, 11, 12] hf rfl ?_, oE 14 [10, 13] hf rfl ?_, oE 15 [10, 14] hf rfl ?_, oE 16 [15] hf rfl ?_, trivial⟩
          all_goals intro vs W hS hp hx KO hKO
          all_goals simp only [Act.put, sA, sZ, sS] at hKO
          ·have fc0 := hS.2.2.2.2.2.2.1.cell0; have fc1 := hS.2.2.2.2.2.2.1.cell1; go_simp; exact hKO _ W (.refl W) rfl
          ·have fc0 := hS.2.2.2.2.2.2.2.2.2.2.2.2.1.cell0; have fc1 := hS.2.2.2.2.2.2.2.2.2.2.2.2.1.cell1; go_simp; exact hKO _ W (.refl W) rfl
          ·have e0 := isOf hp.1; have e1 := isOf hp.2.1; simp only [e0, e1] at hKO; go_simp
           refine (Try.refZCmpV (hS.2.2.2.2.2.1) (hS.2.2.2.2.2.2.2.2.2.2.2.1) HC1.out).mono ?_
           rintro e W1 ⟨rfl, hE⟩
           exact hKO _ W1 hE rfl
          ·have e2 := isOf hp.1; simp only [e2] at hKO; go_simp; exact hKO _ W (.refl W) rfl
          ·have e3 := isOf hp.1; simp only [e3] at hKO; go_simp; exact hKO _ W (.refl W) rfl
          ·have e4 := isOf hp.1; simp only [e4] at hKO; have fc0 := hS.2.2.2.2.2.2.2.2.1.cell0; have fc1 := hS.2.2.2.2.2.2.2.2.1.cell1; go_simp; exact hKO _ W (.refl W) rfl
          ·have e4 := isOf hp.1; simp only [e4] at hKO; have fc0 := hS.2.2.2.2.2.2.2.2.2.2.2.2.2.2.1.cell0; have fc1 := hS.2.2.2.2.2.2.2.2.2.2.2.2.2.2.1.cell1; go_simp; exact hKO _ W (.refl W) rfl
          ·have e4 := isOf hp.1; have e5 := isOf hp.2.1; have e6 := isOf hp.2.2.1; simp only [e4, e5, e6] at hKO; go_simp
           refine (Try.refZCmpV (hS.2.2.2.2.2.2.2.1) (hS.2.2.2.2.2.2.2.2.2.2.2.2.2.1) HC2.out).mono ?_
           rintro e W1 ⟨rfl, hE⟩
           exact hKO _ W1 hE rfl
          ·have e4 := isOf hp.1; have e7 := isOf hp.2.1; simp only [e4, e7] at hKO; go_simp; exact hKO _ W (.refl W) rfl
          ·have e4 := isOf hp.1; have e8 := isOf hp.2.1; simp only [e4, e8] at hKO; go_simp; exact hKO _ W (.refl W) rfl
          ·have e9 := isOf hp.1; simp only [e9] at hKO; go_simp; exact hKO _ W (.refl W) rfl
          ·have e10 := isOf hp.1; simp only [e10] at hKO; have fc0 := hS.2.2.2.2.2.2.2.2.2.2.1.cell0; have fc1 := hS.2.2.2.2.2.2.2.2.2.2.1.cell1; go_simp; exact hKO _ W (.refl W) rfl
          ·have e10 := isOf hp.1; simp only [e10] at hKO; have fc0 := hS.2.2.2.2.2.2.2.2.2.2.2.2.2.2.2.2.1.cell0; have fc1 := hS.2.2.2.2.2.2.2.2.2.2.2.2.2.2.2.2.1.cell1; go_simp; exact hKO _ W (.refl W) rfl
          ·have e10 := isOf hp.1; have e11 := isOf hp.2.1; have e12 := isOf hp.2.2.1; simp only [e10, e11, e12] at hKO; go_simp
           refine (Try.refZCmpV (hS.2.2.2.2.2.2.2.2.2.1) (hS.2.2.2.2.2.2.2.2.2.2.2.2.2.2.2.1) HC3.out).mono ?_
           rintro e W1 ⟨rfl, hE⟩
           exact hKO _ W1 hE rfl
          ·have e10 := isOf hp.1; have e13 := isOf hp.2.1; simp only [e10, e13] at hKO; go_simp; exact hKO _ W (.refl W) rfl
          ·have e10 := isOf hp.1; have e14 := isOf hp.2.1; simp only [e10, e14] at hKO; go_simp; exact hKO _ W (.refl W) rfl
          ·have e15 := isOf hp.1; simp only [e15] at hKO; go_simp; exact hKO _ W (.refl W) rfl
         intro vs W90 hS hp
         clear szw90 E0 p3 p4 hx1 hx2 h79_4 p79_7 h80_4 p80_7 h81_4 p81_7 h82_4 p82_7 h83_4 p83_7 h84_4 p84_7 h85_5 p85_8 h85_1 h86_5 p86_8 h86_1 h87_2 h87_8
         obtain ⟨E0, p3, p4, hx1, hx2, h79_4, p79_7, h80_4, p80_7, h81_4, p81_7, h82_4, p82_7, h83_4, p83_7, h84_4, p84_7, h85_5, p85_8, h85_1, h86_5, p86_8, h86_1, h87_2, h87_8, sz90⟩ := hS
         obtain ⟨h90_0, h90_1, h90_2, h90_3, h90_4, h90_5, h90_6, h90_7, h90_8, h90_9, h90_10, h90_11, h90_12, h90_13, h90_14, h90_15, h90_16, -⟩ := hp
         replace h90_0 : vs 0 = .agg #[.bool b79_7, .slice a79_7 n79_7 c79_7] := h90_0
         replace h90_1 : vs 1 = .agg #[.bool b82_7, .slice a82_7 n82_7 c82_7] := h90_1
         replace h90_2 : vs 2 = .int .i64 e1 := h90_2
         replace h90_3 : vs 3 = .bool true := h90_3
         replace h90_4 : vs 4 = .bool true := h90_4
         replace h90_5 : vs 5 = .agg #[.bool b80_7, .slice a80_7 n80_7 c80_7] := h90_5
         replace h90_6 : vs 6 = .agg #[.bool b83_7, .slice a83_7 n83_7 c83_7] := h90_6
         replace h90_7 : vs 7 = .int .i64 e2 := h90_7
         replace h90_8 : vs 8 = .bool true := h90_8
         replace h90_9 : vs 9 = .bool true := h90_9
         replace h90_10 : vs 10 = .bool true := h90_10
         replace h90_11 : vs 11 = .agg #[.bool b81_7, .slice a81_7 n81_7 c81_7] := h90_11
         replace h90_12 : vs 12 = .agg #[.bool b84_7, .slice a84_7 n84_7 c84_7] := h90_12
         replace h90_13 : vs 13 = .int .i64 e3 := h90_13
         replace h90_14 : vs 14 = .bool true := h90_14
         replace h90_15 : vs 15 = .bool true := h90_15
         replace h90_16 : vs 16 = .bool true := h90_16
         simp only [h90_0, h90_1, h90_2, h90_3, h90_4, h90_5, h90_6, h90_7, h90_8, h90_9, h90_10, h90_11, h90_12, h90_13, h90_14, h90_15, h90_16]
         clear h90_0 h90_1 h90_2 h90_3 h90_4 h90_5 h90_6 h90_7 h90_8 h90_9 h90_10 h90_11 h90_12 h90_13 h90_14 h90_15 h90_16
         obtain ⟨kp3_0, kp3_1, kp3_2⟩ := p3.c3
         obtain ⟨kp4_0, kp4_1, kp4_2⟩ := p4.c3
         obtain ⟨kp79_7_0, kp79_7_1⟩ := p79_7.c2
         obtain ⟨kp80_7_0, kp80_7_1⟩ := p80_7.c2
         obtain ⟨kp81_7_0, kp81_7_1⟩ := p81_7.c2
         obtain ⟨kp82_7_0, kp82_7_1⟩ := p82_7.c2
         obtain ⟨kp83_7_0, kp83_7_1⟩ := p83_7.c2
         obtain ⟨kp84_7_0, kp84_7_1⟩ := p84_7.c2
         obtain ⟨kp85_8_0, kp85_8_1⟩ := p85_8.c2
         obtain ⟨kp86_8_0, kp86_8_1⟩ := p86_8.c2
         go_upto_region 14 with (fail)
         clear kp3_0 kp3_1 kp3_2 kp4_0 kp4_1 kp4_2 kp79_7_0 kp79_7_1 kp80_7_0 kp80_7_1 kp81_7_0 kp81_7_1 kp82_7_0 kp82_7_1 kp83_7_0 kp83_7_1 kp84_7_0 kp84_7_1 kp85_8_0 kp85_8_1 kp86_8_0 kp86_8_1; have szw91 := Ext.size E0
         refine region_gs [.one fun v _ => v = .bool true,
           .one fun v _ => v = .bool true,
           .one fun v _ => v = .agg #[.bool b1, .slice a1 n1 c1, .slice d1 m1 o1],
           .one fun v _ => v = .agg #[.bool b2, .slice a2 n2 c2, .slice d2 m2 o2],
           .one fun v _ => v = .int .i64 e4,
           .one fun v _ => v = .bool true,
           .one fun v _ => v = .bool true,
           .one fun v _ => v = undef,
           .one fun v _ => v = .bool true,
           .one fun v _ => v = .bool true,
           .one fun v _ => v = .bool true]
          (fun W => Ext w W ∧ Bx3 W w.heap.size 27 (.bool b1) (.slice a1 n1 c1) (.slice d1 m1 o1) ∧ Bx3 W (w.heap.size + 1) 27 (.bool b2) (.slice a2 n2 c2) (.slice d2 m2 o2) ∧ Rw W (.agg #[.bool b1, .slice a1 n1 c1, .slice d1 m1 o1]) x ∧ Rw W (.agg #[.bool b2, .slice a2 n2 c2, .slice d2 m2 o2]) y ∧ Zw W (.agg #[.bool b79_7, .slice a79_7 n79_7 c79_7]) F ∧ Bx2 W g79_7 25 (.bool b79_7) (.slice a79_7 n79_7 c79_7) ∧ Zw W (.agg #[.bool b80_7, .slice a80_7 n80_7 c80_7]) C ∧ Bx2 W g80_7 25 (.bool b80_7) (.slice a80_7 n80_7 c80_7) ∧ Zw W (.agg #[.bool b81_7, .slice a81_7 n81_7 c81_7]) M ∧ Bx2 W g81_7 25 (.bool b81_7) (.slice a81_7 n81_7 c81_7) ∧ Zw W (.agg #[.bool b82_7, .slice a82_7 n82_7 c82_7]) G ∧ Bx2 W g82_7 25 (.bool b82_7) (.slice a82_7 n82_7 c82_7) ∧ Zw W (.agg #[.bool b83_7, .slice a83_7 n83_7 c83_7]) J ∧ Bx2 W g83_7 25 (.bool b83_7) (.slice a83_7 n83_7 c83_7) ∧ Zw W (.agg #[.bool b84_7, .slice a84_7 n84_7 c84_7]) N ∧ Bx2 W g84_7 25 (.bool b84_7) (.slice a84_7 n84_7 c84_7) ∧ Zw W (.agg #[.bool b85_8, .slice a85_8 n85_8 c85_8]) (-F) ∧ Bx2 W g85_8 25 (.bool b85_8) (.slice a85_8 n85_8 c85_8) ∧ Rw W u85_1 (-x) ∧ Zw W (.agg #[.bool b86_8, .slice a86_8 n86_8 c86_8]) (-M) ∧ Bx2 W g86_8 25 (.bool b86_8) (.slice a86_8 n86_8 c86_8) ∧ Rw W u86_1 (-x) ∧ Zw W u87_2 (-F) ∧ Zw W u87_8 (-M) ∧ W90.heap.size ≤ W.heap.size) ⟨Good.is _, Good.is _, Good.is _, Good.is _, Good.is _, Good.is _, Good.is _, Good.is _, Good.is _, Good.is _, Good.is _, trivial⟩
          ⟨E0, p3, p4, hx1, hx2, h79_4, p79_7, h80_4, p80_7, h81_4, p81_7, h82_4, p82_7, h83_4, p83_7, h84_4, p84_7, h85_5, p85_8, h85_1, h86_5, p86_8, h86_1, h87_2, h87_8, Nat.le_refl _⟩ (A := ?A91) ?hA91 ?howe91 ?hfin91
         case hA91 =>
          intro vs
          simp only [putAll, Act.put, sA, sZ, sS, Nat.zero_add, Nat.reduceAdd]
          exact rfl
         case howe91 =>
          clear E0 p3 p4 hx1 hx2 h79_4 p79_7 h80_4 p80_7 h81_4 p81_7 h82_4 p82_7 h83_4 p83_7 h84_4 p84_7 h85_5 p85_8 h85_1 h86_5 p86_8 h86_1 h87_2 h87_8
          intro hf
          refine ⟨oE 0 [] hf rfl ?_, oE 1 [0] hf rfl ?_, oE 2 [1] hf rfl ?_, oE 3 [1] hf rfl ?_, oE 4 [1, 2, 3] hf rfl ?_, oE 5 [1, 4] hf rfl ?_, oE 6 [1, 5] hf rfl ?_, oE 7 [6] hf rfl ?_, oE 8 [1, 6, 7] hf rfl ?_, oE 9 [1, 8] hf rfl ?_, oE 10 [9] hf rfl ?_, trivial⟩
          all_goals intro vs W hS hp hx KO hKO
          all_goals simp only [Act.put, sA, sZ, sS] at hKO
          ·go_simp
           refine (Try.alive06 _).mono ?_
           rintro e W1 ⟨rfl, hE⟩
           exact hKO _ W1 hE rfl
          ·have e0 := isOf hp.1; simp only [e0] at hKO; go_simp; exact hKO _ W (.refl W) rfl
          ·have e1 := isOf hp.1; simp only [e1] at hKO; have fc0 := hS.2.1.cell0; have fc1 := hS.2.1.cell1; have fc2 := hS.2.1.cell2; go_simp; exact hKO _ W (.refl W) rfl
          ·have e1 := isOf hp.1; simp only [e1] at hKO; have fc0 := hS.2.2.1.cell0; have fc1 := hS.2.2.1.cell1; have fc2 := hS.2.2.1.cell2; go_simp; exact hKO _ W (.refl W) rfl
          ·have e1 := isOf hp.1; have e2 := isOf hp.2.1; have e3 := isOf hp.2.2.1; simp only [e1, e2, e3] at hKO; go_simp
           refine (Try.refRCmpR (hS.2.2.2.1) (hS.2.2.2.2.1) s1 s2 (by omega) HC4.out).mono ?_
           rintro e W1 ⟨rfl, hE⟩
           exact hKO _ W1 hE rfl
          ·have e1 := isOf hp.1; have e4 := isOf hp.2.1; simp only [e1, e4] at hKO; go_simp; exact hKO _ W (.refl W) rfl
          ·have e1 := isOf hp.1; have e5 := isOf hp.2.1; simp only [e1, e5] at hKO; go_simp; exact hKO _ W (.refl W) rfl
          ·have e6 := isOf hp.1; simp only [e6] at hKO; go_simp; exact hKO _ W (.refl W) rfl
          ·have e1 := isOf hp.1; have e6 := isOf hp.2.1; have e7 := isOf hp.2.2.1; simp only [e1, e6, e7] at hKO; go_simp; exact hKO _ W (.refl W) rfl
          ·have e1 := isOf hp.1; have e8 := isOf hp.2.1; simp only [e1, e8] at hKO; go_simp; exact hKO _ W (.refl W) rfl
          ·have e9 := isOf hp.1; simp only [e9] at hKO; go_simp; exact hKO _ W (.refl W) rfl
         intro vs W91 hS hp
         clear szw91 E0 p3 p4 hx1 hx2 h79_4 p79_7 h80_4 p80_7 h81_4 p81_7 h82_4 p82_7 h83_4 p83_7 h84_4 p84_7 h85_5 p85_8 h85_1 h86_5 p86_8 h86_1 h87_2 h87_8
         obtain ⟨E0, p3, p4, hx1, hx2, h79_4, p79_7, h80_4, p80_7, h81_4, p81_7, h82_4, p82_7, h83_4, p83_7, h84_4, p84_7, h85_5, p85_8, h85_1, h86_5, p86_8, h86_1, h87_2, h87_8, sz91⟩ := hS
         obtain ⟨h91_0, h91_1, h91_2, h91_3, h91_4, h91_5, h91_6, h91_7, h91_8, h91_9, h91_10, -⟩ := hp
         replace h91_0 : vs 0 = .bool true := h91_0
         replace h91_1 : vs 1 = .bool true := h91_1
         replace h91_2 : vs 2 = .agg #[.bool b1, .slice a1 n1 c1, .slice d1 m1 o1] := h91_2
         replace h91_3 : vs 3 = .agg #[.bool b2, .slice a2 n2 c2, .slice d2 m2 o2] := h91_3
         replace h91_4 : vs 4 = .int .i64 e4 := h91_4
         replace h91_5 : vs 5 = .bool true := h91_5
         replace h91_6 : vs 6 = .bool true := h91_6
         replace h91_7 : vs 7 = undef := h91_7
         replace h91_8 : vs 8 = .bool true := h91_8
         replace h91_9 : vs 9 = .bool true := h91_9
         replace h91_10 : vs 10 = .bool true := h91_10
         simp only [h91_0, h91_1, h91_2, h91_3, h91_4, h91_5, h91_6, h91_7, h91_8, h91_9, h91_10]
         clear h91_0 h91_1 h91_2 h91_3 h91_4 h91_5 h91_6 h91_7 h91_8 h91_9 h91_10
         obtain ⟨kp3_0, kp3_1, kp3_2⟩ := p3.c3
         obtain ⟨kp4_0, kp4_1, kp4_2⟩ := p4.c3
         obtain ⟨kp79_7_0, kp79_7_1⟩ := p79_7.c2
         obtain ⟨kp80_7_0, kp80_7_1⟩ := p80_7.c2
         obtain ⟨kp81_7_0, kp81_7_1⟩ := p81_7.c2
         obtain ⟨kp82_7_0, kp82_7_1⟩ := p82_7.c2
         obtain ⟨kp83_7_0, kp83_7_1⟩ := p83_7.c2
         obtain ⟨kp84_7_0, kp84_7_1⟩ := p84_7.c2
         obtain ⟨kp85_8_0, kp85_8_1⟩ := p85_8.c2
         obtain ⟨kp86_8_0, kp86_8_1⟩ := p86_8.c2
         go_wp2; go_ret
         exact ⟨rfl, E0⟩
        ·have he3 := Lib.hid h3
         clear h3
         have e1le : e1 ≤ 0 := he1.out
         have e1led := decide_eq_true e1le
         have e1gt : ¬ (0 < e1) := by omega
         have e1gtd := decide_eq_false e1gt
         have e2le : e2 ≤ 0 := he2.out
         have e2led := decide_eq_true e2le
         have e2gt : ¬ (0 < e2) := by omega
         have e2gtd := decide_eq_false e2gt
         have e3gt : 0 < e3 := by have := he3.out; omega
         have e3gtd := decide_eq_true e3gt
         have e3le : ¬ (e3 ≤ 0) := by omega
         have e3led := decide_eq_false e3le
         have e4gt : 0 < e4 := by have := he4.out; omega
         have e4gtd := decide_eq_true e4gt
         have e4le : ¬ (e4 ≤ 0) := by omega
         have e4led := decide_eq_false e4le
         have szw92 := Ext.size E0
         refine region_gs [.one fun v _ => v = .agg #[.bool b79_7, .slice a79_7 n79_7 c79_7],
           .one fun v _ => v = .agg #[.bool b82_7, .slice a82_7 n82_7 c82_7],
           .one fun v _ => v = .int .i64 e1,
           .one fun v _ => v = .bool true,
           .one fun v _ => v = .bool true,
           .one fun v _ => v = .agg #[.bool b80_7, .slice a80_7 n80_7 c80_7],
           .one fun v _ => v = .agg #[.bool b83_7, .slice a83_7 n83_7 c83_7],
           .one fun v _ => v = .int .i64 e2,
           .one fun v _ => v = .bool true,
           .one fun v _ => v = .bool true,
           .one fun v _ => v = .bool true,
           .one fun v _ => v = .agg #[.bool b81_7, .slice a81_7 n81_7 c81_7],
           .one fun v _ => v = .agg #[.bool b84_7, .slice a84_7 n84_7 c84_7],
           .one fun v _ => v = .int .i64 e3,
           .one fun v _ => v = .bool false,
           .one fun v _ => v = .bool false,
           .one fun v _ => v = .bool false]
          (fun W => Ext w W ∧ Bx3 W w.heap.size 27 (.bool b1) (.slice a1 n1 c1) (.slice d1 m1 o1) ∧ Bx3 W (w.heap.size + 1) 27 (.bool b2) (.slice a2 n2 c2) (.slice d2 m2 o2) ∧ Rw W (.agg #[.bool b1, .slice a1 n1 c1, .slice d1 m1 o1]) x ∧ Rw W (.agg #[.bool b2, .slice a2 n2 c2, .slice d2 m2 o2]) y ∧ Zw W (.agg #[.bool b79_7, .slice a79_7 n79_7 c79_7]) F ∧ Bx2 W g79_7 25 (.bool b79_7) (.slice a79_7 n79_7 c79_7) ∧ Zw W (.agg #[.bool b80_7, .slice a80_7 n80_7 c80_7]) C ∧ Bx2 W g80_7 25 (.bool b80_7) (.slice a80_7 n80_7 c80_7) ∧ Zw W (.agg #[.bool b81_7, .slice a81_7 n81_7 c81_7]) M ∧ Bx2 W g81_7 25 (.bool b81_7) (.slice a81_7 n81_7 c81_7) ∧ Zw W (.agg #[.bool b82_7, .slice a82_7 n82_7 c82_7]) G ∧ Bx2 W g82_7 25 (.bool b82_7) (.slice a82_7 n82_7 c82_7) ∧ Zw W (.agg #[.bool b83_7, .slice a83_7 n83_7 c83_7]) J ∧ Bx2 W g83_7 25 (.bool b83_7) (.slice a83_7 n83_7 c83_7) ∧ Zw W (.agg #[.bool b84_7, .slice a84_7 n84_7 c84_7]) N ∧ Bx2 W g84_7 25 (.bool b84_7) (.slice a84_7 n84_7 c84_7) ∧ Zw W (.agg #[.bool b85_8, .slice a85_8 n85_8 c85_8]) (-F) ∧ Bx2 W g85_8 25 (.bool b85_8) (.slice a85_8 n85_8 c85_8) ∧ Rw W u85_1 (-x) ∧ Zw W (.agg #[.bool b86_8, .slice a86_8 n86_8 c86_8]) (-M) ∧ Bx2 W g86_8 25 (.bool b86_8) (.slice a86_8 n86_8 c86_8) ∧ Rw W u86_1 (-x) ∧ Zw W u87_2 (-F) ∧ Zw W u87_8 (-M) ∧ W87.heap.size ≤ W.heap.size) ⟨Good.is _, Good.is _, Good.is _, Good.is _, Good.is _, Good.is _, Good.is _, Good.is _, Good.is _, Good.is _, Good.is _, Good.is _, Good.is _, Good.is _, Good.is _, Good.is _, Good.is _, trivial⟩
          ⟨E0, p3, p4, hx1, hx2, h79_4, p79_7, h80_4, p80_7, h81_4, p81_7, h82_4, p82_7, h83_4, p83_7, h84_4, p84_7, h85_5, p85_8, h85_1, h86_5, p86_8, h86_1, h87_2, h87_8, Nat.le_refl _⟩ (A := ?A92) ?hA92 ?howe92 ?hfin92
         case hA92 =>
          intro vs
          simp only [putAll, Act.put, sA, sZ, sS, Nat.zero_add, Nat.reduceAdd]
          exact rfl
         case howe92 =>
          clear E0 p3 p4 hx1 hx2 h79_4 p79_7 h80_4 p80_7 h81_4 p81_7 h82_4 p82_7 h83_4 p83_7 h84_4 p84_7 h85_5 p85_8 h85_1 h86_5 p86_8 h86_1 h87_2 h87_8
          intro hf
          refine ⟨oE 0 [] hf rfl ?_, oE 1 [] hf rfl ?_, oE 2 [0, 1] hf rfl ?_, oE 3 [2] hf rfl ?_, oE 4 [3] hf rfl ?_, oE 5 [4] hf rfl ?_, oE 6 [4] hf rfl ?_, oE 7 [4, 5, 6] hf rfl ?_, oE 8 [4, 7] hf rfl ?_, oE 9 [4, 8] hf rfl ?_, oE 10 [9] hf rfl ?_, oE 11 [10] hf rfl ?_, oE 12 [10] hf rfl ?_, oE 13 [10, 11, 12] hf rfl ?_, oE 14 [10, 13] hf rfl ?_, oE 15 [10, 14] hf rfl ?_, oE 16 [15] hf rfl ?_, trivial⟩
          all_goals intro vs W hS hp hx KO hKO
          all_goals simp only [Act.put, sA, sZ, sS] at hKO
          ·have fc0 := hS.2.2.2.2.2.2.1.cell0; have fc1 := hS.2.2.2.2.2.2.1.cell1; go_simp; exact hKO _ W (.refl W) rfl
          ·have fc0 := hS.2.2.2.2.2.2.2.2.2.2.2.2.1.cell0; have fc1 := hS.2.2.2.2.2.2.2.2.2.2.2.2.1.cell1; go_simp; exact hKO _ W (.refl W) rfl
          ·have e0 := isOf hp.1; have e1 := isOf hp.2.1; simp only [e0, e1] at hKO; go_simp
           refine (Try.refZCmpV (hS.2.2.2.2.2.1) (hS.2.2.2.2.2.2.2.2.2.2.2.1) HC1.out).mono ?_
           rintro e W1 ⟨rfl, hE⟩
           exact hKO _ W1 hE rfl
          ·have e2 := isOf hp.1; simp only [e2] at hKO; go_simp; exact hKO _ W (.refl W) rfl
          ·have e3 := isOf hp.1; simp only [e3] at hKO; go_simp; exact hKO _ W (.refl W) rfl
          ·have e4 := isOf hp.1; simp only [e4] at hKO; have fc0 := hS.2.2.2.2.2.2.2.2.1.cell0; have fc1 := hS.2.2.2.2.2.2.2.2.1.cell1; go_simp; exact hKO _ W (.refl W) rfl
          ·have e4 := isOf hp.1; simp only [e4] at hKO; have fc0 := hS.2.2.2.2.2.2.2.2.2.2.2.2.2.2.1.cell0; have fc1 := hS.2.2.2.2.2.2.2.2.2.2.2.2.2.2.1.cell1; go_simp; exact hKO _ W (.refl W) rfl
          ·have e4 := isOf hp.1; have e5 := isOf hp.2.1; have e6 := isOf hp.2.2.1; simp only [e4, e5, e6] at hKO; go_simp
           refine (Try.refZCmpV (hS.2.2.2.2.2.2.2.1) (hS.2.2.2.2.2.2.2.2.2.2.2.2.2.1) HC2.out).mono ?_
           rintro e W1 ⟨rfl, hE⟩
           exact hKO _ W1 hE rfl
          ·have e4 := isOf hp.1; have e7 := isOf hp.2.1; simp only [e4, e7] at hKO; go_simp; exact hKO _ W (.refl W) rfl
          ·have e4 := isOf hp.1; have e8 := isOf hp.2.1; simp only [e4, e8] at hKO; go_simp; exact hKO _ W (.refl W) rfl
          ·have e9 := isOf hp.1; simp only [e9] at hKO; go_simp; exact hKO _ W (.refl W) rfl
          ·have e10 := isOf hp.1; simp only [e10] at hKO; have fc0 := hS.2.2.2.2.2.2.2.2.2.2.1.cell0; have fc1 := hS.2.2.2.2.2.2.2.2.2.2.1.cell1; go_simp; exact hKO _ W (.refl W) rfl
          ·have e10 := isOf hp.1; simp only [e10] at hKO; have fc0 := hS.2.2.2.2.2.2.2.2.2.2.2.2.2.2.2.2.1.cell0; have fc1 := hS.2.2.2.2.2.2.2.2.2.2.2.2.2.2.2.2.1.cell1; go_simp; exact hKO _ W (.refl W) rfl
          ·have e10 := isOf hp.1; have e11 := isOf hp.2.1; have e12 := isOf hp.2.2.1; simp only [e10, e11, e12] at hKO; go_simp
           refine (Try.refZCmpV (hS.2.2.2.2.2.2.2.2.2.1) (hS.2.2.2.2.2.2.2.2.2.2.2.2.2.2.2.1) HC3.out).mono ?_
           rintro e W1 ⟨rfl, hE⟩
           exact hKO _ W1 hE rfl
          ·have e10 := isOf hp.1; have e13 := isOf hp.2.1; simp only [e10, e13] at hKO; go_simp; exact hKO _ W (.refl W) rfl
          ·have e10 := isOf hp.1; have e14 := isOf hp.2.1; simp only [e10, e14] at hKO; go_simp; exact hKO _ W (.refl W) rfl
          ·have e15 := isOf hp.1; simp only [e15] at hKO; go_simp; exact hKO _ W (.refl W) rfl
         intro vs W92 hS hp
         clear szw92 E0 p3 p4 hx1 hx2 h79_4 p79_7 h80_4 p80_7 h81_4 p81_7 h82_4 p82_7 h83_4 p83_7 h84_4 p84_7 h85_5 p85_8 h85_1 h86_5 p86_8 h86_1 h87_2 h87_8
         obtain ⟨E0, p3, p4, hx1, hx2, h79_4, p79_7, h80_4, p80_7, h81_4, p81_7, h82_4, p82_7, h83_4, p83_7, h84_4, p84_7, h85_5, p85_8, h85_1, h86_5, p86_8, h86_1, h87_2, h87_8, sz92⟩ := hS
         obtain ⟨h92_0, h92_1, h92_2, h92_3, h92_4, h92_5, h92_6, h92_7, h92_8, h92_9, h92_10, h92_11, h92_12, h92_13, h92_14, h92_15, h92_16, -⟩ := hp
         replace h92_0 : vs 0 = .agg #[.bool b79_7, .slice a79_7 n79_7 c79_7] := h92_0
         replace h92_1 : vs 1 = .agg #[.bool b82_7, .slice a82_7 n82_7 c82_7] := h92_1
         replace h92_2 : vs 2 = .int .i64 e1 := h92_2
         replace h92_3 : vs 3 = .bool true := h92_3
         replace h92_4 : vs 4 = .bool true := h92_4
         replace h92_5 : vs 5 = .agg #[.bool b80_7, .slice a80_7 n80_7 c80_7] := h92_5
         replace h92_6 : vs 6 = .agg #[.bool b83_7, .slice a83_7 n83_7 c83_7] := h92_6
         replace h92_7 : vs 7 = .int .i64 e2 := h92_7
         replace h92_8 : vs 8 = .bool true := h92_8
         replace h92_9 : vs 9 = .bool true := h92_9
         replace h92_10 : vs 10 = .bool true := h92_10
         replace h92_11 : vs 11 = .agg #[.bool b81_7, .slice a81_7 n81_7 c81_7] := h92_11
         replace h92_12 : vs 12 = .agg #[.bool b84_7, .slice a84_7 n84_7 c84_7] := h92_12
         replace h92_13 : vs 13 = .int .i64 e3 := h92_13
         replace h92_14 : vs 14 = .bool false := h92_14
         replace h92_15 : vs 15 = .bool false := h92_15
         replace h92_16 : vs 16 = .bool false := h92_16
         simp only [h92_0, h92_1, h92_2, h92_3, h92_4, h92_5, h92_6, h92_7, h92_8, h92_9, h92_10, h92_11, h92_12, h92_13, h92_14, h92_15, h92_16]
         clear h92_0 h92_1 h92_2 h92_3 h92_4 h92_5 h92_6 h92_7 h92_8 h92_9 h92_10 h92_11 h92_12 h92_13 h92_14 h92_15 h92_16
         obtain ⟨kp3_0, kp3_1, kp3_2⟩ := p3.c3
         obtain ⟨kp4_0, kp4_1, kp4_2⟩ := p4.c3
         obtain ⟨kp79_7_0, kp79_7_1⟩ := p79_7.c2
         obtain ⟨kp80_7_0, kp80_7_1⟩ := p80_7.c2
         obtain ⟨kp81_7_0, kp81_7_1⟩ := p81_7.c2
         obtain ⟨kp82_7_0, kp82_7_1⟩ := p82_7.c2
         obtain ⟨kp83_7_0, kp83_7_1⟩ := p83_7.c2
         obtain ⟨kp84_7_0, kp84_7_1⟩ := p84_7.c2
         obtain ⟨kp85_8_0, kp85_8_1⟩ := p85_8.c2
         obtain ⟨kp86_8_0, kp86_8_1⟩ := p86_8.c2
         go_upto_region 14 with (fail)
         clear kp3_0 kp3_1 kp3_2 kp4_0 kp4_1 kp4_2 kp79_7_0 kp79_7_1 kp80_7_0 kp80_7_1 kp81_7_0 kp81_7_1 kp82_7_0 kp82_7_1 kp83_7_0 kp83_7_1 kp84_7_0 kp84_7_1 kp85_8_0 kp85_8_1 kp86_8_0 kp86_8_1; have szw93 := Ext.size E0
         refine region_gs [.one fun v _ => v = .bool true,
           .one fun v _ => v = .bool true,
           .one fun v _ => v = .agg #[.bool b1, .slice a1 n1 c1, .slice d1 m1 o1],
           .one fun v _ => v = .agg #[.bool b2, .slice a2 n2 c2, .slice d2 m2 o2],
           .one fun v _ => v = .int .i64 e4,
           .one fun v _ => v = .bool true,
           .one fun v _ => v = .bool true,
           .one fun v _ => v = undef,
           .one fun v _ => v = .bool true,
           .one fun v _ => v = .bool true,
           .one fun v _ => v = .bool true]
          (fun W => Ext w W ∧ Bx3 W w.heap.size 27 (.bool b1) (.slice a1 n1 c1) (.slice d1 m1 o1) ∧ Bx3 W (w.heap.size + 1) 27 (.bool b2) (.slice a2 n2 c2) (.slice d2 m2 o2) ∧ Rw W (.agg #[.bool b1, .slice a1 n1 c1, .slice d1 m1 o1]) x ∧ Rw W (.agg #[.bool b2, .slice a2 n2 c2, .slice d2 m2 o2]) y ∧ Zw W (.agg #[.bool b79_7, .slice a79_7 n79_7 c79_7]) F ∧ Bx2 W g79_7 25 (.bool b79_7) (.slice a79_7 n79_7 c79_7) ∧ Zw W (.agg #[.bool b80_7, .slice a80_7 n80_7 c80_7]) C ∧ Bx2 W g80_7 25 (.bool b80_7) (.slice a80_7 n80_7 c80_7) ∧ Zw W (.agg #[.bool b81_7, .slice a81_7 n81_7 c81_7]) M ∧ Bx2 W g81_7 25 (.bool b81_7) (.slice a81_7 n81_7 c81_7) ∧ Zw W (.agg #[.bool b82_7, .slice a82_7 n82_7 c82_7]) G ∧ Bx2 W g82_7 25 (.bool b82_7) (.slice a82_7 n82_7 c82_7) ∧ Zw W (.agg #[.bool b83_7, .slice a83_7 n83_7 c83_7]) J ∧ Bx2 W g83_7 25 (.bool b83_7) (.slice a83_7 n83_7 c83_7) ∧ Zw W (.agg #[.bool b84_7, .slice a84_7 n84_7 c84_7]) N ∧ Bx2 W g84_7 25 (.bool b84_7) (.slice a84_7 n84_7 c84_7) ∧ Zw W (.agg #[.bool b85_8, .slice a85_8 n85_8 c85_8]) (-F) ∧ Bx2 W g85_8 25 (.bool b85_8) (.slice a85_8 n85_8 c85_8) ∧ Rw W u85_1 (-x) ∧ Zw W (.agg #[.bool b86_8, .slice a86_8 n86_8 c86_8]) (-M) ∧ Bx2 W g86_8 25 (.bool b86_8) (.slice a86_8 n86_8 c86_8) ∧ Rw W u86_1 (-x) ∧ Zw W u87_2 (-F) ∧ Zw W u87_8 (-M) ∧ W92.heap.size ≤ W.heap.size) ⟨Good.is _, Good.is _, Good.is _, Good.is _, Good.is _, Good.is _, Good.is _, Good.is _, Good.is _, Good.is _, Good.is _, trivial⟩
          ⟨E0, p3, p4, hx1, hx2, h79_4, p79_7, h80_4, p80_7, h81_4, p81_7, h82_4, p82_7, h83_4, p83_7, h84_4, p84_7, h85_5, p85_8, h85_1, h86_5, p86_8, h86_1, h87_2, h87_8, Nat.le_refl _⟩ (A := ?A93) ?hA93 ?howe93 ?hfin93
         case hA93 =>
          intro vs
          simp only [putAll, Act.put, sA, sZ, sS, Nat.zero_add, Nat.reduceAdd]
          exact rfl
         case howe93 =>
          clear E0 p3 p4 hx1 hx2 h79_4 p79_7 h80_4 p80_7 h81_4 p81_7 h82_4 p82_7 h83_4 p83_7 h84_4 p84_7 h85_5 p85_8 h85_1 h86_5 p86_8 h86_1 h87_2 h87_8
          intro hf
          refine ⟨oE 0 [] hf rfl ?_, oE 1 [0] hf rfl ?_, oE 2 [1] hf rfl ?_, oE 3 [1] hf rfl ?_, oE 4 [1, 2, 3] hf rfl ?_, oE 5 [1, 4] hf rfl ?_, oE 6 [1, 5] hf rfl ?_, oE 7 [6] hf rfl ?_, oE 8 [1, 6, 7] hf rfl ?_, oE 9 [1, 8] hf rfl ?_, oE 10 [9] hf rfl ?_, trivial⟩
          all_goals intro vs W hS hp hx KO hKO
          all_goals simp only [Act.put, sA, sZ, sS] at hKO
          ·go_simp
           refine (Try.alive06 _).mono ?_
           rintro e W1 ⟨rfl, hE⟩
           exact hKO _ W1 hE rfl
          ·have e0 := isOf hp.1; simp only [e0] at hKO; go_simp; exact hKO _ W (.refl W) rfl
          ·have e1 := isOf hp.1; simp only [e1] at hKO; have fc0 := hS.2.1.cell0; have fc1 := hS.2.1.cell1; have fc2 := hS.2.1.cell2; go_simp; exact hKO _ W (.refl W) rfl
          ·have e1 := isOf hp.1; simp only [e1] at hKO; have fc0 := hS.2.2.1.cell0; have fc1 := hS.2.2.1.cell1; have fc2 := hS.2.2.1.cell2; go_simp; exact hKO _ W (.refl W) rfl
          ·have e1 := isOf hp.1; have e2 := isOf hp.2.1; have e3 := isOf hp.2.2.1; simp only [e1, e2, e3] at hKO; go_simp
           refine (Try.refRCmpR (hS.2.2.2.1) (hS.2.2.2.2.1) s1 s2 (by omega) HC4.out).mono ?_
           rintro e W1 ⟨rfl, hE⟩
           exact hKO _ W1 hE rfl
          ·have e1 := isOf hp.1; have e4 := isOf hp.2.1; simp only [e1, e4] at hKO; go_simp; exact hKO _ W (.refl W) rfl
          ·have e1 := isOf hp.1; have e5 := isOf hp.2.1; simp only [e1, e5] at hKO; go_simp; exact hKO _ W (.refl W) rfl
          ·have e6 := isOf hp.1; simp only [e6] at hKO; go_simp; exact hKO _ W (.refl W) rfl
          ·have e1 := isOf hp.1; have e6 := isOf hp.2.1; have e7 := isOf hp.2.2.1; simp only [e1, e6, e7] at hKO; go_simp; exact hKO _ W (.refl W) rfl
          ·have e1 := isOf hp.1; have e8 := isOf hp.2.1; simp only [e1, e8] at hKO; go_simp; exact hKO _ W (.refl W) rfl
          ·have e9 := isOf hp.1; simp only [e9] at hKO; go_simp; exact hKO _ W (.refl W) rfl
         intro vs W93 hS hp
         clear szw93 E0 p3 p4 hx1 hx2 h79_4 p79_7 h80_4 p80_7 h81_4 p81_7 h82_4 p82_7 h83_4 p83_7 h84_4 p84_7 h85_5 p85_8 h85_1 h86_5 p86_8 h86_1 h87_2 h87_8
         obtain ⟨E0, p3, p4, hx1, hx2, h79_4, p79_7, h80_4, p80_7, h81_4, p81_7, h82_4, p82_7, h83_4, p83_7, h84_4, p84_7, h85_5, p85_8, h85_1, h86_5, p86_8, h86_1, h87_2, h87_8, sz93⟩ := hS
         obtain ⟨h93_0, h93_1, h93_2, h93_3, h93_4, h93_5, h93_6, h93_7, h93_8, h93_9, h93_10, -⟩ := hp
         replace h93_0 : vs 0 = .bool true := h93_0
         replace h93_1 : vs 1 = .bool true := h93_1
         replace h93_2 : vs 2 = .agg #[.bool b1, .slice a1 n1 c1, .slice d1 m1 o1] := h93_2
         replace h93_3 : vs 3 = .agg #[.bool b2, .slice a2 n2 c2, .slice d2 m2 o2] := h93_3
         replace h93_4 : vs 4 = .int .i64 e4 := h93_4
         replace h93_5 : vs 5 = .bool true := h93_5
         replace h93_6 : vs 6 = .bool true := h93_6
         replace h93_7 : vs 7 = undef := h93_7
         replace h93_8 : vs 8 = .bool true := h93_8
         replace h93_9 : vs 9 = .bool true := h93_9
         replace h93_10 : vs 10 = .bool true := h93_10
         simp only [h93_0, h93_1, h93_2, h93_3, h93_4, h93_5, h93_6, h93_7, h93_8, h93_9, h93_10]
         clear h93_0 h93_1 h93_2 h93_3 h93_4 h93_5 h93_6 h93_7 h93_8 h93_9 h93_10
         obtain ⟨kp3_0, kp3_1, kp3_2⟩ := p3.c3
         obtain ⟨kp4_0, kp4_1, kp4_2⟩ := p4.c3
         obtain ⟨kp79_7_0, kp79_7_1⟩ := p79_7.c2
         obtain ⟨kp80_7_0, kp80_7_1⟩ := p80_7.c2
         obtain ⟨kp81_7_0, kp81_7_1⟩ := p81_7.c2
         obtain ⟨kp82_7_0, kp82_7_1⟩ := p82_7.c2
         obtain ⟨kp83_7_0, kp83_7_1⟩ := p83_7.c2
         obtain ⟨kp84_7_0, kp84_7_1⟩ := p84_7.c2
         obtain ⟨kp85_8_0, kp85_8_1⟩ := p85_8.c2
         obtain ⟨kp86_8_0, kp86_8_1⟩ := p86_8.c2
         go_wp2; go_ret
         exact ⟨rfl, E0⟩
       ·have he2 := Lib.hid h2
        clear h2
        have e1le : e1 ≤ 0 := he1.out
        have e1led := decide_eq_true e1le
        have e1gt : ¬ (0 < e1) := by omega
        have e1gtd := decide_eq_false e1gt
        have e2gt : 0 < e2 := by have := he2.out; omega
        have e2gtd := decide_eq_true e2gt
        have e2le : ¬ (e2 ≤ 0) := by omega
        have e2led := decide_eq_false e2le
        have e4gt : 0 < e4 := by have := he4.out; omega
        have e4gtd := decide_eq_true e4gt
        have e4le : ¬ (e4 ≤ 0) := by omega
        have e4led := decide_eq_false e4le
        have szw94 := Ext.size E0
        refine region_gs [.one fun v _ => v = .agg #[.bool b79_7, .slice a79_7 n79_7 c79_7],
          .one fun v _ => v = .agg #[.bool b82_7, .slice a82_7 n82_7 c82_7],
          .one fun v _ => v = .int .i64 e1,
          .one fun v _ => v = .bool true,
          .one fun v _ => v = .bool true,
          .one fun v _ => v = .agg #[.bool b80_7, .slice a80_7 n80_7 c80_7],
          .one fun v _ => v = .agg #[.bool b83_7, .slice a83_7 n83_7 c83_7],
          .one fun v _ => v = .int .i64 e2,
          .one fun v _ => v = .bool false,
          .one fun v _ => v = .bool false,
          .one fun v _ => v = .bool false,
          .one fun v _ => v = undef,
          .one fun v _ => v = undef,
          .one fun v _ => v = undef,
          .one fun v _ => v = undef,
          .one fun v _ => v = .bool false,
          .one fun v _ => v = .bool false]
         (fun W => Ext w W ∧ Bx3 W w.heap.size 27 (.bool b1) (.slice a1 n1 c1) (.slice d1 m1 o1) ∧ Bx3 W (w.heap.size + 1) 27 (.bool b2) (.slice a2 n2 c2) (.slice d2 m2 o2) ∧ Rw W (.agg #[.bool b1, .slice a1 n1 c1, .slice d1 m1 o1]) x ∧ Rw W (.agg #[.bool b2, .slice a2 n2 c2, .slice d2 m2 o2]) y ∧ Zw W (.agg #[.bool b79_7, .slice a79_7 n79_7 c79_7]) F ∧ Bx2 W g79_7 25 (.bool b79_7) (.slice a79_7 n79_7 c79_7) ∧ Zw W (.agg #[.bool b80_7, .slice a80_7 n80_7 c80_7]) C ∧ Bx2 W g80_7 25 (.bool b80_7) (.slice a80_7 n80_7 c80_7) ∧ Zw W (.agg #[.bool b81_7, .slice a81_7 n81_7 c81_7]) M ∧ Bx2 W g81_7 25 (.bool b81_7) (.slice a81_7 n81_7 c81_7) ∧ Zw W (.agg #[.bool b82_7, .slice a82_7 n82_7 c82_7]) G ∧ Bx2 W g82_7 25 (.bool b82_7) (.slice a82_7 n82_7 c82_7) ∧ Zw W (.agg #[.bool b83_7, .slice a83_7 n83_7 c83_7]) J ∧ Bx2 W g83_7 25 (.bool b83_7) (.slice a83_7 n83_7 c83_7) ∧ Zw W (.agg #[.bool b84_7, .slice a84_7 n84_7 c84_7]) N ∧ Bx2 W g84_7 25 (.bool b84_7) (.slice a84_7 n84_7 c84_7) ∧ Zw W (.agg #[.bool b85_8, .slice a85_8 n85_8 c85_8]) (-F) ∧ Bx2 W g85_8 25 (.bool b85_8) (.slice a85_8 n85_8 c85_8) ∧ Rw W u85_1 (-x) ∧ Zw W (.agg #[.bool b86_8, .slice a86_8 n86_8 c86_8]) (-M) ∧ Bx2 W g86_8 25 (.bool b86_8) (.slice a86_8 n86_8 c86_8) ∧ Rw W u86_1 (-x) ∧ Zw W u87_2 (-F) ∧ Zw W u87_8 (-M) ∧ W87.heap.size ≤ W.heap.size) ⟨Good.is _, Good.is _, Good.is _, Good.is _, Good.is _, Good.is _, Good.is _, Good.is _, Good.is _, Good.is _, Good.is _, Good.is _, Good.is _, Good.is _, Good.is _, Good.is _, Good.is _, trivial⟩
         ⟨E0, p3, p4, hx1, hx2, h79_4, p79_7, h80_4, p80_7, h81_4, p81_7, h82_4, p82_7, h83_4, p83_7, h84_4, p84_7, h85_5, p85_8, h85_1, h86_5, p86_8, h86_1, h87_2, h87_8, Nat.le_refl _⟩ (A := ?A94) ?hA94 ?howe94 ?hfin94
        case hA94 =>
         intro vs
         simp only [putAll, Act.put, sA, sZ, sS, Nat.zero_add, Nat.reduceAdd]
         exact rfl
        case howe94 =>
         clear E0 p3 p4 hx1 hx2 h79_4 p79_7 h80_4 p80_7 h81_4 p81_7 h82_4 p82_7 h83_4 p83_7 h84_4 p84_7 h85_5 p85_8 h85_1 h86_5 p86_8 h86_1 h87_2 h87_8
         intro hf
         refine ⟨oE 0 [] hf rfl ?_, oE 1 [] hf rfl ?_, oE 2 [0, 1] hf rfl ?_, oE 3 [2] hf rfl ?_, oE 4 [3] hf rfl ?_, oE 5 [4] hf rfl ?_, oE 6 [4] hf rfl ?_, oE 7 [4, 5, 6] hf rfl ?_, oE 8 [4, 7] hf rfl ?_, oE 9 [4, 8] hf rfl ?_, oE 10 [9] hf rfl ?_, oE 11 [10] hf rfl ?_, oE 12 [10] hf rfl ?_, oE 13 [10] hf rfl ?_, oE 14 [10] hf rfl ?_, oE 15 [10, 14] hf rfl ?_, oE 16 [15] hf rfl ?_, trivial⟩
         all_goals intro vs W hS hp hx KO hKO
         all_goals simp only [Act.put, sA, sZ, sS] at hKO
         ·have fc0 := hS.2.2.2.2.2.2.1.cell0; have fc1 := hS.2.2.2.2.2.2.1.cell1; go_simp; exact hKO _ W (.refl W) rfl
         ·have fc0 := hS.2.2.2.2.2.2.2.2.2.2.2.2.1.cell0; have fc1 := hS.2.2.2.2.2.2.2.2.2.2.2.2.1.cell1; go_simp; exact hKO _ W (.refl W) rfl
         ·have e0 := isOf hp.1; have e1 := isOf hp.2.1; simp only [e0, e1] at hKO; go_simp
          refine (Try.refZCmpV (hS.2.2.2.2.2.1) (hS.2.2.2.2.2.2.2.2.2.2.2.1) HC1.out).mono ?_
          rintro e W1 ⟨rfl, hE⟩
          exact hKO _ W1 hE rfl
         ·have e2 := isOf hp.1; simp only [e2] at hKO; go_simp; exact hKO _ W (.refl W) rfl
         ·have e3 := isOf hp.1; simp only [e3] at hKO; go_simp; exact hKO _ W (.refl W) rfl
         ·have e4 := isOf hp.1; simp only [e4] at hKO; have fc0 := hS.2.2.2.2.2.2.2.2.1.cell0; have fc1 := hS.2.2.2.2.2.2.2.2.1.cell1; go_simp; exact hKO _ W (.refl W) rfl
         ·have e4 := isOf hp.1; simp only [e4] at hKO; have fc0 := hS.2.2.2.2.2.2.2.2.2.2.2.2.2.2.1.cell0; have fc1 := hS.2.2.2.2.2.2.2.2.2.2.2.2.2.2.1.cell1; go_simp; exact hKO _ W (.refl W) rfl
         ·have e4 := isOf hp.1; have e5 := isOf hp.2.1; have e6 := isOf hp.2.2.1; simp only [e4, e5, e6] at hKO; go_simp
          refine (Try.refZCmpV (hS.2.2.2.2.2.2.2.1) (hS.2.2.2.2.2.2.2.2.2.2.2.2.2.1) HC2.out).mono ?_
          rintro e W1 ⟨rfl, hE⟩
          exact hKO _ W1 hE rfl
         ·have e4 := isOf hp.1; have e7 := isOf hp.2.1; simp only [e4, e7] at hKO; go_simp; exact hKO _ W (.refl W) rfl
         ·have e4 := isOf hp.1; have e8 := isOf hp.2.1; simp only [e4, e8] at hKO; go_simp; exact hKO _ W (.refl W) rfl
         ·have e9 := isOf hp.1; simp only [e9] at hKO; go_simp; exact hKO _ W (.refl W) rfl
         ·have e10 := isOf hp.1; simp only [e10] at hKO; go_simp; exact hKO _ W (.refl W) rfl
         ·have e10 := isOf hp.1; simp only [e10] at hKO; go_simp; exact hKO _ W (.refl W) rfl
         ·have e10 := isOf hp.1; simp only [e10] at hKO; go_simp; exact hKO _ W (.refl W) rfl
         ·have e10 := isOf hp.1; simp only [e10] at hKO; go_simp; exact hKO _ W (.refl W) rfl
         ·have e10 := isOf hp.1; have e14 := isOf hp.2.1; simp only [e10, e14] at hKO; go_simp; exact hKO _ W (.refl W) rfl
         ·have e15 := isOf hp.1; simp only [e15] at hKO; go_simp; exact hKO _ W (.refl W) rfl
        intro vs W94 hS hp
        clear szw94 E0 p3 p4 hx1 hx2 h79_4 p79_7 h80_4 p80_7 h81_4 p81_7 h82_4 p82_7 h83_4 p83_7 h84_4 p84_7 h85_5 p85_8 h85_1 h86_5 p86_8 h86_1 h87_2 h87_8
        obtain ⟨E0, p3, p4, hx1, hx2, h79_4, p79_7, h80_4, p80_7, h81_4, p81_7, h82_4, p82_7, h83_4, p83_7, h84_4, p84_7, h85_5, p85_8, h85_1, h86_5, p86_8, h86_1, h87_2, h87_8, sz94⟩ := hS
        obtain ⟨h94_0, h94_1, h94_2, h94_3, h94_4, h94_5, h94_6, h94_7, h94_8, h94_9, h94_10, h94_11, h94_12, h94_13, h94_14, h94_15, h94_16, -⟩ := hp
        replace h94_0 : vs 0 = .agg #[.bool b79_7, .slice a79_7 n79_7 c79_7] := h94_0
        replace h94_1 : vs 1 = .agg #[.bool b82_7, .slice a82_7 n82_7 c82_7] := h94_1
        replace h94_2 : vs 2 = .int .i64 e1 := h94_2
        replace h94_3 : vs 3 = .bool true := h94_3
        replace h94_4 : vs 4 = .bool true := h94_4
        replace h94_5 : vs 5 = .agg #[.bool b80_7, .slice a80_7 n80_7 c80_7] := h94_5
        replace h94_6 : vs 6 = .agg #[.bool b83_7, .slice a83_7 n83_7 c83_7] := h94_6
        replace h94_7 : vs 7 = .int .i64 e2 := h94_7
        replace h94_8 : vs 8 = .bool false := h94_8
        replace h94_9 : vs 9 = .bool false := h94_9
        replace h94_10 : vs 10 = .bool false := h94_10
        replace h94_11 : vs 11 = undef := h94_11
        replace h94_12 : vs 12 = undef := h94_12
        replace h94_13 : vs 13 = undef := h94_13
        replace h94_14 : vs 14 = undef := h94_14
        replace h94_15 : vs 15 = .bool false := h94_15
        replace h94_16 : vs 16 = .bool false := h94_16
        simp only [h94_0, h94_1, h94_2, h94_3, h94_4, h94_5, h94_6, h94_7, h94_8, h94_9, h94_10, h94_11, h94_12, h94_13, h94_14, h94_15, h94_16]
        clear h94_0 h94_1 h94_2 h94_3 h94_4 h94_5 h94_6 h94_7 h94_8 h94_9 h94_10 h94_11 h94_12 h94_13 h94_14 h94_15 h94_16
        obtain ⟨kp3_0, kp3_1, kp3_2⟩ := p3.c3
        obtain ⟨kp4_0, kp4_1, kp4_2⟩ := p4.c3
        obtain ⟨kp79_7_0, kp79_7_1⟩ := p79_7.c2
        obtain ⟨kp80_7_0, kp80_7_1⟩ := p80_7.c2
        obtain ⟨kp81_7_0, kp81_7_1⟩ := p81_7.c2
        obtain ⟨kp82_7_0, kp82_7_1⟩ := p82_7.c2
        obtain ⟨kp83_7_0, kp83_7_1⟩ := p83_7.c2
        obtain ⟨kp84_7_0, kp84_7_1⟩ := p84_7.c2
        obtain ⟨kp85_8_0, kp85_8_1⟩ := p85_8.c2
        obtain ⟨kp86_8_0, kp86_8_1⟩ := p86_8.c2
        go_upto_region 14 with (fail)
        clear kp3_0 kp3_1 kp3_2 kp4_0 kp4_1 kp4_2 kp79_7_0 kp79_7_1 kp80_7_0 kp80_7_1 kp81_7_0 kp81_7_1 kp82_7_0 kp82_7_1 kp83_7_0 kp83_7_1 kp84_7_0 kp84_7_1 kp85_8_0 kp85_8_1 kp86_8_0 kp86_8_1; have szw95 := Ext.size E0
        refine region_gs [.one fun v _ => v = .bool true,
          .one fun v _ => v = .bool true,
          .one fun v _ => v = .agg #[.bool b1, .slice a1 n1 c1, .slice d1 m1 o1],
          .one fun v _ => v = .agg #[.bool b2, .slice a2 n2 c2, .slice d2 m2 o2],
          .one fun v _ => v = .int .i64 e4,
          .one fun v _ => v = .bool true,
          .one fun v _ => v = .bool true,
          .one fun v _ => v = undef,
          .one fun v _ => v = .bool true,
          .one fun v _ => v = .bool true,
          .one fun v _ => v = .bool true]
         (fun W => Ext w W ∧ Bx3 W w.heap.size 27 (.bool b1) (.slice a1 n1 c1) (.slice d1 m1 o1) ∧ Bx3 W (w.heap.size + 1) 27 (.bool b2) (.slice a2 n2 c2) (.slice d2 m2 o2) ∧ Rw W (.agg #[.bool b1, .slice a1 n1 c1, .slice d1 m1 o1]) x ∧ Rw W (.agg #[.bool b2, .slice a2 n2 c2, .slice d2 m2 o2]) y ∧ Zw W (.agg #[.bool b79_7, .slice a79_7 n79_7 c79_7]) F ∧ Bx2 W g79_7 25 (.bool b79_7) (.slice a79_7 n79_7 c79_7) ∧ Zw W (.agg #[.bool b80_7, .slice a80_7 n80_7 c80_7]) C ∧ Bx2 W g80_7 25 (.bool b80_7) (.slice a80_7 n80_7 c80_7) ∧ Zw W (.agg #[.bool b81_7, .slice a81_7 n81_7 c81_7]) M ∧ Bx2 W g81_7 25 (.bool b81_7) (.slice a81_7 n81_7 c81_7) ∧ Zw W (.agg #[.bool b82_7, .slice a82_7 n82_7 c82_7]) G ∧ Bx2 W g82_7 25 (.bool b82_7) (.slice a82_7 n82_7 c82_7) ∧ Zw W (.agg #[.bool b83_7, .slice a83_7 n83_7 c83_7]) J ∧ Bx2 W g83_7 25 (.bool b83_7) (.slice a83_7 n83_7 c83_7) ∧ Zw W (.agg #[.bool b84_7, .slice a84_7 n84_7 c84_7]) N ∧ Bx2 W g84_7 25 (.bool b84_7) (.slice a84_7 n84_7 c84_7) ∧ Zw W (.agg #[.bool b85_8, .slice a85_8 n85_8 c85_8]) (-F) ∧ Bx2 W g85_8 25 (.bool b85_8) (.slice a85_8 n85_8 c85_8) ∧ Rw W u85_1 (-x) ∧ Zw W (.agg #[.bool b86_8, .slice a86_8 n86_8 c86_8]) (-M) ∧ Bx2 W g86_8 25 (.bool b86_8) (.slice a86_8 n86_8 c86_8) ∧ Rw W u86_1 (-x) ∧ Zw W u87_2 (-F) ∧ Zw W u87_8 (-M) ∧ W94.heap.size ≤ W.heap.size) ⟨Good.is _, Good.is _, Good.is _, Good.is _, Good.is _, Good.is _, Good.is _, Good.is _, Good.is _, Good.is _, Good.is _, trivial⟩
         ⟨E0, p3, p4, hx1, hx2, h79_4, p79_7, h80_4, p80_7, h81_4, p81_7, h82_4, p82_7, h83_4, p83_7, h84_4, p84_7, h85_5, p85_8, h85_1, h86_5, p86_8, h86_1, h87_2, h87_8, Nat.le_refl _⟩ (A := ?A95) ?hA95 ?howe95 ?hfin95
        case hA95 =>
         intro vs
         simp only [putAll, Act.put, sA, sZ, sS, Nat.zero_add, Nat.reduceAdd]
         exact rfl
        case howe95 =>
         clear E0 p3 p4 hx1 hx2 h79_4 p79_7 h80_4 p80_7 h81_4 p81_7 h82_4 p82_7 h83_4 p83_7 h84_4 p84_7 h85_5 p85_8 h85_1 h86_5 p86_8 h86_1 h87_2 h87_8
         intro hf
         refine ⟨oE 0 [] hf rfl ?_, oE 1 [0] hf rfl ?_, oE 2 [1] hf rfl ?_, oE 3 [1] hf rfl ?_, oE 4 [1, 2, 3] hf rfl ?_, oE 5 [1, 4] hf rfl ?_, oE 6 [1, 5] hf rfl ?_, oE 7 [6] hf rfl ?_, oE 8 [1, 6, 7] hf rfl ?_, oE 9 [1, 8] hf rfl ?_, oE 10 [9] hf rfl ?_, trivial⟩
         all_goals intro vs W hS hp hx KO hKO
         all_goals simp only [Act.put, sA, sZ, sS] at hKO
         ·go_simp
          refine (Try.alive06 _).mono ?_
          rintro e W1 ⟨rfl, hE⟩
          exact hKO _ W1 hE rfl
         ·have e0 := isOf hp.1; simp only [e0] at hKO; go_simp; exact hKO _ W (.refl W) rfl
         ·have e1 := isOf hp.1; simp only [e1] at hKO; have fc0 := hS.2.1.cell0; have fc1 := hS.2.1.cell1; have fc2 := hS.2.1.cell2; go_simp; exact hKO _ W (.refl W) rfl
         ·have e1 := isOf hp.1; simp only [e1] at hKO; have fc0 := hS.2.2.1.cell0; have fc1 := hS.2.2.1.cell1; have fc2 := hS.2.2.1.cell2; go_simp; exact hKO _ W (.refl W) rfl
         ·have e1 := isOf hp.1; have e2 := isOf hp.2.1; have e3 := isOf hp.2.2.1; simp only [e1, e2, e3] at hKO; go_simp
          refine (Try.refRCmpR (hS.2.2.2.1) (hS.2.2.2.2.1) s1 s2 (by omega) HC4.out).mono ?_
          rintro e W1 ⟨rfl, hE⟩
          exact hKO _ W1 hE rfl
         ·have e1 := isOf hp.1; have e4 := isOf hp.2.1; simp only [e1, e4] at hKO; go_simp; exact hKO _ W (.refl W) rfl
         ·have e1 := isOf hp.1; have e5 := isOf hp.2.1; simp only [e1, e5] at hKO; go_simp; exact hKO _ W (.refl W) rfl
         ·have e6 := isOf hp.1; simp only [e6] at hKO; go_simp; exact hKO _ W (.refl W) rfl
         ·have e1 := isOf hp.1; have e6 := isOf hp.2.1; have e7 := isOf hp.2.2.1; simp only [e1, e6, e7] at hKO; go_simp; exact hKO _ W (.refl W) rfl
         ·have e1 := isOf hp.1; have e8 := isOf hp.2.1; simp only [e1, e8] at hKO; go_simp; exact hKO _ W (.refl W) rfl
         ·have e9 := isOf hp.1; simp only [e9] at hKO; go_simp; exact hKO _ W (.refl W) rfl
        intro vs W95 hS hp
        clear szw95 E0 p3 p4 hx1 hx2 h79_4 p79_7 h80_4 p80_7 h81_4 p81_7 h82_4 p82_7 h83_4 p83_7 h84_4 p84_7 h85_5 p85_8 h85_1 h86_5 p86_8 h86_1 h87_2 h87_8
        obtain ⟨E0, p3, p4, hx1, hx2, h79_4, p79_7, h80_4, p80_7, h81_4, p81_7, h82_4, p82_7, h83_4, p83_7, h84_4, p84_7, h85_5, p85_8, h85_1, h86_5, p86_8, h86_1, h87_2, h87_8, sz95⟩ := hS
        obtain ⟨h95_0, h95_1, h95_2, h95_3, h95_4, h95_5, h95_6, h95_7, h95_8, h95_9, h95_10, -⟩ := hp
        replace h95_0 : vs 0 = .bool true := h95_0
        replace h95_1 : vs 1 = .bool true := h95_1
        replace h95_2 : vs 2 = .agg #[.bool b1, .slice a1 n1 c1, .slice d1 m1 o1] := h95_2
        replace h95_3 : vs 3 = .agg #[.bool b2, .slice a2 n2 c2, .slice d2 m2 o2] := h95_3
        replace h95_4 : vs 4 = .int .i64 e4 := h95_4
        replace h95_5 : vs 5 = .bool true := h95_5
        replace h95_6 : vs 6 = .bool true := h95_6
        replace h95_7 : vs 7 = undef := h95_7
        replace h95_8 : vs 8 = .bool true := h95_8
        replace h95_9 : vs 9 = .bool true := h95_9
        replace h95_10 : vs 10 = .bool true := h95_10
        simp only [h95_0, h95_1, h95_2, h95_3, h95_4, h95_5, h95_6, h95_7, h95_8, h95_9, h95_10]
        clear h95_0 h95_1 h95_2 h95_3 h95_4 h95_5 h95_6 h95_7 h95_8 h95_9 h95_10
        obtain ⟨kp3_0, kp3_1, kp3_2⟩ := p3.c3
        obtain ⟨kp4_0, kp4_1, kp4_2⟩ := p4.c3
        obtain ⟨kp79_7_0, kp79_7_1⟩ := p79_7.c2
        obtain ⟨kp80_7_0, kp80_7_1⟩ := p80_7.c2
        obtain ⟨kp81_7_0, kp81_7_1⟩ := p81_7.c2
        obtain ⟨kp82_7_0, kp82_7_1⟩ := p82_7.c2
        obtain ⟨kp83_7_0, kp83_7_1⟩ := p83_7.c2
        obtain ⟨kp84_7_0, kp84_7_1⟩ := p84_7.c2
        obtain ⟨kp85_8_0, kp85_8_1⟩ := p85_8.c2
        obtain ⟨kp86_8_0, kp86_8_1⟩ := p86_8.c2
        go_wp2; go_ret
        exact ⟨rfl, E0⟩
      ·have he1 := Lib.hid h1
       clear h1
       have e1gt : 0 < e1 := by have := he1.out; omega
       have e1gtd := decide_eq_true e1gt
       have e1le : ¬ (e1 ≤ 0) := by omega
       have e1led := decide_eq_false e1le
       have e4gt : 0 < e4 := by have := he4.out; omega
       have e4gtd := decide_eq_true e4gt
       have e4le : ¬ (e4 ≤ 0) := by omega
       have e4led := decide_eq_false e4le
       have szw96 := Ext.size E0
       refine region_gs [.one fun v _ => v = .agg #[.bool b79_7, .slice a79_7 n79_7 c79_7],
         .one fun v _ => v = .agg #[.bool b82_7, .slice a82_7 n82_7 c82_7],
         .one fun v _ => v = .int .i64 e1,
         .one fun v _ => v = .bool false,
         .one fun v _ => v = .bool false,
         .one fun v _ => v = undef,
         .one fun v _ => v = undef,
         .one fun v _ => v = undef,
         .one fun v _ => v = undef,
         .one fun v _ => v = .bool false,
         .one fun v _ => v = .bool false,
         .one fun v _ => v = undef,
         .one fun v _ => v = undef,
         .one fun v _ => v = undef,
         .one fun v _ => v = undef,
         .one fun v _ => v = .bool false,
         .one fun v _ => v = .bool false]
        (fun W => Ext w W ∧ Bx3 W w.heap.size 27 (.bool b1) (.slice a1 n1 c1) (.slice d1 m1 o1) ∧ Bx3 W (w.heap.size + 1) 27 (.bool b2) (.slice a2 n2 c2) (.slice d2 m2 o2) ∧ Rw W (.agg #[.bool b1, .slice a1 n1 c1, .slice d1 m1 o1]) x ∧ Rw W (.agg #[.bool b2, .slice a2 n2 c2, .slice d2 m2 o2]) y ∧ Zw W (.agg #[.bool b79_7, .slice a79_7 n79_7 c79_7]) F ∧ Bx2 W g79_7 25 (.bool b79_7) (.slice a79_7 n79_7 c79_7) ∧ Zw W (.agg #[.bool b80_7, .slice a80_7 n80_7 c80_7]) C ∧ Bx2 W g80_7 25 (.bool b80_7) (.slice a80_7 n80_7 c80_7) ∧ Zw W (.agg #[.bool b81_7, .slice a81_7 n81_7 c81_7]) M ∧ Bx2 W g81_7 25 (.bool b81_7) (.slice a81_7 n81_7 c81_7) ∧ Zw W (.agg #[.bool b82_7, .slice a82_7 n82_7 c82_7]) G ∧ Bx2 W g82_7 25 (.bool b82_7) (.slice a82_7 n82_7 c82_7) ∧ Zw W (.agg #[.bool b83_7, .slice a83_7 n83_7 c83_7]) J ∧ Bx2 W g83_7 25 (.bool b83_7) (.slice a83_7 n83_7 c83_7) ∧ Zw W (.agg #[.bool b84_7, .slice a84_7 n84_7 c84_7]) N ∧ Bx2 W g84_7 25 (.bool b84_7) (.slice a84_7 n84_7 c84_7) ∧ Zw W (.agg #[.bool b85_8, .slice a85_8 n85_8 c85_8]) (-F) ∧ Bx2 W g85_8 25 (.bool b85_8) (.slice a85_8 n85_8 c85_8) ∧ Rw W u85_1 (-x) ∧ Zw W (.agg #[.bool b86_8, .slice a86_8 n86_8 c86_8]) (-M) ∧ Bx2 W g86_8 25 (.bool b86_8) (.slice a86_8 n86_8 c86_8) ∧ Rw W u86_1 (-x) ∧ Zw W u87_2 (-F) ∧ Zw W u87_8 (-M) ∧ W87.heap.size ≤ W.heap.size) ⟨Good.is _, Good.is _, Good.is _, Good.is _, Good.is _, Good.is _, Good.is _, Good.is _, Good.is _, Good.is _, Good.is _, Good.is _, Good.is _, Good.is _, Good.is _, Good.is _, Good.is _, trivial⟩
        ⟨E0, p3, p4, hx1, hx2, h79_4, p79_7, h80_4, p80_7, h81_4, p81_7, h82_4, p82_7, h83_4, p83_7, h84_4, p84_7, h85_5, p85_8, h85_1, h86_5, p86_8, h86_1, h87_2, h87_8, Nat.le_refl _⟩ (A := ?A96) ?hA96 ?howe96 ?hfin96
       case hA96 =>
        intro vs
        simp only [putAll, Act.put, sA, sZ, sS, Nat.zero_add, Nat.reduceAdd]
        exact rfl
       case howe96 =>
        clear E0 p3 p4 hx1 hx2 h79_4 p79_7 h80_4 p80_7 h81_4 p81_7 h82_4 p82_7 h83_4 p83_7 h84_4 p84_7 h85_5 p85_8 h85_1 h86_5 p86_8 h86_1 h87_2 h87_8
        intro hf
        refine ⟨oE 0 [] hf rfl ?_, oE 1 [] hf rfl ?_, oE 2 [0, 1] hf rfl ?_, oE 3 [2] hf rfl ?_, oE 4 [3] hf rfl ?_, oE 5 [4] hf rfl ?_, oE 6 [4] hf rfl ?_, oE 7 [4] hf rfl ?_, oE 8 [4] hf rfl ?_, oE 9 [4, 8] hf rfl ?_, oE 10 [9] hf rfl ?_, oE 11 [10] hf rfl ?_, oE 12 [10] hf rfl ?_, oE 13 [10] hf rfl ?_, oE 14 [10] hf rfl ?_, oE 15 [10, 14] hf rfl ?_, oE 16 [15] hf rfl ?_, trivial⟩
        all_goals intro vs W hS hp hx KO hKO
        all_goals simp only [Act.put, sA, sZ, sS] at hKO
        ·have fc0 := hS.2.2.2.2.2.2.1.cell0; have fc1 := hS.2.2.2.2.2.2.1.cell1; go_simp; exact hKO _ W (.refl W) rfl
        ·have fc0 := hS.2.2.2.2.2.2.2.2.2.2.2.2.1.cell0; have fc1 := hS.2.2.2.2.2.2.2.2.2.2.2.2.1.cell1; go_simp; exact hKO _ W (.refl W) rfl
        ·have e0 := isOf hp.1; have e1 := isOf hp.2.1; simp only [e0, e1] at hKO; go_simp
         refine (Try.refZCmpV (hS.2.2.2.2.2.1) (hS.2.2.2.2.2.2.2.2.2.2.2.1) HC1.out).mono ?_
         rintro e W1 ⟨rfl, hE⟩
         exact hKO _ W1 hE rfl
        ·have e2 := isOf hp.1; simp only [e2] at hKO; go_simp; exact hKO _ W (.refl W) rfl
        ·have e3 := isOf hp.1; simp only [e3] at hKO; go_simp; exact hKO _ W (.refl W) rfl
        ·have e4 := isOf hp.1; simp only [e4] at hKO; go_simp; exact hKO _ W (.refl W) rfl
        ·have e4 := isOf hp.1; simp only [e4] at hKO; go_simp; exact hKO _ W (.refl W) rfl
        ·have e4 := isOf hp.1; simp only [e4] at hKO; go_simp; exact hKO _ W (.refl W) rfl
        ·have e4 := isOf hp.1; simp only [e4] at hKO; go_simp; exact hKO _ W (.refl W) rfl
        ·have e4 := isOf hp.1; have e8 := isOf hp.2.1; simp only [e4, e8] at hKO; go_simp; exact hKO _ W (.refl W) rfl
        ·have e9 := isOf hp.1; simp only [e9] at hKO; go_simp; exact hKO _ W (.refl W) rfl
        ·have e10 := isOf hp.1; simp only [e10] at hKO; go_simp; exact hKO _ W (.refl W) rfl
        ·have e10 := isOf hp.1; simp only [e10] at hKO; go_simp; exact hKO _ W (.refl W) rfl
        ·have e10 := isOf hp.1; simp only [e10] at hKO; go_simp; exact hKO _ W (.refl W) rfl
        ·have e10 := isOf hp.1; simp only [e10] at hKO; go_simp; exact hKO _ W (.refl W) rfl
        ·have e10 := isOf hp.1; have e14 := isOf hp.2.1; simp only [e10, e14] at hKO; go_simp; exact hKO _ W (.refl W) rfl
        ·have e15 := isOf hp.1; simp only [e15] at hKO; go_simp; exact hKO _ W (.refl W) rfl
       intro vs W96 hS hp
       clear szw96 E0 p3 p4 hx1 hx2 h79_4 p79_7 h80_4 p80_7 h81_4 p81_7 h82_4 p82_7 h83_4 p83_7 h84_4 p84_7 h85_5 p85_8 h85_1 h86_5 p86_8 h86_1 h87_2 h87_8
       obtain ⟨E0, p3, p4, hx1, hx2, h79_4, p79_7, h80_4, p80_7, h81_4, p81_7, h82_4, p82_7, h83_4, p83_7, h84_4, p84_7, h85_5, p85_8, h85_1, h86_5, p86_8, h86_1, h87_2, h87_8, sz96⟩ := hS
       obtain ⟨h96_0, h96_1, h96_2, h96_3, h96_4, h96_5, h96_6, h96_7, h96_8, h96_9, h96_10, h96_11, h96_12, h96_13, h96_14, h96_15, h96_16, -⟩ := hp
       replace h96_0 : vs 0 = .agg #[.bool b79_7, .slice a79_7 n79_7 c79_7] := h96_0
       replace h96_1 : vs 1 = .agg #[.bool b82_7, .slice a82_7 n82_7 c82_7] := h96_1
       replace h96_2 : vs 2 = .int .i64 e1 := h96_2
       replace h96_3 : vs 3 = .bool false := h96_3
       replace h96_4 : vs 4 = .bool false := h96_4
       replace h96_5 : vs 5 = undef := h96_5
       replace h96_6 : vs 6 = undef := h96_6
       replace h96_7 : vs 7 = undef := h96_7
       replace h96_8 : vs 8 = undef := h96_8
       replace h96_9 : vs 9 = .bool false := h96_9
       replace h96_10 : vs 10 = .bool false := h96_10
       replace h96_11 : vs 11 = undef := h96_11
       replace h96_12 : vs 12 = undef := h96_12
       replace h96_13 : vs 13 = undef := h96_13
       replace h96_14 : vs 14 = undef := h96_14
       replace h96_15 : vs 15 = .bool false := h96_15
       replace h96_16 : vs 16 = .bool false := h96_16
       simp only [h96_0, h96_1, h96_2, h96_3, h96_4, h96_5, h96_6, h96_7, h96_8, h96_9, h96_10, h96_11, h96_12, h96_13, h96_14, h96_15, h96_16]
       clear h96_0 h96_1 h96_2 h96_3 h96_4 h96_5 h96_6 h96_7 h96_8 h96_9 h96_10 h96_11 h96_12 h96_13 h96_14 h96_15 h96_16
       obtain ⟨kp3_0, kp3_1, kp3_2⟩ := p3.c3
       obtain ⟨kp4_0, kp4_1, kp4_2⟩ := p4.c3
       obtain ⟨kp79_7_0, kp79_7_1⟩ := p79_7.c2
       obtain ⟨kp80_7_0, kp80_7_1⟩ := p80_7.c2
       obtain ⟨kp81_7_0, kp81_7_1⟩ := p81_7.c2
       obtain ⟨kp82_7_0, kp82_7_1⟩ := p82_7.c2
       obtain ⟨kp83_7_0, kp83_7_1⟩ := p83_7.c2
       obtain ⟨kp84_7_0, kp84_7_1⟩ := p84_7.c2
       obtain ⟨kp85_8_0, kp85_8_1⟩ := p85_8.c2
       obtain ⟨kp86_8_0, kp86_8_1⟩ := p86_8.c2
       go_upto_region 14 with (fail)
       clear kp3_0 kp3_1 kp3_2 kp4_0 kp4_1 kp4_2 kp79_7_0 kp79_7_1 kp80_7_0 kp80_7_1 kp81_7_0 kp81_7_1 kp82_7_0 kp82_7_1 kp83_7_0 kp83_7_1 kp84_7_0 kp84_7_1 kp85_8_0 kp85_8_1 kp86_8_0 kp86_8_1; have szw97 := Ext.size E0
       refine region_gs [.one fun v _ => v = .bool true,
         .one fun v _ => v = .bool true,
         .one fun v _ => v = .agg #[.bool b1, .slice a1 n1 c1, .slice d1 m1 o1],
         .one fun v _ => v = .agg #[.bool b2, .slice a2 n2 c2, .slice d2 m2 o2],
         .one fun v _ => v = .int .i64 e4,
         .one fun v _ => v = .bool true,
         .one fun v _ => v = .bool true,
         .one fun v _ => v = undef,
         .one fun v _ => v = .bool true,
         .one fun v _ => v = .bool true,
         .one fun v _ => v = .bool true]
        (fun W => Ext w W ∧ Bx3 W w.heap.size 27 (.bool b1) (.slice a1 n1 c1) (.slice d1 m1 o1) ∧ Bx3 W (w.heap.size + 1) 27 (.bool b2) (.slice a2 n2 c2) (.slice d2 m2 o2) ∧ Rw W (.agg #[.bool b1, .slice a1 n1 c1, .slice d1 m1 o1]) x ∧ Rw W (.agg #[.bool b2, .slice a2 n2 c2, .slice d2 m2 o2]) y ∧ Zw W (.agg #[.bool b79_7, .slice a79_7 n79_7 c79_7]) F ∧ Bx2 W g79_7 25 (.bool b79_7) (.slice a79_7 n79_7 c79_7) ∧ Zw W (.agg #[.bool b80_7, .slice a80_7 n80_7 c80_7]) C ∧ Bx2 W g80_7 25 (.bool b80_7) (.slice a80_7 n80_7 c80_7) ∧ Zw W (.agg #[.bool b81_7, .slice a81_7 n81_7 c81_7]) M ∧ Bx2 W g81_7 25 (.bool b81_7) (.slice a81_7 n81_7 c81_7) ∧ Zw W (.agg #[.bool b82_7, .slice a82_7 n82_7 c82_7]) G ∧ Bx2 W g82_7 25 (.bool b82_7) (.slice a82_7 n82_7 c82_7) ∧ Zw W (.agg #[.bool b83_7, .slice a83_7 n83_7 c83_7]) J ∧ Bx2 W g83_7 25 (.bool b83_7) (.slice a83_7 n83_7 c83_7) ∧ Zw W (.agg #[.bool b84_7, .slice a84_7 n84_7 c84_7]) N ∧ Bx2 W g84_7 25 (.bool b84_7) (.slice a84_7 n84_7 c84_7) ∧ Zw W (.agg #[.bool b85_8, .slice a85_8 n85_8 c85_8]) (-F) ∧ Bx2 W g85_8 25 (.bool b85_8) (.slice a85_8 n85_8 c85_8) ∧ Rw W u85_1 (-x) ∧ Zw W (.agg #[.bool b86_8, .slice a86_8 n86_8 c86_8]) (-M) ∧ Bx2 W g86_8 25 (.bool b86_8) (.slice a86_8 n86_8 c86_8) ∧ Rw W u86_1 (-x) ∧ Zw W u87_2 (-F) ∧ Zw W u87_8 (-M) ∧ W96.heap.size ≤ W.heap.size) ⟨Good.is _, Good.is _, Good.is _, Good.is _, Good.is _, Good.is _, Good.is _, Good.is _, Good.is _, Good.is _, Good.is _, trivial⟩
        ⟨E0, p3, p4, hx1, hx2, h79_4, p79_7, h80_4, p80_7, h81_4, p81_7, h82_4, p82_7, h83_4, p83_7, h84_4, p84_7, h85_5, p85_8, h85_1, h86_5, p86_8, h86_1, h87_2, h87_8, Nat.le_refl _⟩ (A := ?A97) ?hA97 ?howe97 ?hfin97
       case hA97 =>
        intro vs
        simp only [putAll, Act.put, sA, sZ, sS, Nat.zero_add, Nat.reduceAdd]
        exact rfl
       case howe97 =>
        clear E0 p3 p4 hx1 hx2 h79_4 p79_7 h80_4 p80_7 h81_4 p81_7 h82_4 p82_7 h83_4 p83_7 h84_4 p84_7 h85_5 p85_8 h85_1 h86_5 p86_8 h86_1 h87_2 h87_8
        intro hf
        refine ⟨oE 0 [] hf rfl ?_, oE 1 [0] hf rfl ?_, oE 2 [1] hf rfl ?_, oE 3 [1] hf rfl ?_, oE 4 [1, 2, 3] hf rfl ?_, oE 5 [1, 4] hf rfl ?_, oE 6 [1, 5] hf rfl ?_, oE 7 [6] hf rfl ?_, oE 8 [1, 6, 7] hf rfl ?_, oE 9 [1, 8] hf rfl ?_, oE 10 [9] hf rfl ?_, trivial⟩
        all_goals intro vs W hS hp hx KO hKO
        all_goals simp only [Act.put, sA, sZ, sS] at hKO
        ·go_simp
         refine (Try.alive06 _).mono ?_
         rintro e W1 ⟨rfl, hE⟩
         exact hKO _ W1 hE rfl
        ·have e0 := isOf hp.1; simp only [e0] at hKO; go_simp; exact hKO _ W (.refl W) rfl
        ·have e1 := isOf hp.1; simp only [e1] at hKO; have fc0 := hS.2.1.cell0; have fc1 := hS.2.1.cell1; have fc2 := hS.2.1.cell2; go_simp; exact hKO _ W (.refl W) rfl
        ·have e1 := isOf hp.1; simp only [e1] at hKO; have fc0 := hS.2.2.1.cell0; have fc1 := hS.2.2.1.cell1; have fc2 := hS.2.2.1.cell2; go_simp; exact hKO _ W (.refl W) rfl
        ·have e1 := isOf hp.1; have e2 := isOf hp.2.1; have e3 := isOf hp.2.2.1; simp only [e1, e2, e3] at hKO; go_simp
         refine (Try.refRCmpR (hS.2.2.2.1) (hS.2.2.2.2.1) s1 s2 (by omega) HC4.out).mono ?_
         rintro e W1 ⟨rfl, hE⟩
         exact hKO _ W1 hE rfl
        ·have e1 := isOf hp.1; have e4 := isOf hp.2.1; simp only [e1, e4] at hKO; go_simp; exact hKO _ W (.refl W) rfl
        ·have e1 := isOf hp.1; have e5 := isOf hp.2.1; simp only [e1, e5] at hKO; go_simp; exact hKO _ W (.refl W) rfl
        ·have e6 := isOf hp.1; simp only [e6] at hKO; go_simp; exact hKO _ W (.refl W) rfl
        ·have e1 := isOf hp.1; have e6 := isOf hp.2.1; have e7 := isOf hp.2.2.1; simp only [e1, e6, e7] at hKO; go_simp; exact hKO _ W (.refl W) rfl
        ·have e1 := isOf hp.1; have e8 := isOf hp.2.1; simp only [e1, e8] at hKO; go_simp; exact hKO _ W (.refl W) rfl
        ·have e9 := isOf hp.1; simp only [e9] at hKO; go_simp; exact hKO _ W (.refl W) rfl
       intro vs W97 hS hp
       clear szw97 E0 p3 p4 hx1 hx2 h79_4 p79_7 h80_4 p80_7 h81_4 p81_7 h82_4 p82_7 h83_4 p83_7 h84_4 p84_7 h85_5 p85_8 h85_1 h86_5 p86_8 h86_1 h87_2 h87_8
       obtain ⟨E0, p3, p4, hx1, hx2, h79_4, p79_7, h80_4, p80_7, h81_4, p81_7, h82_4, p82_7, h83_4, p83_7, h84_4, p84_7, h85_5, p85_8, h85_1, h86_5, p86_8, h86_1, h87_2, h87_8, sz97⟩ := hS
       obtain ⟨h97_0, h97_1, h97_2, h97_3, h97_4, h97_5, h97_6, h97_7, h97_8, h97_9, h97_10, -⟩ := hp
       replace h97_0 : vs 0 = .bool true := h97_0
       replace h97_1 : vs 1 = .bool true := h97_1
       replace h97_2 : vs 2 = .agg #[.bool b1, .slice a1 n1 c1, .slice d1 m1 o1] := h97_2
       replace h97_3 : vs 3 = .agg #[.bool b2, .slice a2 n2 c2, .slice d2 m2 o2] := h97_3
       replace h97_4 : vs 4 = .int .i64 e4 := h97_4
       replace h97_5 : vs 5 = .bool true := h97_5
       replace h97_6 : vs 6 = .bool true := h97_6
       replace h97_7 : vs 7 = undef := h97_7
       replace h97_8 : vs 8 = .bool true := h97_8
       replace h97_9 : vs 9 = .bool true := h97_9
       replace h97_10 : vs 10 = .bool true := h97_10
       simp only [h97_0, h97_1, h97_2, h97_3, h97_4, h97_5, h97_6, h97_7, h97_8, h97_9, h97_10]
       clear h97_0 h97_1 h97_2 h97_3 h97_4 h97_5 h97_6 h97_7 h97_8 h97_9 h97_10
       obtain ⟨kp3_0, kp3_1, kp3_2⟩ := p3.c3
       obtain ⟨kp4_0, kp4_1, kp4_2⟩ := p4.c3
       obtain ⟨kp79_7_0, kp79_7_1⟩ := p79_7.c2
       obtain ⟨kp80_7_0, kp80_7_1⟩ := p80_7.c2
       obtain ⟨kp81_7_0, kp81_7_1⟩ := p81_7.c2
       obtain ⟨kp82_7_0, kp82_7_1⟩ := p82_7.c2
       obtain ⟨kp83_7_0, kp83_7_1⟩ := p83_7.c2
       obtain ⟨kp84_7_0, kp84_7_1⟩ := p84_7.c2
       obtain ⟨kp85_8_0, kp85_8_1⟩ := p85_8.c2
       obtain ⟨kp86_8_0, kp86_8_1⟩ := p86_8.c2
       go_wp2; go_ret
       exact ⟨rfl, E0⟩

end Go.Rt
