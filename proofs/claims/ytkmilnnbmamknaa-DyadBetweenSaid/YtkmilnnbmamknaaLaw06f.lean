/-
 The laws of chapter 06 (dyads): Between, off the grid.
-/
import Derived.Test.YtkmilnnbmamknaaSqz
import Derived.Test.YtkmilnnbmamknaaDyadD
namespace Go.Rt
open Go Go.RowKit Go.Proofs


set_option maxRecDepth 100000 in
set_option maxHeartbeats 16000000 in
theorem Try.lawDyadBetweenFT {b1 : Bool} {a1 : Option Addr} {n1 c1 : Nat} {d1 : Option Addr} {m1 o1 : Nat} {xs1 ys1 : List Nat} {w : World} (h1 : Nt w (.slice a1 n1 c1) xs1) (k1 : Nt w (.slice d1 m1 o1) ys1) (HG0 : Hid (fewR b1 xs1 ys1 ((4 : Nat) : Int) = true)) (x : Rat) (hx1 : Rw w (.agg #[.bool b1, .slice a1 n1 c1, .slice d1 m1 o1]) x) (s1 : SmR 4 x) (K : Nat) (hKb : K ≤ 400) (hxo : Hid (((x * P2 K).floor : Rat) / P2 K ≠ x)) (hmf : Hid (nearR (x * P2 K) = (x * P2 K).floor)) :
  Calls Try.prog 3 #[.agg #[.bool b1, .slice a1 n1 c1, .slice d1 m1 o1], .int .i64 (K : Int)] w fun e w' => e = .returned (.bool true) ∧ Ext w w' := by
 have hk0 : ¬ ((K : Int) < 0) := by omega
 have hk0d := decide_eq_false hk0
 have hk4 : ¬ (400 < (K : Int)) := by omega
 have hk4d := decide_eq_false hk4
 have hk4n : ¬ 400 < K := by omega
 have hk0n : 0 ≤ K := Nat.zero_le K
 obtain ⟨F, hF_⟩ : ∃ F : Int, (x * P2 K).floor = F := ⟨_, rfl⟩
 obtain ⟨C, hC_⟩ : ∃ C : Int, (x * P2 K).ceil = C := ⟨_, rfl⟩
 obtain ⟨M, hM_⟩ : ∃ M : Int, nearR (x * P2 K) = M := ⟨_, rfl⟩
 obtain ⟨X, hX_⟩ : ∃ X : Rat, (F : Rat) / P2 K = X := ⟨_, rfl⟩
 obtain ⟨Y, hY_⟩ : ∃ Y : Rat, (C : Rat) / P2 K = Y := ⟨_, rfl⟩
 obtain ⟨Z, hZ_⟩ : ∃ Z : Rat, (M : Rat) / P2 K = Z := ⟨_, rfl⟩
 obtain ⟨S, hS_⟩ : ∃ S : Rat, ((1 : Int) : Rat) / P2 K = S := ⟨_, rfl⟩
 obtain ⟨D, hD_⟩ : ∃ D : Rat, (Z - x).abs = D := ⟨_, rfl⟩
 obtain ⟨e1, he1_⟩ : ∃ e1 : Int, cmpR X x = e1 := ⟨_, rfl⟩
 obtain ⟨e2, he2_⟩ : ∃ e2 : Int, cmpR x Y = e2 := ⟨_, rfl⟩
 obtain ⟨e3, he3_⟩ : ∃ e3 : Int, cmpR (D + D) S = e3 := ⟨_, rfl⟩
 have HFl := Lib.hid hF_
 have HCl := Lib.hid hC_
 have HNr := Lib.hid hM_
 have HX := Lib.hid hX_
 have HY := Lib.hid hY_
 have HZ := Lib.hid hZ_
 have HSt := Lib.hid hS_
 have HD := Lib.hid hD_
 have HC1 := Lib.hid he1_
 have HC2 := Lib.hid he2_
 have HC3 := Lib.hid he3_
 have he1 : Hid (e1 ≤ 0) := Lib.hid (by rw [← he1_, cmpR_le0, ← hX_, ← hF_]; exact low_le x K)
 have he2 : Hid (e2 ≤ 0) := Lib.hid (by rw [← he2_, cmpR_le0, ← hY_, ← hC_]; exact le_high x K)
 have hon : X = x ↔ Y = x := by rw [← hX_, ← hY_, ← hF_, ← hC_]; exact on_iff x K
 have hside : X ≠ x → Y - X = S := by rw [← hX_, ← hY_, ← hS_, ← hF_, ← hC_]; exact side_by
 have hmid : M = F ∨ M = C := by rw [← hM_, ← hF_, ← hC_]; exact near_end _
 have hhalf := near_half x K
 rw [hM_, hZ_, hD_, hS_] at hhalf
 have he3 : Hid (e3 ≤ 0) := Lib.hid (by rw [← he3_, cmpR_le0]; exact hhalf.1)
 have hev := hhalf.2
 have SF : Hid (Sm 12 F.natAbs) := Lib.hid (by rw [← hF_]; exact (Sm.floor s1 K).mono (by omega))
 have SC : Hid (Sm 12 C.natAbs) := Lib.hid (by rw [← hC_]; exact (Sm.ceil s1 K).mono (by omega))
 have SM : Hid (Sm 12 M.natAbs) := Lib.hid (by rw [← hM_]; exact (Sm.near s1 K).mono (by omega))
 have S1 : Hid (Sm 12 (1 : Int).natAbs) := Lib.hid ((Sm.small (by omega)).mono (by omega))
 have SX : Hid (SmR 20 X) := Lib.hid (by rw [← hX_, ← back_eq]; exact (SmR.back SF.out K).mono (by omega))
 have SY : Hid (SmR 20 Y) := Lib.hid (by rw [← hY_, ← back_eq]; exact (SmR.back SC.out K).mono (by omega))
 have SZ : Hid (SmR 20 Z) := Lib.hid (by rw [← hZ_, ← back_eq]; exact (SmR.back SM.out K).mono (by omega))
 have SS : Hid (SmR 20 S) := Lib.hid (by rw [← hS_, ← back_eq]; exact (SmR.back S1.out K).mono (by omega))
 have Sx : Hid (SmR 20 x) := Lib.hid (s1.mono (by omega))
 have SD : Hid (SmR 41 D) := Lib.hid (by rw [← hD_]; exact (SZ.out.sub Sx.out).abs)
 have SDD : Hid (SmR 83 (D + D)) := Lib.hid (SD.out.add SD.out)
 have SS : Hid (SmR 83 S) := Lib.hid (SS.out.mono (by omega))
 have SS20 : Hid (SmR 20 S) := Lib.hid (by rw [← hS_, ← back_eq]; exact (SmR.back S1.out K).mono (by omega))
 have HON : Hid (X ≠ x) := Lib.hid (by rw [← hX_, ← hF_]; exact hxo.out)
 have HMF : Hid (M = F) := Lib.hid (by rw [← hM_, ← hF_]; exact hmf.out)
 clear hxo hmf; clear hF_ hC_ hM_ hX_ hY_ hZ_ hS_ hD_ he1_ he2_ he3_; clear hhalf
 have e1le : e1 ≤ 0 := he1.out
 have e1led := decide_eq_true e1le
 have e1gt : ¬ (0 < e1) := by omega
 have e1gtd := decide_eq_false e1gt
 have e2le : e2 ≤ 0 := he2.out
 have e2led := decide_eq_true e2le
 have e2gt : ¬ (0 < e2) := by omega
 have e2gtd := decide_eq_false e2gt
 have e3le : e3 ≤ 0 := he3.out
 have e3led := decide_eq_true e3le
 have e3gt : ¬ (0 < e3) := by omega
 have e3gtd := decide_eq_false e3gt
 have HON2 : Hid (Y ≠ x) := Lib.hid (fun h => HON.out (hon.2 h))
 have HSd := Lib.hid (hside HON.out)
 have HEV := Lib.hid hev
 clear hon hside hmid hev
 obtain ⟨W0, hW0⟩ : ∃ W0, W0 = (w.alloc (.cells #[.bool b1, .slice a1 n1 c1, .slice d1 m1 o1] 27)) := ⟨_, rfl⟩
 have E0 : Ext w W0 := by rw [hW0]; exact (Ext.alloc1 w (.cells #[.bool b1, .slice a1 n1 c1, .slice d1 m1 o1] 27))
 replace h1 : Nt W0 (.slice a1 n1 c1) xs1 := h1.ext E0
 replace k1 : Nt W0 (.slice d1 m1 o1) ys1 := k1.ext E0
 replace hx1 : Rw W0 (.agg #[.bool b1, .slice a1 n1 c1, .slice d1 m1 o1]) x := hx1.ext E0
 have p2 : Bx3 W0 w.heap.size 27 (.bool b1) (.slice a1 n1 c1) (.slice d1 m1 o1) := by rw [hW0]; exact (Bx3.new w 27 (.bool b1) (.slice a1 n1 c1) (.slice d1 m1 o1))
 go_enter Try.func3, Try.ntmps3
 obtain ⟨kp2_0, kp2_1, kp2_2⟩ := p2.c3
 go_wp2_with fail
 rw [← hW0]
 clear hW0; clear kp2_0 kp2_1 kp2_2
 refine (Try.refRFew h1 k1 4 (by omega)).mono ?_
 rintro e Wf0 ⟨rfl, hE⟩
 rw [HG0.out]; replace E0 := (Ext.trans E0 hE); replace h1 := (h1.ext hE)
 replace k1 := (k1.ext hE)
 replace hx1 := (hx1.ext hE); replace p2 := (p2.ext hE); clear hE; clear h1 k1
 obtain ⟨kp2_0, kp2_1, kp2_2⟩ := p2.c3
 go_upto_region 3 with (fail)
 clear kp2_0 kp2_1 kp2_2; have ltp2 := p2.lt; have szw47 := Ext.size E0
 refine region_gs [.one fun v _ => v = .agg #[.bool b1, .slice a1 n1 c1, .slice d1 m1 o1],
   .one fun v _ => v = .int .i64 (K : Int),
   .one fun v W => ∃ v', v = .tuple #[v', .int .i64 0] ∧ (fun v W => Zw W v F) v' W,
   .one fun v W => ∃ v', v = .tuple #[v', .int .i64 0] ∧ (fun v W => Zw W v F) v' W,
   .one fun v W => Zw W v F,
   .one fun v _ => v = .int .i64 0,
   .one fun v W => ∃ g, v = .pointer (some ⟨g, 0, none⟩) ∧ Wf0.heap.size ≤ g ∧ Form W g 25 2,
   .three 6 4 (fun p r _ W => Put2 Wf0.heap.size 25 p r W),
   .one fun v _ => v = .int .i64 0]
  (fun W => Ext w W ∧ Rw W (.agg #[.bool b1, .slice a1 n1 c1, .slice d1 m1 o1]) x ∧ Bx3 W w.heap.size 27 (.bool b1) (.slice a1 n1 c1) (.slice d1 m1 o1) ∧ Wf0.heap.size ≤ W.heap.size) ⟨Good.is _, Good.is _, (Good.zed _).tup _, (Good.zed _).tup _, Good.zed _, Good.is _, Good.box _ _ _, cert_put2, Good.is _, trivial⟩
  ⟨E0, hx1, p2, Nat.le_refl _⟩ (A := ?A47) ?hA47 ?howe47 ?hfin47
 case hA47 =>
  intro vs
  simp only [putAll, Act.put, sA, sZ, sS, Nat.zero_add, Nat.reduceAdd]
  exact rfl
 case howe47 =>
  clear E0 hx1 p2
  intro hf
  refine ⟨oE 0 [] hf rfl ?_, oE 1 [] hf rfl ?_, oE 2 [0, 1] hf rfl ?_, oE 3 [2] hf rfl ?_, oE 4 [3] hf rfl ?_, oE 5 [3] hf rfl ?_, oE 6 [] hf rfl ?_, oW 7 [6, 4] hf rfl ?_, oE 8 [5] hf rfl ?_, trivial⟩
  all_goals intro vs W hS hp hx KO hKO
  all_goals simp only [Act.put, sA, sZ, sS] at hKO
  ·have fc0 := hS.2.2.1.cell0; have fc1 := hS.2.2.1.cell1; have fc2 := hS.2.2.1.cell2; go_simp; exact hKO _ W (.refl W) rfl
  ·go_simp; exact hKO _ W (.refl W) rfl
  ·have e0 := isOf hp.1; have e1 := isOf hp.2.1; simp only [e0, e1] at hKO; go_simp
   refine (Try.dyadFloor (hS.2.1) s1 (by omega) K (by omega)).mono ?_
   rintro e W1 ⟨v, rfl, hv, hE⟩
   rw [HFl.out] at hv
   exact hKO _ W1 hE ⟨_, rfl, hv⟩
  ·have q2 := hp.1
   obtain ⟨u, ev, hu⟩ := q2
   replace ev : vs 2 = _ := ev; simp only [ev] at hKO; go_simp; exact hKO _ W (Ext.refl W) ⟨u, rfl, hu⟩
  ·have q3 := hp.1
   obtain ⟨u, ev, hu⟩ := q3
   replace ev : vs 3 = _ := ev; simp only [ev] at hKO; go_simp; exact hKO _ W (Ext.refl W) hu
  ·have q3 := hp.1
   obtain ⟨u, ev, hu⟩ := q3
   replace ev : vs 3 = _ := ev; simp only [ev] at hKO; go_simp; exact hKO _ W (.refl W) rfl
  ·have hn := Bx2.new W 25 (.bool false) (.slice none 0 0)
   have hE := Ext.alloc1 W (.cells #[.bool false, .slice none 0 0] 25)
   have hsz := hS.2.2.2
   go_simp
   exact hKO _ _ hE ⟨_, rfl, hsz, hn.form⟩
  ·have q6 := hp.1; have q4 := hp.2.1
   obtain ⟨g, ev, hg, hf⟩ := q6
   replace ev : vs 6 = _ := ev
   obtain ⟨x0_0, x0_1, hx, hno⟩ := hf.bx2
   have qr := q4
   obtain ⟨b3, a3, n3, c3, er, -, -⟩ := qr
   replace er : vs 4 = _ := er
   have r0 := hx.froz0
   have t0 := hx.cell0
   have r1 := hx.froz1
   have t1 := hx.cell1
   have hw := Wr.set2 hx hno b3 a3 n3 c3
   have hq := hx.set (.bool b3) (.slice a3 n3 c3)
   simp only [ev, er] at hKO; go_simp
   exact hKO _ _ hw ⟨(Ext.wr hS.1 hw (by omega)), (hS.2.1.wr hw), (hS.2.2.1.wr hw (by omega)), (Nat.le_trans hS.2.2.2 hw.apart.size)⟩ ⟨g, b3, a3, n3, c3, ev, er, hg, hq⟩
  ·have e5 := isOf hp.1; simp only [e5] at hKO; go_simp; exact hKO _ W (.refl W) rfl
 intro vs W47 hS hp
 clear szw47 E0 hx1 p2
 obtain ⟨E0, hx1, p2, sz47⟩ := hS
 obtain ⟨h47_0, h47_1, h47_2, h47_3, h47_4, h47_5, h47_6, h47_7, h47_8, -⟩ := hp
 obtain ⟨g47_7, b47_7, a47_7, n47_7, c47_7, ev47_7, er47_7, hg47_7, p47_7⟩ := h47_7
 replace ev47_7 : vs 6 = _ := ev47_7; replace er47_7 : vs 4 = _ := er47_7; replace h47_4 := (show Zw W47 (vs 4) F from h47_4)
 rw [er47_7] at h47_4
 replace h47_0 : vs 0 = .agg #[.bool b1, .slice a1 n1 c1, .slice d1 m1 o1] := h47_0
 replace h47_1 : vs 1 = .int .i64 (K : Int) := h47_1
 replace h47_5 : vs 5 = .int .i64 0 := h47_5
 replace h47_8 : vs 8 = .int .i64 0 := h47_8
 simp only [ev47_7, er47_7, h47_0, h47_1, h47_5, h47_8]
 clear ev47_7 er47_7 h47_0 h47_1 h47_5 h47_8 h47_2 h47_3 h47_6
 obtain ⟨kp2_0, kp2_1, kp2_2⟩ := p2.c3
 obtain ⟨kp47_7_0, kp47_7_1⟩ := p47_7.c2
 go_upto_region 4 with (fail)
 clear kp2_0 kp2_1 kp2_2 kp47_7_0 kp47_7_1; have ltp47_7 := p47_7.lt; have szw48 := Ext.size E0
 refine region_gs [.one fun v _ => v = .agg #[.bool b1, .slice a1 n1 c1, .slice d1 m1 o1],
   .one fun v _ => v = .int .i64 (K : Int),
   .one fun v W => ∃ v', v = .tuple #[v', .int .i64 0] ∧ (fun v W => Zw W v C) v' W,
   .one fun v W => ∃ v', v = .tuple #[v', .int .i64 0] ∧ (fun v W => Zw W v C) v' W,
   .one fun v W => Zw W v C,
   .one fun v _ => v = .int .i64 0,
   .one fun v W => ∃ g, v = .pointer (some ⟨g, 0, none⟩) ∧ W47.heap.size ≤ g ∧ Form W g 25 2,
   .three 6 4 (fun p r _ W => Put2 W47.heap.size 25 p r W),
   .one fun v _ => v = .int .i64 0]
  (fun W => Ext w W ∧ Rw W (.agg #[.bool b1, .slice a1 n1 c1, .slice d1 m1 o1]) x ∧ Bx3 W w.heap.size 27 (.bool b1) (.slice a1 n1 c1) (.slice d1 m1 o1) ∧ Zw W (.agg #[.bool b47_7, .slice a47_7 n47_7 c47_7]) F ∧ Bx2 W g47_7 25 (.bool b47_7) (.slice a47_7 n47_7 c47_7) ∧ W47.heap.size ≤ W.heap.size) ⟨Good.is _, Good.is _, (Good.zed _).tup _, (Good.zed _).tup _, Good.zed _, Good.is _, Good.box _ _ _, cert_put2, Good.is _, trivial⟩
  ⟨E0, hx1, p2, h47_4, p47_7, Nat.le_refl _⟩ (A := ?A48) ?hA48 ?howe48 ?hfin48
 case hA48 =>
  intro vs
  simp only [putAll, Act.put, sA, sZ, sS, Nat.zero_add, Nat.reduceAdd]
  exact rfl
 case howe48 =>
  clear E0 hx1 p2 h47_4 p47_7
  intro hf
  refine ⟨oE 0 [] hf rfl ?_, oE 1 [] hf rfl ?_, oE 2 [0, 1] hf rfl ?_, oE 3 [2] hf rfl ?_, oE 4 [3] hf rfl ?_, oE 5 [3] hf rfl ?_, oE 6 [] hf rfl ?_, oW 7 [6, 4] hf rfl ?_, oE 8 [5] hf rfl ?_, trivial⟩
  all_goals intro vs W hS hp hx KO hKO
  all_goals simp only [Act.put, sA, sZ, sS] at hKO
  ·have fc0 := hS.2.2.1.cell0; have fc1 := hS.2.2.1.cell1; have fc2 := hS.2.2.1.cell2; go_simp; exact hKO _ W (.refl W) rfl
  ·go_simp; exact hKO _ W (.refl W) rfl
  ·have e0 := isOf hp.1; have e1 := isOf hp.2.1; simp only [e0, e1] at hKO; go_simp
   refine (Try.dyadCeil (hS.2.1) s1 (by omega) K (by omega)).mono ?_
   rintro e W1 ⟨v, rfl, hv, hE⟩
   rw [HCl.out] at hv
   exact hKO _ W1 hE ⟨_, rfl, hv⟩
  ·have q2 := hp.1
   obtain ⟨u, ev, hu⟩ := q2
   replace ev : vs 2 = _ := ev; simp only [ev] at hKO; go_simp; exact hKO _ W (Ext.refl W) ⟨u, rfl, hu⟩
  ·have q3 := hp.1
   obtain ⟨u, ev, hu⟩ := q3
   replace ev : vs 3 = _ := ev; simp only [ev] at hKO; go_simp; exact hKO _ W (Ext.refl W) hu
  ·have q3 := hp.1
   obtain ⟨u, ev, hu⟩ := q3
   replace ev : vs 3 = _ := ev; simp only [ev] at hKO; go_simp; exact hKO _ W (.refl W) rfl
  ·have hn := Bx2.new W 25 (.bool false) (.slice none 0 0)
   have hE := Ext.alloc1 W (.cells #[.bool false, .slice none 0 0] 25)
   have hsz := hS.2.2.2.2.2
   go_simp
   exact hKO _ _ hE ⟨_, rfl, hsz, hn.form⟩
  ·have q6 := hp.1; have q4 := hp.2.1
   obtain ⟨g, ev, hg, hf⟩ := q6
   replace ev : vs 6 = _ := ev
   obtain ⟨x0_0, x0_1, hx, hno⟩ := hf.bx2
   have qr := q4
   obtain ⟨b3, a3, n3, c3, er, -, -⟩ := qr
   replace er : vs 4 = _ := er
   have r0 := hx.froz0
   have t0 := hx.cell0
   have r1 := hx.froz1
   have t1 := hx.cell1
   have hw := Wr.set2 hx hno b3 a3 n3 c3
   have hq := hx.set (.bool b3) (.slice a3 n3 c3)
   simp only [ev, er] at hKO; go_simp
   exact hKO _ _ hw ⟨(Ext.wr hS.1 hw (by omega)), (hS.2.1.wr hw), (hS.2.2.1.wr hw (by omega)), (hS.2.2.2.1.wr hw), (hS.2.2.2.2.1.wr hw (by omega)), (Nat.le_trans hS.2.2.2.2.2 hw.apart.size)⟩ ⟨g, b3, a3, n3, c3, ev, er, hg, hq⟩
  ·have e5 := isOf hp.1; simp only [e5] at hKO; go_simp; exact hKO _ W (.refl W) rfl
 intro vs W48 hS hp
 clear szw48 E0 hx1 p2 h47_4 p47_7
 obtain ⟨E0, hx1, p2, h47_4, p47_7, sz48⟩ := hS
 obtain ⟨h48_0, h48_1, h48_2, h48_3, h48_4, h48_5, h48_6, h48_7, h48_8, -⟩ := hp
 obtain ⟨g48_7, b48_7, a48_7, n48_7, c48_7, ev48_7, er48_7, hg48_7, p48_7⟩ := h48_7
 replace ev48_7 : vs 6 = _ := ev48_7; replace er48_7 : vs 4 = _ := er48_7; replace h48_4 := (show Zw W48 (vs 4) C from h48_4)
 rw [er48_7] at h48_4
 replace h48_0 : vs 0 = .agg #[.bool b1, .slice a1 n1 c1, .slice d1 m1 o1] := h48_0
 replace h48_1 : vs 1 = .int .i64 (K : Int) := h48_1
 replace h48_5 : vs 5 = .int .i64 0 := h48_5
 replace h48_8 : vs 8 = .int .i64 0 := h48_8
 simp only [ev48_7, er48_7, h48_0, h48_1, h48_5, h48_8]
 clear ev48_7 er48_7 h48_0 h48_1 h48_5 h48_8 h48_2 h48_3 h48_6
 obtain ⟨kp2_0, kp2_1, kp2_2⟩ := p2.c3
 obtain ⟨kp47_7_0, kp47_7_1⟩ := p47_7.c2
 obtain ⟨kp48_7_0, kp48_7_1⟩ := p48_7.c2
 go_upto_region 5 with (fail)
 clear kp2_0 kp2_1 kp2_2 kp47_7_0 kp47_7_1 kp48_7_0 kp48_7_1; have ltp48_7 := p48_7.lt; have szw49 := Ext.size E0
 refine region_gs [.one fun v _ => v = .agg #[.bool b1, .slice a1 n1 c1, .slice d1 m1 o1],
   .one fun v _ => v = .int .i64 (K : Int),
   .one fun v W => ∃ v', v = .tuple #[v', .int .i64 0] ∧ (fun v W => Zw W v M) v' W,
   .one fun v W => ∃ v', v = .tuple #[v', .int .i64 0] ∧ (fun v W => Zw W v M) v' W,
   .one fun v W => Zw W v M,
   .one fun v _ => v = .int .i64 0,
   .one fun v W => ∃ g, v = .pointer (some ⟨g, 0, none⟩) ∧ W48.heap.size ≤ g ∧ Form W g 25 2,
   .three 6 4 (fun p r _ W => Put2 W48.heap.size 25 p r W),
   .one fun v _ => v = .int .i64 0]
  (fun W => Ext w W ∧ Rw W (.agg #[.bool b1, .slice a1 n1 c1, .slice d1 m1 o1]) x ∧ Bx3 W w.heap.size 27 (.bool b1) (.slice a1 n1 c1) (.slice d1 m1 o1) ∧ Zw W (.agg #[.bool b47_7, .slice a47_7 n47_7 c47_7]) F ∧ Bx2 W g47_7 25 (.bool b47_7) (.slice a47_7 n47_7 c47_7) ∧ Zw W (.agg #[.bool b48_7, .slice a48_7 n48_7 c48_7]) C ∧ Bx2 W g48_7 25 (.bool b48_7) (.slice a48_7 n48_7 c48_7) ∧ W48.heap.size ≤ W.heap.size) ⟨Good.is _, Good.is _, (Good.zed _).tup _, (Good.zed _).tup _, Good.zed _, Good.is _, Good.box _ _ _, cert_put2, Good.is _, trivial⟩
  ⟨E0, hx1, p2, h47_4, p47_7, h48_4, p48_7, Nat.le_refl _⟩ (A := ?A49) ?hA49 ?howe49 ?hfin49
 case hA49 =>
  intro vs
  simp only [putAll, Act.put, sA, sZ, sS, Nat.zero_add, Nat.reduceAdd]
  exact rfl
 case howe49 =>
  clear E0 hx1 p2 h47_4 p47_7 h48_4 p48_7
  intro hf
  refine ⟨oE 0 [] hf rfl ?_, oE 1 [] hf rfl ?_, oE 2 [0, 1] hf rfl ?_, oE 3 [2] hf rfl ?_, oE 4 [3] hf rfl ?_, oE 5 [3] hf rfl ?_, oE 6 [] hf rfl ?_, oW 7 [6, 4] hf rfl ?_, oE 8 [5] hf rfl ?_, trivial⟩
  all_goals intro vs W hS hp hx KO hKO
  all_goals simp only [Act.put, sA, sZ, sS] at hKO
  ·have fc0 := hS.2.2.1.cell0; have fc1 := hS.2.2.1.cell1; have fc2 := hS.2.2.1.cell2; go_simp; exact hKO _ W (.refl W) rfl
  ·go_simp; exact hKO _ W (.refl W) rfl
  ·have e0 := isOf hp.1; have e1 := isOf hp.2.1; simp only [e0, e1] at hKO; go_simp
   refine (Try.dyadNear (hS.2.1) s1 (by omega) K (by omega)).mono ?_
   rintro e W1 ⟨v, rfl, hv, hE⟩
   rw [HNr.out] at hv
   exact hKO _ W1 hE ⟨_, rfl, hv⟩
  ·have q2 := hp.1
   obtain ⟨u, ev, hu⟩ := q2
   replace ev : vs 2 = _ := ev; simp only [ev] at hKO; go_simp; exact hKO _ W (Ext.refl W) ⟨u, rfl, hu⟩
  ·have q3 := hp.1
   obtain ⟨u, ev, hu⟩ := q3
   replace ev : vs 3 = _ := ev; simp only [ev] at hKO; go_simp; exact hKO _ W (Ext.refl W) hu
  ·have q3 := hp.1
   obtain ⟨u, ev, hu⟩ := q3
   replace ev : vs 3 = _ := ev; simp only [ev] at hKO; go_simp; exact hKO _ W (.refl W) rfl
  ·have hn := Bx2.new W 25 (.bool false) (.slice none 0 0)
   have hE := Ext.alloc1 W (.cells #[.bool false, .slice none 0 0] 25)
   have hsz := hS.2.2.2.2.2.2.2
   go_simp
   exact hKO _ _ hE ⟨_, rfl, hsz, hn.form⟩
  ·have q6 := hp.1; have q4 := hp.2.1
   obtain ⟨g, ev, hg, hf⟩ := q6
   replace ev : vs 6 = _ := ev
   obtain ⟨x0_0, x0_1, hx, hno⟩ := hf.bx2
   have qr := q4
   obtain ⟨b3, a3, n3, c3, er, -, -⟩ := qr
   replace er : vs 4 = _ := er
   have r0 := hx.froz0
   have t0 := hx.cell0
   have r1 := hx.froz1
   have t1 := hx.cell1
   have hw := Wr.set2 hx hno b3 a3 n3 c3
   have hq := hx.set (.bool b3) (.slice a3 n3 c3)
   simp only [ev, er] at hKO; go_simp
   exact hKO _ _ hw ⟨(Ext.wr hS.1 hw (by omega)), (hS.2.1.wr hw), (hS.2.2.1.wr hw (by omega)), (hS.2.2.2.1.wr hw), (hS.2.2.2.2.1.wr hw (by omega)), (hS.2.2.2.2.2.1.wr hw), (hS.2.2.2.2.2.2.1.wr hw (by omega)), (Nat.le_trans hS.2.2.2.2.2.2.2 hw.apart.size)⟩ ⟨g, b3, a3, n3, c3, ev, er, hg, hq⟩
  ·have e5 := isOf hp.1; simp only [e5] at hKO; go_simp; exact hKO _ W (.refl W) rfl
 intro vs W49 hS hp
 clear szw49 E0 hx1 p2 h47_4 p47_7 h48_4 p48_7
 obtain ⟨E0, hx1, p2, h47_4, p47_7, h48_4, p48_7, sz49⟩ := hS
 obtain ⟨h49_0, h49_1, h49_2, h49_3, h49_4, h49_5, h49_6, h49_7, h49_8, -⟩ := hp
 obtain ⟨g49_7, b49_7, a49_7, n49_7, c49_7, ev49_7, er49_7, hg49_7, p49_7⟩ := h49_7
 replace ev49_7 : vs 6 = _ := ev49_7; replace er49_7 : vs 4 = _ := er49_7; replace h49_4 := (show Zw W49 (vs 4) M from h49_4)
 rw [er49_7] at h49_4
 replace h49_0 : vs 0 = .agg #[.bool b1, .slice a1 n1 c1, .slice d1 m1 o1] := h49_0
 replace h49_1 : vs 1 = .int .i64 (K : Int) := h49_1
 replace h49_5 : vs 5 = .int .i64 0 := h49_5
 replace h49_8 : vs 8 = .int .i64 0 := h49_8
 simp only [ev49_7, er49_7, h49_0, h49_1, h49_5, h49_8]
 clear ev49_7 er49_7 h49_0 h49_1 h49_5 h49_8 h49_2 h49_3 h49_6
 obtain ⟨kp2_0, kp2_1, kp2_2⟩ := p2.c3
 obtain ⟨kp47_7_0, kp47_7_1⟩ := p47_7.c2
 obtain ⟨kp48_7_0, kp48_7_1⟩ := p48_7.c2
 obtain ⟨kp49_7_0, kp49_7_1⟩ := p49_7.c2
 go_upto_region 8 with (fail)
 clear kp2_0 kp2_1 kp2_2 kp47_7_0 kp47_7_1 kp48_7_0 kp48_7_1 kp49_7_0 kp49_7_1; have ltp49_7 := p49_7.lt; have szw50 := Ext.size E0
 refine region_gs [.one fun v _ => v = .agg #[.bool b47_7, .slice a47_7 n47_7 c47_7],
   .one fun v _ => v = .int .i64 (K : Int),
   .one fun v W => ∃ v', v = .tuple #[v', .int .i64 0] ∧ (fun v W => Rw W v X) v' W,
   .one fun v W => ∃ v', v = .tuple #[v', .int .i64 0] ∧ (fun v W => Rw W v X) v' W,
   .one fun v W => Rw W v X,
   .one fun v _ => v = .int .i64 0,
   .one fun v W => ∃ g, v = .pointer (some ⟨g, 0, none⟩) ∧ W49.heap.size ≤ g ∧ Form W g 27 3,
   .three 6 4 (fun p r _ W => Put3 W49.heap.size 27 p r W),
   .one fun v _ => v = .int .i64 0]
  (fun W => Ext w W ∧ Rw W (.agg #[.bool b1, .slice a1 n1 c1, .slice d1 m1 o1]) x ∧ Bx3 W w.heap.size 27 (.bool b1) (.slice a1 n1 c1) (.slice d1 m1 o1) ∧ Zw W (.agg #[.bool b47_7, .slice a47_7 n47_7 c47_7]) F ∧ Bx2 W g47_7 25 (.bool b47_7) (.slice a47_7 n47_7 c47_7) ∧ Zw W (.agg #[.bool b48_7, .slice a48_7 n48_7 c48_7]) C ∧ Bx2 W g48_7 25 (.bool b48_7) (.slice a48_7 n48_7 c48_7) ∧ Zw W (.agg #[.bool b49_7, .slice a49_7 n49_7 c49_7]) M ∧ Bx2 W g49_7 25 (.bool b49_7) (.slice a49_7 n49_7 c49_7) ∧ W49.heap.size ≤ W.heap.size) ⟨Good.is _, Good.is _, (Good.rat _).tup _, (Good.rat _).tup _, Good.rat _, Good.is _, Good.box _ _ _, cert_put3, Good.is _, trivial⟩
  ⟨E0, hx1, p2, h47_4, p47_7, h48_4, p48_7, h49_4, p49_7, Nat.le_refl _⟩ (A := ?A50) ?hA50 ?howe50 ?hfin50
 case hA50 =>
  intro vs
  simp only [putAll, Act.put, sA, sZ, sS, Nat.zero_add, Nat.reduceAdd]
  exact rfl
 case howe50 =>
  clear E0 hx1 p2 h47_4 p47_7 h48_4 p48_7 h49_4 p49_7
  intro hf
  refine ⟨oE 0 [] hf rfl ?_, oE 1 [] hf rfl ?_, oE 2 [0, 1] hf rfl ?_, oE 3 [2] hf rfl ?_, oE 4 [3] hf rfl ?_, oE 5 [3] hf rfl ?_, oE 6 [] hf rfl ?_, oW 7 [6, 4] hf rfl ?_, oE 8 [5] hf rfl ?_, trivial⟩
  all_goals intro vs W hS hp hx KO hKO
  all_goals simp only [Act.put, sA, sZ, sS] at hKO
  ·have fc0 := hS.2.2.2.2.1.cell0; have fc1 := hS.2.2.2.2.1.cell1; go_simp; exact hKO _ W (.refl W) rfl
  ·go_simp; exact hKO _ W (.refl W) rfl
  ·have e0 := isOf hp.1; have e1 := isOf hp.2.1; simp only [e0, e1] at hKO; go_simp
   refine (Try.refBack (hS.2.2.2.1) SF.out (by omega) K (by omega)).mono ?_
   rintro e W1 ⟨v, rfl, hv, hE⟩
   rw [HX.out] at hv
   exact hKO _ W1 hE ⟨_, rfl, hv⟩
  ·have q2 := hp.1
   obtain ⟨u, ev, hu⟩ := q2
   replace ev : vs 2 = _ := ev; simp only [ev] at hKO; go_simp; exact hKO _ W (Ext.refl W) ⟨u, rfl, hu⟩
  ·have q3 := hp.1
   obtain ⟨u, ev, hu⟩ := q3
   replace ev : vs 3 = _ := ev; simp only [ev] at hKO; go_simp; exact hKO _ W (Ext.refl W) hu
  ·have q3 := hp.1
   obtain ⟨u, ev, hu⟩ := q3
   replace ev : vs 3 = _ := ev; simp only [ev] at hKO; go_simp; exact hKO _ W (.refl W) rfl
  ·have hn := Bx3.new W 27 (.bool false) (.slice none 0 0) (.slice none 0 0)
   have hE := Ext.alloc1 W (.cells #[.bool false, .slice none 0 0, .slice none 0 0] 27)
   have hsz := hS.2.2.2.2.2.2.2.2.2
   go_simp
   exact hKO _ _ hE ⟨_, rfl, hsz, hn.form⟩
  ·have q6 := hp.1; have q4 := hp.2.1
   obtain ⟨g, ev, hg, hf⟩ := q6
   replace ev : vs 6 = _ := ev
   obtain ⟨x0_0, x0_1, x0_2, hx, hno⟩ := hf.bx3
   have qr := q4
   obtain ⟨b3, a3, n3, c3, d3, m3, o3, er, -, -, -⟩ := qr
   replace er : vs 4 = _ := er
   have r0 := hx.froz0
   have t0 := hx.cell0
   have r1 := hx.froz1
   have t1 := hx.cell1
   have r2 := hx.froz2
   have t2 := hx.cell2
   have hw := Wr.set3 hx hno b3 a3 n3 c3 d3 m3 o3
   have hq := hx.set (.bool b3) (.slice a3 n3 c3) (.slice d3 m3 o3)
   simp only [ev, er] at hKO; go_simp
   exact hKO _ _ hw ⟨(Ext.wr hS.1 hw (by omega)), (hS.2.1.wr hw), (hS.2.2.1.wr hw (by omega)), (hS.2.2.2.1.wr hw), (hS.2.2.2.2.1.wr hw (by omega)), (hS.2.2.2.2.2.1.wr hw), (hS.2.2.2.2.2.2.1.wr hw (by omega)), (hS.2.2.2.2.2.2.2.1.wr hw), (hS.2.2.2.2.2.2.2.2.1.wr hw (by omega)), (Nat.le_trans hS.2.2.2.2.2.2.2.2.2 hw.apart.size)⟩ ⟨g, b3, a3, n3, c3, d3, m3, o3, ev, er, hg, hq⟩
  ·have e5 := isOf hp.1; simp only [e5] at hKO; go_simp; exact hKO _ W (.refl W) rfl
 intro vs W50 hS hp
 clear szw50 E0 hx1 p2 h47_4 p47_7 h48_4 p48_7 h49_4 p49_7
 obtain ⟨E0, hx1, p2, h47_4, p47_7, h48_4, p48_7, h49_4, p49_7, sz50⟩ := hS
 obtain ⟨h50_0, h50_1, h50_2, h50_3, h50_4, h50_5, h50_6, h50_7, h50_8, -⟩ := hp
 obtain ⟨g50_7, b50_7, a50_7, n50_7, c50_7, d50_7, m50_7, o50_7, ev50_7, er50_7, hg50_7, p50_7⟩ := h50_7
 replace ev50_7 : vs 6 = _ := ev50_7; replace er50_7 : vs 4 = _ := er50_7; replace h50_4 := (show Rw W50 (vs 4) X from h50_4)
 rw [er50_7] at h50_4
 replace h50_0 : vs 0 = .agg #[.bool b47_7, .slice a47_7 n47_7 c47_7] := h50_0
 replace h50_1 : vs 1 = .int .i64 (K : Int) := h50_1
 replace h50_5 : vs 5 = .int .i64 0 := h50_5
 replace h50_8 : vs 8 = .int .i64 0 := h50_8
 simp only [ev50_7, er50_7, h50_0, h50_1, h50_5, h50_8]
 clear ev50_7 er50_7 h50_0 h50_1 h50_5 h50_8 h50_2 h50_3 h50_6
 obtain ⟨kp2_0, kp2_1, kp2_2⟩ := p2.c3
 obtain ⟨kp47_7_0, kp47_7_1⟩ := p47_7.c2
 obtain ⟨kp48_7_0, kp48_7_1⟩ := p48_7.c2
 obtain ⟨kp49_7_0, kp49_7_1⟩ := p49_7.c2
 obtain ⟨kp50_7_0, kp50_7_1, kp50_7_2⟩ := p50_7.c3
 go_upto_region 9 with (fail)
 clear kp2_0 kp2_1 kp2_2 kp47_7_0 kp47_7_1 kp48_7_0 kp48_7_1 kp49_7_0 kp49_7_1 kp50_7_0 kp50_7_1 kp50_7_2; have ltp50_7 := p50_7.lt; have szw51 := Ext.size E0
 refine region_gs [.one fun v _ => v = .agg #[.bool b48_7, .slice a48_7 n48_7 c48_7],
   .one fun v _ => v = .int .i64 (K : Int),
   .one fun v W => ∃ v', v = .tuple #[v', .int .i64 0] ∧ (fun v W => Rw W v Y) v' W,
   .one fun v W => ∃ v', v = .tuple #[v', .int .i64 0] ∧ (fun v W => Rw W v Y) v' W,
   .one fun v W => Rw W v Y,
   .one fun v _ => v = .int .i64 0,
   .one fun v W => ∃ g, v = .pointer (some ⟨g, 0, none⟩) ∧ W50.heap.size ≤ g ∧ Form W g 27 3,
   .three 6 4 (fun p r _ W => Put3 W50.heap.size 27 p r W),
   .one fun v _ => v = .int .i64 0]
  (fun W => Ext w W ∧ Rw W (.agg #[.bool b1, .slice a1 n1 c1, .slice d1 m1 o1]) x ∧ Bx3 W w.heap.size 27 (.bool b1) (.slice a1 n1 c1) (.slice d1 m1 o1) ∧ Zw W (.agg #[.bool b47_7, .slice a47_7 n47_7 c47_7]) F ∧ Bx2 W g47_7 25 (.bool b47_7) (.slice a47_7 n47_7 c47_7) ∧ Zw W (.agg #[.bool b48_7, .slice a48_7 n48_7 c48_7]) C ∧ Bx2 W g48_7 25 (.bool b48_7) (.slice a48_7 n48_7 c48_7) ∧ Zw W (.agg #[.bool b49_7, .slice a49_7 n49_7 c49_7]) M ∧ Bx2 W g49_7 25 (.bool b49_7) (.slice a49_7 n49_7 c49_7) ∧ Rw W (.agg #[.bool b50_7, .slice a50_7 n50_7 c50_7, .slice d50_7 m50_7 o50_7]) X ∧ Bx3 W g50_7 27 (.bool b50_7) (.slice a50_7 n50_7 c50_7) (.slice d50_7 m50_7 o50_7) ∧ W50.heap.size ≤ W.heap.size) ⟨Good.is _, Good.is _, (Good.rat _).tup _, (Good.rat _).tup _, Good.rat _, Good.is _, Good.box _ _ _, cert_put3, Good.is _, trivial⟩
  ⟨E0, hx1, p2, h47_4, p47_7, h48_4, p48_7, h49_4, p49_7, h50_4, p50_7, Nat.le_refl _⟩ (A := ?A51) ?hA51 ?howe51 ?hfin51
 case hA51 =>
  intro vs
  simp only [putAll, Act.put, sA, sZ, sS, Nat.zero_add, Nat.reduceAdd]
  exact rfl
 case howe51 =>
  clear E0 hx1 p2 h47_4 p47_7 h48_4 p48_7 h49_4 p49_7 h50_4 p50_7
  intro hf
  refine ⟨oE 0 [] hf rfl ?_, oE 1 [] hf rfl ?_, oE 2 [0, 1] hf rfl ?_, oE 3 [2] hf rfl ?_, oE 4 [3] hf rfl ?_, oE 5 [3] hf rfl ?_, oE 6 [] hf rfl ?_, oW 7 [6, 4] hf rfl ?_, oE 8 [5] hf rfl ?_, trivial⟩
  all_goals intro vs W hS hp hx KO hKO
  all_goals simp only [Act.put, sA, sZ, sS] at hKO
  ·have fc0 := hS.2.2.2.2.2.2.1.cell0; have fc1 := hS.2.2.2.2.2.2.1.cell1; go_simp; exact hKO _ W (.refl W) rfl
  ·go_simp; exact hKO _ W (.refl W) rfl
  ·have e0 := isOf hp.1; have e1 := isOf hp.2.1; simp only [e0, e1] at hKO; go_simp
   refine (Try.refBack (hS.2.2.2.2.2.1) SC.out (by omega) K (by omega)).mono ?_
   rintro e W1 ⟨v, rfl, hv, hE⟩
   rw [HY.out] at hv
   exact hKO _ W1 hE ⟨_, rfl, hv⟩
  ·have q2 := hp.1
   obtain ⟨u, ev, hu⟩ := q2
   replace ev : vs 2 = _ := ev; simp only [ev] at hKO; go_simp; exact hKO _ W (Ext.refl W) ⟨u, rfl, hu⟩
  ·have q3 := hp.1
   obtain ⟨u, ev, hu⟩ := q3
   replace ev : vs 3 = _ := ev; simp only [ev] at hKO; go_simp; exact hKO _ W (Ext.refl W) hu
  ·have q3 := hp.1
   obtain ⟨u, ev, hu⟩ := q3
   replace ev : vs 3 = _ := ev; simp only [ev] at hKO; go_simp; exact hKO _ W (.refl W) rfl
  ·have hn := Bx3.new W 27 (.bool false) (.slice none 0 0) (.slice none 0 0)
   have hE := Ext.alloc1 W (.cells #[.bool false, .slice none 0 0, .slice none 0 0] 27)
   have hsz := hS.2.2.2.2.2.2.2.2.2.2.2
   go_simp
   exact hKO _ _ hE ⟨_, rfl, hsz, hn.form⟩
  ·have q6 := hp.1; have q4 := hp.2.1
   obtain ⟨g, ev, hg, hf⟩ := q6
   replace ev : vs 6 = _ := ev
   obtain ⟨x0_0, x0_1, x0_2, hx, hno⟩ := hf.bx3
   have qr := q4
   obtain ⟨b3, a3, n3, c3, d3, m3, o3, er, -, -, -⟩ := qr
   replace er : vs 4 = _ := er
   have r0 := hx.froz0
   have t0 := hx.cell0
   have r1 := hx.froz1
   have t1 := hx.cell1
   have r2 := hx.froz2
   have t2 := hx.cell2
   have hw := Wr.set3 hx hno b3 a3 n3 c3 d3 m3 o3
   have hq := hx.set (.bool b3) (.slice a3 n3 c3) (.slice d3 m3 o3)
   simp only [ev, er] at hKO; go_simp
   exact hKO _ _ hw ⟨(Ext.wr hS.1 hw (by omega)), (hS.2.1.wr hw), (hS.2.2.1.wr hw (by omega)), (hS.2.2.2.1.wr hw), (hS.2.2.2.2.1.wr hw (by omega)), (hS.2.2.2.2.2.1.wr hw), (hS.2.2.2.2.2.2.1.wr hw (by omega)), (hS.2.2.2.2.2.2.2.1.wr hw), (hS.2.2.2.2.2.2.2.2.1.wr hw (by omega)), (hS.2.2.2.2.2.2.2.2.2.1.wr hw), (hS.2.2.2.2.2.2.2.2.2.2.1.wr hw (by omega)), (Nat.le_trans hS.2.2.2.2.2.2.2.2.2.2.2 hw.apart.size)⟩ ⟨g, b3, a3, n3, c3, d3, m3, o3, ev, er, hg, hq⟩
  ·have e5 := isOf hp.1; simp only [e5] at hKO; go_simp; exact hKO _ W (.refl W) rfl
 intro vs W51 hS hp
 clear szw51 E0 hx1 p2 h47_4 p47_7 h48_4 p48_7 h49_4 p49_7 h50_4 p50_7
 obtain ⟨E0, hx1, p2, h47_4, p47_7, h48_4, p48_7, h49_4, p49_7, h50_4, p50_7, sz51⟩ := hS
 obtain ⟨h51_0, h51_1, h51_2, h51_3, h51_4, h51_5, h51_6, h51_7, h51_8, -⟩ := hp
 obtain ⟨g51_7, b51_7, a51_7, n51_7, c51_7, d51_7, m51_7, o51_7, ev51_7, er51_7, hg51_7, p51_7⟩ := h51_7
 replace ev51_7 : vs 6 = _ := ev51_7; replace er51_7 : vs 4 = _ := er51_7; replace h51_4 := (show Rw W51 (vs 4) Y from h51_4)
 rw [er51_7] at h51_4
 replace h51_0 : vs 0 = .agg #[.bool b48_7, .slice a48_7 n48_7 c48_7] := h51_0
 replace h51_1 : vs 1 = .int .i64 (K : Int) := h51_1
 replace h51_5 : vs 5 = .int .i64 0 := h51_5
 replace h51_8 : vs 8 = .int .i64 0 := h51_8
 simp only [ev51_7, er51_7, h51_0, h51_1, h51_5, h51_8]
 clear ev51_7 er51_7 h51_0 h51_1 h51_5 h51_8 h51_2 h51_3 h51_6
 obtain ⟨kp2_0, kp2_1, kp2_2⟩ := p2.c3
 obtain ⟨kp47_7_0, kp47_7_1⟩ := p47_7.c2
 obtain ⟨kp48_7_0, kp48_7_1⟩ := p48_7.c2
 obtain ⟨kp49_7_0, kp49_7_1⟩ := p49_7.c2
 obtain ⟨kp50_7_0, kp50_7_1, kp50_7_2⟩ := p50_7.c3
 obtain ⟨kp51_7_0, kp51_7_1, kp51_7_2⟩ := p51_7.c3
 go_upto_region 10 with (fail)
 clear kp2_0 kp2_1 kp2_2 kp47_7_0 kp47_7_1 kp48_7_0 kp48_7_1 kp49_7_0 kp49_7_1 kp50_7_0 kp50_7_1 kp50_7_2 kp51_7_0 kp51_7_1 kp51_7_2; have ltp51_7 := p51_7.lt; have szw52 := Ext.size E0
 refine region_gs [.one fun v _ => v = .agg #[.bool b49_7, .slice a49_7 n49_7 c49_7],
   .one fun v _ => v = .int .i64 (K : Int),
   .one fun v W => ∃ v', v = .tuple #[v', .int .i64 0] ∧ (fun v W => Rw W v Z) v' W,
   .one fun v W => ∃ v', v = .tuple #[v', .int .i64 0] ∧ (fun v W => Rw W v Z) v' W,
   .one fun v W => Rw W v Z,
   .one fun v _ => v = .int .i64 0,
   .one fun v W => ∃ g, v = .pointer (some ⟨g, 0, none⟩) ∧ W51.heap.size ≤ g ∧ Form W g 27 3,
   .three 6 4 (fun p r _ W => Put3 W51.heap.size 27 p r W),
   .one fun v _ => v = .int .i64 0]
  (fun W => Ext w W ∧ Rw W (.agg #[.bool b1, .slice a1 n1 c1, .slice d1 m1 o1]) x ∧ Bx3 W w.heap.size 27 (.bool b1) (.slice a1 n1 c1) (.slice d1 m1 o1) ∧ Zw W (.agg #[.bool b47_7, .slice a47_7 n47_7 c47_7]) F ∧ Bx2 W g47_7 25 (.bool b47_7) (.slice a47_7 n47_7 c47_7) ∧ Zw W (.agg #[.bool b48_7, .slice a48_7 n48_7 c48_7]) C ∧ Bx2 W g48_7 25 (.bool b48_7) (.slice a48_7 n48_7 c48_7) ∧ Zw W (.agg #[.bool b49_7, .slice a49_7 n49_7 c49_7]) M ∧ Bx2 W g49_7 25 (.bool b49_7) (.slice a49_7 n49_7 c49_7) ∧ Rw W (.agg #[.bool b50_7, .slice a50_7 n50_7 c50_7, .slice d50_7 m50_7 o50_7]) X ∧ Bx3 W g50_7 27 (.bool b50_7) (.slice a50_7 n50_7 c50_7) (.slice d50_7 m50_7 o50_7) ∧ Rw W (.agg #[.bool b51_7, .slice a51_7 n51_7 c51_7, .slice d51_7 m51_7 o51_7]) Y ∧ Bx3 W g51_7 27 (.bool b51_7) (.slice a51_7 n51_7 c51_7) (.slice d51_7 m51_7 o51_7) ∧ W51.heap.size ≤ W.heap.size) ⟨Good.is _, Good.is _, (Good.rat _).tup _, (Good.rat _).tup _, Good.rat _, Good.is _, Good.box _ _ _, cert_put3, Good.is _, trivial⟩
  ⟨E0, hx1, p2, h47_4, p47_7, h48_4, p48_7, h49_4, p49_7, h50_4, p50_7, h51_4, p51_7, Nat.le_refl _⟩ (A := ?A52) ?hA52 ?howe52 ?hfin52
 case hA52 =>
  intro vs
  simp only [putAll, Act.put, sA, sZ, sS, Nat.zero_add, Nat.reduceAdd]
  exact rfl
 case howe52 =>
  clear E0 hx1 p2 h47_4 p47_7 h48_4 p48_7 h49_4 p49_7 h50_4 p50_7 h51_4 p51_7
  intro hf
  refine ⟨oE 0 [] hf rfl ?_, oE 1 [] hf rfl ?_, oE 2 [0, 1] hf rfl ?_, oE 3 [2] hf rfl ?_, oE 4 [3] hf rfl ?_, oE 5 [3] hf rfl ?_, oE 6 [] hf rfl ?_, oW 7 [6, 4] hf rfl ?_, oE 8 [5] hf rfl ?_, trivial⟩
  all_goals intro vs W hS hp hx KO hKO
  all_goals simp only [Act.put, sA, sZ, sS] at hKO
  ·have fc0 := hS.2.2.2.2.2.2.2.2.1.cell0; have fc1 := hS.2.2.2.2.2.2.2.2.1.cell1; go_simp; exact hKO _ W (.refl W) rfl
  ·go_simp; exact hKO _ W (.refl W) rfl
  ·have e0 := isOf hp.1; have e1 := isOf hp.2.1; simp only [e0, e1] at hKO; go_simp
   refine (Try.refBack (hS.2.2.2.2.2.2.2.1) SM.out (by omega) K (by omega)).mono ?_
   rintro e W1 ⟨v, rfl, hv, hE⟩
   rw [HZ.out] at hv
   exact hKO _ W1 hE ⟨_, rfl, hv⟩
  ·have q2 := hp.1
   obtain ⟨u, ev, hu⟩ := q2
   replace ev : vs 2 = _ := ev; simp only [ev] at hKO; go_simp; exact hKO _ W (Ext.refl W) ⟨u, rfl, hu⟩
  ·have q3 := hp.1
   obtain ⟨u, ev, hu⟩ := q3
   replace ev : vs 3 = _ := ev; simp only [ev] at hKO; go_simp; exact hKO _ W (Ext.refl W) hu
  ·have q3 := hp.1
   obtain ⟨u, ev, hu⟩ := q3
   replace ev : vs 3 = _ := ev; simp only [ev] at hKO; go_simp; exact hKO _ W (.refl W) rfl
  ·have hn := Bx3.new W 27 (.bool false) (.slice none 0 0) (.slice none 0 0)
   have hE := Ext.alloc1 W (.cells #[.bool false, .slice none 0 0, .slice none 0 0] 27)
   have hsz := hS.2.2.2.2.2.2.2.2.2.2.2.2.2
   go_simp
   exact hKO _ _ hE ⟨_, rfl, hsz, hn.form⟩
  ·have q6 := hp.1; have q4 := hp.2.1
   obtain ⟨g, ev, hg, hf⟩ := q6
   replace ev : vs 6 = _ := ev
   obtain ⟨x0_0, x0_1, x0_2, hx, hno⟩ := hf.bx3
   have qr := q4
   obtain ⟨b3, a3, n3, c3, d3, m3, o3, er, -, -, -⟩ := qr
   replace er : vs 4 = _ := er
   have r0 := hx.froz0
   have t0 := hx.cell0
   have r1 := hx.froz1
   have t1 := hx.cell1
   have r2 := hx.froz2
   have t2 := hx.cell2
   have hw := Wr.set3 hx hno b3 a3 n3 c3 d3 m3 o3
   have hq := hx.set (.bool b3) (.slice a3 n3 c3) (.slice d3 m3 o3)
   simp only [ev, er] at hKO; go_simp
   exact hKO _ _ hw ⟨(Ext.wr hS.1 hw (by omega)), (hS.2.1.wr hw), (hS.2.2.1.wr hw (by omega)), (hS.2.2.2.1.wr hw), (hS.2.2.2.2.1.wr hw (by omega)), (hS.2.2.2.2.2.1.wr hw), (hS.2.2.2.2.2.2.1.wr hw (by omega)), (hS.2.2.2.2.2.2.2.1.wr hw), (hS.2.2.2.2.2.2.2.2.1.wr hw (by omega)), (hS.2.2.2.2.2.2.2.2.2.1.wr hw), (hS.2.2.2.2.2.2.2.2.2.2.1.wr hw (by omega)), (hS.2.2.2.2.2.2.2.2.2.2.2.1.wr hw), (hS.2.2.2.2.2.2.2.2.2.2.2.2.1.wr hw (by omega)), (Nat.le_trans hS.2.2.2.2.2.2.2.2.2.2.2.2.2 hw.apart.size)⟩ ⟨g, b3, a3, n3, c3, d3, m3, o3, ev, er, hg, hq⟩
  ·have e5 := isOf hp.1; simp only [e5] at hKO; go_simp; exact hKO _ W (.refl W) rfl
 intro vs W52 hS hp
 clear szw52 E0 hx1 p2 h47_4 p47_7 h48_4 p48_7 h49_4 p49_7 h50_4 p50_7 h51_4 p51_7
 obtain ⟨E0, hx1, p2, h47_4, p47_7, h48_4, p48_7, h49_4, p49_7, h50_4, p50_7, h51_4, p51_7, sz52⟩ := hS
 obtain ⟨h52_0, h52_1, h52_2, h52_3, h52_4, h52_5, h52_6, h52_7, h52_8, -⟩ := hp
 obtain ⟨g52_7, b52_7, a52_7, n52_7, c52_7, d52_7, m52_7, o52_7, ev52_7, er52_7, hg52_7, p52_7⟩ := h52_7
 replace ev52_7 : vs 6 = _ := ev52_7; replace er52_7 : vs 4 = _ := er52_7; replace h52_4 := (show Rw W52 (vs 4) Z from h52_4)
 rw [er52_7] at h52_4
 replace h52_0 : vs 0 = .agg #[.bool b49_7, .slice a49_7 n49_7 c49_7] := h52_0
 replace h52_1 : vs 1 = .int .i64 (K : Int) := h52_1
 replace h52_5 : vs 5 = .int .i64 0 := h52_5
 replace h52_8 : vs 8 = .int .i64 0 := h52_8
 simp only [ev52_7, er52_7, h52_0, h52_1, h52_5, h52_8]
 clear ev52_7 er52_7 h52_0 h52_1 h52_5 h52_8 h52_2 h52_3 h52_6
 obtain ⟨kp2_0, kp2_1, kp2_2⟩ := p2.c3
 obtain ⟨kp47_7_0, kp47_7_1⟩ := p47_7.c2
 obtain ⟨kp48_7_0, kp48_7_1⟩ := p48_7.c2
 obtain ⟨kp49_7_0, kp49_7_1⟩ := p49_7.c2
 obtain ⟨kp50_7_0, kp50_7_1, kp50_7_2⟩ := p50_7.c3
 obtain ⟨kp51_7_0, kp51_7_1, kp51_7_2⟩ := p51_7.c3
 obtain ⟨kp52_7_0, kp52_7_1, kp52_7_2⟩ := p52_7.c3
 go_upto_region 11 with (fail)
 clear kp2_0 kp2_1 kp2_2 kp47_7_0 kp47_7_1 kp48_7_0 kp48_7_1 kp49_7_0 kp49_7_1 kp50_7_0 kp50_7_1 kp50_7_2 kp51_7_0 kp51_7_1 kp51_7_2 kp52_7_0 kp52_7_1 kp52_7_2; have ltp52_7 := p52_7.lt; have szw53 := Ext.size E0
 refine region_gs [.one fun v W => Zw W v 1,
   .one fun v _ => v = .int .i64 (K : Int),
   .one fun v W => ∃ v', v = .tuple #[v', .int .i64 0] ∧ (fun v W => Rw W v S) v' W,
   .one fun v W => ∃ v', v = .tuple #[v', .int .i64 0] ∧ (fun v W => Rw W v S) v' W,
   .one fun v W => Rw W v S,
   .one fun v _ => v = .int .i64 0,
   .one fun v W => ∃ g, v = .pointer (some ⟨g, 0, none⟩) ∧ W52.heap.size ≤ g ∧ Form W g 27 3,
   .three 6 4 (fun p r _ W => Put3 W52.heap.size 27 p r W),
   .one fun v _ => v = .int .i64 0]
  (fun W => Ext w W ∧ Rw W (.agg #[.bool b1, .slice a1 n1 c1, .slice d1 m1 o1]) x ∧ Bx3 W w.heap.size 27 (.bool b1) (.slice a1 n1 c1) (.slice d1 m1 o1) ∧ Zw W (.agg #[.bool b47_7, .slice a47_7 n47_7 c47_7]) F ∧ Bx2 W g47_7 25 (.bool b47_7) (.slice a47_7 n47_7 c47_7) ∧ Zw W (.agg #[.bool b48_7, .slice a48_7 n48_7 c48_7]) C ∧ Bx2 W g48_7 25 (.bool b48_7) (.slice a48_7 n48_7 c48_7) ∧ Zw W (.agg #[.bool b49_7, .slice a49_7 n49_7 c49_7]) M ∧ Bx2 W g49_7 25 (.bool b49_7) (.slice a49_7 n49_7 c49_7) ∧ Rw W (.agg #[.bool b50_7, .slice a50_7 n50_7 c50_7, .slice d50_7 m50_7 o50_7]) X ∧ Bx3 W g50_7 27 (.bool b50_7) (.slice a50_7 n50_7 c50_7) (.slice d50_7 m50_7 o50_7) ∧ Rw W (.agg #[.bool b51_7, .slice a51_7 n51_7 c51_7, .slice d51_7 m51_7 o51_7]) Y ∧ Bx3 W g51_7 27 (.bool b51_7) (.slice a51_7 n51_7 c51_7) (.slice d51_7 m51_7 o51_7) ∧ Rw W (.agg #[.bool b52_7, .slice a52_7 n52_7 c52_7, .slice d52_7 m52_7 o52_7]) Z ∧ Bx3 W g52_7 27 (.bool b52_7) (.slice a52_7 n52_7 c52_7) (.slice d52_7 m52_7 o52_7) ∧ W52.heap.size ≤ W.heap.size) ⟨Good.zed _, Good.is _, (Good.rat _).tup _, (Good.rat _).tup _, Good.rat _, Good.is _, Good.box _ _ _, cert_put3, Good.is _, trivial⟩
  ⟨E0, hx1, p2, h47_4, p47_7, h48_4, p48_7, h49_4, p49_7, h50_4, p50_7, h51_4, p51_7, h52_4, p52_7, Nat.le_refl _⟩ (A := ?A53) ?hA53 ?howe53 ?hfin53
 case hA53 =>
  intro vs
  simp only [putAll, Act.put, sA, sZ, sS, Nat.zero_add, Nat.reduceAdd]
  exact rfl
 case howe53 =>
  clear E0 hx1 p2 h47_4 p47_7 h48_4 p48_7 h49_4 p49_7 h50_4 p50_7 h51_4 p51_7 h52_4 p52_7
  intro hf
  refine ⟨oE 0 [] hf rfl ?_, oE 1 [] hf rfl ?_, oE 2 [0, 1] hf rfl ?_, oE 3 [2] hf rfl ?_, oE 4 [3] hf rfl ?_, oE 5 [3] hf rfl ?_, oE 6 [] hf rfl ?_, oW 7 [6, 4] hf rfl ?_, oE 8 [5] hf rfl ?_, trivial⟩
  all_goals intro vs W hS hp hx KO hKO
  all_goals simp only [Act.put, sA, sZ, sS] at hKO
  ·go_simp
   refine (Try.refZOf 1 _ (by omega) (by omega)).mono ?_
   rintro e W1 ⟨v, rfl, hv, hE⟩
   exact hKO _ W1 hE hv
  ·go_simp; exact hKO _ W (.refl W) rfl
  ·have q0 := hp.1; have e1 := isOf hp.2.1; simp only [e1] at hKO; go_simp
   refine (Try.refBack q0 S1.out (by omega) K (by omega)).mono ?_
   rintro e W1 ⟨v, rfl, hv, hE⟩
   rw [HSt.out] at hv
   exact hKO _ W1 hE ⟨_, rfl, hv⟩
  ·have q2 := hp.1
   obtain ⟨u, ev, hu⟩ := q2
   replace ev : vs 2 = _ := ev; simp only [ev] at hKO; go_simp; exact hKO _ W (Ext.refl W) ⟨u, rfl, hu⟩
  ·have q3 := hp.1
   obtain ⟨u, ev, hu⟩ := q3
   replace ev : vs 3 = _ := ev; simp only [ev] at hKO; go_simp; exact hKO _ W (Ext.refl W) hu
  ·have q3 := hp.1
   obtain ⟨u, ev, hu⟩ := q3
   replace ev : vs 3 = _ := ev; simp only [ev] at hKO; go_simp; exact hKO _ W (.refl W) rfl
  ·have hn := Bx3.new W 27 (.bool false) (.slice none 0 0) (.slice none 0 0)
   have hE := Ext.alloc1 W (.cells #[.bool false, .slice none 0 0, .slice none 0 0] 27)
   have hsz := hS.2.2.2.2.2.2.2.2.2.2.2.2.2.2.2
   go_simp
   exact hKO _ _ hE ⟨_, rfl, hsz, hn.form⟩
  ·have q6 := hp.1; have q4 := hp.2.1
   obtain ⟨g, ev, hg, hf⟩ := q6
   replace ev : vs 6 = _ := ev
   obtain ⟨x0_0, x0_1, x0_2, hx, hno⟩ := hf.bx3
   have qr := q4
   obtain ⟨b3, a3, n3, c3, d3, m3, o3, er, -, -, -⟩ := qr
   replace er : vs 4 = _ := er
   have r0 := hx.froz0
   have t0 := hx.cell0
   have r1 := hx.froz1
   have t1 := hx.cell1
   have r2 := hx.froz2
   have t2 := hx.cell2
   have hw := Wr.set3 hx hno b3 a3 n3 c3 d3 m3 o3
   have hq := hx.set (.bool b3) (.slice a3 n3 c3) (.slice d3 m3 o3)
   simp only [ev, er] at hKO; go_simp
   exact hKO _ _ hw ⟨(Ext.wr hS.1 hw (by omega)), (hS.2.1.wr hw), (hS.2.2.1.wr hw (by omega)), (hS.2.2.2.1.wr hw), (hS.2.2.2.2.1.wr hw (by omega)), (hS.2.2.2.2.2.1.wr hw), (hS.2.2.2.2.2.2.1.wr hw (by omega)), (hS.2.2.2.2.2.2.2.1.wr hw), (hS.2.2.2.2.2.2.2.2.1.wr hw (by omega)), (hS.2.2.2.2.2.2.2.2.2.1.wr hw), (hS.2.2.2.2.2.2.2.2.2.2.1.wr hw (by omega)), (hS.2.2.2.2.2.2.2.2.2.2.2.1.wr hw), (hS.2.2.2.2.2.2.2.2.2.2.2.2.1.wr hw (by omega)), (hS.2.2.2.2.2.2.2.2.2.2.2.2.2.1.wr hw), (hS.2.2.2.2.2.2.2.2.2.2.2.2.2.2.1.wr hw (by omega)), (Nat.le_trans hS.2.2.2.2.2.2.2.2.2.2.2.2.2.2.2 hw.apart.size)⟩ ⟨g, b3, a3, n3, c3, d3, m3, o3, ev, er, hg, hq⟩
  ·have e5 := isOf hp.1; simp only [e5] at hKO; go_simp; exact hKO _ W (.refl W) rfl
 intro vs W53 hS hp
 clear szw53 E0 hx1 p2 h47_4 p47_7 h48_4 p48_7 h49_4 p49_7 h50_4 p50_7 h51_4 p51_7 h52_4 p52_7
 obtain ⟨E0, hx1, p2, h47_4, p47_7, h48_4, p48_7, h49_4, p49_7, h50_4, p50_7, h51_4, p51_7, h52_4, p52_7, sz53⟩ := hS
 obtain ⟨h53_0, h53_1, h53_2, h53_3, h53_4, h53_5, h53_6, h53_7, h53_8, -⟩ := hp
 obtain ⟨g53_7, b53_7, a53_7, n53_7, c53_7, d53_7, m53_7, o53_7, ev53_7, er53_7, hg53_7, p53_7⟩ := h53_7
 replace ev53_7 : vs 6 = _ := ev53_7; replace er53_7 : vs 4 = _ := er53_7; replace h53_4 := (show Rw W53 (vs 4) S from h53_4)
 rw [er53_7] at h53_4
 replace h53_1 : vs 1 = .int .i64 (K : Int) := h53_1
 replace h53_5 : vs 5 = .int .i64 0 := h53_5
 replace h53_8 : vs 8 = .int .i64 0 := h53_8
 simp only [ev53_7, er53_7, h53_1, h53_5, h53_8]
 replace h53_0 : Zw W53 (vs 0) 1 := h53_0
 generalize vs 0 = u53_0 at h53_0 ⊢
 clear ev53_7 er53_7 h53_1 h53_5 h53_8 h53_2 h53_3 h53_6
 obtain ⟨kp2_0, kp2_1, kp2_2⟩ := p2.c3
 obtain ⟨kp47_7_0, kp47_7_1⟩ := p47_7.c2
 obtain ⟨kp48_7_0, kp48_7_1⟩ := p48_7.c2
 obtain ⟨kp49_7_0, kp49_7_1⟩ := p49_7.c2
 obtain ⟨kp50_7_0, kp50_7_1, kp50_7_2⟩ := p50_7.c3
 obtain ⟨kp51_7_0, kp51_7_1, kp51_7_2⟩ := p51_7.c3
 obtain ⟨kp52_7_0, kp52_7_1, kp52_7_2⟩ := p52_7.c3
 obtain ⟨kp53_7_0, kp53_7_1, kp53_7_2⟩ := p53_7.c3
 go_upto_region 12 with (fail)
 clear kp2_0 kp2_1 kp2_2 kp47_7_0 kp47_7_1 kp48_7_0 kp48_7_1 kp49_7_0 kp49_7_1 kp50_7_0 kp50_7_1 kp50_7_2 kp51_7_0 kp51_7_1 kp51_7_2 kp52_7_0 kp52_7_1 kp52_7_2 kp53_7_0 kp53_7_1 kp53_7_2; have ltp53_7 := p53_7.lt; have szw54 := Ext.size E0
 refine region_gs [.one fun v _ => v = .agg #[.bool b50_7, .slice a50_7 n50_7 c50_7, .slice d50_7 m50_7 o50_7],
   .one fun v _ => v = .agg #[.bool b1, .slice a1 n1 c1, .slice d1 m1 o1],
   .one fun v _ => v = .bool false,
   .one fun v _ => v = .bool false]
  (fun W => Ext w W ∧ Rw W (.agg #[.bool b1, .slice a1 n1 c1, .slice d1 m1 o1]) x ∧ Bx3 W w.heap.size 27 (.bool b1) (.slice a1 n1 c1) (.slice d1 m1 o1) ∧ Zw W (.agg #[.bool b47_7, .slice a47_7 n47_7 c47_7]) F ∧ Bx2 W g47_7 25 (.bool b47_7) (.slice a47_7 n47_7 c47_7) ∧ Zw W (.agg #[.bool b48_7, .slice a48_7 n48_7 c48_7]) C ∧ Bx2 W g48_7 25 (.bool b48_7) (.slice a48_7 n48_7 c48_7) ∧ Zw W (.agg #[.bool b49_7, .slice a49_7 n49_7 c49_7]) M ∧ Bx2 W g49_7 25 (.bool b49_7) (.slice a49_7 n49_7 c49_7) ∧ Rw W (.agg #[.bool b50_7, .slice a50_7 n50_7 c50_7, .slice d50_7 m50_7 o50_7]) X ∧ Bx3 W g50_7 27 (.bool b50_7) (.slice a50_7 n50_7 c50_7) (.slice d50_7 m50_7 o50_7) ∧ Rw W (.agg #[.bool b51_7, .slice a51_7 n51_7 c51_7, .slice d51_7 m51_7 o51_7]) Y ∧ Bx3 W g51_7 27 (.bool b51_7) (.slice a51_7 n51_7 c51_7) (.slice d51_7 m51_7 o51_7) ∧ Rw W (.agg #[.bool b52_7, .slice a52_7 n52_7 c52_7, .slice d52_7 m52_7 o52_7]) Z ∧ Bx3 W g52_7 27 (.bool b52_7) (.slice a52_7 n52_7 c52_7) (.slice d52_7 m52_7 o52_7) ∧ Rw W (.agg #[.bool b53_7, .slice a53_7 n53_7 c53_7, .slice d53_7 m53_7 o53_7]) S ∧ Bx3 W g53_7 27 (.bool b53_7) (.slice a53_7 n53_7 c53_7) (.slice d53_7 m53_7 o53_7) ∧ Zw W u53_0 1 ∧ W53.heap.size ≤ W.heap.size) ⟨Good.is _, Good.is _, Good.is _, Good.is _, trivial⟩
  ⟨E0, hx1, p2, h47_4, p47_7, h48_4, p48_7, h49_4, p49_7, h50_4, p50_7, h51_4, p51_7, h52_4, p52_7, h53_4, p53_7, h53_0, Nat.le_refl _⟩ (A := ?A54) ?hA54 ?howe54 ?hfin54
 case hA54 =>
  intro vs
  simp only [putAll, Act.put, sA, sZ, sS, Nat.zero_add, Nat.reduceAdd]
  exact rfl
 case howe54 =>
  clear E0 hx1 p2 h47_4 p47_7 h48_4 p48_7 h49_4 p49_7 h50_4 p50_7 h51_4 p51_7 h52_4 p52_7 h53_4 p53_7 h53_0
  intro hf
  refine ⟨oE 0 [] hf rfl ?_, oE 1 [] hf rfl ?_, oE 2 [0, 1] hf rfl ?_, oE 3 [2] hf rfl ?_, trivial⟩
  all_goals intro vs W hS hp hx KO hKO
  all_goals simp only [Act.put, sA, sZ, sS] at hKO
  ·have fc0 := hS.2.2.2.2.2.2.2.2.2.2.1.cell0; have fc1 := hS.2.2.2.2.2.2.2.2.2.2.1.cell1; have fc2 := hS.2.2.2.2.2.2.2.2.2.2.1.cell2; go_simp; exact hKO _ W (.refl W) rfl
  ·have fc0 := hS.2.2.1.cell0; have fc1 := hS.2.2.1.cell1; have fc2 := hS.2.2.1.cell2; go_simp; exact hKO _ W (.refl W) rfl
  ·have e0 := isOf hp.1; have e1 := isOf hp.2.1; simp only [e0, e1] at hKO; go_simp
   refine (Try.refRSameF6 (hS.2.2.2.2.2.2.2.2.2.1) (hS.2.1) HON.out).mono ?_
   rintro e W1 ⟨rfl, hE⟩
   exact hKO _ W1 hE rfl
  ·have e2 := isOf hp.1; simp only [e2] at hKO; go_simp; exact hKO _ W (.refl W) rfl
 intro vs W54 hS hp
 clear szw54 E0 hx1 p2 h47_4 p47_7 h48_4 p48_7 h49_4 p49_7 h50_4 p50_7 h51_4 p51_7 h52_4 p52_7 h53_4 p53_7 h53_0
 obtain ⟨E0, hx1, p2, h47_4, p47_7, h48_4, p48_7, h49_4, p49_7, h50_4, p50_7, h51_4, p51_7, h52_4, p52_7, h53_4, p53_7, h53_0, sz54⟩ := hS
 obtain ⟨h54_0, h54_1, h54_2, h54_3, -⟩ := hp
 replace h54_0 : vs 0 = .agg #[.bool b50_7, .slice a50_7 n50_7 c50_7, .slice d50_7 m50_7 o50_7] := h54_0
 replace h54_1 : vs 1 = .agg #[.bool b1, .slice a1 n1 c1, .slice d1 m1 o1] := h54_1
 replace h54_2 : vs 2 = .bool false := h54_2
 replace h54_3 : vs 3 = .bool false := h54_3
 simp only [h54_0, h54_1, h54_2, h54_3]
 clear h54_0 h54_1 h54_2 h54_3
 obtain ⟨kp2_0, kp2_1, kp2_2⟩ := p2.c3
 obtain ⟨kp47_7_0, kp47_7_1⟩ := p47_7.c2
 obtain ⟨kp48_7_0, kp48_7_1⟩ := p48_7.c2
 obtain ⟨kp49_7_0, kp49_7_1⟩ := p49_7.c2
 obtain ⟨kp50_7_0, kp50_7_1, kp50_7_2⟩ := p50_7.c3
 obtain ⟨kp51_7_0, kp51_7_1, kp51_7_2⟩ := p51_7.c3
 obtain ⟨kp52_7_0, kp52_7_1, kp52_7_2⟩ := p52_7.c3
 obtain ⟨kp53_7_0, kp53_7_1, kp53_7_2⟩ := p53_7.c3
 go_upto_region 13 with (fail)
 clear kp2_0 kp2_1 kp2_2 kp47_7_0 kp47_7_1 kp48_7_0 kp48_7_1 kp49_7_0 kp49_7_1 kp50_7_0 kp50_7_1 kp50_7_2 kp51_7_0 kp51_7_1 kp51_7_2 kp52_7_0 kp52_7_1 kp52_7_2 kp53_7_0 kp53_7_1 kp53_7_2; have szw55 := Ext.size E0
 refine region_gs [.one fun v _ => v = .agg #[.bool b50_7, .slice a50_7 n50_7 c50_7, .slice d50_7 m50_7 o50_7],
   .one fun v _ => v = .agg #[.bool b1, .slice a1 n1 c1, .slice d1 m1 o1],
   .one fun v _ => v = .int .i64 e1,
   .one fun v _ => v = .bool false,
   .one fun v _ => v = .bool false,
   .one fun v _ => v = .agg #[.bool b1, .slice a1 n1 c1, .slice d1 m1 o1],
   .one fun v _ => v = .agg #[.bool b51_7, .slice a51_7 n51_7 c51_7, .slice d51_7 m51_7 o51_7],
   .one fun v _ => v = .int .i64 e2,
   .one fun v _ => v = .bool false,
   .one fun v _ => v = .bool false,
   .one fun v _ => v = .bool false,
   .one fun v _ => v = .bool false,
   .one fun v _ => v = .agg #[.bool b51_7, .slice a51_7 n51_7 c51_7, .slice d51_7 m51_7 o51_7],
   .one fun v _ => v = .agg #[.bool b1, .slice a1 n1 c1, .slice d1 m1 o1],
   .one fun v _ => v = .bool false,
   .one fun v _ => v = .bool false,
   .one fun v _ => v = .bool false,
   .one fun v _ => v = .bool false,
   .one fun v _ => v = .bool false,
   .one fun v _ => v = .bool true,
   .one fun v _ => v = .bool true,
   .one fun v _ => v = .agg #[.bool b51_7, .slice a51_7 n51_7 c51_7, .slice d51_7 m51_7 o51_7],
   .one fun v _ => v = .agg #[.bool b50_7, .slice a50_7 n50_7 c50_7, .slice d50_7 m50_7 o50_7],
   .one fun v W => Rw W v S,
   .one fun v _ => v = .agg #[.bool b53_7, .slice a53_7 n53_7 c53_7, .slice d53_7 m53_7 o53_7],
   .one fun v _ => v = .bool true,
   .one fun v _ => v = .bool false,
   .one fun v _ => v = .bool false,
   .one fun v _ => v = .bool false]
  (fun W => Ext w W ∧ Rw W (.agg #[.bool b1, .slice a1 n1 c1, .slice d1 m1 o1]) x ∧ Bx3 W w.heap.size 27 (.bool b1) (.slice a1 n1 c1) (.slice d1 m1 o1) ∧ Zw W (.agg #[.bool b47_7, .slice a47_7 n47_7 c47_7]) F ∧ Bx2 W g47_7 25 (.bool b47_7) (.slice a47_7 n47_7 c47_7) ∧ Zw W (.agg #[.bool b48_7, .slice a48_7 n48_7 c48_7]) C ∧ Bx2 W g48_7 25 (.bool b48_7) (.slice a48_7 n48_7 c48_7) ∧ Zw W (.agg #[.bool b49_7, .slice a49_7 n49_7 c49_7]) M ∧ Bx2 W g49_7 25 (.bool b49_7) (.slice a49_7 n49_7 c49_7) ∧ Rw W (.agg #[.bool b50_7, .slice a50_7 n50_7 c50_7, .slice d50_7 m50_7 o50_7]) X ∧ Bx3 W g50_7 27 (.bool b50_7) (.slice a50_7 n50_7 c50_7) (.slice d50_7 m50_7 o50_7) ∧ Rw W (.agg #[.bool b51_7, .slice a51_7 n51_7 c51_7, .slice d51_7 m51_7 o51_7]) Y ∧ Bx3 W g51_7 27 (.bool b51_7) (.slice a51_7 n51_7 c51_7) (.slice d51_7 m51_7 o51_7) ∧ Rw W (.agg #[.bool b52_7, .slice a52_7 n52_7 c52_7, .slice d52_7 m52_7 o52_7]) Z ∧ Bx3 W g52_7 27 (.bool b52_7) (.slice a52_7 n52_7 c52_7) (.slice d52_7 m52_7 o52_7) ∧ Rw W (.agg #[.bool b53_7, .slice a53_7 n53_7 c53_7, .slice d53_7 m53_7 o53_7]) S ∧ Bx3 W g53_7 27 (.bool b53_7) (.slice a53_7 n53_7 c53_7) (.slice d53_7 m53_7 o53_7) ∧ Zw W u53_0 1 ∧ W54.heap.size ≤ W.heap.size) ⟨Good.is _, Good.is _, Good.is _, Good.is _, Good.is _, Good.is _, Good.is _, Good.is _, Good.is _, Good.is _, Good.is _, Good.is _, Good.is _, Good.is _, Good.is _, Good.is _, Good.is _, Good.is _, Good.is _, Good.is _, Good.is _, Good.is _, Good.is _, Good.rat _, Good.is _, Good.is _, Good.is _, Good.is _, Good.is _, trivial⟩
  ⟨E0, hx1, p2, h47_4, p47_7, h48_4, p48_7, h49_4, p49_7, h50_4, p50_7, h51_4, p51_7, h52_4, p52_7, h53_4, p53_7, h53_0, Nat.le_refl _⟩ (A := ?A55) ?hA55 ?howe55 ?hfin55
 case hA55 =>
  intro vs
  simp only [putAll, Act.put, sA, sZ, sS, Nat.zero_add, Nat.reduceAdd]
  exact rfl
 case howe55 =>
  clear E0 hx1 p2 h47_4 p47_7 h48_4 p48_7 h49_4 p49_7 h50_4 p50_7 h51_4 p51_7 h52_4 p52_7 h53_4 p53_7 h53_0
  intro hf
  refine ⟨oE 0 [] hf rfl ?_, oE 1 [] hf rfl ?_, oE 2 [0, 1] hf rfl ?_, oE 3 [2] hf rfl ?_, oE 4 [3] hf rfl ?_, oE 5 [4] hf rfl ?_, oE 6 [4] hf rfl ?_, oE 7 [4, 5, 6] hf rfl ?_, oE 8 [4, 7] hf rfl ?_, oE 9 [4, 8] hf rfl ?_, oE 10 [9] hf rfl ?_, oE 11 [10] hf rfl ?_, oE 12 [10] hf rfl ?_, oE 13 [10] hf rfl ?_, oE 14 [10, 12, 13] hf rfl ?_, oE 15 [10, 11, 14] hf rfl ?_, oE 16 [10, 15] hf rfl ?_, oE 17 [16] hf rfl ?_, oE 18 [17] hf rfl ?_, oE 19 [17, 18] hf rfl ?_, oE 20 [17, 19] hf rfl ?_, oE 21 [20] hf rfl ?_, oE 22 [20] hf rfl ?_, oE 23 [20, 21, 22] hf rfl ?_, oE 24 [20] hf rfl ?_, oE 25 [20, 23, 24] hf rfl ?_, oE 26 [20, 25] hf rfl ?_, oE 27 [17, 20, 26] hf rfl ?_, oE 28 [17, 27] hf rfl ?_, trivial⟩
  all_goals intro vs W hS hp hx KO hKO
  all_goals simp only [Act.put, sA, sZ, sS] at hKO
  ·have fc0 := hS.2.2.2.2.2.2.2.2.2.2.1.cell0; have fc1 := hS.2.2.2.2.2.2.2.2.2.2.1.cell1; have fc2 := hS.2.2.2.2.2.2.2.2.2.2.1.cell2; go_simp; exact hKO _ W (.refl W) rfl
  ·have fc0 := hS.2.2.1.cell0; have fc1 := hS.2.2.1.cell1; have fc2 := hS.2.2.1.cell2; go_simp; exact hKO _ W (.refl W) rfl
  ·have e0 := isOf hp.1; have e1 := isOf hp.2.1; simp only [e0, e1] at hKO; go_simp
   refine (Try.refRCmpR (hS.2.2.2.2.2.2.2.2.2.1) (hS.2.1) SX.out Sx.out (by omega) HC1.out).mono ?_
   rintro e W1 ⟨rfl, hE⟩
   exact hKO _ W1 hE rfl
  ·have e2 := isOf hp.1; simp only [e2] at hKO; go_simp; exact hKO _ W (.refl W) rfl
  ·have e3 := isOf hp.1; simp only [e3] at hKO; go_simp; exact hKO _ W (.refl W) rfl
  ·have e4 := isOf hp.1; simp only [e4] at hKO; have fc0 := hS.2.2.1.cell0; have fc1 := hS.2.2.1.cell1; have fc2 := hS.2.2.1.cell2; go_simp; exact hKO _ W (.refl W) rfl
  ·have e4 := isOf hp.1; simp only [e4] at hKO; have fc0 := hS.2.2.2.2.2.2.2.2.2.2.2.2.1.cell0; have fc1 := hS.2.2.2.2.2.2.2.2.2.2.2.2.1.cell1; have fc2 := hS.2.2.2.2.2.2.2.2.2.2.2.2.1.cell2; go_simp; exact hKO _ W (.refl W) rfl
  ·have e4 := isOf hp.1; have e5 := isOf hp.2.1; have e6 := isOf hp.2.2.1; simp only [e4, e5, e6] at hKO; go_simp
   refine (Try.refRCmpR (hS.2.1) (hS.2.2.2.2.2.2.2.2.2.2.2.1) Sx.out SY.out (by omega) HC2.out).mono ?_
   rintro e W1 ⟨rfl, hE⟩
   exact hKO _ W1 hE rfl
  ·have e4 := isOf hp.1; have e7 := isOf hp.2.1; simp only [e4, e7] at hKO; go_simp; exact hKO _ W (.refl W) rfl
  ·have e4 := isOf hp.1; have e8 := isOf hp.2.1; simp only [e4, e8] at hKO; go_simp; exact hKO _ W (.refl W) rfl
  ·have e9 := isOf hp.1; simp only [e9] at hKO; go_simp; exact hKO _ W (.refl W) rfl
  ·have e10 := isOf hp.1; simp only [e10] at hKO; go_simp; exact hKO _ W (.refl W) rfl
  ·have e10 := isOf hp.1; simp only [e10] at hKO; have fc0 := hS.2.2.2.2.2.2.2.2.2.2.2.2.1.cell0; have fc1 := hS.2.2.2.2.2.2.2.2.2.2.2.2.1.cell1; have fc2 := hS.2.2.2.2.2.2.2.2.2.2.2.2.1.cell2; go_simp; exact hKO _ W (.refl W) rfl
  ·have e10 := isOf hp.1; simp only [e10] at hKO; have fc0 := hS.2.2.1.cell0; have fc1 := hS.2.2.1.cell1; have fc2 := hS.2.2.1.cell2; go_simp; exact hKO _ W (.refl W) rfl
  ·have e10 := isOf hp.1; have e12 := isOf hp.2.1; have e13 := isOf hp.2.2.1; simp only [e10, e12, e13] at hKO; go_simp
   refine (Try.refRSameF6 (hS.2.2.2.2.2.2.2.2.2.2.2.1) (hS.2.1) HON2.out).mono ?_
   rintro e W1 ⟨rfl, hE⟩
   exact hKO _ W1 hE rfl
  ·have e10 := isOf hp.1; have e11 := isOf hp.2.1; have e14 := isOf hp.2.2.1; simp only [e10, e11, e14] at hKO; go_simp; exact hKO _ W (.refl W) rfl
  ·have e10 := isOf hp.1; have e15 := isOf hp.2.1; simp only [e10, e15] at hKO; go_simp; exact hKO _ W (.refl W) rfl
  ·have e16 := isOf hp.1; simp only [e16] at hKO; go_simp; exact hKO _ W (.refl W) rfl
  ·have e17 := isOf hp.1; simp only [e17] at hKO; go_simp; exact hKO _ W (.refl W) rfl
  ·have e17 := isOf hp.1; have e18 := isOf hp.2.1; simp only [e17, e18] at hKO; go_simp; exact hKO _ W (.refl W) rfl
  ·have e17 := isOf hp.1; have e19 := isOf hp.2.1; simp only [e17, e19] at hKO; go_simp; exact hKO _ W (.refl W) rfl
  ·have e20 := isOf hp.1; simp only [e20] at hKO; have fc0 := hS.2.2.2.2.2.2.2.2.2.2.2.2.1.cell0; have fc1 := hS.2.2.2.2.2.2.2.2.2.2.2.2.1.cell1; have fc2 := hS.2.2.2.2.2.2.2.2.2.2.2.2.1.cell2; go_simp; exact hKO _ W (.refl W) rfl
  ·have e20 := isOf hp.1; simp only [e20] at hKO; have fc0 := hS.2.2.2.2.2.2.2.2.2.2.1.cell0; have fc1 := hS.2.2.2.2.2.2.2.2.2.2.1.cell1; have fc2 := hS.2.2.2.2.2.2.2.2.2.2.1.cell2; go_simp; exact hKO _ W (.refl W) rfl
  ·have e20 := isOf hp.1; have e21 := isOf hp.2.1; have e22 := isOf hp.2.2.1; simp only [e20, e21, e22] at hKO; go_simp
   refine (Try.refRSub (hS.2.2.2.2.2.2.2.2.2.2.2.1) (hS.2.2.2.2.2.2.2.2.2.1) SY.out SX.out (by omega)).mono ?_
   rintro e W1 ⟨v, rfl, hv, hE⟩
   rw [HSd.out] at hv
   exact hKO _ W1 hE hv
  ·have e20 := isOf hp.1; simp only [e20] at hKO; have fc0 := hS.2.2.2.2.2.2.2.2.2.2.2.2.2.2.2.2.1.cell0; have fc1 := hS.2.2.2.2.2.2.2.2.2.2.2.2.2.2.2.2.1.cell1; have fc2 := hS.2.2.2.2.2.2.2.2.2.2.2.2.2.2.2.2.1.cell2; go_simp; exact hKO _ W (.refl W) rfl
  ·have e20 := isOf hp.1; have q23 := hp.2.1; have e24 := isOf hp.2.2.1; simp only [e20, e24] at hKO; go_simp
   refine (Try.refRSameD q23 (hS.2.2.2.2.2.2.2.2.2.2.2.2.2.2.2.1) rfl).mono ?_
   rintro e W1 ⟨rfl, hE⟩
   exact hKO _ W1 hE rfl
  ·have e20 := isOf hp.1; have e25 := isOf hp.2.1; simp only [e20, e25] at hKO; go_simp; exact hKO _ W (.refl W) rfl
  ·have e17 := isOf hp.1; have e20 := isOf hp.2.1; have e26 := isOf hp.2.2.1; simp only [e17, e20, e26] at hKO; go_simp; exact hKO _ W (.refl W) rfl
  ·have e17 := isOf hp.1; have e27 := isOf hp.2.1; simp only [e17, e27] at hKO; go_simp; exact hKO _ W (.refl W) rfl
 intro vs W55 hS hp
 clear szw55 E0 hx1 p2 h47_4 p47_7 h48_4 p48_7 h49_4 p49_7 h50_4 p50_7 h51_4 p51_7 h52_4 p52_7 h53_4 p53_7 h53_0
 obtain ⟨E0, hx1, p2, h47_4, p47_7, h48_4, p48_7, h49_4, p49_7, h50_4, p50_7, h51_4, p51_7, h52_4, p52_7, h53_4, p53_7, h53_0, sz55⟩ := hS
 obtain ⟨h55_0, h55_1, h55_2, h55_3, h55_4, h55_5, h55_6, h55_7, h55_8, h55_9, h55_10, h55_11, h55_12, h55_13, h55_14, h55_15, h55_16, h55_17, h55_18, h55_19, h55_20, h55_21, h55_22, h55_23, h55_24, h55_25, h55_26, h55_27, h55_28, -⟩ := hp
 replace h55_0 : vs 0 = .agg #[.bool b50_7, .slice a50_7 n50_7 c50_7, .slice d50_7 m50_7 o50_7] := h55_0
 replace h55_1 : vs 1 = .agg #[.bool b1, .slice a1 n1 c1, .slice d1 m1 o1] := h55_1
 replace h55_2 : vs 2 = .int .i64 e1 := h55_2
 replace h55_3 : vs 3 = .bool false := h55_3
 replace h55_4 : vs 4 = .bool false := h55_4
 replace h55_5 : vs 5 = .agg #[.bool b1, .slice a1 n1 c1, .slice d1 m1 o1] := h55_5
 replace h55_6 : vs 6 = .agg #[.bool b51_7, .slice a51_7 n51_7 c51_7, .slice d51_7 m51_7 o51_7] := h55_6
 replace h55_7 : vs 7 = .int .i64 e2 := h55_7
 replace h55_8 : vs 8 = .bool false := h55_8
 replace h55_9 : vs 9 = .bool false := h55_9
 replace h55_10 : vs 10 = .bool false := h55_10
 replace h55_11 : vs 11 = .bool false := h55_11
 replace h55_12 : vs 12 = .agg #[.bool b51_7, .slice a51_7 n51_7 c51_7, .slice d51_7 m51_7 o51_7] := h55_12
 replace h55_13 : vs 13 = .agg #[.bool b1, .slice a1 n1 c1, .slice d1 m1 o1] := h55_13
 replace h55_14 : vs 14 = .bool false := h55_14
 replace h55_15 : vs 15 = .bool false := h55_15
 replace h55_16 : vs 16 = .bool false := h55_16
 replace h55_17 : vs 17 = .bool false := h55_17
 replace h55_18 : vs 18 = .bool false := h55_18
 replace h55_19 : vs 19 = .bool true := h55_19
 replace h55_20 : vs 20 = .bool true := h55_20
 replace h55_21 : vs 21 = .agg #[.bool b51_7, .slice a51_7 n51_7 c51_7, .slice d51_7 m51_7 o51_7] := h55_21
 replace h55_22 : vs 22 = .agg #[.bool b50_7, .slice a50_7 n50_7 c50_7, .slice d50_7 m50_7 o50_7] := h55_22
 replace h55_24 : vs 24 = .agg #[.bool b53_7, .slice a53_7 n53_7 c53_7, .slice d53_7 m53_7 o53_7] := h55_24
 replace h55_25 : vs 25 = .bool true := h55_25
 replace h55_26 : vs 26 = .bool false := h55_26
 replace h55_27 : vs 27 = .bool false := h55_27
 replace h55_28 : vs 28 = .bool false := h55_28
 simp only [h55_0, h55_1, h55_2, h55_3, h55_4, h55_5, h55_6, h55_7, h55_8, h55_9, h55_10, h55_11, h55_12, h55_13, h55_14, h55_15, h55_16, h55_17, h55_18, h55_19, h55_20, h55_21, h55_22, h55_24, h55_25, h55_26, h55_27, h55_28]
 replace h55_23 : Rw W55 (vs 23) S := h55_23
 generalize vs 23 = u55_23 at h55_23 ⊢
 clear h55_0 h55_1 h55_2 h55_3 h55_4 h55_5 h55_6 h55_7 h55_8 h55_9 h55_10 h55_11 h55_12 h55_13 h55_14 h55_15 h55_16 h55_17 h55_18 h55_19 h55_20 h55_21 h55_22 h55_24 h55_25 h55_26 h55_27 h55_28
 obtain ⟨kp2_0, kp2_1, kp2_2⟩ := p2.c3
 obtain ⟨kp47_7_0, kp47_7_1⟩ := p47_7.c2
 obtain ⟨kp48_7_0, kp48_7_1⟩ := p48_7.c2
 obtain ⟨kp49_7_0, kp49_7_1⟩ := p49_7.c2
 obtain ⟨kp50_7_0, kp50_7_1, kp50_7_2⟩ := p50_7.c3
 obtain ⟨kp51_7_0, kp51_7_1, kp51_7_2⟩ := p51_7.c3
 obtain ⟨kp52_7_0, kp52_7_1, kp52_7_2⟩ := p52_7.c3
 obtain ⟨kp53_7_0, kp53_7_1, kp53_7_2⟩ := p53_7.c3
 go_upto_region 15 with (fail)
 clear kp2_0 kp2_1 kp2_2 kp47_7_0 kp47_7_1 kp48_7_0 kp48_7_1 kp49_7_0 kp49_7_1 kp50_7_0 kp50_7_1 kp50_7_2 kp51_7_0 kp51_7_1 kp51_7_2 kp52_7_0 kp52_7_1 kp52_7_2 kp53_7_0 kp53_7_1 kp53_7_2; have szw56 := Ext.size E0
 refine region_gs [.one fun v _ => v = .agg #[.bool b52_7, .slice a52_7 n52_7 c52_7, .slice d52_7 m52_7 o52_7],
   .one fun v _ => v = .agg #[.bool b1, .slice a1 n1 c1, .slice d1 m1 o1],
   .one fun v W => Rw W v (Z - x),
   .one fun v W => Rw W v D,
   .one fun v W => ∃ g, v = .pointer (some ⟨g, 0, none⟩) ∧ W55.heap.size ≤ g ∧ Form W g 27 3,
   .three 4 3 (fun p r _ W => Put3 W55.heap.size 27 p r W)]
  (fun W => Ext w W ∧ Rw W (.agg #[.bool b1, .slice a1 n1 c1, .slice d1 m1 o1]) x ∧ Bx3 W w.heap.size 27 (.bool b1) (.slice a1 n1 c1) (.slice d1 m1 o1) ∧ Zw W (.agg #[.bool b47_7, .slice a47_7 n47_7 c47_7]) F ∧ Bx2 W g47_7 25 (.bool b47_7) (.slice a47_7 n47_7 c47_7) ∧ Zw W (.agg #[.bool b48_7, .slice a48_7 n48_7 c48_7]) C ∧ Bx2 W g48_7 25 (.bool b48_7) (.slice a48_7 n48_7 c48_7) ∧ Zw W (.agg #[.bool b49_7, .slice a49_7 n49_7 c49_7]) M ∧ Bx2 W g49_7 25 (.bool b49_7) (.slice a49_7 n49_7 c49_7) ∧ Rw W (.agg #[.bool b50_7, .slice a50_7 n50_7 c50_7, .slice d50_7 m50_7 o50_7]) X ∧ Bx3 W g50_7 27 (.bool b50_7) (.slice a50_7 n50_7 c50_7) (.slice d50_7 m50_7 o50_7) ∧ Rw W (.agg #[.bool b51_7, .slice a51_7 n51_7 c51_7, .slice d51_7 m51_7 o51_7]) Y ∧ Bx3 W g51_7 27 (.bool b51_7) (.slice a51_7 n51_7 c51_7) (.slice d51_7 m51_7 o51_7) ∧ Rw W (.agg #[.bool b52_7, .slice a52_7 n52_7 c52_7, .slice d52_7 m52_7 o52_7]) Z ∧ Bx3 W g52_7 27 (.bool b52_7) (.slice a52_7 n52_7 c52_7) (.slice d52_7 m52_7 o52_7) ∧ Rw W (.agg #[.bool b53_7, .slice a53_7 n53_7 c53_7, .slice d53_7 m53_7 o53_7]) S ∧ Bx3 W g53_7 27 (.bool b53_7) (.slice a53_7 n53_7 c53_7) (.slice d53_7 m53_7 o53_7) ∧ Zw W u53_0 1 ∧ Rw W u55_23 S ∧ W55.heap.size ≤ W.heap.size) ⟨Good.is _, Good.is _, Good.rat _, Good.rat _, Good.box _ _ _, cert_put3, trivial⟩
  ⟨E0, hx1, p2, h47_4, p47_7, h48_4, p48_7, h49_4, p49_7, h50_4, p50_7, h51_4, p51_7, h52_4, p52_7, h53_4, p53_7, h53_0, h55_23, Nat.le_refl _⟩ (A := ?A56) ?hA56 ?howe56 ?hfin56
 case hA56 =>
  intro vs
  simp only [putAll, Act.put, sA, sZ, sS, Nat.zero_add, Nat.reduceAdd]
  exact rfl
 case howe56 =>
  clear E0 hx1 p2 h47_4 p47_7 h48_4 p48_7 h49_4 p49_7 h50_4 p50_7 h51_4 p51_7 h52_4 p52_7 h53_4 p53_7 h53_0 h55_23
  intro hf
  refine ⟨oE 0 [] hf rfl ?_, oE 1 [] hf rfl ?_, oE 2 [0, 1] hf rfl ?_, oE 3 [2] hf rfl ?_, oE 4 [] hf rfl ?_, oW 5 [4, 3] hf rfl ?_, trivial⟩
  all_goals intro vs W hS hp hx KO hKO
  all_goals simp only [Act.put, sA, sZ, sS] at hKO
  ·have fc0 := hS.2.2.2.2.2.2.2.2.2.2.2.2.2.2.1.cell0; have fc1 := hS.2.2.2.2.2.2.2.2.2.2.2.2.2.2.1.cell1; have fc2 := hS.2.2.2.2.2.2.2.2.2.2.2.2.2.2.1.cell2; go_simp; exact hKO _ W (.refl W) rfl
  ·have fc0 := hS.2.2.1.cell0; have fc1 := hS.2.2.1.cell1; have fc2 := hS.2.2.1.cell2; go_simp; exact hKO _ W (.refl W) rfl
  ·have e0 := isOf hp.1; have e1 := isOf hp.2.1; simp only [e0, e1] at hKO; go_simp
   refine (Try.refRSub (hS.2.2.2.2.2.2.2.2.2.2.2.2.2.1) (hS.2.1) SZ.out Sx.out (by omega)).mono ?_
   rintro e W1 ⟨v, rfl, hv, hE⟩
   exact hKO _ W1 hE hv
  ·have q2 := hp.1; go_simp
   refine (Try.refRAbs q2).mono ?_
   rintro e W1 ⟨v, rfl, hv, hE⟩
   rw [HD.out] at hv
   exact hKO _ W1 hE hv
  ·have hn := Bx3.new W 27 (.bool false) (.slice none 0 0) (.slice none 0 0)
   have hE := Ext.alloc1 W (.cells #[.bool false, .slice none 0 0, .slice none 0 0] 27)
   have hsz := hS.2.2.2.2.2.2.2.2.2.2.2.2.2.2.2.2.2.2.2
   go_simp
   exact hKO _ _ hE ⟨_, rfl, hsz, hn.form⟩
  ·have q4 := hp.1; have q3 := hp.2.1
   obtain ⟨g, ev, hg, hf⟩ := q4
   replace ev : vs 4 = _ := ev
   obtain ⟨x0_0, x0_1, x0_2, hx, hno⟩ := hf.bx3
   have qr := q3
   obtain ⟨b3, a3, n3, c3, d3, m3, o3, er, -, -, -⟩ := qr
   replace er : vs 3 = _ := er
   have r0 := hx.froz0
   have t0 := hx.cell0
   have r1 := hx.froz1
   have t1 := hx.cell1
   have r2 := hx.froz2
   have t2 := hx.cell2
   have hw := Wr.set3 hx hno b3 a3 n3 c3 d3 m3 o3
   have hq := hx.set (.bool b3) (.slice a3 n3 c3) (.slice d3 m3 o3)
   simp only [ev, er] at hKO; go_simp
   exact hKO _ _ hw ⟨(Ext.wr hS.1 hw (by omega)), (hS.2.1.wr hw), (hS.2.2.1.wr hw (by omega)), (hS.2.2.2.1.wr hw), (hS.2.2.2.2.1.wr hw (by omega)), (hS.2.2.2.2.2.1.wr hw), (hS.2.2.2.2.2.2.1.wr hw (by omega)), (hS.2.2.2.2.2.2.2.1.wr hw), (hS.2.2.2.2.2.2.2.2.1.wr hw (by omega)), (hS.2.2.2.2.2.2.2.2.2.1.wr hw), (hS.2.2.2.2.2.2.2.2.2.2.1.wr hw (by omega)), (hS.2.2.2.2.2.2.2.2.2.2.2.1.wr hw), (hS.2.2.2.2.2.2.2.2.2.2.2.2.1.wr hw (by omega)), (hS.2.2.2.2.2.2.2.2.2.2.2.2.2.1.wr hw), (hS.2.2.2.2.2.2.2.2.2.2.2.2.2.2.1.wr hw (by omega)), (hS.2.2.2.2.2.2.2.2.2.2.2.2.2.2.2.1.wr hw), (hS.2.2.2.2.2.2.2.2.2.2.2.2.2.2.2.2.1.wr hw (by omega)), (hS.2.2.2.2.2.2.2.2.2.2.2.2.2.2.2.2.2.1.wr hw), (hS.2.2.2.2.2.2.2.2.2.2.2.2.2.2.2.2.2.2.1.wr hw), (Nat.le_trans hS.2.2.2.2.2.2.2.2.2.2.2.2.2.2.2.2.2.2.2 hw.apart.size)⟩ ⟨g, b3, a3, n3, c3, d3, m3, o3, ev, er, hg, hq⟩
 intro vs W56 hS hp
 clear szw56 E0 hx1 p2 h47_4 p47_7 h48_4 p48_7 h49_4 p49_7 h50_4 p50_7 h51_4 p51_7 h52_4 p52_7 h53_4 p53_7 h53_0 h55_23
 obtain ⟨E0, hx1, p2, h47_4, p47_7, h48_4, p48_7, h49_4, p49_7, h50_4, p50_7, h51_4, p51_7, h52_4, p52_7, h53_4, p53_7, h53_0, h55_23, sz56⟩ := hS
 obtain ⟨h56_0, h56_1, h56_2, h56_3, h56_4, h56_5, -⟩ := hp
 obtain ⟨g56_5, b56_5, a56_5, n56_5, c56_5, d56_5, m56_5, o56_5, ev56_5, er56_5, hg56_5, p56_5⟩ := h56_5
 replace ev56_5 : vs 4 = _ := ev56_5; replace er56_5 : vs 3 = _ := er56_5; replace h56_3 := (show Rw W56 (vs 3) D from h56_3)
 rw [er56_5] at h56_3
 replace h56_0 : vs 0 = .agg #[.bool b52_7, .slice a52_7 n52_7 c52_7, .slice d52_7 m52_7 o52_7] := h56_0
 replace h56_1 : vs 1 = .agg #[.bool b1, .slice a1 n1 c1, .slice d1 m1 o1] := h56_1
 simp only [ev56_5, er56_5, h56_0, h56_1]
 replace h56_2 : Rw W56 (vs 2) (Z - x) := h56_2
 generalize vs 2 = u56_2 at h56_2 ⊢
 clear ev56_5 er56_5 h56_0 h56_1 h56_4
 obtain ⟨kp2_0, kp2_1, kp2_2⟩ := p2.c3
 obtain ⟨kp47_7_0, kp47_7_1⟩ := p47_7.c2
 obtain ⟨kp48_7_0, kp48_7_1⟩ := p48_7.c2
 obtain ⟨kp49_7_0, kp49_7_1⟩ := p49_7.c2
 obtain ⟨kp50_7_0, kp50_7_1, kp50_7_2⟩ := p50_7.c3
 obtain ⟨kp51_7_0, kp51_7_1, kp51_7_2⟩ := p51_7.c3
 obtain ⟨kp52_7_0, kp52_7_1, kp52_7_2⟩ := p52_7.c3
 obtain ⟨kp53_7_0, kp53_7_1, kp53_7_2⟩ := p53_7.c3
 obtain ⟨kp56_5_0, kp56_5_1, kp56_5_2⟩ := p56_5.c3
 go_upto_region 16 with (fail)
 clear kp2_0 kp2_1 kp2_2 kp47_7_0 kp47_7_1 kp48_7_0 kp48_7_1 kp49_7_0 kp49_7_1 kp50_7_0 kp50_7_1 kp50_7_2 kp51_7_0 kp51_7_1 kp51_7_2 kp52_7_0 kp52_7_1 kp52_7_2 kp53_7_0 kp53_7_1 kp53_7_2 kp56_5_0 kp56_5_1 kp56_5_2; have ltp56_5 := p56_5.lt; have szw57 := Ext.size E0
 refine region_gs [.one fun v _ => v = .agg #[.bool b56_5, .slice a56_5 n56_5 c56_5, .slice d56_5 m56_5 o56_5],
   .one fun v _ => v = .agg #[.bool b56_5, .slice a56_5 n56_5 c56_5, .slice d56_5 m56_5 o56_5],
   .one fun v W => Rw W v (D + D),
   .one fun v W => ∃ g, v = .pointer (some ⟨g, 0, none⟩) ∧ W56.heap.size ≤ g ∧ Form W g 27 3,
   .three 3 2 (fun p r _ W => Put3 W56.heap.size 27 p r W)]
  (fun W => Ext w W ∧ Rw W (.agg #[.bool b1, .slice a1 n1 c1, .slice d1 m1 o1]) x ∧ Bx3 W w.heap.size 27 (.bool b1) (.slice a1 n1 c1) (.slice d1 m1 o1) ∧ Zw W (.agg #[.bool b47_7, .slice a47_7 n47_7 c47_7]) F ∧ Bx2 W g47_7 25 (.bool b47_7) (.slice a47_7 n47_7 c47_7) ∧ Zw W (.agg #[.bool b48_7, .slice a48_7 n48_7 c48_7]) C ∧ Bx2 W g48_7 25 (.bool b48_7) (.slice a48_7 n48_7 c48_7) ∧ Zw W (.agg #[.bool b49_7, .slice a49_7 n49_7 c49_7]) M ∧ Bx2 W g49_7 25 (.bool b49_7) (.slice a49_7 n49_7 c49_7) ∧ Rw W (.agg #[.bool b50_7, .slice a50_7 n50_7 c50_7, .slice d50_7 m50_7 o50_7]) X ∧ Bx3 W g50_7 27 (.bool b50_7) (.slice a50_7 n50_7 c50_7) (.slice d50_7 m50_7 o50_7) ∧ Rw W (.agg #[.bool b51_7, .slice a51_7 n51_7 c51_7, .slice d51_7 m51_7 o51_7]) Y ∧ Bx3 W g51_7 27 (.bool b51_7) (.slice a51_7 n51_7 c51_7) (.slice d51_7 m51_7 o51_7) ∧ Rw W (.agg #[.bool b52_7, .slice a52_7 n52_7 c52_7, .slice d52_7 m52_7 o52_7]) Z ∧ Bx3 W g52_7 27 (.bool b52_7) (.slice a52_7 n52_7 c52_7) (.slice d52_7 m52_7 o52_7) ∧ Rw W (.agg #[.bool b53_7, .slice a53_7 n53_7 c53_7, .slice d53_7 m53_7 o53_7]) S ∧ Bx3 W g53_7 27 (.bool b53_7) (.slice a53_7 n53_7 c53_7) (.slice d53_7 m53_7 o53_7) ∧ Zw W u53_0 1 ∧ Rw W u55_23 S ∧ Rw W (.agg #[.bool b56_5, .slice a56_5 n56_5 c56_5, .slice d56_5 m56_5 o56_5]) D ∧ Bx3 W g56_5 27 (.bool b56_5) (.slice a56_5 n56_5 c56_5) (.slice d56_5 m56_5 o56_5) ∧ Rw W u56_2 (Z - x) ∧ W56.heap.size ≤ W.heap.size) ⟨Good.is _, Good.is _, Good.rat _, Good.box _ _ _, cert_put3, trivial⟩
  ⟨E0, hx1, p2, h47_4, p47_7, h48_4, p48_7, h49_4, p49_7, h50_4, p50_7, h51_4, p51_7, h52_4, p52_7, h53_4, p53_7, h53_0, h55_23, h56_3, p56_5, h56_2, Nat.le_refl _⟩ (A := ?A57) ?hA57 ?howe57 ?hfin57
 case hA57 =>
  intro vs
  simp only [putAll, Act.put, sA, sZ, sS, Nat.zero_add, Nat.reduceAdd]
  exact rfl
 case howe57 =>
  clear E0 hx1 p2 h47_4 p47_7 h48_4 p48_7 h49_4 p49_7 h50_4 p50_7 h51_4 p51_7 h52_4 p52_7 h53_4 p53_7 h53_0 h55_23 h56_3 p56_5 h56_2
  intro hf
  refine ⟨oE 0 [] hf rfl ?_, oE 1 [] hf rfl ?_, oE 2 [0, 1] hf rfl ?_, oE 3 [] hf rfl ?_, oW 4 [3, 2] hf rfl ?_, trivial⟩
  all_goals intro vs W hS hp hx KO hKO
  all_goals simp only [Act.put, sA, sZ, sS] at hKO
  ·have fc0 := hS.2.2.2.2.2.2.2.2.2.2.2.2.2.2.2.2.2.2.2.2.1.cell0; have fc1 := hS.2.2.2.2.2.2.2.2.2.2.2.2.2.2.2.2.2.2.2.2.1.cell1; have fc2 := hS.2.2.2.2.2.2.2.2.2.2.2.2.2.2.2.2.2.2.2.2.1.cell2; go_simp; exact hKO _ W (.refl W) rfl
  ·have fc0 := hS.2.2.2.2.2.2.2.2.2.2.2.2.2.2.2.2.2.2.2.2.1.cell0; have fc1 := hS.2.2.2.2.2.2.2.2.2.2.2.2.2.2.2.2.2.2.2.2.1.cell1; have fc2 := hS.2.2.2.2.2.2.2.2.2.2.2.2.2.2.2.2.2.2.2.2.1.cell2; go_simp; exact hKO _ W (.refl W) rfl
  ·have e0 := isOf hp.1; have e1 := isOf hp.2.1; simp only [e0, e1] at hKO; go_simp
   refine (Try.refRAdd (hS.2.2.2.2.2.2.2.2.2.2.2.2.2.2.2.2.2.2.2.1) (hS.2.2.2.2.2.2.2.2.2.2.2.2.2.2.2.2.2.2.2.1) SD.out SD.out (by omega)).mono ?_
   rintro e W1 ⟨v, rfl, hv, hE⟩
   exact hKO _ W1 hE hv
  ·have hn := Bx3.new W 27 (.bool false) (.slice none 0 0) (.slice none 0 0)
   have hE := Ext.alloc1 W (.cells #[.bool false, .slice none 0 0, .slice none 0 0] 27)
   have hsz := hS.2.2.2.2.2.2.2.2.2.2.2.2.2.2.2.2.2.2.2.2.2.2
   go_simp
   exact hKO _ _ hE ⟨_, rfl, hsz, hn.form⟩
  ·have q3 := hp.1; have q2 := hp.2.1
   obtain ⟨g, ev, hg, hf⟩ := q3
   replace ev : vs 3 = _ := ev
   obtain ⟨x0_0, x0_1, x0_2, hx, hno⟩ := hf.bx3
   have qr := q2
   obtain ⟨b3, a3, n3, c3, d3, m3, o3, er, -, -, -⟩ := qr
   replace er : vs 2 = _ := er
   have r0 := hx.froz0
   have t0 := hx.cell0
   have r1 := hx.froz1
   have t1 := hx.cell1
   have r2 := hx.froz2
   have t2 := hx.cell2
   have hw := Wr.set3 hx hno b3 a3 n3 c3 d3 m3 o3
   have hq := hx.set (.bool b3) (.slice a3 n3 c3) (.slice d3 m3 o3)
   simp only [ev, er] at hKO; go_simp
   exact hKO _ _ hw ⟨(Ext.wr hS.1 hw (by omega)), (hS.2.1.wr hw), (hS.2.2.1.wr hw (by omega)), (hS.2.2.2.1.wr hw), (hS.2.2.2.2.1.wr hw (by omega)), (hS.2.2.2.2.2.1.wr hw), (hS.2.2.2.2.2.2.1.wr hw (by omega)), (hS.2.2.2.2.2.2.2.1.wr hw), (hS.2.2.2.2.2.2.2.2.1.wr hw (by omega)), (hS.2.2.2.2.2.2.2.2.2.1.wr hw), (hS.2.2.2.2.2.2.2.2.2.2.1.wr hw (by omega)), (hS.2.2.2.2.2.2.2.2.2.2.2.1.wr hw), (hS.2.2.2.2.2.2.2.2.2.2.2.2.1.wr hw (by omega)), (hS.2.2.2.2.2.2.2.2.2.2.2.2.2.1.wr hw), (hS.2.2.2.2.2.2.2.2.2.2.2.2.2.2.1.wr hw (by omega)), (hS.2.2.2.2.2.2.2.2.2.2.2.2.2.2.2.1.wr hw), (hS.2.2.2.2.2.2.2.2.2.2.2.2.2.2.2.2.1.wr hw (by omega)), (hS.2.2.2.2.2.2.2.2.2.2.2.2.2.2.2.2.2.1.wr hw), (hS.2.2.2.2.2.2.2.2.2.2.2.2.2.2.2.2.2.2.1.wr hw), (hS.2.2.2.2.2.2.2.2.2.2.2.2.2.2.2.2.2.2.2.1.wr hw), (hS.2.2.2.2.2.2.2.2.2.2.2.2.2.2.2.2.2.2.2.2.1.wr hw (by omega)), (hS.2.2.2.2.2.2.2.2.2.2.2.2.2.2.2.2.2.2.2.2.2.1.wr hw), (Nat.le_trans hS.2.2.2.2.2.2.2.2.2.2.2.2.2.2.2.2.2.2.2.2.2.2 hw.apart.size)⟩ ⟨g, b3, a3, n3, c3, d3, m3, o3, ev, er, hg, hq⟩
 intro vs W57 hS hp
 clear szw57 E0 hx1 p2 h47_4 p47_7 h48_4 p48_7 h49_4 p49_7 h50_4 p50_7 h51_4 p51_7 h52_4 p52_7 h53_4 p53_7 h53_0 h55_23 h56_3 p56_5 h56_2
 obtain ⟨E0, hx1, p2, h47_4, p47_7, h48_4, p48_7, h49_4, p49_7, h50_4, p50_7, h51_4, p51_7, h52_4, p52_7, h53_4, p53_7, h53_0, h55_23, h56_3, p56_5, h56_2, sz57⟩ := hS
 obtain ⟨h57_0, h57_1, h57_2, h57_3, h57_4, -⟩ := hp
 obtain ⟨g57_4, b57_4, a57_4, n57_4, c57_4, d57_4, m57_4, o57_4, ev57_4, er57_4, hg57_4, p57_4⟩ := h57_4
 replace ev57_4 : vs 3 = _ := ev57_4; replace er57_4 : vs 2 = _ := er57_4; replace h57_2 := (show Rw W57 (vs 2) (D + D) from h57_2)
 rw [er57_4] at h57_2
 replace h57_0 : vs 0 = .agg #[.bool b56_5, .slice a56_5 n56_5 c56_5, .slice d56_5 m56_5 o56_5] := h57_0
 replace h57_1 : vs 1 = .agg #[.bool b56_5, .slice a56_5 n56_5 c56_5, .slice d56_5 m56_5 o56_5] := h57_1
 simp only [ev57_4, er57_4, h57_0, h57_1]
 clear ev57_4 er57_4 h57_0 h57_1 h57_3
 obtain ⟨kp2_0, kp2_1, kp2_2⟩ := p2.c3
 obtain ⟨kp47_7_0, kp47_7_1⟩ := p47_7.c2
 obtain ⟨kp48_7_0, kp48_7_1⟩ := p48_7.c2
 obtain ⟨kp49_7_0, kp49_7_1⟩ := p49_7.c2
 obtain ⟨kp50_7_0, kp50_7_1, kp50_7_2⟩ := p50_7.c3
 obtain ⟨kp51_7_0, kp51_7_1, kp51_7_2⟩ := p51_7.c3
 obtain ⟨kp52_7_0, kp52_7_1, kp52_7_2⟩ := p52_7.c3
 obtain ⟨kp53_7_0, kp53_7_1, kp53_7_2⟩ := p53_7.c3
 obtain ⟨kp56_5_0, kp56_5_1, kp56_5_2⟩ := p56_5.c3
 obtain ⟨kp57_4_0, kp57_4_1, kp57_4_2⟩ := p57_4.c3
 go_upto_region 17 with (fail)
 clear kp2_0 kp2_1 kp2_2 kp47_7_0 kp47_7_1 kp48_7_0 kp48_7_1 kp49_7_0 kp49_7_1 kp50_7_0 kp50_7_1 kp50_7_2 kp51_7_0 kp51_7_1 kp51_7_2 kp52_7_0 kp52_7_1 kp52_7_2 kp53_7_0 kp53_7_1 kp53_7_2 kp56_5_0 kp56_5_1 kp56_5_2 kp57_4_0 kp57_4_1 kp57_4_2; clear e1le e1led e1gt e1gtd e2le e2led e2gt e2gtd
 have hm := h49_4.num
 obtain ⟨_, _, _, er, hz0, -⟩ := hm.len
 cases er
 by_cases hn0 : 0 < n49_7
 ·obtain ⟨B, o, l, ea, hc, hl, hp⟩ := hm.limb0 hn0
  have hl2 : (l : Int) < 18446744073709551616 := by rw [B64_eq] at hl; omega
  have hn0I : (0 : Int) < (n49_7 : Int) := by omega
  have hnb : ((n49_7 : Int) == 0) = false := beq_eq_false_iff_ne.2 (by omega)
  have hnc : ¬ ((n49_7 : Int) = 0) := by omega
  have hnd : ¬ (n49_7 = 0) := by omega
  subst ea
  by_cases hev2 : l % 2 = 0
  ·have hpr : (((l : Int) % 2) == 0) = true := by simp; omega
   clear hz0 hp hl hev2 hm hn0
   obtain ⟨kp2_0, kp2_1, kp2_2⟩ := p2.c3
   obtain ⟨kp47_7_0, kp47_7_1⟩ := p47_7.c2
   obtain ⟨kp48_7_0, kp48_7_1⟩ := p48_7.c2
   obtain ⟨kp49_7_0, kp49_7_1⟩ := p49_7.c2
   obtain ⟨kp50_7_0, kp50_7_1, kp50_7_2⟩ := p50_7.c3
   obtain ⟨kp51_7_0, kp51_7_1, kp51_7_2⟩ := p51_7.c3
   obtain ⟨kp52_7_0, kp52_7_1, kp52_7_2⟩ := p52_7.c3
   obtain ⟨kp53_7_0, kp53_7_1, kp53_7_2⟩ := p53_7.c3
   obtain ⟨kp56_5_0, kp56_5_1, kp56_5_2⟩ := p56_5.c3
   obtain ⟨kp57_4_0, kp57_4_1, kp57_4_2⟩ := p57_4.c3
   go_upto_region 18 with (fail)
   clear kp2_0 kp2_1 kp2_2 kp47_7_0 kp47_7_1 kp48_7_0 kp48_7_1 kp49_7_0 kp49_7_1 kp50_7_0 kp50_7_1 kp50_7_2 kp51_7_0 kp51_7_1 kp51_7_2 kp52_7_0 kp52_7_1 kp52_7_2 kp53_7_0 kp53_7_1 kp53_7_2 kp56_5_0 kp56_5_1 kp56_5_2 kp57_4_0 kp57_4_1 kp57_4_2
   by_cases htw : D + D = S
   ·have HTW := Lib.hid htw
    clear htw; have ltp57_4 := p57_4.lt; have szw58 := Ext.size E0
    refine region_gs [.one fun v _ => v = .bool true,
      .one fun v _ => v = .bool true,
      .one fun v _ => v = .agg #[.bool b49_7, .slice (some ⟨B, o, none⟩) n49_7 c49_7],
      .one fun v _ => v = .agg #[.bool b47_7, .slice a47_7 n47_7 c47_7],
      .one fun v _ => v = .bool true,
      .one fun v _ => v = .bool true,
      .one fun v _ => v = undef,
      .one fun v _ => v = undef,
      .one fun v _ => v = undef,
      .one fun v _ => v = .bool true,
      .one fun v _ => v = .bool true,
      .one fun v _ => v = .bool true,
      .one fun v _ => v = .agg #[.bool b57_4, .slice a57_4 n57_4 c57_4, .slice d57_4 m57_4 o57_4],
      .one fun v _ => v = .agg #[.bool b53_7, .slice a53_7 n53_7 c53_7, .slice d53_7 m53_7 o53_7],
      .one fun v _ => v = .int .i64 e3,
      .one fun v _ => v = .bool true,
      .one fun v _ => v = .bool true,
      .one fun v _ => v = .bool true,
      .one fun v _ => v = .agg #[.bool b57_4, .slice a57_4 n57_4 c57_4, .slice d57_4 m57_4 o57_4],
      .one fun v _ => v = .agg #[.bool b53_7, .slice a53_7 n53_7 c53_7, .slice d53_7 m53_7 o53_7],
      .one fun v _ => v = .bool true,
      .one fun v _ => v = .bool false,
      .one fun v _ => v = .bool false,
      .one fun v _ => v = .bool true,
      .one fun v _ => v = .bool true,
      .one fun v _ => v = .bool true,
      .one fun v _ => v = .bool true]
     (fun W => Ext w W ∧ Rw W (.agg #[.bool b1, .slice a1 n1 c1, .slice d1 m1 o1]) x ∧ Bx3 W w.heap.size 27 (.bool b1) (.slice a1 n1 c1) (.slice d1 m1 o1) ∧ Zw W (.agg #[.bool b47_7, .slice a47_7 n47_7 c47_7]) F ∧ Bx2 W g47_7 25 (.bool b47_7) (.slice a47_7 n47_7 c47_7) ∧ Zw W (.agg #[.bool b48_7, .slice a48_7 n48_7 c48_7]) C ∧ Bx2 W g48_7 25 (.bool b48_7) (.slice a48_7 n48_7 c48_7) ∧ Zw W (.agg #[.bool b49_7, .slice (some ⟨B, o, none⟩) n49_7 c49_7]) M ∧ Bx2 W g49_7 25 (.bool b49_7) (.slice (some ⟨B, o, none⟩) n49_7 c49_7) ∧ Rw W (.agg #[.bool b50_7, .slice a50_7 n50_7 c50_7, .slice d50_7 m50_7 o50_7]) X ∧ Bx3 W g50_7 27 (.bool b50_7) (.slice a50_7 n50_7 c50_7) (.slice d50_7 m50_7 o50_7) ∧ Rw W (.agg #[.bool b51_7, .slice a51_7 n51_7 c51_7, .slice d51_7 m51_7 o51_7]) Y ∧ Bx3 W g51_7 27 (.bool b51_7) (.slice a51_7 n51_7 c51_7) (.slice d51_7 m51_7 o51_7) ∧ Rw W (.agg #[.bool b52_7, .slice a52_7 n52_7 c52_7, .slice d52_7 m52_7 o52_7]) Z ∧ Bx3 W g52_7 27 (.bool b52_7) (.slice a52_7 n52_7 c52_7) (.slice d52_7 m52_7 o52_7) ∧ Rw W (.agg #[.bool b53_7, .slice a53_7 n53_7 c53_7, .slice d53_7 m53_7 o53_7]) S ∧ Bx3 W g53_7 27 (.bool b53_7) (.slice a53_7 n53_7 c53_7) (.slice d53_7 m53_7 o53_7) ∧ Zw W u53_0 1 ∧ Rw W u55_23 S ∧ Rw W (.agg #[.bool b56_5, .slice a56_5 n56_5 c56_5, .slice d56_5 m56_5 o56_5]) D ∧ Bx3 W g56_5 27 (.bool b56_5) (.slice a56_5 n56_5 c56_5) (.slice d56_5 m56_5 o56_5) ∧ Rw W u56_2 (Z - x) ∧ Rw W (.agg #[.bool b57_4, .slice a57_4 n57_4 c57_4, .slice d57_4 m57_4 o57_4]) (D + D) ∧ Bx3 W g57_4 27 (.bool b57_4) (.slice a57_4 n57_4 c57_4) (.slice d57_4 m57_4 o57_4) ∧ W57.heap.size ≤ W.heap.size) ⟨Good.is _, Good.is _, Good.is _, Good.is _, Good.is _, Good.is _, Good.is _, Good.is _, Good.is _, Good.is _, Good.is _, Good.is _, Good.is _, Good.is _, Good.is _, Good.is _, Good.is _, Good.is _, Good.is _, Good.is _, Good.is _, Good.is _, Good.is _, Good.is _, Good.is _, Good.is _, Good.is _, trivial⟩
     ⟨E0, hx1, p2, h47_4, p47_7, h48_4, p48_7, h49_4, p49_7, h50_4, p50_7, h51_4, p51_7, h52_4, p52_7, h53_4, p53_7, h53_0, h55_23, h56_3, p56_5, h56_2, h57_2, p57_4, Nat.le_refl _⟩ (A := ?A58) ?hA58 ?howe58 ?hfin58
    case hA58 =>
     intro vs
     simp only [putAll, Act.put, sA, sZ, sS, Nat.zero_add, Nat.reduceAdd]
     exact rfl
    case howe58 =>
     clear E0 hx1 p2 h47_4 p47_7 h48_4 p48_7 h49_4 p49_7 h50_4 p50_7 h51_4 p51_7 h52_4 p52_7 h53_4 p53_7 h53_0 h55_23 h56_3 p56_5 h56_2 h57_2 p57_4
     intro hf
     refine ⟨oE 0 [] hf rfl ?_, oE 1 [0] hf rfl ?_, oE 2 [1] hf rfl ?_, oE 3 [1] hf rfl ?_, oE 4 [1, 2, 3] hf rfl ?_, oE 5 [1, 4] hf rfl ?_, oE 6 [5] hf rfl ?_, oE 7 [5] hf rfl ?_, oE 8 [5] hf rfl ?_, oE 9 [1, 5, 8] hf rfl ?_, oE 10 [1, 9] hf rfl ?_, oE 11 [10] hf rfl ?_, oE 12 [11] hf rfl ?_, oE 13 [11] hf rfl ?_, oE 14 [11, 12, 13] hf rfl ?_, oE 15 [11, 14] hf rfl ?_, oE 16 [11, 15] hf rfl ?_, oE 17 [16] hf rfl ?_, oE 18 [17] hf rfl ?_, oE 19 [17] hf rfl ?_, oE 20 [17, 18, 19] hf rfl ?_, oE 21 [17, 20] hf rfl ?_, oE 22 [17, 21] hf rfl ?_, oE 23 [22] hf rfl ?_, oE 24 [17, 22, 23] hf rfl ?_, oE 25 [17, 24] hf rfl ?_, oE 26 [25] hf rfl ?_, trivial⟩
     all_goals intro vs W hS hp hx KO hKO
     all_goals simp only [Act.put, sA, sZ, sS] at hKO
     ·go_simp
      refine (Try.alive06 _).mono ?_
      rintro e W1 ⟨rfl, hE⟩
      exact hKO _ W1 hE rfl
     ·have e0 := isOf hp.1; simp only [e0] at hKO; go_simp; exact hKO _ W (.refl W) rfl
     ·have e1 := isOf hp.1; simp only [e1] at hKO; have fc0 := hS.2.2.2.2.2.2.2.2.1.cell0; have fc1 := hS.2.2.2.2.2.2.2.2.1.cell1; go_simp; exact hKO _ W (.refl W) rfl
     ·have e1 := isOf hp.1; simp only [e1] at hKO; have fc0 := hS.2.2.2.2.1.cell0; have fc1 := hS.2.2.2.2.1.cell1; go_simp; exact hKO _ W (.refl W) rfl
     ·have e1 := isOf hp.1; have e2 := isOf hp.2.1; have e3 := isOf hp.2.2.1; simp only [e1, e2, e3] at hKO; go_simp
      refine (Try.refZSameD (hS.2.2.2.2.2.2.2.1) (hS.2.2.2.1) HMF.out).mono ?_
      rintro e W1 ⟨rfl, hE⟩
      exact hKO _ W1 hE rfl
     ·have e1 := isOf hp.1; have e4 := isOf hp.2.1; simp only [e1, e4] at hKO; go_simp; exact hKO _ W (.refl W) rfl
     ·have e5 := isOf hp.1; simp only [e5] at hKO; go_simp; exact hKO _ W (.refl W) rfl
     ·have e5 := isOf hp.1; simp only [e5] at hKO; go_simp; exact hKO _ W (.refl W) rfl
     ·have e5 := isOf hp.1; simp only [e5] at hKO; go_simp; exact hKO _ W (.refl W) rfl
     ·have e1 := isOf hp.1; have e5 := isOf hp.2.1; have e8 := isOf hp.2.2.1; simp only [e1, e5, e8] at hKO; go_simp; exact hKO _ W (.refl W) rfl
     ·have e1 := isOf hp.1; have e9 := isOf hp.2.1; simp only [e1, e9] at hKO; go_simp; exact hKO _ W (.refl W) rfl
     ·have e10 := isOf hp.1; simp only [e10] at hKO; go_simp; exact hKO _ W (.refl W) rfl
     ·have e11 := isOf hp.1; simp only [e11] at hKO; have fc0 := hS.2.2.2.2.2.2.2.2.2.2.2.2.2.2.2.2.2.2.2.2.2.2.2.1.cell0; have fc1 := hS.2.2.2.2.2.2.2.2.2.2.2.2.2.2.2.2.2.2.2.2.2.2.2.1.cell1; have fc2 := hS.2.2.2.2.2.2.2.2.2.2.2.2.2.2.2.2.2.2.2.2.2.2.2.1.cell2; go_simp; exact hKO _ W (.refl W) rfl
     ·have e11 := isOf hp.1; simp only [e11] at hKO; have fc0 := hS.2.2.2.2.2.2.2.2.2.2.2.2.2.2.2.2.1.cell0; have fc1 := hS.2.2.2.2.2.2.2.2.2.2.2.2.2.2.2.2.1.cell1; have fc2 := hS.2.2.2.2.2.2.2.2.2.2.2.2.2.2.2.2.1.cell2; go_simp; exact hKO _ W (.refl W) rfl
     ·have e11 := isOf hp.1; have e12 := isOf hp.2.1; have e13 := isOf hp.2.2.1; simp only [e11, e12, e13] at hKO; go_simp
      refine (Try.refRCmpR (hS.2.2.2.2.2.2.2.2.2.2.2.2.2.2.2.2.2.2.2.2.2.2.1) (hS.2.2.2.2.2.2.2.2.2.2.2.2.2.2.2.1) SDD.out SS.out (by omega) HC3.out).mono ?_
      rintro e W1 ⟨rfl, hE⟩
      exact hKO _ W1 hE rfl
     ·have e11 := isOf hp.1; have e14 := isOf hp.2.1; simp only [e11, e14] at hKO; go_simp; exact hKO _ W (.refl W) rfl
     ·have e11 := isOf hp.1; have e15 := isOf hp.2.1; simp only [e11, e15] at hKO; go_simp; exact hKO _ W (.refl W) rfl
     ·have e16 := isOf hp.1; simp only [e16] at hKO; go_simp; exact hKO _ W (.refl W) rfl
     ·have e17 := isOf hp.1; simp only [e17] at hKO; have fc0 := hS.2.2.2.2.2.2.2.2.2.2.2.2.2.2.2.2.2.2.2.2.2.2.2.1.cell0; have fc1 := hS.2.2.2.2.2.2.2.2.2.2.2.2.2.2.2.2.2.2.2.2.2.2.2.1.cell1; have fc2 := hS.2.2.2.2.2.2.2.2.2.2.2.2.2.2.2.2.2.2.2.2.2.2.2.1.cell2; go_simp; exact hKO _ W (.refl W) rfl
     ·have e17 := isOf hp.1; simp only [e17] at hKO; have fc0 := hS.2.2.2.2.2.2.2.2.2.2.2.2.2.2.2.2.1.cell0; have fc1 := hS.2.2.2.2.2.2.2.2.2.2.2.2.2.2.2.2.1.cell1; have fc2 := hS.2.2.2.2.2.2.2.2.2.2.2.2.2.2.2.2.1.cell2; go_simp; exact hKO _ W (.refl W) rfl
     ·have e17 := isOf hp.1; have e18 := isOf hp.2.1; have e19 := isOf hp.2.2.1; simp only [e17, e18, e19] at hKO; go_simp
      refine (Try.refRSameD (hS.2.2.2.2.2.2.2.2.2.2.2.2.2.2.2.2.2.2.2.2.2.2.1) (hS.2.2.2.2.2.2.2.2.2.2.2.2.2.2.2.1) HTW.out).mono ?_
      rintro e W1 ⟨rfl, hE⟩
      exact hKO _ W1 hE rfl
     ·have e17 := isOf hp.1; have e20 := isOf hp.2.1; simp only [e17, e20] at hKO; go_simp; exact hKO _ W (.refl W) rfl
     ·have e17 := isOf hp.1; have e21 := isOf hp.2.1; simp only [e17, e21] at hKO; go_simp; exact hKO _ W (.refl W) rfl
     ·have e22 := isOf hp.1; simp only [e22] at hKO; go_simp; exact hKO _ W (.refl W) rfl
     ·have e17 := isOf hp.1; have e22 := isOf hp.2.1; have e23 := isOf hp.2.2.1; simp only [e17, e22, e23] at hKO; go_simp; exact hKO _ W (.refl W) rfl
     ·have e17 := isOf hp.1; have e24 := isOf hp.2.1; simp only [e17, e24] at hKO; go_simp; exact hKO _ W (.refl W) rfl
     ·have e25 := isOf hp.1; simp only [e25] at hKO; go_simp; exact hKO _ W (.refl W) rfl
    intro vs W58 hS hp
    clear szw58 E0 hx1 p2 h47_4 p47_7 h48_4 p48_7 h49_4 p49_7 h50_4 p50_7 h51_4 p51_7 h52_4 p52_7 h53_4 p53_7 h53_0 h55_23 h56_3 p56_5 h56_2 h57_2 p57_4
    obtain ⟨E0, hx1, p2, h47_4, p47_7, h48_4, p48_7, h49_4, p49_7, h50_4, p50_7, h51_4, p51_7, h52_4, p52_7, h53_4, p53_7, h53_0, h55_23, h56_3, p56_5, h56_2, h57_2, p57_4, sz58⟩ := hS
    obtain ⟨h58_0, h58_1, h58_2, h58_3, h58_4, h58_5, h58_6, h58_7, h58_8, h58_9, h58_10, h58_11, h58_12, h58_13, h58_14, h58_15, h58_16, h58_17, h58_18, h58_19, h58_20, h58_21, h58_22, h58_23, h58_24, h58_25, h58_26, -⟩ := hp
    replace h58_0 : vs 0 = .bool true := h58_0
    replace h58_1 : vs 1 = .bool true := h58_1
    replace h58_2 : vs 2 = .agg #[.bool b49_7, .slice (some ⟨B, o, none⟩) n49_7 c49_7] := h58_2
    replace h58_3 : vs 3 = .agg #[.bool b47_7, .slice a47_7 n47_7 c47_7] := h58_3
    replace h58_4 : vs 4 = .bool true := h58_4
    replace h58_5 : vs 5 = .bool true := h58_5
    replace h58_6 : vs 6 = undef := h58_6
    replace h58_7 : vs 7 = undef := h58_7
    replace h58_8 : vs 8 = undef := h58_8
    replace h58_9 : vs 9 = .bool true := h58_9
    replace h58_10 : vs 10 = .bool true := h58_10
    replace h58_11 : vs 11 = .bool true := h58_11
    replace h58_12 : vs 12 = .agg #[.bool b57_4, .slice a57_4 n57_4 c57_4, .slice d57_4 m57_4 o57_4] := h58_12
    replace h58_13 : vs 13 = .agg #[.bool b53_7, .slice a53_7 n53_7 c53_7, .slice d53_7 m53_7 o53_7] := h58_13
    replace h58_14 : vs 14 = .int .i64 e3 := h58_14
    replace h58_15 : vs 15 = .bool true := h58_15
    replace h58_16 : vs 16 = .bool true := h58_16
    replace h58_17 : vs 17 = .bool true := h58_17
    replace h58_18 : vs 18 = .agg #[.bool b57_4, .slice a57_4 n57_4 c57_4, .slice d57_4 m57_4 o57_4] := h58_18
    replace h58_19 : vs 19 = .agg #[.bool b53_7, .slice a53_7 n53_7 c53_7, .slice d53_7 m53_7 o53_7] := h58_19
    replace h58_20 : vs 20 = .bool true := h58_20
    replace h58_21 : vs 21 = .bool false := h58_21
    replace h58_22 : vs 22 = .bool false := h58_22
    replace h58_23 : vs 23 = .bool true := h58_23
    replace h58_24 : vs 24 = .bool true := h58_24
    replace h58_25 : vs 25 = .bool true := h58_25
    replace h58_26 : vs 26 = .bool true := h58_26
    simp only [h58_0, h58_1, h58_2, h58_3, h58_4, h58_5, h58_6, h58_7, h58_8, h58_9, h58_10, h58_11, h58_12, h58_13, h58_14, h58_15, h58_16, h58_17, h58_18, h58_19, h58_20, h58_21, h58_22, h58_23, h58_24, h58_25, h58_26]
    clear h58_0 h58_1 h58_2 h58_3 h58_4 h58_5 h58_6 h58_7 h58_8 h58_9 h58_10 h58_11 h58_12 h58_13 h58_14 h58_15 h58_16 h58_17 h58_18 h58_19 h58_20 h58_21 h58_22 h58_23 h58_24 h58_25 h58_26
    obtain ⟨kp2_0, kp2_1, kp2_2⟩ := p2.c3
    obtain ⟨kp47_7_0, kp47_7_1⟩ := p47_7.c2
    obtain ⟨kp48_7_0, kp48_7_1⟩ := p48_7.c2
    obtain ⟨kp49_7_0, kp49_7_1⟩ := p49_7.c2
    obtain ⟨kp50_7_0, kp50_7_1, kp50_7_2⟩ := p50_7.c3
    obtain ⟨kp51_7_0, kp51_7_1, kp51_7_2⟩ := p51_7.c3
    obtain ⟨kp52_7_0, kp52_7_1, kp52_7_2⟩ := p52_7.c3
    obtain ⟨kp53_7_0, kp53_7_1, kp53_7_2⟩ := p53_7.c3
    obtain ⟨kp56_5_0, kp56_5_1, kp56_5_2⟩ := p56_5.c3
    obtain ⟨kp57_4_0, kp57_4_1, kp57_4_2⟩ := p57_4.c3
    go_wp2; go_ret
    exact ⟨rfl, E0⟩
   ·have HTW := Lib.hid htw
    clear htw; have ltp57_4 := p57_4.lt; have szw59 := Ext.size E0
    refine region_gs [.one fun v _ => v = .bool true,
      .one fun v _ => v = .bool true,
      .one fun v _ => v = .agg #[.bool b49_7, .slice (some ⟨B, o, none⟩) n49_7 c49_7],
      .one fun v _ => v = .agg #[.bool b47_7, .slice a47_7 n47_7 c47_7],
      .one fun v _ => v = .bool true,
      .one fun v _ => v = .bool true,
      .one fun v _ => v = undef,
      .one fun v _ => v = undef,
      .one fun v _ => v = undef,
      .one fun v _ => v = .bool true,
      .one fun v _ => v = .bool true,
      .one fun v _ => v = .bool true,
      .one fun v _ => v = .agg #[.bool b57_4, .slice a57_4 n57_4 c57_4, .slice d57_4 m57_4 o57_4],
      .one fun v _ => v = .agg #[.bool b53_7, .slice a53_7 n53_7 c53_7, .slice d53_7 m53_7 o53_7],
      .one fun v _ => v = .int .i64 e3,
      .one fun v _ => v = .bool true,
      .one fun v _ => v = .bool true,
      .one fun v _ => v = .bool true,
      .one fun v _ => v = .agg #[.bool b57_4, .slice a57_4 n57_4 c57_4, .slice d57_4 m57_4 o57_4],
      .one fun v _ => v = .agg #[.bool b53_7, .slice a53_7 n53_7 c53_7, .slice d53_7 m53_7 o53_7],
      .one fun v _ => v = .bool false,
      .one fun v _ => v = .bool true,
      .one fun v _ => v = .bool true,
      .one fun v _ => v = undef,
      .one fun v _ => v = .bool true,
      .one fun v _ => v = .bool true,
      .one fun v _ => v = .bool true]
     (fun W => Ext w W ∧ Rw W (.agg #[.bool b1, .slice a1 n1 c1, .slice d1 m1 o1]) x ∧ Bx3 W w.heap.size 27 (.bool b1) (.slice a1 n1 c1) (.slice d1 m1 o1) ∧ Zw W (.agg #[.bool b47_7, .slice a47_7 n47_7 c47_7]) F ∧ Bx2 W g47_7 25 (.bool b47_7) (.slice a47_7 n47_7 c47_7) ∧ Zw W (.agg #[.bool b48_7, .slice a48_7 n48_7 c48_7]) C ∧ Bx2 W g48_7 25 (.bool b48_7) (.slice a48_7 n48_7 c48_7) ∧ Zw W (.agg #[.bool b49_7, .slice (some ⟨B, o, none⟩) n49_7 c49_7]) M ∧ Bx2 W g49_7 25 (.bool b49_7) (.slice (some ⟨B, o, none⟩) n49_7 c49_7) ∧ Rw W (.agg #[.bool b50_7, .slice a50_7 n50_7 c50_7, .slice d50_7 m50_7 o50_7]) X ∧ Bx3 W g50_7 27 (.bool b50_7) (.slice a50_7 n50_7 c50_7) (.slice d50_7 m50_7 o50_7) ∧ Rw W (.agg #[.bool b51_7, .slice a51_7 n51_7 c51_7, .slice d51_7 m51_7 o51_7]) Y ∧ Bx3 W g51_7 27 (.bool b51_7) (.slice a51_7 n51_7 c51_7) (.slice d51_7 m51_7 o51_7) ∧ Rw W (.agg #[.bool b52_7, .slice a52_7 n52_7 c52_7, .slice d52_7 m52_7 o52_7]) Z ∧ Bx3 W g52_7 27 (.bool b52_7) (.slice a52_7 n52_7 c52_7) (.slice d52_7 m52_7 o52_7) ∧ Rw W (.agg #[.bool b53_7, .slice a53_7 n53_7 c53_7, .slice d53_7 m53_7 o53_7]) S ∧ Bx3 W g53_7 27 (.bool b53_7) (.slice a53_7 n53_7 c53_7) (.slice d53_7 m53_7 o53_7) ∧ Zw W u53_0 1 ∧ Rw W u55_23 S ∧ Rw W (.agg #[.bool b56_5, .slice a56_5 n56_5 c56_5, .slice d56_5 m56_5 o56_5]) D ∧ Bx3 W g56_5 27 (.bool b56_5) (.slice a56_5 n56_5 c56_5) (.slice d56_5 m56_5 o56_5) ∧ Rw W u56_2 (Z - x) ∧ Rw W (.agg #[.bool b57_4, .slice a57_4 n57_4 c57_4, .slice d57_4 m57_4 o57_4]) (D + D) ∧ Bx3 W g57_4 27 (.bool b57_4) (.slice a57_4 n57_4 c57_4) (.slice d57_4 m57_4 o57_4) ∧ W57.heap.size ≤ W.heap.size) ⟨Good.is _, Good.is _, Good.is _, Good.is _, Good.is _, Good.is _, Good.is _, Good.is _, Good.is _, Good.is _, Good.is _, Good.is _, Good.is _, Good.is _, Good.is _, Good.is _, Good.is _, Good.is _, Good.is _, Good.is _, Good.is _, Good.is _, Good.is _, Good.is _, Good.is _, Good.is _, Good.is _, trivial⟩
     ⟨E0, hx1, p2, h47_4, p47_7, h48_4, p48_7, h49_4, p49_7, h50_4, p50_7, h51_4, p51_7, h52_4, p52_7, h53_4, p53_7, h53_0, h55_23, h56_3, p56_5, h56_2, h57_2, p57_4, Nat.le_refl _⟩ (A := ?A59) ?hA59 ?howe59 ?hfin59
    case hA59 =>
     intro vs
     simp only [putAll, Act.put, sA, sZ, sS, Nat.zero_add, Nat.reduceAdd]
     exact rfl
    case howe59 =>
     clear E0 hx1 p2 h47_4 p47_7 h48_4 p48_7 h49_4 p49_7 h50_4 p50_7 h51_4 p51_7 h52_4 p52_7 h53_4 p53_7 h53_0 h55_23 h56_3 p56_5 h56_2 h57_2 p57_4
     intro hf
     refine ⟨oE 0 [] hf rfl ?_, oE 1 [0] hf rfl ?_, oE 2 [1] hf rfl ?_, oE 3 [1] hf rfl ?_, oE 4 [1, 2, 3] hf rfl ?_, oE 5 [1, 4] hf rfl ?_, oE 6 [5] hf rfl ?_, oE 7 [5] hf rfl ?_, oE 8 [5] hf rfl ?_, oE 9 [1, 5, 8] hf rfl ?_, oE 10 [1, 9] hf rfl ?_, oE 11 [10] hf rfl ?_, oE 12 [11] hf rfl ?_, oE 13 [11] hf rfl ?_, oE 14 [11, 12, 13] hf rfl ?_, oE 15 [11, 14] hf rfl ?_, oE 16 [11, 15] hf rfl ?_, oE 17 [16] hf rfl ?_, oE 18 [17] hf rfl ?_, oE 19 [17] hf rfl ?_, oE 20 [17, 18, 19] hf rfl ?_, oE 21 [17, 20] hf rfl ?_, oE 22 [17, 21] hf rfl ?_, oE 23 [22] hf rfl ?_, oE 24 [17, 22, 23] hf rfl ?_, oE 25 [17, 24] hf rfl ?_, oE 26 [25] hf rfl ?_, trivial⟩
     all_goals intro vs W hS hp hx KO hKO
     all_goals simp only [Act.put, sA, sZ, sS] at hKO
     ·go_simp
      refine (Try.alive06 _).mono ?_
      rintro e W1 ⟨rfl, hE⟩
      exact hKO _ W1 hE rfl
     ·have e0 := isOf hp.1; simp only [e0] at hKO; go_simp; exact hKO _ W (.refl W) rfl
     ·have e1 := isOf hp.1; simp only [e1] at hKO; have fc0 := hS.2.2.2.2.2.2.2.2.1.cell0; have fc1 := hS.2.2.2.2.2.2.2.2.1.cell1; go_simp; exact hKO _ W (.refl W) rfl
     ·have e1 := isOf hp.1; simp only [e1] at hKO; have fc0 := hS.2.2.2.2.1.cell0; have fc1 := hS.2.2.2.2.1.cell1; go_simp; exact hKO _ W (.refl W) rfl
     ·have e1 := isOf hp.1; have e2 := isOf hp.2.1; have e3 := isOf hp.2.2.1; simp only [e1, e2, e3] at hKO; go_simp
      refine (Try.refZSameD (hS.2.2.2.2.2.2.2.1) (hS.2.2.2.1) HMF.out).mono ?_
      rintro e W1 ⟨rfl, hE⟩
      exact hKO _ W1 hE rfl
     ·have e1 := isOf hp.1; have e4 := isOf hp.2.1; simp only [e1, e4] at hKO; go_simp; exact hKO _ W (.refl W) rfl
     ·have e5 := isOf hp.1; simp only [e5] at hKO; go_simp; exact hKO _ W (.refl W) rfl
     ·have e5 := isOf hp.1; simp only [e5] at hKO; go_simp; exact hKO _ W (.refl W) rfl
     ·have e5 := isOf hp.1; simp only [e5] at hKO; go_simp; exact hKO _ W (.refl W) rfl
     ·have e1 := isOf hp.1; have e5 := isOf hp.2.1; have e8 := isOf hp.2.2.1; simp only [e1, e5, e8] at hKO; go_simp; exact hKO _ W (.refl W) rfl
     ·have e1 := isOf hp.1; have e9 := isOf hp.2.1; simp only [e1, e9] at hKO; go_simp; exact hKO _ W (.refl W) rfl
     ·have e10 := isOf hp.1; simp only [e10] at hKO; go_simp; exact hKO _ W (.refl W) rfl
     ·have e11 := isOf hp.1; simp only [e11] at hKO; have fc0 := hS.2.2.2.2.2.2.2.2.2.2.2.2.2.2.2.2.2.2.2.2.2.2.2.1.cell0; have fc1 := hS.2.2.2.2.2.2.2.2.2.2.2.2.2.2.2.2.2.2.2.2.2.2.2.1.cell1; have fc2 := hS.2.2.2.2.2.2.2.2.2.2.2.2.2.2.2.2.2.2.2.2.2.2.2.1.cell2; go_simp; exact hKO _ W (.refl W) rfl
     ·have e11 := isOf hp.1; simp only [e11] at hKO; have fc0 := hS.2.2.2.2.2.2.2.2.2.2.2.2.2.2.2.2.1.cell0; have fc1 := hS.2.2.2.2.2.2.2.2.2.2.2.2.2.2.2.2.1.cell1; have fc2 := hS.2.2.2.2.2.2.2.2.2.2.2.2.2.2.2.2.1.cell2; go_simp; exact hKO _ W (.refl W) rfl
     ·have e11 := isOf hp.1; have e12 := isOf hp.2.1; have e13 := isOf hp.2.2.1; simp only [e11, e12, e13] at hKO; go_simp
      refine (Try.refRCmpR (hS.2.2.2.2.2.2.2.2.2.2.2.2.2.2.2.2.2.2.2.2.2.2.1) (hS.2.2.2.2.2.2.2.2.2.2.2.2.2.2.2.1) SDD.out SS.out (by omega) HC3.out).mono ?_
      rintro e W1 ⟨rfl, hE⟩
      exact hKO _ W1 hE rfl
     ·have e11 := isOf hp.1; have e14 := isOf hp.2.1; simp only [e11, e14] at hKO; go_simp; exact hKO _ W (.refl W) rfl
     ·have e11 := isOf hp.1; have e15 := isOf hp.2.1; simp only [e11, e15] at hKO; go_simp; exact hKO _ W (.refl W) rfl
     ·have e16 := isOf hp.1; simp only [e16] at hKO; go_simp; exact hKO _ W (.refl W) rfl
     ·have e17 := isOf hp.1; simp only [e17] at hKO; have fc0 := hS.2.2.2.2.2.2.2.2.2.2.2.2.2.2.2.2.2.2.2.2.2.2.2.1.cell0; have fc1 := hS.2.2.2.2.2.2.2.2.2.2.2.2.2.2.2.2.2.2.2.2.2.2.2.1.cell1; have fc2 := hS.2.2.2.2.2.2.2.2.2.2.2.2.2.2.2.2.2.2.2.2.2.2.2.1.cell2; go_simp; exact hKO _ W (.refl W) rfl
     ·have e17 := isOf hp.1; simp only [e17] at hKO; have fc0 := hS.2.2.2.2.2.2.2.2.2.2.2.2.2.2.2.2.1.cell0; have fc1 := hS.2.2.2.2.2.2.2.2.2.2.2.2.2.2.2.2.1.cell1; have fc2 := hS.2.2.2.2.2.2.2.2.2.2.2.2.2.2.2.2.1.cell2; go_simp; exact hKO _ W (.refl W) rfl
     ·have e17 := isOf hp.1; have e18 := isOf hp.2.1; have e19 := isOf hp.2.2.1; simp only [e17, e18, e19] at hKO; go_simp
      refine (Try.refRSameF6 (hS.2.2.2.2.2.2.2.2.2.2.2.2.2.2.2.2.2.2.2.2.2.2.1) (hS.2.2.2.2.2.2.2.2.2.2.2.2.2.2.2.1) HTW.out).mono ?_
      rintro e W1 ⟨rfl, hE⟩
      exact hKO _ W1 hE rfl
     ·have e17 := isOf hp.1; have e20 := isOf hp.2.1; simp only [e17, e20] at hKO; go_simp; exact hKO _ W (.refl W) rfl
     ·have e17 := isOf hp.1; have e21 := isOf hp.2.1; simp only [e17, e21] at hKO; go_simp; exact hKO _ W (.refl W) rfl
     ·have e22 := isOf hp.1; simp only [e22] at hKO; go_simp; exact hKO _ W (.refl W) rfl
     ·have e17 := isOf hp.1; have e22 := isOf hp.2.1; have e23 := isOf hp.2.2.1; simp only [e17, e22, e23] at hKO; go_simp; exact hKO _ W (.refl W) rfl
     ·have e17 := isOf hp.1; have e24 := isOf hp.2.1; simp only [e17, e24] at hKO; go_simp; exact hKO _ W (.refl W) rfl
     ·have e25 := isOf hp.1; simp only [e25] at hKO; go_simp; exact hKO _ W (.refl W) rfl
    intro vs W59 hS hp
    clear szw59 E0 hx1 p2 h47_4 p47_7 h48_4 p48_7 h49_4 p49_7 h50_4 p50_7 h51_4 p51_7 h52_4 p52_7 h53_4 p53_7 h53_0 h55_23 h56_3 p56_5 h56_2 h57_2 p57_4
    obtain ⟨E0, hx1, p2, h47_4, p47_7, h48_4, p48_7, h49_4, p49_7, h50_4, p50_7, h51_4, p51_7, h52_4, p52_7, h53_4, p53_7, h53_0, h55_23, h56_3, p56_5, h56_2, h57_2, p57_4, sz59⟩ := hS
    obtain ⟨h59_0, h59_1, h59_2, h59_3, h59_4, h59_5, h59_6, h59_7, h59_8, h59_9, h59_10, h59_11, h59_12, h59_13, h59_14, h59_15, h59_16, h59_17, h59_18, h59_19, h59_20, h59_21, h59_22, h59_23, h59_24, h59_25, h59_26, -⟩ := hp
    replace h59_0 : vs 0 = .bool true := h59_0
    replace h59_1 : vs 1 = .bool true := h59_1
    replace h59_2 : vs 2 = .agg #[.bool b49_7, .slice (some ⟨B, o, none⟩) n49_7 c49_7] := h59_2
    replace h59_3 : vs 3 = .agg #[.bool b47_7, .slice a47_7 n47_7 c47_7] := h59_3
    replace h59_4 : vs 4 = .bool true := h59_4
    replace h59_5 : vs 5 = .bool true := h59_5
    replace h59_6 : vs 6 = undef := h59_6
    replace h59_7 : vs 7 = undef := h59_7
    replace h59_8 : vs 8 = undef := h59_8
    replace h59_9 : vs 9 = .bool true := h59_9
    replace h59_10 : vs 10 = .bool true := h59_10
    replace h59_11 : vs 11 = .bool true := h59_11
    replace h59_12 : vs 12 = .agg #[.bool b57_4, .slice a57_4 n57_4 c57_4, .slice d57_4 m57_4 o57_4] := h59_12
    replace h59_13 : vs 13 = .agg #[.bool b53_7, .slice a53_7 n53_7 c53_7, .slice d53_7 m53_7 o53_7] := h59_13
    replace h59_14 : vs 14 = .int .i64 e3 := h59_14
    replace h59_15 : vs 15 = .bool true := h59_15
    replace h59_16 : vs 16 = .bool true := h59_16
    replace h59_17 : vs 17 = .bool true := h59_17
    replace h59_18 : vs 18 = .agg #[.bool b57_4, .slice a57_4 n57_4 c57_4, .slice d57_4 m57_4 o57_4] := h59_18
    replace h59_19 : vs 19 = .agg #[.bool b53_7, .slice a53_7 n53_7 c53_7, .slice d53_7 m53_7 o53_7] := h59_19
    replace h59_20 : vs 20 = .bool false := h59_20
    replace h59_21 : vs 21 = .bool true := h59_21
    replace h59_22 : vs 22 = .bool true := h59_22
    replace h59_23 : vs 23 = undef := h59_23
    replace h59_24 : vs 24 = .bool true := h59_24
    replace h59_25 : vs 25 = .bool true := h59_25
    replace h59_26 : vs 26 = .bool true := h59_26
    simp only [h59_0, h59_1, h59_2, h59_3, h59_4, h59_5, h59_6, h59_7, h59_8, h59_9, h59_10, h59_11, h59_12, h59_13, h59_14, h59_15, h59_16, h59_17, h59_18, h59_19, h59_20, h59_21, h59_22, h59_23, h59_24, h59_25, h59_26]
    clear h59_0 h59_1 h59_2 h59_3 h59_4 h59_5 h59_6 h59_7 h59_8 h59_9 h59_10 h59_11 h59_12 h59_13 h59_14 h59_15 h59_16 h59_17 h59_18 h59_19 h59_20 h59_21 h59_22 h59_23 h59_24 h59_25 h59_26
    obtain ⟨kp2_0, kp2_1, kp2_2⟩ := p2.c3
    obtain ⟨kp47_7_0, kp47_7_1⟩ := p47_7.c2
    obtain ⟨kp48_7_0, kp48_7_1⟩ := p48_7.c2
    obtain ⟨kp49_7_0, kp49_7_1⟩ := p49_7.c2
    obtain ⟨kp50_7_0, kp50_7_1, kp50_7_2⟩ := p50_7.c3
    obtain ⟨kp51_7_0, kp51_7_1, kp51_7_2⟩ := p51_7.c3
    obtain ⟨kp52_7_0, kp52_7_1, kp52_7_2⟩ := p52_7.c3
    obtain ⟨kp53_7_0, kp53_7_1, kp53_7_2⟩ := p53_7.c3
    obtain ⟨kp56_5_0, kp56_5_1, kp56_5_2⟩ := p56_5.c3
    obtain ⟨kp57_4_0, kp57_4_1, kp57_4_2⟩ := p57_4.c3
    go_wp2; go_ret
    exact ⟨rfl, E0⟩
  ·have HTW : Hid (D + D ≠ S) := Lib.hid (fun h => by have := HEV.out h; omega)
   have hpr : (((l : Int) % 2) == 0) = false := by simp; omega
   clear hz0 hp hl hev2 hm hn0
   obtain ⟨kp2_0, kp2_1, kp2_2⟩ := p2.c3
   obtain ⟨kp47_7_0, kp47_7_1⟩ := p47_7.c2
   obtain ⟨kp48_7_0, kp48_7_1⟩ := p48_7.c2
   obtain ⟨kp49_7_0, kp49_7_1⟩ := p49_7.c2
   obtain ⟨kp50_7_0, kp50_7_1, kp50_7_2⟩ := p50_7.c3
   obtain ⟨kp51_7_0, kp51_7_1, kp51_7_2⟩ := p51_7.c3
   obtain ⟨kp52_7_0, kp52_7_1, kp52_7_2⟩ := p52_7.c3
   obtain ⟨kp53_7_0, kp53_7_1, kp53_7_2⟩ := p53_7.c3
   obtain ⟨kp56_5_0, kp56_5_1, kp56_5_2⟩ := p56_5.c3
   obtain ⟨kp57_4_0, kp57_4_1, kp57_4_2⟩ := p57_4.c3
   go_upto_region 18 with (fail)
   clear kp2_0 kp2_1 kp2_2 kp47_7_0 kp47_7_1 kp48_7_0 kp48_7_1 kp49_7_0 kp49_7_1 kp50_7_0 kp50_7_1 kp50_7_2 kp51_7_0 kp51_7_1 kp51_7_2 kp52_7_0 kp52_7_1 kp52_7_2 kp53_7_0 kp53_7_1 kp53_7_2 kp56_5_0 kp56_5_1 kp56_5_2 kp57_4_0 kp57_4_1 kp57_4_2; have ltp57_4 := p57_4.lt; have szw60 := Ext.size E0
   refine region_gs [.one fun v _ => v = .bool true,
     .one fun v _ => v = .bool true,
     .one fun v _ => v = .agg #[.bool b49_7, .slice (some ⟨B, o, none⟩) n49_7 c49_7],
     .one fun v _ => v = .agg #[.bool b47_7, .slice a47_7 n47_7 c47_7],
     .one fun v _ => v = .bool true,
     .one fun v _ => v = .bool true,
     .one fun v _ => v = undef,
     .one fun v _ => v = undef,
     .one fun v _ => v = undef,
     .one fun v _ => v = .bool true,
     .one fun v _ => v = .bool true,
     .one fun v _ => v = .bool true,
     .one fun v _ => v = .agg #[.bool b57_4, .slice a57_4 n57_4 c57_4, .slice d57_4 m57_4 o57_4],
     .one fun v _ => v = .agg #[.bool b53_7, .slice a53_7 n53_7 c53_7, .slice d53_7 m53_7 o53_7],
     .one fun v _ => v = .int .i64 e3,
     .one fun v _ => v = .bool true,
     .one fun v _ => v = .bool true,
     .one fun v _ => v = .bool true,
     .one fun v _ => v = .agg #[.bool b57_4, .slice a57_4 n57_4 c57_4, .slice d57_4 m57_4 o57_4],
     .one fun v _ => v = .agg #[.bool b53_7, .slice a53_7 n53_7 c53_7, .slice d53_7 m53_7 o53_7],
     .one fun v _ => v = .bool false,
     .one fun v _ => v = .bool true,
     .one fun v _ => v = .bool true,
     .one fun v _ => v = undef,
     .one fun v _ => v = .bool true,
     .one fun v _ => v = .bool true,
     .one fun v _ => v = .bool true]
    (fun W => Ext w W ∧ Rw W (.agg #[.bool b1, .slice a1 n1 c1, .slice d1 m1 o1]) x ∧ Bx3 W w.heap.size 27 (.bool b1) (.slice a1 n1 c1) (.slice d1 m1 o1) ∧ Zw W (.agg #[.bool b47_7, .slice a47_7 n47_7 c47_7]) F ∧ Bx2 W g47_7 25 (.bool b47_7) (.slice a47_7 n47_7 c47_7) ∧ Zw W (.agg #[.bool b48_7, .slice a48_7 n48_7 c48_7]) C ∧ Bx2 W g48_7 25 (.bool b48_7) (.slice a48_7 n48_7 c48_7) ∧ Zw W (.agg #[.bool b49_7, .slice (some ⟨B, o, none⟩) n49_7 c49_7]) M ∧ Bx2 W g49_7 25 (.bool b49_7) (.slice (some ⟨B, o, none⟩) n49_7 c49_7) ∧ Rw W (.agg #[.bool b50_7, .slice a50_7 n50_7 c50_7, .slice d50_7 m50_7 o50_7]) X ∧ Bx3 W g50_7 27 (.bool b50_7) (.slice a50_7 n50_7 c50_7) (.slice d50_7 m50_7 o50_7) ∧ Rw W (.agg #[.bool b51_7, .slice a51_7 n51_7 c51_7, .slice d51_7 m51_7 o51_7]) Y ∧ Bx3 W g51_7 27 (.bool b51_7) (.slice a51_7 n51_7 c51_7) (.slice d51_7 m51_7 o51_7) ∧ Rw W (.agg #[.bool b52_7, .slice a52_7 n52_7 c52_7, .slice d52_7 m52_7 o52_7]) Z ∧ Bx3 W g52_7 27 (.bool b52_7) (.slice a52_7 n52_7 c52_7) (.slice d52_7 m52_7 o52_7) ∧ Rw W (.agg #[.bool b53_7, .slice a53_7 n53_7 c53_7, .slice d53_7 m53_7 o53_7]) S ∧ Bx3 W g53_7 27 (.bool b53_7) (.slice a53_7 n53_7 c53_7) (.slice d53_7 m53_7 o53_7) ∧ Zw W u53_0 1 ∧ Rw W u55_23 S ∧ Rw W (.agg #[.bool b56_5, .slice a56_5 n56_5 c56_5, .slice d56_5 m56_5 o56_5]) D ∧ Bx3 W g56_5 27 (.bool b56_5) (.slice a56_5 n56_5 c56_5) (.slice d56_5 m56_5 o56_5) ∧ Rw W u56_2 (Z - x) ∧ Rw W (.agg #[.bool b57_4, .slice a57_4 n57_4 c57_4, .slice d57_4 m57_4 o57_4]) (D + D) ∧ Bx3 W g57_4 27 (.bool b57_4) (.slice a57_4 n57_4 c57_4) (.slice d57_4 m57_4 o57_4) ∧ W57.heap.size ≤ W.heap.size) ⟨Good.is _, Good.is _, Good.is _, Good.is _, Good.is _, Good.is _, Good.is _, Good.is _, Good.is _, Good.is _, Good.is _, Good.is _, Good.is _, Good.is _, Good.is _, Good.is _, Good.is _, Good.is _, Good.is _, Good.is _, Good.is _, Good.is _, Good.is _, Good.is _, Good.is _, Good.is _, Good.is _, trivial⟩
    ⟨E0, hx1, p2, h47_4, p47_7, h48_4, p48_7, h49_4, p49_7, h50_4, p50_7, h51_4, p51_7, h52_4, p52_7, h53_4, p53_7, h53_0, h55_23, h56_3, p56_5, h56_2, h57_2, p57_4, Nat.le_refl _⟩ (A := ?A60) ?hA60 ?howe60 ?hfin60
   case hA60 =>
    intro vs
    simp only [putAll, Act.put, sA, sZ, sS, Nat.zero_add, Nat.reduceAdd]
    exact rfl
   case howe60 =>
    clear E0 hx1 p2 h47_4 p47_7 h48_4 p48_7 h49_4 p49_7 h50_4 p50_7 h51_4 p51_7 h52_4 p52_7 h53_4 p53_7 h53_0 h55_23 h56_3 p56_5 h56_2 h57_2 p57_4
    intro hf
    refine ⟨oE 0 [] hf rfl ?_, oE 1 [0] hf rfl ?_, oE 2 [1] hf rfl ?_, oE 3 [1] hf rfl ?_, oE 4 [1, 2, 3] hf rfl ?_, oE 5 [1, 4] hf rfl ?_, oE 6 [5] hf rfl ?_, oE 7 [5] hf rfl ?_, oE 8 [5] hf rfl ?_, oE 9 [1, 5, 8] hf rfl ?_, oE 10 [1, 9] hf rfl ?_, oE 11 [10] hf rfl ?_, oE 12 [11] hf rfl ?_, oE 13 [11] hf rfl ?_, oE 14 [11, 12, 13] hf rfl ?_, oE 15 [11, 14] hf rfl ?_, oE 16 [11, 15] hf rfl ?_, oE 17 [16] hf rfl ?_, oE 18 [17] hf rfl ?_, oE 19 [17] hf rfl ?_, oE 20 [17, 18, 19] hf rfl ?_, oE 21 [17, 20] hf rfl ?_, oE 22 [17, 21] hf rfl ?_, oE 23 [22] hf rfl ?_, oE 24 [17, 22, 23] hf rfl ?_, oE 25 [17, 24] hf rfl ?_, oE 26 [25] hf rfl ?_, trivial⟩
    all_goals intro vs W hS hp hx KO hKO
    all_goals simp only [Act.put, sA, sZ, sS] at hKO
    ·go_simp
     refine (Try.alive06 _).mono ?_
     rintro e W1 ⟨rfl, hE⟩
     exact hKO _ W1 hE rfl
    ·have e0 := isOf hp.1; simp only [e0] at hKO; go_simp; exact hKO _ W (.refl W) rfl
    ·have e1 := isOf hp.1; simp only [e1] at hKO; have fc0 := hS.2.2.2.2.2.2.2.2.1.cell0; have fc1 := hS.2.2.2.2.2.2.2.2.1.cell1; go_simp; exact hKO _ W (.refl W) rfl
    ·have e1 := isOf hp.1; simp only [e1] at hKO; have fc0 := hS.2.2.2.2.1.cell0; have fc1 := hS.2.2.2.2.1.cell1; go_simp; exact hKO _ W (.refl W) rfl
    ·have e1 := isOf hp.1; have e2 := isOf hp.2.1; have e3 := isOf hp.2.2.1; simp only [e1, e2, e3] at hKO; go_simp
     refine (Try.refZSameD (hS.2.2.2.2.2.2.2.1) (hS.2.2.2.1) HMF.out).mono ?_
     rintro e W1 ⟨rfl, hE⟩
     exact hKO _ W1 hE rfl
    ·have e1 := isOf hp.1; have e4 := isOf hp.2.1; simp only [e1, e4] at hKO; go_simp; exact hKO _ W (.refl W) rfl
    ·have e5 := isOf hp.1; simp only [e5] at hKO; go_simp; exact hKO _ W (.refl W) rfl
    ·have e5 := isOf hp.1; simp only [e5] at hKO; go_simp; exact hKO _ W (.refl W) rfl
    ·have e5 := isOf hp.1; simp only [e5] at hKO; go_simp; exact hKO _ W (.refl W) rfl
    ·have e1 := isOf hp.1; have e5 := isOf hp.2.1; have e8 := isOf hp.2.2.1; simp only [e1, e5, e8] at hKO; go_simp; exact hKO _ W (.refl W) rfl
    ·have e1 := isOf hp.1; have e9 := isOf hp.2.1; simp only [e1, e9] at hKO; go_simp; exact hKO _ W (.refl W) rfl
    ·have e10 := isOf hp.1; simp only [e10] at hKO; go_simp; exact hKO _ W (.refl W) rfl
    ·have e11 := isOf hp.1; simp only [e11] at hKO; have fc0 := hS.2.2.2.2.2.2.2.2.2.2.2.2.2.2.2.2.2.2.2.2.2.2.2.1.cell0; have fc1 := hS.2.2.2.2.2.2.2.2.2.2.2.2.2.2.2.2.2.2.2.2.2.2.2.1.cell1; have fc2 := hS.2.2.2.2.2.2.2.2.2.2.2.2.2.2.2.2.2.2.2.2.2.2.2.1.cell2; go_simp; exact hKO _ W (.refl W) rfl
    ·have e11 := isOf hp.1; simp only [e11] at hKO; have fc0 := hS.2.2.2.2.2.2.2.2.2.2.2.2.2.2.2.2.1.cell0; have fc1 := hS.2.2.2.2.2.2.2.2.2.2.2.2.2.2.2.2.1.cell1; have fc2 := hS.2.2.2.2.2.2.2.2.2.2.2.2.2.2.2.2.1.cell2; go_simp; exact hKO _ W (.refl W) rfl
    ·have e11 := isOf hp.1; have e12 := isOf hp.2.1; have e13 := isOf hp.2.2.1; simp only [e11, e12, e13] at hKO; go_simp
     refine (Try.refRCmpR (hS.2.2.2.2.2.2.2.2.2.2.2.2.2.2.2.2.2.2.2.2.2.2.1) (hS.2.2.2.2.2.2.2.2.2.2.2.2.2.2.2.1) SDD.out SS.out (by omega) HC3.out).mono ?_
     rintro e W1 ⟨rfl, hE⟩
     exact hKO _ W1 hE rfl
    ·have e11 := isOf hp.1; have e14 := isOf hp.2.1; simp only [e11, e14] at hKO; go_simp; exact hKO _ W (.refl W) rfl
    ·have e11 := isOf hp.1; have e15 := isOf hp.2.1; simp only [e11, e15] at hKO; go_simp; exact hKO _ W (.refl W) rfl
    ·have e16 := isOf hp.1; simp only [e16] at hKO; go_simp; exact hKO _ W (.refl W) rfl
    ·have e17 := isOf hp.1; simp only [e17] at hKO; have fc0 := hS.2.2.2.2.2.2.2.2.2.2.2.2.2.2.2.2.2.2.2.2.2.2.2.1.cell0; have fc1 := hS.2.2.2.2.2.2.2.2.2.2.2.2.2.2.2.2.2.2.2.2.2.2.2.1.cell1; have fc2 := hS.2.2.2.2.2.2.2.2.2.2.2.2.2.2.2.2.2.2.2.2.2.2.2.1.cell2; go_simp; exact hKO _ W (.refl W) rfl
    ·have e17 := isOf hp.1; simp only [e17] at hKO; have fc0 := hS.2.2.2.2.2.2.2.2.2.2.2.2.2.2.2.2.1.cell0; have fc1 := hS.2.2.2.2.2.2.2.2.2.2.2.2.2.2.2.2.1.cell1; have fc2 := hS.2.2.2.2.2.2.2.2.2.2.2.2.2.2.2.2.1.cell2; go_simp; exact hKO _ W (.refl W) rfl
    ·have e17 := isOf hp.1; have e18 := isOf hp.2.1; have e19 := isOf hp.2.2.1; simp only [e17, e18, e19] at hKO; go_simp
     refine (Try.refRSameF6 (hS.2.2.2.2.2.2.2.2.2.2.2.2.2.2.2.2.2.2.2.2.2.2.1) (hS.2.2.2.2.2.2.2.2.2.2.2.2.2.2.2.1) HTW.out).mono ?_
     rintro e W1 ⟨rfl, hE⟩
     exact hKO _ W1 hE rfl
    ·have e17 := isOf hp.1; have e20 := isOf hp.2.1; simp only [e17, e20] at hKO; go_simp; exact hKO _ W (.refl W) rfl
    ·have e17 := isOf hp.1; have e21 := isOf hp.2.1; simp only [e17, e21] at hKO; go_simp; exact hKO _ W (.refl W) rfl
    ·have e22 := isOf hp.1; simp only [e22] at hKO; go_simp; exact hKO _ W (.refl W) rfl
    ·have e17 := isOf hp.1; have e22 := isOf hp.2.1; have e23 := isOf hp.2.2.1; simp only [e17, e22, e23] at hKO; go_simp; exact hKO _ W (.refl W) rfl
    ·have e17 := isOf hp.1; have e24 := isOf hp.2.1; simp only [e17, e24] at hKO; go_simp; exact hKO _ W (.refl W) rfl
    ·have e25 := isOf hp.1; simp only [e25] at hKO; go_simp; exact hKO _ W (.refl W) rfl
   intro vs W60 hS hp
   clear szw60 E0 hx1 p2 h47_4 p47_7 h48_4 p48_7 h49_4 p49_7 h50_4 p50_7 h51_4 p51_7 h52_4 p52_7 h53_4 p53_7 h53_0 h55_23 h56_3 p56_5 h56_2 h57_2 p57_4
   obtain ⟨E0, hx1, p2, h47_4, p47_7, h48_4, p48_7, h49_4, p49_7, h50_4, p50_7, h51_4, p51_7, h52_4, p52_7, h53_4, p53_7, h53_0, h55_23, h56_3, p56_5, h56_2, h57_2, p57_4, sz60⟩ := hS
   obtain ⟨h60_0, h60_1, h60_2, h60_3, h60_4, h60_5, h60_6, h60_7, h60_8, h60_9, h60_10, h60_11, h60_12, h60_13, h60_14, h60_15, h60_16, h60_17, h60_18, h60_19, h60_20, h60_21, h60_22, h60_23, h60_24, h60_25, h60_26, -⟩ := hp
   replace h60_0 : vs 0 = .bool true := h60_0
   replace h60_1 : vs 1 = .bool true := h60_1
   replace h60_2 : vs 2 = .agg #[.bool b49_7, .slice (some ⟨B, o, none⟩) n49_7 c49_7] := h60_2
   replace h60_3 : vs 3 = .agg #[.bool b47_7, .slice a47_7 n47_7 c47_7] := h60_3
   replace h60_4 : vs 4 = .bool true := h60_4
   replace h60_5 : vs 5 = .bool true := h60_5
   replace h60_6 : vs 6 = undef := h60_6
   replace h60_7 : vs 7 = undef := h60_7
   replace h60_8 : vs 8 = undef := h60_8
   replace h60_9 : vs 9 = .bool true := h60_9
   replace h60_10 : vs 10 = .bool true := h60_10
   replace h60_11 : vs 11 = .bool true := h60_11
   replace h60_12 : vs 12 = .agg #[.bool b57_4, .slice a57_4 n57_4 c57_4, .slice d57_4 m57_4 o57_4] := h60_12
   replace h60_13 : vs 13 = .agg #[.bool b53_7, .slice a53_7 n53_7 c53_7, .slice d53_7 m53_7 o53_7] := h60_13
   replace h60_14 : vs 14 = .int .i64 e3 := h60_14
   replace h60_15 : vs 15 = .bool true := h60_15
   replace h60_16 : vs 16 = .bool true := h60_16
   replace h60_17 : vs 17 = .bool true := h60_17
   replace h60_18 : vs 18 = .agg #[.bool b57_4, .slice a57_4 n57_4 c57_4, .slice d57_4 m57_4 o57_4] := h60_18
   replace h60_19 : vs 19 = .agg #[.bool b53_7, .slice a53_7 n53_7 c53_7, .slice d53_7 m53_7 o53_7] := h60_19
   replace h60_20 : vs 20 = .bool false := h60_20
   replace h60_21 : vs 21 = .bool true := h60_21
   replace h60_22 : vs 22 = .bool true := h60_22
   replace h60_23 : vs 23 = undef := h60_23
   replace h60_24 : vs 24 = .bool true := h60_24
   replace h60_25 : vs 25 = .bool true := h60_25
   replace h60_26 : vs 26 = .bool true := h60_26
   simp only [h60_0, h60_1, h60_2, h60_3, h60_4, h60_5, h60_6, h60_7, h60_8, h60_9, h60_10, h60_11, h60_12, h60_13, h60_14, h60_15, h60_16, h60_17, h60_18, h60_19, h60_20, h60_21, h60_22, h60_23, h60_24, h60_25, h60_26]
   clear h60_0 h60_1 h60_2 h60_3 h60_4 h60_5 h60_6 h60_7 h60_8 h60_9 h60_10 h60_11 h60_12 h60_13 h60_14 h60_15 h60_16 h60_17 h60_18 h60_19 h60_20 h60_21 h60_22 h60_23 h60_24 h60_25 h60_26
   obtain ⟨kp2_0, kp2_1, kp2_2⟩ := p2.c3
   obtain ⟨kp47_7_0, kp47_7_1⟩ := p47_7.c2
   obtain ⟨kp48_7_0, kp48_7_1⟩ := p48_7.c2
   obtain ⟨kp49_7_0, kp49_7_1⟩ := p49_7.c2
   obtain ⟨kp50_7_0, kp50_7_1, kp50_7_2⟩ := p50_7.c3
   obtain ⟨kp51_7_0, kp51_7_1, kp51_7_2⟩ := p51_7.c3
   obtain ⟨kp52_7_0, kp52_7_1, kp52_7_2⟩ := p52_7.c3
   obtain ⟨kp53_7_0, kp53_7_1, kp53_7_2⟩ := p53_7.c3
   obtain ⟨kp56_5_0, kp56_5_1, kp56_5_2⟩ := p56_5.c3
   obtain ⟨kp57_4_0, kp57_4_1, kp57_4_2⟩ := p57_4.c3
   go_wp2; go_ret
   exact ⟨rfl, E0⟩
 ·have hnz : n49_7 = 0 := by omega
  have hnb : ((n49_7 : Int) == 0) = true := by simp [hnz]
  have hnc : ((n49_7 : Int) = 0) := by omega
  have hn0I : ¬ (0 : Int) < (n49_7 : Int) := by omega
  clear hz0 hm hnz
  obtain ⟨kp2_0, kp2_1, kp2_2⟩ := p2.c3
  obtain ⟨kp47_7_0, kp47_7_1⟩ := p47_7.c2
  obtain ⟨kp48_7_0, kp48_7_1⟩ := p48_7.c2
  obtain ⟨kp49_7_0, kp49_7_1⟩ := p49_7.c2
  obtain ⟨kp50_7_0, kp50_7_1, kp50_7_2⟩ := p50_7.c3
  obtain ⟨kp51_7_0, kp51_7_1, kp51_7_2⟩ := p51_7.c3
  obtain ⟨kp52_7_0, kp52_7_1, kp52_7_2⟩ := p52_7.c3
  obtain ⟨kp53_7_0, kp53_7_1, kp53_7_2⟩ := p53_7.c3
  obtain ⟨kp56_5_0, kp56_5_1, kp56_5_2⟩ := p56_5.c3
  obtain ⟨kp57_4_0, kp57_4_1, kp57_4_2⟩ := p57_4.c3
  go_upto_region 18 with (fail)
  clear kp2_0 kp2_1 kp2_2 kp47_7_0 kp47_7_1 kp48_7_0 kp48_7_1 kp49_7_0 kp49_7_1 kp50_7_0 kp50_7_1 kp50_7_2 kp51_7_0 kp51_7_1 kp51_7_2 kp52_7_0 kp52_7_1 kp52_7_2 kp53_7_0 kp53_7_1 kp53_7_2 kp56_5_0 kp56_5_1 kp56_5_2 kp57_4_0 kp57_4_1 kp57_4_2
  by_cases htw : D + D = S
  ·have HTW := Lib.hid htw
   clear htw; have ltp57_4 := p57_4.lt; have szw61 := Ext.size E0
   refine region_gs [.one fun v _ => v = .bool true,
     .one fun v _ => v = .bool true,
     .one fun v _ => v = .agg #[.bool b49_7, .slice a49_7 n49_7 c49_7],
     .one fun v _ => v = .agg #[.bool b47_7, .slice a47_7 n47_7 c47_7],
     .one fun v _ => v = .bool true,
     .one fun v _ => v = .bool true,
     .one fun v _ => v = undef,
     .one fun v _ => v = undef,
     .one fun v _ => v = undef,
     .one fun v _ => v = .bool true,
     .one fun v _ => v = .bool true,
     .one fun v _ => v = .bool true,
     .one fun v _ => v = .agg #[.bool b57_4, .slice a57_4 n57_4 c57_4, .slice d57_4 m57_4 o57_4],
     .one fun v _ => v = .agg #[.bool b53_7, .slice a53_7 n53_7 c53_7, .slice d53_7 m53_7 o53_7],
     .one fun v _ => v = .int .i64 e3,
     .one fun v _ => v = .bool true,
     .one fun v _ => v = .bool true,
     .one fun v _ => v = .bool true,
     .one fun v _ => v = .agg #[.bool b57_4, .slice a57_4 n57_4 c57_4, .slice d57_4 m57_4 o57_4],
     .one fun v _ => v = .agg #[.bool b53_7, .slice a53_7 n53_7 c53_7, .slice d53_7 m53_7 o53_7],
     .one fun v _ => v = .bool true,
     .one fun v _ => v = .bool false,
     .one fun v _ => v = .bool false,
     .one fun v _ => v = .bool true,
     .one fun v _ => v = .bool true,
     .one fun v _ => v = .bool true,
     .one fun v _ => v = .bool true]
    (fun W => Ext w W ∧ Rw W (.agg #[.bool b1, .slice a1 n1 c1, .slice d1 m1 o1]) x ∧ Bx3 W w.heap.size 27 (.bool b1) (.slice a1 n1 c1) (.slice d1 m1 o1) ∧ Zw W (.agg #[.bool b47_7, .slice a47_7 n47_7 c47_7]) F ∧ Bx2 W g47_7 25 (.bool b47_7) (.slice a47_7 n47_7 c47_7) ∧ Zw W (.agg #[.bool b48_7, .slice a48_7 n48_7 c48_7]) C ∧ Bx2 W g48_7 25 (.bool b48_7) (.slice a48_7 n48_7 c48_7) ∧ Zw W (.agg #[.bool b49_7, .slice a49_7 n49_7 c49_7]) M ∧ Bx2 W g49_7 25 (.bool b49_7) (.slice a49_7 n49_7 c49_7) ∧ Rw W (.agg #[.bool b50_7, .slice a50_7 n50_7 c50_7, .slice d50_7 m50_7 o50_7]) X ∧ Bx3 W g50_7 27 (.bool b50_7) (.slice a50_7 n50_7 c50_7) (.slice d50_7 m50_7 o50_7) ∧ Rw W (.agg #[.bool b51_7, .slice a51_7 n51_7 c51_7, .slice d51_7 m51_7 o51_7]) Y ∧ Bx3 W g51_7 27 (.bool b51_7) (.slice a51_7 n51_7 c51_7) (.slice d51_7 m51_7 o51_7) ∧ Rw W (.agg #[.bool b52_7, .slice a52_7 n52_7 c52_7, .slice d52_7 m52_7 o52_7]) Z ∧ Bx3 W g52_7 27 (.bool b52_7) (.slice a52_7 n52_7 c52_7) (.slice d52_7 m52_7 o52_7) ∧ Rw W (.agg #[.bool b53_7, .slice a53_7 n53_7 c53_7, .slice d53_7 m53_7 o53_7]) S ∧ Bx3 W g53_7 27 (.bool b53_7) (.slice a53_7 n53_7 c53_7) (.slice d53_7 m53_7 o53_7) ∧ Zw W u53_0 1 ∧ Rw W u55_23 S ∧ Rw W (.agg #[.bool b56_5, .slice a56_5 n56_5 c56_5, .slice d56_5 m56_5 o56_5]) D ∧ Bx3 W g56_5 27 (.bool b56_5) (.slice a56_5 n56_5 c56_5) (.slice d56_5 m56_5 o56_5) ∧ Rw W u56_2 (Z - x) ∧ Rw W (.agg #[.bool b57_4, .slice a57_4 n57_4 c57_4, .slice d57_4 m57_4 o57_4]) (D + D) ∧ Bx3 W g57_4 27 (.bool b57_4) (.slice a57_4 n57_4 c57_4) (.slice d57_4 m57_4 o57_4) ∧ W57.heap.size ≤ W.heap.size) ⟨Good.is _, Good.is _, Good.is _, Good.is _, Good.is _, Good.is _, Good.is _, Good.is _, Good.is _, Good.is _, Good.is _, Good.is _, Good.is _, Good.is _, Good.is _, Good.is _, Good.is _, Good.is _, Good.is _, Good.is _, Good.is _, Good.is _, Good.is _, Good.is _, Good.is _, Good.is _, Good.is _, trivial⟩
    ⟨E0, hx1, p2, h47_4, p47_7, h48_4, p48_7, h49_4, p49_7, h50_4, p50_7, h51_4, p51_7, h52_4, p52_7, h53_4, p53_7, h53_0, h55_23, h56_3, p56_5, h56_2, h57_2, p57_4, Nat.le_refl _⟩ (A := ?A61) ?hA61 ?howe61 ?hfin61
   case hA61 =>
    intro vs
    simp only [putAll, Act.put, sA, sZ, sS, Nat.zero_add, Nat.reduceAdd]
    exact rfl
   case howe61 =>
    clear E0 hx1 p2 h47_4 p47_7 h48_4 p48_7 h49_4 p49_7 h50_4 p50_7 h51_4 p51_7 h52_4 p52_7 h53_4 p53_7 h53_0 h55_23 h56_3 p56_5 h56_2 h57_2 p57_4
    intro hf
    refine ⟨oE 0 [] hf rfl ?_, oE 1 [0] hf rfl ?_, oE 2 [1] hf rfl ?_, oE 3 [1] hf rfl ?_, oE 4 [1, 2, 3] hf rfl ?_, oE 5 [1, 4] hf rfl ?_, oE 6 [5] hf rfl ?_, oE 7 [5] hf rfl ?_, oE 8 [5] hf rfl ?_, oE 9 [1, 5, 8] hf rfl ?_, oE 10 [1, 9] hf rfl ?_, oE 11 [10] hf rfl ?_, oE 12 [11] hf rfl ?_, oE 13 [11] hf rfl ?_, oE 14 [11, 12, 13] hf rfl ?_, oE 15 [11, 14] hf rfl ?_, oE 16 [11, 15] hf rfl ?_, oE 17 [16] hf rfl ?_, oE 18 [17] hf rfl ?_, oE 19 [17] hf rfl ?_, oE 20 [17, 18, 19] hf rfl ?_, oE 21 [17, 20] hf rfl ?_, oE 22 [17, 21] hf rfl ?_, oE 23 [22] hf rfl ?_, oE 24 [17, 22, 23] hf rfl ?_, oE 25 [17, 24] hf rfl ?_, oE 26 [25] hf rfl ?_, trivial⟩
    all_goals intro vs W hS hp hx KO hKO
    all_goals simp only [Act.put, sA, sZ, sS] at hKO
    ·go_simp
     refine (Try.alive06 _).mono ?_
     rintro e W1 ⟨rfl, hE⟩
     exact hKO _ W1 hE rfl
    ·have e0 := isOf hp.1; simp only [e0] at hKO; go_simp; exact hKO _ W (.refl W) rfl
    ·have e1 := isOf hp.1; simp only [e1] at hKO; have fc0 := hS.2.2.2.2.2.2.2.2.1.cell0; have fc1 := hS.2.2.2.2.2.2.2.2.1.cell1; go_simp; exact hKO _ W (.refl W) rfl
    ·have e1 := isOf hp.1; simp only [e1] at hKO; have fc0 := hS.2.2.2.2.1.cell0; have fc1 := hS.2.2.2.2.1.cell1; go_simp; exact hKO _ W (.refl W) rfl
    ·have e1 := isOf hp.1; have e2 := isOf hp.2.1; have e3 := isOf hp.2.2.1; simp only [e1, e2, e3] at hKO; go_simp
     refine (Try.refZSameD (hS.2.2.2.2.2.2.2.1) (hS.2.2.2.1) HMF.out).mono ?_
     rintro e W1 ⟨rfl, hE⟩
     exact hKO _ W1 hE rfl
    ·have e1 := isOf hp.1; have e4 := isOf hp.2.1; simp only [e1, e4] at hKO; go_simp; exact hKO _ W (.refl W) rfl
    ·have e5 := isOf hp.1; simp only [e5] at hKO; go_simp; exact hKO _ W (.refl W) rfl
    ·have e5 := isOf hp.1; simp only [e5] at hKO; go_simp; exact hKO _ W (.refl W) rfl
    ·have e5 := isOf hp.1; simp only [e5] at hKO; go_simp; exact hKO _ W (.refl W) rfl
    ·have e1 := isOf hp.1; have e5 := isOf hp.2.1; have e8 := isOf hp.2.2.1; simp only [e1, e5, e8] at hKO; go_simp; exact hKO _ W (.refl W) rfl
    ·have e1 := isOf hp.1; have e9 := isOf hp.2.1; simp only [e1, e9] at hKO; go_simp; exact hKO _ W (.refl W) rfl
    ·have e10 := isOf hp.1; simp only [e10] at hKO; go_simp; exact hKO _ W (.refl W) rfl
    ·have e11 := isOf hp.1; simp only [e11] at hKO; have fc0 := hS.2.2.2.2.2.2.2.2.2.2.2.2.2.2.2.2.2.2.2.2.2.2.2.1.cell0; have fc1 := hS.2.2.2.2.2.2.2.2.2.2.2.2.2.2.2.2.2.2.2.2.2.2.2.1.cell1; have fc2 := hS.2.2.2.2.2.2.2.2.2.2.2.2.2.2.2.2.2.2.2.2.2.2.2.1.cell2; go_simp; exact hKO _ W (.refl W) rfl
    ·have e11 := isOf hp.1; simp only [e11] at hKO; have fc0 := hS.2.2.2.2.2.2.2.2.2.2.2.2.2.2.2.2.1.cell0; have fc1 := hS.2.2.2.2.2.2.2.2.2.2.2.2.2.2.2.2.1.cell1; have fc2 := hS.2.2.2.2.2.2.2.2.2.2.2.2.2.2.2.2.1.cell2; go_simp; exact hKO _ W (.refl W) rfl
    ·have e11 := isOf hp.1; have e12 := isOf hp.2.1; have e13 := isOf hp.2.2.1; simp only [e11, e12, e13] at hKO; go_simp
     refine (Try.refRCmpR (hS.2.2.2.2.2.2.2.2.2.2.2.2.2.2.2.2.2.2.2.2.2.2.1) (hS.2.2.2.2.2.2.2.2.2.2.2.2.2.2.2.1) SDD.out SS.out (by omega) HC3.out).mono ?_
     rintro e W1 ⟨rfl, hE⟩
     exact hKO _ W1 hE rfl
    ·have e11 := isOf hp.1; have e14 := isOf hp.2.1; simp only [e11, e14] at hKO; go_simp; exact hKO _ W (.refl W) rfl
    ·have e11 := isOf hp.1; have e15 := isOf hp.2.1; simp only [e11, e15] at hKO; go_simp; exact hKO _ W (.refl W) rfl
    ·have e16 := isOf hp.1; simp only [e16] at hKO; go_simp; exact hKO _ W (.refl W) rfl
    ·have e17 := isOf hp.1; simp only [e17] at hKO; have fc0 := hS.2.2.2.2.2.2.2.2.2.2.2.2.2.2.2.2.2.2.2.2.2.2.2.1.cell0; have fc1 := hS.2.2.2.2.2.2.2.2.2.2.2.2.2.2.2.2.2.2.2.2.2.2.2.1.cell1; have fc2 := hS.2.2.2.2.2.2.2.2.2.2.2.2.2.2.2.2.2.2.2.2.2.2.2.1.cell2; go_simp; exact hKO _ W (.refl W) rfl
    ·have e17 := isOf hp.1; simp only [e17] at hKO; have fc0 := hS.2.2.2.2.2.2.2.2.2.2.2.2.2.2.2.2.1.cell0; have fc1 := hS.2.2.2.2.2.2.2.2.2.2.2.2.2.2.2.2.1.cell1; have fc2 := hS.2.2.2.2.2.2.2.2.2.2.2.2.2.2.2.2.1.cell2; go_simp; exact hKO _ W (.refl W) rfl
    ·have e17 := isOf hp.1; have e18 := isOf hp.2.1; have e19 := isOf hp.2.2.1; simp only [e17, e18, e19] at hKO; go_simp
     refine (Try.refRSameD (hS.2.2.2.2.2.2.2.2.2.2.2.2.2.2.2.2.2.2.2.2.2.2.1) (hS.2.2.2.2.2.2.2.2.2.2.2.2.2.2.2.1) HTW.out).mono ?_
     rintro e W1 ⟨rfl, hE⟩
     exact hKO _ W1 hE rfl
    ·have e17 := isOf hp.1; have e20 := isOf hp.2.1; simp only [e17, e20] at hKO; go_simp; exact hKO _ W (.refl W) rfl
    ·have e17 := isOf hp.1; have e21 := isOf hp.2.1; simp only [e17, e21] at hKO; go_simp; exact hKO _ W (.refl W) rfl
    ·have e22 := isOf hp.1; simp only [e22] at hKO; go_simp; exact hKO _ W (.refl W) rfl
    ·have e17 := isOf hp.1; have e22 := isOf hp.2.1; have e23 := isOf hp.2.2.1; simp only [e17, e22, e23] at hKO; go_simp; exact hKO _ W (.refl W) rfl
    ·have e17 := isOf hp.1; have e24 := isOf hp.2.1; simp only [e17, e24] at hKO; go_simp; exact hKO _ W (.refl W) rfl
    ·have e25 := isOf hp.1; simp only [e25] at hKO; go_simp; exact hKO _ W (.refl W) rfl
   intro vs W61 hS hp
   clear szw61 E0 hx1 p2 h47_4 p47_7 h48_4 p48_7 h49_4 p49_7 h50_4 p50_7 h51_4 p51_7 h52_4 p52_7 h53_4 p53_7 h53_0 h55_23 h56_3 p56_5 h56_2 h57_2 p57_4
   obtain ⟨E0, hx1, p2, h47_4, p47_7, h48_4, p48_7, h49_4, p49_7, h50_4, p50_7, h51_4, p51_7, h52_4, p52_7, h53_4, p53_7, h53_0, h55_23, h56_3, p56_5, h56_2, h57_2, p57_4, sz61⟩ := hS
   obtain ⟨h61_0, h61_1, h61_2, h61_3, h61_4, h61_5, h61_6, h61_7, h61_8, h61_9, h61_10, h61_11, h61_12, h61_13, h61_14, h61_15, h61_16, h61_17, h61_18, h61_19, h61_20, h61_21, h61_22, h61_23, h61_24, h61_25, h61_26, -⟩ := hp
   replace h61_0 : vs 0 = .bool true := h61_0
   replace h61_1 : vs 1 = .bool true := h61_1
   replace h61_2 : vs 2 = .agg #[.bool b49_7, .slice a49_7 n49_7 c49_7] := h61_2
   replace h61_3 : vs 3 = .agg #[.bool b47_7, .slice a47_7 n47_7 c47_7] := h61_3
   replace h61_4 : vs 4 = .bool true := h61_4
   replace h61_5 : vs 5 = .bool true := h61_5
   replace h61_6 : vs 6 = undef := h61_6
   replace h61_7 : vs 7 = undef := h61_7
   replace h61_8 : vs 8 = undef := h61_8
   replace h61_9 : vs 9 = .bool true := h61_9
   replace h61_10 : vs 10 = .bool true := h61_10
   replace h61_11 : vs 11 = .bool true := h61_11
   replace h61_12 : vs 12 = .agg #[.bool b57_4, .slice a57_4 n57_4 c57_4, .slice d57_4 m57_4 o57_4] := h61_12
   replace h61_13 : vs 13 = .agg #[.bool b53_7, .slice a53_7 n53_7 c53_7, .slice d53_7 m53_7 o53_7] := h61_13
   replace h61_14 : vs 14 = .int .i64 e3 := h61_14
   replace h61_15 : vs 15 = .bool true := h61_15
   replace h61_16 : vs 16 = .bool true := h61_16
   replace h61_17 : vs 17 = .bool true := h61_17
   replace h61_18 : vs 18 = .agg #[.bool b57_4, .slice a57_4 n57_4 c57_4, .slice d57_4 m57_4 o57_4] := h61_18
   replace h61_19 : vs 19 = .agg #[.bool b53_7, .slice a53_7 n53_7 c53_7, .slice d53_7 m53_7 o53_7] := h61_19
   replace h61_20 : vs 20 = .bool true := h61_20
   replace h61_21 : vs 21 = .bool false := h61_21
   replace h61_22 : vs 22 = .bool false := h61_22
   replace h61_23 : vs 23 = .bool true := h61_23
   replace h61_24 : vs 24 = .bool true := h61_24
   replace h61_25 : vs 25 = .bool true := h61_25
   replace h61_26 : vs 26 = .bool true := h61_26
   simp only [h61_0, h61_1, h61_2, h61_3, h61_4, h61_5, h61_6, h61_7, h61_8, h61_9, h61_10, h61_11, h61_12, h61_13, h61_14, h61_15, h61_16, h61_17, h61_18, h61_19, h61_20, h61_21, h61_22, h61_23, h61_24, h61_25, h61_26]
   clear h61_0 h61_1 h61_2 h61_3 h61_4 h61_5 h61_6 h61_7 h61_8 h61_9 h61_10 h61_11 h61_12 h61_13 h61_14 h61_15 h61_16 h61_17 h61_18 h61_19 h61_20 h61_21 h61_22 h61_23 h61_24 h61_25 h61_26
   obtain ⟨kp2_0, kp2_1, kp2_2⟩ := p2.c3
   obtain ⟨kp47_7_0, kp47_7_1⟩ := p47_7.c2
   obtain ⟨kp48_7_0, kp48_7_1⟩ := p48_7.c2
   obtain ⟨kp49_7_0, kp49_7_1⟩ := p49_7.c2
   obtain ⟨kp50_7_0, kp50_7_1, kp50_7_2⟩ := p50_7.c3
   obtain ⟨kp51_7_0, kp51_7_1, kp51_7_2⟩ := p51_7.c3
   obtain ⟨kp52_7_0, kp52_7_1, kp52_7_2⟩ := p52_7.c3
   obtain ⟨kp53_7_0, kp53_7_1, kp53_7_2⟩ := p53_7.c3
   obtain ⟨kp56_5_0, kp56_5_1, kp56_5_2⟩ := p56_5.c3
   obtain ⟨kp57_4_0, kp57_4_1, kp57_4_2⟩ := p57_4.c3
   go_wp2; go_ret
   exact ⟨rfl, E0⟩
  ·have HTW := Lib.hid htw
   clear htw; have ltp57_4 := p57_4.lt; have szw62 := Ext.size E0
   refine region_gs [.one fun v _ => v = .bool true,
     .one fun v _ => v = .bool true,
     .one fun v _ => v = .agg #[.bool b49_7, .slice a49_7 n49_7 c49_7],
     .one fun v _ => v = .agg #[.bool b47_7, .slice a47_7 n47_7 c47_7],
     .one fun v _ => v = .bool true,
     .one fun v _ => v = .bool true,
     .one fun v _ => v = undef,
     .one fun v _ => v = undef,
     .one fun v _ => v = undef,
     .one fun v _ => v = .bool true,
     .one fun v _ => v = .bool true,
     .one fun v _ => v = .bool true,
     .one fun v _ => v = .agg #[.bool b57_4, .slice a57_4 n57_4 c57_4, .slice d57_4 m57_4 o57_4],
     .one fun v _ => v = .agg #[.bool b53_7, .slice a53_7 n53_7 c53_7, .slice d53_7 m53_7 o53_7],
     .one fun v _ => v = .int .i64 e3,
     .one fun v _ => v = .bool true,
     .one fun v _ => v = .bool true,
     .one fun v _ => v = .bool true,
     .one fun v _ => v = .agg #[.bool b57_4, .slice a57_4 n57_4 c57_4, .slice d57_4 m57_4 o57_4],
     .one fun v _ => v = .agg #[.bool b53_7, .slice a53_7 n53_7 c53_7, .slice d53_7 m53_7 o53_7],
     .one fun v _ => v = .bool false,
     .one fun v _ => v = .bool true,
     .one fun v _ => v = .bool true,
     .one fun v _ => v = undef,
     .one fun v _ => v = .bool true,
     .one fun v _ => v = .bool true,
     .one fun v _ => v = .bool true]
    (fun W => Ext w W ∧ Rw W (.agg #[.bool b1, .slice a1 n1 c1, .slice d1 m1 o1]) x ∧ Bx3 W w.heap.size 27 (.bool b1) (.slice a1 n1 c1) (.slice d1 m1 o1) ∧ Zw W (.agg #[.bool b47_7, .slice a47_7 n47_7 c47_7]) F ∧ Bx2 W g47_7 25 (.bool b47_7) (.slice a47_7 n47_7 c47_7) ∧ Zw W (.agg #[.bool b48_7, .slice a48_7 n48_7 c48_7]) C ∧ Bx2 W g48_7 25 (.bool b48_7) (.slice a48_7 n48_7 c48_7) ∧ Zw W (.agg #[.bool b49_7, .slice a49_7 n49_7 c49_7]) M ∧ Bx2 W g49_7 25 (.bool b49_7) (.slice a49_7 n49_7 c49_7) ∧ Rw W (.agg #[.bool b50_7, .slice a50_7 n50_7 c50_7, .slice d50_7 m50_7 o50_7]) X ∧ Bx3 W g50_7 27 (.bool b50_7) (.slice a50_7 n50_7 c50_7) (.slice d50_7 m50_7 o50_7) ∧ Rw W (.agg #[.bool b51_7, .slice a51_7 n51_7 c51_7, .slice d51_7 m51_7 o51_7]) Y ∧ Bx3 W g51_7 27 (.bool b51_7) (.slice a51_7 n51_7 c51_7) (.slice d51_7 m51_7 o51_7) ∧ Rw W (.agg #[.bool b52_7, .slice a52_7 n52_7 c52_7, .slice d52_7 m52_7 o52_7]) Z ∧ Bx3 W g52_7 27 (.bool b52_7) (.slice a52_7 n52_7 c52_7) (.slice d52_7 m52_7 o52_7) ∧ Rw W (.agg #[.bool b53_7, .slice a53_7 n53_7 c53_7, .slice d53_7 m53_7 o53_7]) S ∧ Bx3 W g53_7 27 (.bool b53_7) (.slice a53_7 n53_7 c53_7) (.slice d53_7 m53_7 o53_7) ∧ Zw W u53_0 1 ∧ Rw W u55_23 S ∧ Rw W (.agg #[.bool b56_5, .slice a56_5 n56_5 c56_5, .slice d56_5 m56_5 o56_5]) D ∧ Bx3 W g56_5 27 (.bool b56_5) (.slice a56_5 n56_5 c56_5) (.slice d56_5 m56_5 o56_5) ∧ Rw W u56_2 (Z - x) ∧ Rw W (.agg #[.bool b57_4, .slice a57_4 n57_4 c57_4, .slice d57_4 m57_4 o57_4]) (D + D) ∧ Bx3 W g57_4 27 (.bool b57_4) (.slice a57_4 n57_4 c57_4) (.slice d57_4 m57_4 o57_4) ∧ W57.heap.size ≤ W.heap.size) ⟨Good.is _, Good.is _, Good.is _, Good.is _, Good.is _, Good.is _, Good.is _, Good.is _, Good.is _, Good.is _, Good.is _, Good.is _, Good.is _, Good.is _, Good.is _, Good.is _, Good.is _, Good.is _, Good.is _, Good.is _, Good.is _, Good.is _, Good.is _, Good.is _, Good.is _, Good.is _, Good.is _, trivial⟩
    ⟨E0, hx1, p2, h47_4, p47_7, h48_4, p48_7, h49_4, p49_7, h50_4, p50_7, h51_4, p51_7, h52_4, p52_7, h53_4, p53_7, h53_0, h55_23, h56_3, p56_5, h56_2, h57_2, p57_4, Nat.le_refl _⟩ (A := ?A62) ?hA62 ?howe62 ?hfin62
   case hA62 =>
    intro vs
    simp only [putAll, Act.put, sA, sZ, sS, Nat.zero_add, Nat.reduceAdd]
    exact rfl
   case howe62 =>
    clear E0 hx1 p2 h47_4 p47_7 h48_4 p48_7 h49_4 p49_7 h50_4 p50_7 h51_4 p51_7 h52_4 p52_7 h53_4 p53_7 h53_0 h55_23 h56_3 p56_5 h56_2 h57_2 p57_4
    intro hf
    refine ⟨oE 0 [] hf rfl ?_, oE 1 [0] hf rfl ?_, oE 2 [1] hf rfl ?_, oE 3 [1] hf rfl ?_, oE 4 [1, 2, 3] hf rfl ?_, oE 5 [1, 4] hf rfl ?_, oE 6 [5] hf rfl ?_, oE 7 [5] hf rfl ?_, oE 8 [5] hf rfl ?_, oE 9 [1, 5, 8] hf rfl ?_, oE 10 [1, 9] hf rfl ?_, oE 11 [10] hf rfl ?_, oE 12 [11] hf rfl ?_, oE 13 [11] hf rfl ?_, oE 14 [11, 12, 13] hf rfl ?_, oE 15 [11, 14] hf rfl ?_, oE 16 [11, 15] hf rfl ?_, oE 17 [16] hf rfl ?_, oE 18 [17] hf rfl ?_, oE 19 [17] hf rfl ?_, oE 20 [17, 18, 19] hf rfl ?_, oE 21 [17, 20] hf rfl ?_, oE 22 [17, 21] hf rfl ?_, oE 23 [22] hf rfl ?_, oE 24 [17, 22, 23] hf rfl ?_, oE 25 [17, 24] hf rfl ?_, oE 26 [25] hf rfl ?_, trivial⟩
    all_goals intro vs W hS hp hx KO hKO
    all_goals simp only [Act.put, sA, sZ, sS] at hKO
    ·go_simp
     refine (Try.alive06 _).mono ?_
     rintro e W1 ⟨rfl, hE⟩
     exact hKO _ W1 hE rfl
    ·have e0 := isOf hp.1; simp only [e0] at hKO; go_simp; exact hKO _ W (.refl W) rfl
    ·have e1 := isOf hp.1; simp only [e1] at hKO; have fc0 := hS.2.2.2.2.2.2.2.2.1.cell0; have fc1 := hS.2.2.2.2.2.2.2.2.1.cell1; go_simp; exact hKO _ W (.refl W) rfl
    ·have e1 := isOf hp.1; simp only [e1] at hKO; have fc0 := hS.2.2.2.2.1.cell0; have fc1 := hS.2.2.2.2.1.cell1; go_simp; exact hKO _ W (.refl W) rfl
    ·have e1 := isOf hp.1; have e2 := isOf hp.2.1; have e3 := isOf hp.2.2.1; simp only [e1, e2, e3] at hKO; go_simp
     refine (Try.refZSameD (hS.2.2.2.2.2.2.2.1) (hS.2.2.2.1) HMF.out).mono ?_
     rintro e W1 ⟨rfl, hE⟩
     exact hKO _ W1 hE rfl
    ·have e1 := isOf hp.1; have e4 := isOf hp.2.1; simp only [e1, e4] at hKO; go_simp; exact hKO _ W (.refl W) rfl
    ·have e5 := isOf hp.1; simp only [e5] at hKO; go_simp; exact hKO _ W (.refl W) rfl
    ·have e5 := isOf hp.1; simp only [e5] at hKO; go_simp; exact hKO _ W (.refl W) rfl
    ·have e5 := isOf hp.1; simp only [e5] at hKO; go_simp; exact hKO _ W (.refl W) rfl
    ·have e1 := isOf hp.1; have e5 := isOf hp.2.1; have e8 := isOf hp.2.2.1; simp only [e1, e5, e8] at hKO; go_simp; exact hKO _ W (.refl W) rfl
    ·have e1 := isOf hp.1; have e9 := isOf hp.2.1; simp only [e1, e9] at hKO; go_simp; exact hKO _ W (.refl W) rfl
    ·have e10 := isOf hp.1; simp only [e10] at hKO; go_simp; exact hKO _ W (.refl W) rfl
    ·have e11 := isOf hp.1; simp only [e11] at hKO; have fc0 := hS.2.2.2.2.2.2.2.2.2.2.2.2.2.2.2.2.2.2.2.2.2.2.2.1.cell0; have fc1 := hS.2.2.2.2.2.2.2.2.2.2.2.2.2.2.2.2.2.2.2.2.2.2.2.1.cell1; have fc2 := hS.2.2.2.2.2.2.2.2.2.2.2.2.2.2.2.2.2.2.2.2.2.2.2.1.cell2; go_simp; exact hKO _ W (.refl W) rfl
    ·have e11 := isOf hp.1; simp only [e11] at hKO; have fc0 := hS.2.2.2.2.2.2.2.2.2.2.2.2.2.2.2.2.1.cell0; have fc1 := hS.2.2.2.2.2.2.2.2.2.2.2.2.2.2.2.2.1.cell1; have fc2 := hS.2.2.2.2.2.2.2.2.2.2.2.2.2.2.2.2.1.cell2; go_simp; exact hKO _ W (.refl W) rfl
    ·have e11 := isOf hp.1; have e12 := isOf hp.2.1; have e13 := isOf hp.2.2.1; simp only [e11, e12, e13] at hKO; go_simp
     refine (Try.refRCmpR (hS.2.2.2.2.2.2.2.2.2.2.2.2.2.2.2.2.2.2.2.2.2.2.1) (hS.2.2.2.2.2.2.2.2.2.2.2.2.2.2.2.1) SDD.out SS.out (by omega) HC3.out).mono ?_
     rintro e W1 ⟨rfl, hE⟩
     exact hKO _ W1 hE rfl
    ·have e11 := isOf hp.1; have e14 := isOf hp.2.1; simp only [e11, e14] at hKO; go_simp; exact hKO _ W (.refl W) rfl
    ·have e11 := isOf hp.1; have e15 := isOf hp.2.1; simp only [e11, e15] at hKO; go_simp; exact hKO _ W (.refl W) rfl
    ·have e16 := isOf hp.1; simp only [e16] at hKO; go_simp; exact hKO _ W (.refl W) rfl
    ·have e17 := isOf hp.1; simp only [e17] at hKO; have fc0 := hS.2.2.2.2.2.2.2.2.2.2.2.2.2.2.2.2.2.2.2.2.2.2.2.1.cell0; have fc1 := hS.2.2.2.2.2.2.2.2.2.2.2.2.2.2.2.2.2.2.2.2.2.2.2.1.cell1; have fc2 := hS.2.2.2.2.2.2.2.2.2.2.2.2.2.2.2.2.2.2.2.2.2.2.2.1.cell2; go_simp; exact hKO _ W (.refl W) rfl
    ·have e17 := isOf hp.1; simp only [e17] at hKO; have fc0 := hS.2.2.2.2.2.2.2.2.2.2.2.2.2.2.2.2.1.cell0; have fc1 := hS.2.2.2.2.2.2.2.2.2.2.2.2.2.2.2.2.1.cell1; have fc2 := hS.2.2.2.2.2.2.2.2.2.2.2.2.2.2.2.2.1.cell2; go_simp; exact hKO _ W (.refl W) rfl
    ·have e17 := isOf hp.1; have e18 := isOf hp.2.1; have e19 := isOf hp.2.2.1; simp only [e17, e18, e19] at hKO; go_simp
     refine (Try.refRSameF6 (hS.2.2.2.2.2.2.2.2.2.2.2.2.2.2.2.2.2.2.2.2.2.2.1) (hS.2.2.2.2.2.2.2.2.2.2.2.2.2.2.2.1) HTW.out).mono ?_
     rintro e W1 ⟨rfl, hE⟩
     exact hKO _ W1 hE rfl
    ·have e17 := isOf hp.1; have e20 := isOf hp.2.1; simp only [e17, e20] at hKO; go_simp; exact hKO _ W (.refl W) rfl
    ·have e17 := isOf hp.1; have e21 := isOf hp.2.1; simp only [e17, e21] at hKO; go_simp; exact hKO _ W (.refl W) rfl
    ·have e22 := isOf hp.1; simp only [e22] at hKO; go_simp; exact hKO _ W (.refl W) rfl
    ·have e17 := isOf hp.1; have e22 := isOf hp.2.1; have e23 := isOf hp.2.2.1; simp only [e17, e22, e23] at hKO; go_simp; exact hKO _ W (.refl W) rfl
    ·have e17 := isOf hp.1; have e24 := isOf hp.2.1; simp only [e17, e24] at hKO; go_simp; exact hKO _ W (.refl W) rfl
    ·have e25 := isOf hp.1; simp only [e25] at hKO; go_simp; exact hKO _ W (.refl W) rfl
   intro vs W62 hS hp
   clear szw62 E0 hx1 p2 h47_4 p47_7 h48_4 p48_7 h49_4 p49_7 h50_4 p50_7 h51_4 p51_7 h52_4 p52_7 h53_4 p53_7 h53_0 h55_23 h56_3 p56_5 h56_2 h57_2 p57_4
   obtain ⟨E0, hx1, p2, h47_4, p47_7, h48_4, p48_7, h49_4, p49_7, h50_4, p50_7, h51_4, p51_7, h52_4, p52_7, h53_4, p53_7, h53_0, h55_23, h56_3, p56_5, h56_2, h57_2, p57_4, sz62⟩ := hS
   obtain ⟨h62_0, h62_1, h62_2, h62_3, h62_4, h62_5, h62_6, h62_7, h62_8, h62_9, h62_10, h62_11, h62_12, h62_13, h62_14, h62_15, h62_16, h62_17, h62_18, h62_19, h62_20, h62_21, h62_22, h62_23, h62_24, h62_25, h62_26, -⟩ := hp
   replace h62_0 : vs 0 = .bool true := h62_0
   replace h62_1 : vs 1 = .bool true := h62_1
   replace h62_2 : vs 2 = .agg #[.bool b49_7, .slice a49_7 n49_7 c49_7] := h62_2
   replace h62_3 : vs 3 = .agg #[.bool b47_7, .slice a47_7 n47_7 c47_7] := h62_3
   replace h62_4 : vs 4 = .bool true := h62_4
   replace h62_5 : vs 5 = .bool true := h62_5
   replace h62_6 : vs 6 = undef := h62_6
   replace h62_7 : vs 7 = undef := h62_7
   replace h62_8 : vs 8 = undef := h62_8
   replace h62_9 : vs 9 = .bool true := h62_9
   replace h62_10 : vs 10 = .bool true := h62_10
   replace h62_11 : vs 11 = .bool true := h62_11
   replace h62_12 : vs 12 = .agg #[.bool b57_4, .slice a57_4 n57_4 c57_4, .slice d57_4 m57_4 o57_4] := h62_12
   replace h62_13 : vs 13 = .agg #[.bool b53_7, .slice a53_7 n53_7 c53_7, .slice d53_7 m53_7 o53_7] := h62_13
   replace h62_14 : vs 14 = .int .i64 e3 := h62_14
   replace h62_15 : vs 15 = .bool true := h62_15
   replace h62_16 : vs 16 = .bool true := h62_16
   replace h62_17 : vs 17 = .bool true := h62_17
   replace h62_18 : vs 18 = .agg #[.bool b57_4, .slice a57_4 n57_4 c57_4, .slice d57_4 m57_4 o57_4] := h62_18
   replace h62_19 : vs 19 = .agg #[.bool b53_7, .slice a53_7 n53_7 c53_7, .slice d53_7 m53_7 o53_7] := h62_19
   replace h62_20 : vs 20 = .bool false := h62_20
   replace h62_21 : vs 21 = .bool true := h62_21
   replace h62_22 : vs 22 = .bool true := h62_22
   replace h62_23 : vs 23 = undef := h62_23
   replace h62_24 : vs 24 = .bool true := h62_24
   replace h62_25 : vs 25 = .bool true := h62_25
   replace h62_26 : vs 26 = .bool true := h62_26
   simp only [h62_0, h62_1, h62_2, h62_3, h62_4, h62_5, h62_6, h62_7, h62_8, h62_9, h62_10, h62_11, h62_12, h62_13, h62_14, h62_15, h62_16, h62_17, h62_18, h62_19, h62_20, h62_21, h62_22, h62_23, h62_24, h62_25, h62_26]
   clear h62_0 h62_1 h62_2 h62_3 h62_4 h62_5 h62_6 h62_7 h62_8 h62_9 h62_10 h62_11 h62_12 h62_13 h62_14 h62_15 h62_16 h62_17 h62_18 h62_19 h62_20 h62_21 h62_22 h62_23 h62_24 h62_25 h62_26
   obtain ⟨kp2_0, kp2_1, kp2_2⟩ := p2.c3
   obtain ⟨kp47_7_0, kp47_7_1⟩ := p47_7.c2
   obtain ⟨kp48_7_0, kp48_7_1⟩ := p48_7.c2
   obtain ⟨kp49_7_0, kp49_7_1⟩ := p49_7.c2
   obtain ⟨kp50_7_0, kp50_7_1, kp50_7_2⟩ := p50_7.c3
   obtain ⟨kp51_7_0, kp51_7_1, kp51_7_2⟩ := p51_7.c3
   obtain ⟨kp52_7_0, kp52_7_1, kp52_7_2⟩ := p52_7.c3
   obtain ⟨kp53_7_0, kp53_7_1, kp53_7_2⟩ := p53_7.c3
   obtain ⟨kp56_5_0, kp56_5_1, kp56_5_2⟩ := p56_5.c3
   obtain ⟨kp57_4_0, kp57_4_1, kp57_4_2⟩ := p57_4.c3
   go_wp2; go_ret
   exact ⟨rfl, E0⟩

end Go.Rt
