/-
 The laws of chapter 06 (dyads): Between, off the grid.
-/
import Derived.Test.YtkmilnnbmamknaaSqz
import Derived.Test.YtkmilnnbmamknaaDyadD
namespace Go.Rt
open Go Go.RowKit Go.Proofs


set_option maxRecDepth 100000 in
set_option maxHeartbeats 16000000 in
theorem Try.lawDyadBetweenFF {b1 : Bool} {a1 : Option Addr} {n1 c1 : Nat} {d1 : Option Addr} {m1 o1 : Nat} {xs1 ys1 : List Nat} {w : World} (h1 : Nt w (.slice a1 n1 c1) xs1) (k1 : Nt w (.slice d1 m1 o1) ys1) (HG0 : Hid (fewR b1 xs1 ys1 ((4 : Nat) : Int) = true)) (x : Rat) (hx1 : Rw w (.agg #[.bool b1, .slice a1 n1 c1, .slice d1 m1 o1]) x) (s1 : SmR 4 x) (K : Nat) (hKb : K ≤ 400) (hxo : Hid (((x * P2 K).floor : Rat) / P2 K ≠ x)) (hmf : Hid (nearR (x * P2 K) ≠ (x * P2 K).floor)) :
  Calls Try.prog 3 #[.agg #[.bool b1, .slice a1 n1 c1, .slice d1 m1 o1], .int .i64 (K : Int)] w fun e w' => e = .returned (.bool true) ∧ Ext w w' := by
 have hk0 : ¬ ((K : Int) < 0) := by omega
 have hk0d := decide_eq_false hk0
 have hk4 : ¬ (400 < (K : Int)) := by omega
 have hk4d := decide_eq_false hk4
 have hk4n : ¬ 400 < K := by omega
 have hk0n : 0 ≤ K := Nat.zero_le K
 obtain ⟨F, hF_⟩ : ∃ F : Int, (x * P2 K).floor = F := ⟨_, rfl⟩
 obtain ⟨C, hC_⟩ : ∃ C : Int, (x * P2 K).ceil = C := ⟨_, rfl⟩
 obtain ⟨M, hM_⟩ : ∃ M : Int, nearR (x * P2 K) = M := ⟨_, rfl⟩
 obtain ⟨X, hX_⟩ : ∃ X : Rat, (F : Rat) / P2 K = X := ⟨_, rfl⟩
 obtain ⟨Y, hY_⟩ : ∃ Y : Rat, (C : Rat) / P2 K = Y := ⟨_, rfl⟩
 obtain ⟨Z, hZ_⟩ : ∃ Z : Rat, (M : Rat) / P2 K = Z := ⟨_, rfl⟩
 obtain ⟨S, hS_⟩ : ∃ S : Rat, ((1 : Int) : Rat) / P2 K = S := ⟨_, rfl⟩
 obtain ⟨D, hD_⟩ : ∃ D : Rat, (Z - x).abs = D := ⟨_, rfl⟩
 obtain ⟨e1, he1_⟩ : ∃ e1 : Int, cmpR X x = e1 := ⟨_, rfl⟩
 obtain ⟨e2, he2_⟩ : ∃ e2 : Int, cmpR x Y = e2 := ⟨_, rfl⟩
 obtain ⟨e3, he3_⟩ : ∃ e3 : Int, cmpR (D + D) S = e3 := ⟨_, rfl⟩
 have HFl := Lib.hid hF_
 have HCl := Lib.hid hC_
 have HNr := Lib.hid hM_
 have HX := Lib.hid hX_
 have HY := Lib.hid hY_
 have HZ := Lib.hid hZ_
 have HSt := Lib.hid hS_
 have HD := Lib.hid hD_
 have HC1 := Lib.hid he1_
 have HC2 := Lib.hid he2_
 have HC3 := Lib.hid he3_
 have he1 : Hid (e1 ≤ 0) := Lib.hid (by rw [← he1_, cmpR_le0, ← hX_, ← hF_]; exact low_le x K)
 have he2 : Hid (e2 ≤ 0) := Lib.hid (by rw [← he2_, cmpR_le0, ← hY_, ← hC_]; exact le_high x K)
 have hon : X = x ↔ Y = x := by rw [← hX_, ← hY_, ← hF_, ← hC_]; exact on_iff x K
 have hside : X ≠ x → Y - X = S := by rw [← hX_, ← hY_, ← hS_, ← hF_, ← hC_]; exact side_by
 have hmid : M = F ∨ M = C := by rw [← hM_, ← hF_, ← hC_]; exact near_end _
 have hhalf := near_half x K
 rw [hM_, hZ_, hD_, hS_] at hhalf
 have he3 : Hid (e3 ≤ 0) := Lib.hid (by rw [← he3_, cmpR_le0]; exact hhalf.1)
 have hev := hhalf.2
 have SF : Hid (Sm 12 F.natAbs) := Lib.hid (by rw [← hF_]; exact (Sm.floor s1 K).mono (by omega))
 have SC : Hid (Sm 12 C.natAbs) := Lib.hid (by rw [← hC_]; exact (Sm.ceil s1 K).mono (by omega))
 have SM : Hid (Sm 12 M.natAbs) := Lib.hid (by rw [← hM_]; exact (Sm.near s1 K).mono (by omega))
 have S1 : Hid (Sm 12 (1 : Int).natAbs) := Lib.hid ((Sm.small (by omega)).mono (by omega))
 have SX : Hid (SmR 20 X) := Lib.hid (by rw [← hX_, ← back_eq]; exact (SmR.back SF.out K).mono (by omega))
 have SY : Hid (SmR 20 Y) := Lib.hid (by rw [← hY_, ← back_eq]; exact (SmR.back SC.out K).mono (by omega))
 have SZ : Hid (SmR 20 Z) := Lib.hid (by rw [← hZ_, ← back_eq]; exact (SmR.back SM.out K).mono (by omega))
 have SS : Hid (SmR 20 S) := Lib.hid (by rw [← hS_, ← back_eq]; exact (SmR.back S1.out K).mono (by omega))
 have Sx : Hid (SmR 20 x) := Lib.hid (s1.mono (by omega))
 have SD : Hid (SmR 41 D) := Lib.hid (by rw [← hD_]; exact (SZ.out.sub Sx.out).abs)
 have SDD : Hid (SmR 83 (D + D)) := Lib.hid (SD.out.add SD.out)
 have SS : Hid (SmR 83 S) := Lib.hid (SS.out.mono (by omega))
 have SS20 : Hid (SmR 20 S) := Lib.hid (by rw [← hS_, ← back_eq]; exact (SmR.back S1.out K).mono (by omega))
 have HON : Hid (X ≠ x) := Lib.hid (by rw [← hX_, ← hF_]; exact hxo.out)
 have HMF : Hid (M ≠ F) := Lib.hid (by rw [← hM_, ← hF_]; exact hmf.out)
 clear hxo hmf; clear hF_ hC_ hM_ hX_ hY_ hZ_ hS_ hD_ he1_ he2_ he3_; clear hhalf
 have e1le : e1 ≤ 0 := he1.out
 have e1led := decide_eq_true e1le
 have e1gt : ¬ (0 < e1) := by omega
 have e1gtd := decide_eq_false e1gt
 have e2le : e2 ≤ 0 := he2.out
 have e2led := decide_eq_true e2le
 have e2gt : ¬ (0 < e2) := by omega
 have e2gtd := decide_eq_false e2gt
 have e3le : e3 ≤ 0 := he3.out
 have e3led := decide_eq_true e3le
 have e3gt : ¬ (0 < e3) := by omega
 have e3gtd := decide_eq_false e3gt
 have HON2 : Hid (Y ≠ x) := Lib.hid (fun h => HON.out (hon.2 h))
 have HSd := Lib.hid (hside HON.out)
 have HMC : Hid (M = C) := Lib.hid (hmid.resolve_left HMF.out)
 have HEV := Lib.hid hev
 clear hon hside hmid hev
 obtain ⟨W0, hW0⟩ : ∃ W0, W0 = (w.alloc (.cells #[.bool b1, .slice a1 n1 c1, .slice d1 m1 o1] 27)) := ⟨_, rfl⟩
 have E0 : Ext w W0 := by rw [hW0]; exact (Ext.alloc1 w (.cells #[.bool b1, .slice a1 n1 c1, .slice d1 m1 o1] 27))
 replace h1 : Nt W0 (.slice a1 n1 c1) xs1 := h1.ext E0
 replace k1 : Nt W0 (.slice d1 m1 o1) ys1 := k1.ext E0
 replace hx1 : Rw W0 (.agg #[.bool b1, .slice a1 n1 c1, .slice d1 m1 o1]) x := hx1.ext E0
 have p2 : Bx3 W0 w.heap.size 27 (.bool b1) (.slice a1 n1 c1) (.slice d1 m1 o1) := by rw [hW0]; exact (Bx3.new w 27 (.bool b1) (.slice a1 n1 c1) (.slice d1 m1 o1))
 go_enter Try.func3, Try.ntmps3
 obtain ⟨kp2_0, kp2_1, kp2_2⟩ := p2.c3
 go_wp2_with fail
 rw [← hW0]
 clear hW0; clear kp2_0 kp2_1 kp2_2
 refine (Try.refRFew h1 k1 4 (by omega)).mono ?_
 rintro e Wf0 ⟨rfl, hE⟩
 rw [HG0.out]; replace E0 := (Ext.trans E0 hE); replace h1 := (h1.ext hE)
 replace k1 := (k1.ext hE)
 replace hx1 := (hx1.ext hE); replace p2 := (p2.ext hE); clear hE; clear h1 k1
 obtain ⟨kp2_0, kp2_1, kp2_2⟩ := p2.c3
 go_upto_region 3 with (fail)
 clear kp2_0 kp2_1 kp2_2; have ltp2 := p2.lt; have szw63 := Ext.size E0
 refine region_gs [.one fun v _ => v = .agg #[.bool b1, .slice a1 n1 c1, .slice d1 m1 o1],
   .one fun v _ => v = .int .i64 (K : Int),
   .one fun v W => ∃ v', v = .tuple #[v', .int .i64 0] ∧ (fun v W => Zw W v F) v' W,
   .one fun v W => ∃ v', v = .tuple #[v', .int .i64 0] ∧ (fun v W => Zw W v F) v' W,
   .one fun v W => Zw W v F,
   .one fun v _ => v = .int .i64 0,
   .one fun v W => ∃ g, v = .pointer (some ⟨g, 0, none⟩) ∧ Wf0.heap.size ≤ g ∧ Form W g 25 2,
   .three 6 4 (fun p r _ W => Put2 Wf0.heap.size 25 p r W),
   .one fun v _ => v = .int .i64 0]
  (fun W => Ext w W ∧ Rw W (.agg #[.bool b1, .slice a1 n1 c1, .slice d1 m1 o1]) x ∧ Bx3 W w.heap.size 27 (.bool b1) (.slice a1 n1 c1) (.slice d1 m1 o1) ∧ Wf0.heap.size ≤ W.heap.size) ⟨Good.is _, Good.is _, (Good.zed _).tup _, (Good.zed _).tup _, Good.zed _, Good.is _, Good.box _ _ _, cert_put2, Good.is _, trivial⟩
  ⟨E0, hx1, p2, Nat.le_refl _⟩ (A := ?A63) ?hA63 ?howe63 ?hfin63
 case hA63 =>
  intro vs
  simp only [putAll, Act.put, sA, sZ, sS, Nat.zero_add, Nat.reduceAdd]
  exact rfl
 case howe63 =>
  clear E0 hx1 p2
  intro hf
  refine ⟨oE 0 [] hf rfl ?_, oE 1 [] hf rfl ?_, oE 2 [0, 1] hf rfl ?_, oE 3 [2] hf rfl ?_, oE 4 [3] hf rfl ?_, oE 5 [3] hf rfl ?_, oE 6 [] hf rfl ?_, oW 7 [6, 4] hf rfl ?_, oE 8 [5] hf rfl ?_, trivial⟩
  all_goals intro vs W hS hp hx KO hKO
  all_goals simp only [Act.put, sA, sZ, sS] at hKO
  ·have fc0 := hS.2.2.1.cell0; have fc1 := hS.2.2.1.cell1; have fc2 := hS.2.2.1.cell2; go_simp; exact hKO _ W (.refl W) rfl
  ·go_simp; exact hKO _ W (.refl W) rfl
  ·have e0 := isOf hp.1; have e1 := isOf hp.2.1; simp only [e0, e1] at hKO; go_simp
   refine (Try.dyadFloor (hS.2.1) s1 (by omega) K (by omega)).mono ?_
   rintro e W1 ⟨v, rfl, hv, hE⟩
   rw [HFl.out] at hv
   exact hKO _ W1 hE ⟨_, rfl, hv⟩
  ·have q2 := hp.1
   obtain ⟨u, ev, hu⟩ := q2
   replace ev : vs 2 = _ := ev; simp only [ev] at hKO; go_simp; exact hKO _ W (Ext.refl W) ⟨u, rfl, hu⟩
  ·have q3 := hp.1
   obtain ⟨u, ev, hu⟩ := q3
   replace ev : vs 3 = _ := ev; simp only [ev] at hKO; go_simp; exact hKO _ W (Ext.refl W) hu
  ·have q3 := hp.1
   obtain ⟨u, ev, hu⟩ := q3
   replace ev : vs 3 = _ := ev; simp only [ev] at hKO; go_simp; exact hKO _ W (.refl W) rfl
  ·have hn := Bx2.new W 25 (.bool false) (.slice none 0 0)
   have hE := Ext.alloc1 W (.cells #[.bool false, .slice none 0 0] 25)
   have hsz := hS.2.2.2
   go_simp
   exact hKO _ _ hE ⟨_, rfl, hsz, hn.form⟩
  ·have q6 := hp.1; have q4 := hp.2.1
   obtain ⟨g, ev, hg, hf⟩ := q6
   replace ev : vs 6 = _ := ev
   obtain ⟨x0_0, x0_1, hx, hno⟩ := hf.bx2
   have qr := q4
   obtain ⟨b3, a3, n3, c3, er, -, -⟩ := qr
   replace er : vs 4 = _ := er
   have r0 := hx.froz0
   have t0 := hx.cell0
   have r1 := hx.froz1
   have t1 := hx.cell1
   have hw := Wr.set2 hx hno b3 a3 n3 c3
   have hq := hx.set (.bool b3) (.slice a3 n3 c3)
   simp only [ev, er] at hKO; go_simp
   exact hKO _ _ hw ⟨(Ext.wr hS.1 hw (by omega)), (hS.2.1.wr hw), (hS.2.2.1.wr hw (by omega)), (Nat.le_trans hS.2.2.2 hw.apart.size)⟩ ⟨g, b3, a3, n3, c3, ev, er, hg, hq⟩
  ·have e5 := isOf hp.1; simp only [e5] at hKO; go_simp; exact hKO _ W (.refl W) rfl
 intro vs W63 hS hp
 clear szw63 E0 hx1 p2
 obtain ⟨E0, hx1, p2, sz63⟩ := hS
 obtain ⟨h63_0, h63_1, h63_2, h63_3, h63_4, h63_5, h63_6, h63_7, h63_8, -⟩ := hp
 obtain ⟨g63_7, b63_7, a63_7, n63_7, c63_7, ev63_7, er63_7, hg63_7, p63_7⟩ := h63_7
 replace ev63_7 : vs 6 = _ := ev63_7; replace er63_7 : vs 4 = _ := er63_7; replace h63_4 := (show Zw W63 (vs 4) F from h63_4)
 rw [er63_7] at h63_4
 replace h63_0 : vs 0 = .agg #[.bool b1, .slice a1 n1 c1, .slice d1 m1 o1] := h63_0
 replace h63_1 : vs 1 = .int .i64 (K : Int) := h63_1
 replace h63_5 : vs 5 = .int .i64 0 := h63_5
 replace h63_8 : vs 8 = .int .i64 0 := h63_8
 simp only [ev63_7, er63_7, h63_0, h63_1, h63_5, h63_8]
 clear ev63_7 er63_7 h63_0 h63_1 h63_5 h63_8 h63_2 h63_3 h63_6
 obtain ⟨kp2_0, kp2_1, kp2_2⟩ := p2.c3
 obtain ⟨kp63_7_0, kp63_7_1⟩ := p63_7.c2
 go_upto_region 4 with (fail)
 clear kp2_0 kp2_1 kp2_2 kp63_7_0 kp63_7_1; have ltp63_7 := p63_7.lt; have szw64 := Ext.size E0
 refine region_gs [.one fun v _ => v = .agg #[.bool b1, .slice a1 n1 c1, .slice d1 m1 o1],
   .one fun v _ => v = .int .i64 (K : Int),
   .one fun v W => ∃ v', v = .tuple #[v', .int .i64 0] ∧ (fun v W => Zw W v C) v' W,
   .one fun v W => ∃ v', v = .tuple #[v', .int .i64 0] ∧ (fun v W => Zw W v C) v' W,
   .one fun v W => Zw W v C,
   .one fun v _ => v = .int .i64 0,
   .one fun v W => ∃ g, v = .pointer (some ⟨g, 0, none⟩) ∧ W63.heap.size ≤ g ∧ Form W g 25 2,
   .three 6 4 (fun p r _ W => Put2 W63.heap.size 25 p r W),
   .one fun v _ => v = .int .i64 0]
  (fun W => Ext w W ∧ Rw W (.agg #[.bool b1, .slice a1 n1 c1, .slice d1 m1 o1]) x ∧ Bx3 W w.heap.size 27 (.bool b1) (.slice a1 n1 c1) (.slice d1 m1 o1) ∧ Zw W (.agg #[.bool b63_7, .slice a63_7 n63_7 c63_7]) F ∧ Bx2 W g63_7 25 (.bool b63_7) (.slice a63_7 n63_7 c63_7) ∧ W63.heap.size ≤ W.heap.size) ⟨Good.is _, Good.is _, (Good.zed _).tup _, (Good.zed _).tup _, Good.zed _, Good.is _, Good.box _ _ _, cert_put2, Good.is _, trivial⟩
  ⟨E0, hx1, p2, h63_4, p63_7, Nat.le_refl _⟩ (A := ?A64) ?hA64 ?howe64 ?hfin64
 case hA64 =>
  intro vs
  simp only [putAll, Act.put, sA, sZ, sS, Nat.zero_add, Nat.reduceAdd]
  exact rfl
 case howe64 =>
  clear E0 hx1 p2 h63_4 p63_7
  intro hf
  refine ⟨oE 0 [] hf rfl ?_, oE 1 [] hf rfl ?_, oE 2 [0, 1] hf rfl ?_, oE 3 [2] hf rfl ?_, oE 4 [3] hf rfl ?_, oE 5 [3] hf rfl ?_, oE 6 [] hf rfl ?_, oW 7 [6, 4] hf rfl ?_, oE 8 [5] hf rfl ?_, trivial⟩
  all_goals intro vs W hS hp hx KO hKO
  all_goals simp only [Act.put, sA, sZ, sS] at hKO
  ·have fc0 := hS.2.2.1.cell0; have fc1 := hS.2.2.1.cell1; have fc2 := hS.2.2.1.cell2; go_simp; exact hKO _ W (.refl W) rfl
  ·go_simp; exact hKO _ W (.refl W) rfl
  ·have e0 := isOf hp.1; have e1 := isOf hp.2.1; simp only [e0, e1] at hKO; go_simp
   refine (Try.dyadCeil (hS.2.1) s1 (by omega) K (by omega)).mono ?_
   rintro e W1 ⟨v, rfl, hv, hE⟩
   rw [HCl.out] at hv
   exact hKO _ W1 hE ⟨_, rfl, hv⟩
  ·have q2 := hp.1
   obtain ⟨u, ev, hu⟩ := q2
   replace ev : vs 2 = _ := ev; simp only [ev] at hKO; go_simp; exact hKO _ W (Ext.refl W) ⟨u, rfl, hu⟩
  ·have q3 := hp.1
   obtain ⟨u, ev, hu⟩ := q3
   replace ev : vs 3 = _ := ev; simp only [ev] at hKO; go_simp; exact hKO _ W (Ext.refl W) hu
  ·have q3 := hp.1
   obtain ⟨u, ev, hu⟩ := q3
   replace ev : vs 3 = _ := ev; simp only [ev] at hKO; go_simp; exact hKO _ W (.refl W) rfl
  ·have hn := Bx2.new W 25 (.bool false) (.slice none 0 0)
   have hE := Ext.alloc1 W (.cells #[.bool false, .slice none 0 0] 25)
   have hsz := hS.2.2.2.2.2
   go_simp
   exact hKO _ _ hE ⟨_, rfl, hsz, hn.form⟩
  ·have q6 := hp.1; have q4 := hp.2.1
   obtain ⟨g, ev, hg, hf⟩ := q6
   replace ev : vs 6 = _ := ev
   obtain ⟨x0_0, x0_1, hx, hno⟩ := hf.bx2
   have qr := q4
   obtain ⟨b3, a3, n3, c3, er, -, -⟩ := qr
   replace er : vs 4 = _ := er
   have r0 := hx.froz0
   have t0 := hx.cell0
   have r1 := hx.froz1
   have t1 := hx.cell1
   have hw := Wr.set2 hx hno b3 a3 n3 c3
   have hq := hx.set (.bool b3) (.slice a3 n3 c3)
   simp only [ev, er] at hKO; go_simp
   exact hKO _ _ hw ⟨(Ext.wr hS.1 hw (by omega)), (hS.2.1.wr hw), (hS.2.2.1.wr hw (by omega)), (hS.2.2.2.1.wr hw), (hS.2.2.2.2.1.wr hw (by omega)), (Nat.le_trans hS.2.2.2.2.2 hw.apart.size)⟩ ⟨g, b3, a3, n3, c3, ev, er, hg, hq⟩
  ·have e5 := isOf hp.1; simp only [e5] at hKO; go_simp; exact hKO _ W (.refl W) rfl
 intro vs W64 hS hp
 clear szw64 E0 hx1 p2 h63_4 p63_7
 obtain ⟨E0, hx1, p2, h63_4, p63_7, sz64⟩ := hS
 obtain ⟨h64_0, h64_1, h64_2, h64_3, h64_4, h64_5, h64_6, h64_7, h64_8, -⟩ := hp
 obtain ⟨g64_7, b64_7, a64_7, n64_7, c64_7, ev64_7, er64_7, hg64_7, p64_7⟩ := h64_7
 replace ev64_7 : vs 6 = _ := ev64_7; replace er64_7 : vs 4 = _ := er64_7; replace h64_4 := (show Zw W64 (vs 4) C from h64_4)
 rw [er64_7] at h64_4
 replace h64_0 : vs 0 = .agg #[.bool b1, .slice a1 n1 c1, .slice d1 m1 o1] := h64_0
 replace h64_1 : vs 1 = .int .i64 (K : Int) := h64_1
 replace h64_5 : vs 5 = .int .i64 0 := h64_5
 replace h64_8 : vs 8 = .int .i64 0 := h64_8
 simp only [ev64_7, er64_7, h64_0, h64_1, h64_5, h64_8]
 clear ev64_7 er64_7 h64_0 h64_1 h64_5 h64_8 h64_2 h64_3 h64_6
 obtain ⟨kp2_0, kp2_1, kp2_2⟩ := p2.c3
 obtain ⟨kp63_7_0, kp63_7_1⟩ := p63_7.c2
 obtain ⟨kp64_7_0, kp64_7_1⟩ := p64_7.c2
 go_upto_region 5 with (fail)
 clear kp2_0 kp2_1 kp2_2 kp63_7_0 kp63_7_1 kp64_7_0 kp64_7_1; have ltp64_7 := p64_7.lt; have szw65 := Ext.size E0
 refine region_gs [.one fun v _ => v = .agg #[.bool b1, .slice a1 n1 c1, .slice d1 m1 o1],
   .one fun v _ => v = .int .i64 (K : Int),
   .one fun v W => ∃ v', v = .tuple #[v', .int .i64 0] ∧ (fun v W => Zw W v M) v' W,
   .one fun v W => ∃ v', v = .tuple #[v', .int .i64 0] ∧ (fun v W => Zw W v M) v' W,
   .one fun v W => Zw W v M,
   .one fun v _ => v = .int .i64 0,
   .one fun v W => ∃ g, v = .pointer (some ⟨g, 0, none⟩) ∧ W64.heap.size ≤ g ∧ Form W g 25 2,
   .three 6 4 (fun p r _ W => Put2 W64.heap.size 25 p r W),
   .one fun v _ => v = .int .i64 0]
  (fun W => Ext w W ∧ Rw W (.agg #[.bool b1, .slice a1 n1 c1, .slice d1 m1 o1]) x ∧ Bx3 W w.heap.size 27 (.bool b1) (.slice a1 n1 c1) (.slice d1 m1 o1) ∧ Zw W (.agg #[.bool b63_7, .slice a63_7 n63_7 c63_7]) F ∧ Bx2 W g63_7 25 (.bool b63_7) (.slice a63_7 n63_7 c63_7) ∧ Zw W (.agg #[.bool b64_7, .slice a64_7 n64_7 c64_7]) C ∧ Bx2 W g64_7 25 (.bool b64_7) (.slice a64_7 n64_7 c64_7) ∧ W64.heap.size ≤ W.heap.size) ⟨Good.is _, Good.is _, (Good.zed _).tup _, (Good.zed _).tup _, Good.zed _, Good.is _, Good.box _ _ _, cert_put2, Good.is _, trivial⟩
  ⟨E0, hx1, p2, h63_4, p63_7, h64_4, p64_7, Nat.le_refl _⟩ (A := ?A65) ?hA65 ?howe65 ?hfin65
 case hA65 =>
  intro vs
  simp only [putAll, Act.put, sA, sZ, sS, Nat.zero_add, Nat.reduceAdd]
  exact rfl
 case howe65 =>
  clear E0 hx1 p2 h63_4 p63_7 h64_4 p64_7
  intro hf
  refine ⟨oE 0 [] hf rfl ?_, oE 1 [] hf rfl ?_, oE 2 [0, 1] hf rfl ?_, oE 3 [2] hf rfl ?_, oE 4 [3] hf rfl ?_, oE 5 [3] hf rfl ?_, oE 6 [] hf rfl ?_, oW 7 [6, 4] hf rfl ?_, oE 8 [5] hf rfl ?_, trivial⟩
  all_goals intro vs W hS hp hx KO hKO
  all_goals simp only [Act.put, sA, sZ, sS] at hKO
  ·have fc0 := hS.2.2.1.cell0; have fc1 := hS.2.2.1.cell1; have fc2 := hS.2.2.1.cell2; go_simp; exact hKO _ W (.refl W) rfl
  ·go_simp; exact hKO _ W (.refl W) rfl
  ·have e0 := isOf hp.1; have e1 := isOf hp.2.1; simp only [e0, e1] at hKO; go_simp
   refine (Try.dyadNear (hS.2.1) s1 (by omega) K (by omega)).mono ?_
   rintro e W1 ⟨v, rfl, hv, hE⟩
   rw [HNr.out] at hv
   exact hKO _ W1 hE ⟨_, rfl, hv⟩
  ·have q2 := hp.1
   obtain ⟨u, ev, hu⟩ := q2
   replace ev : vs 2 = _ := ev; simp only [ev] at hKO; go_simp; exact hKO _ W (Ext.refl W) ⟨u, rfl, hu⟩
  ·have q3 := hp.1
   obtain ⟨u, ev, hu⟩ := q3
   replace ev : vs 3 = _ := ev; simp only [ev] at hKO; go_simp; exact hKO _ W (Ext.refl W) hu
  ·have q3 := hp.1
   obtain ⟨u, ev, hu⟩ := q3
   replace ev : vs 3 = _ := ev; simp only [ev] at hKO; go_simp; exact hKO _ W (.refl W) rfl
  ·have hn := Bx2.new W 25 (.bool false) (.slice none 0 0)
   have hE := Ext.alloc1 W (.cells #[.bool false, .slice none 0 0] 25)
   have hsz := hS.2.2.2.2.2.2.2
   go_simp
   exact hKO _ _ hE ⟨_, rfl, hsz, hn.form⟩
  ·have q6 := hp.1; have q4 := hp.2.1
   obtain ⟨g, ev, hg, hf⟩ := q6
   replace ev : vs 6 = _ := ev
   obtain ⟨x0_0, x0_1, hx, hno⟩ := hf.bx2
   have qr := q4
   obtain ⟨b3, a3, n3, c3, er, -, -⟩ := qr
   replace er : vs 4 = _ := er
   have r0 := hx.froz0
   have t0 := hx.cell0
   have r1 := hx.froz1
   have t1 := hx.cell1
   have hw := Wr.set2 hx hno b3 a3 n3 c3
   have hq := hx.set (.bool b3) (.slice a3 n3 c3)
   simp only [ev, er] at hKO; go_simp
   exact hKO _ _ hw ⟨(Ext.wr hS.1 hw (by omega)), (hS.2.1.wr hw), (hS.2.2.1.wr hw (by omega)), (hS.2.2.2.1.wr hw), (hS.2.2.2.2.1.wr hw (by omega)), (hS.2.2.2.2.2.1.wr hw), (hS.2.2.2.2.2.2.1.wr hw (by omega)), (Nat.le_trans hS.2.2.2.2.2.2.2 hw.apart.size)⟩ ⟨g, b3, a3, n3, c3, ev, er, hg, hq⟩
  ·have e5 := isOf hp.1; simp only [e5] at hKO; go_simp; exact hKO _ W (.refl W) rfl
 intro vs W65 hS hp
 clear szw65 E0 hx1 p2 h63_4 p63_7 h64_4 p64_7
 obtain ⟨E0, hx1, p2, h63_4, p63_7, h64_4, p64_7, sz65⟩ := hS
 obtain ⟨h65_0, h65_1, h65_2, h65_3, h65_4, h65_5, h65_6, h65_7, h65_8, -⟩ := hp
 obtain ⟨g65_7, b65_7, a65_7, n65_7, c65_7, ev65_7, er65_7, hg65_7, p65_7⟩ := h65_7
 replace ev65_7 : vs 6 = _ := ev65_7; replace er65_7 : vs 4 = _ := er65_7; replace h65_4 := (show Zw W65 (vs 4) M from h65_4)
 rw [er65_7] at h65_4
 replace h65_0 : vs 0 = .agg #[.bool b1, .slice a1 n1 c1, .slice d1 m1 o1] := h65_0
 replace h65_1 : vs 1 = .int .i64 (K : Int) := h65_1
 replace h65_5 : vs 5 = .int .i64 0 := h65_5
 replace h65_8 : vs 8 = .int .i64 0 := h65_8
 simp only [ev65_7, er65_7, h65_0, h65_1, h65_5, h65_8]
 clear ev65_7 er65_7 h65_0 h65_1 h65_5 h65_8 h65_2 h65_3 h65_6
 obtain ⟨kp2_0, kp2_1, kp2_2⟩ := p2.c3
 obtain ⟨kp63_7_0, kp63_7_1⟩ := p63_7.c2
 obtain ⟨kp64_7_0, kp64_7_1⟩ := p64_7.c2
 obtain ⟨kp65_7_0, kp65_7_1⟩ := p65_7.c2
 go_upto_region 8 with (fail)
 clear kp2_0 kp2_1 kp2_2 kp63_7_0 kp63_7_1 kp64_7_0 kp64_7_1 kp65_7_0 kp65_7_1; have ltp65_7 := p65_7.lt; have szw66 := Ext.size E0
 refine region_gs [.one fun v _ => v = .agg #[.bool b63_7, .slice a63_7 n63_7 c63_7],
   .one fun v _ => v = .int .i64 (K : Int),
   .one fun v W => ∃ v', v = .tuple #[v', .int .i64 0] ∧ (fun v W => Rw W v X) v' W,
   .one fun v W => ∃ v', v = .tuple #[v', .int .i64 0] ∧ (fun v W => Rw W v X) v' W,
   .one fun v W => Rw W v X,
   .one fun v _ => v = .int .i64 0,
   .one fun v W => ∃ g, v = .pointer (some ⟨g, 0, none⟩) ∧ W65.heap.size ≤ g ∧ Form W g 27 3,
   .three 6 4 (fun p r _ W => Put3 W65.heap.size 27 p r W),
   .one fun v _ => v = .int .i64 0]
  (fun W => Ext w W ∧ Rw W (.agg #[.bool b1, .slice a1 n1 c1, .slice d1 m1 o1]) x ∧ Bx3 W w.heap.size 27 (.bool b1) (.slice a1 n1 c1) (.slice d1 m1 o1) ∧ Zw W (.agg #[.bool b63_7, .slice a63_7 n63_7 c63_7]) F ∧ Bx2 W g63_7 25 (.bool b63_7) (.slice a63_7 n63_7 c63_7) ∧ Zw W (.agg #[.bool b64_7, .slice a64_7 n64_7 c64_7]) C ∧ Bx2 W g64_7 25 (.bool b64_7) (.slice a64_7 n64_7 c64_7) ∧ Zw W (.agg #[.bool b65_7, .slice a65_7 n65_7 c65_7]) M ∧ Bx2 W g65_7 25 (.bool b65_7) (.slice a65_7 n65_7 c65_7) ∧ W65.heap.size ≤ W.heap.size) ⟨Good.is _, Good.is _, (Good.rat _).tup _, (Good.rat _).tup _, Good.rat _, Good.is _, Good.box _ _ _, cert_put3, Good.is _, trivial⟩
  ⟨E0, hx1, p2, h63_4, p63_7, h64_4, p64_7, h65_4, p65_7, Nat.le_refl _⟩ (A := ?A66) ?hA66 ?howe66 ?hfin66
 case hA66 =>
  intro vs
  simp only [putAll, Act.put, sA, sZ, sS, Nat.zero_add, Nat.reduceAdd]
  exact rfl
 case howe66 =>
  clear E0 hx1 p2 h63_4 p63_7 h64_4 p64_7 h65_4 p65_7
  intro hf
  refine ⟨oE 0 [] hf rfl ?_, oE 1 [] hf rfl ?_, oE 2 [0, 1] hf rfl ?_, oE 3 [2] hf rfl ?_, oE 4 [3] hf rfl ?_, oE 5 [3] hf rfl ?_, oE 6 [] hf rfl ?_, oW 7 [6, 4] hf rfl ?_, oE 8 [5] hf rfl ?_, trivial⟩
  all_goals intro vs W hS hp hx KO hKO
  all_goals simp only [Act.put, sA, sZ, sS] at hKO
  ·have fc0 := hS.2.2.2.2.1.cell0; have fc1 := hS.2.2.2.2.1.cell1; go_simp; exact hKO _ W (.refl W) rfl
  ·go_simp; exact hKO _ W (.refl W) rfl
  ·have e0 := isOf hp.1; have e1 := isOf hp.2.1; simp only [e0, e1] at hKO; go_simp
   refine (Try.refBack (hS.2.2.2.1) SF.out (by omega) K (by omega)).mono ?_
   rintro e W1 ⟨v, rfl, hv, hE⟩
   rw [HX.out] at hv
   exact hKO _ W1 hE ⟨_, rfl, hv⟩
  ·have q2 := hp.1
   obtain ⟨u, ev, hu⟩ := q2
   replace ev : vs 2 = _ := ev; simp only [ev] at hKO; go_simp; exact hKO _ W (Ext.refl W) ⟨u, rfl, hu⟩
  ·have q3 := hp.1
   obtain ⟨u, ev, hu⟩ := q3
   replace ev : vs 3 = _ := ev; simp only [ev] at hKO; go_simp; exact hKO _ W (Ext.refl W) hu
  ·have q3 := hp.1
   obtain ⟨u, ev, hu⟩ := q3
   replace ev : vs 3 = _ := ev; simp only [ev] at hKO; go_simp; exact hKO _ W (.refl W) rfl
  ·have hn := Bx3.new W 27 (.bool false) (.slice none 0 0) (.slice none 0 0)
   have hE := Ext.alloc1 W (.cells #[.bool false, .slice none 0 0, .slice none 0 0] 27)
   have hsz := hS.2.2.2.2.2.2.2.2.2
   go_simp
   exact hKO _ _ hE ⟨_, rfl, hsz, hn.form⟩
  ·have q6 := hp.1; have q4 := hp.2.1
   obtain ⟨g, ev, hg, hf⟩ := q6
   replace ev : vs 6 = _ := ev
   obtain ⟨x0_0, x0_1, x0_2, hx, hno⟩ := hf.bx3
   have qr := q4
   obtain ⟨b3, a3, n3, c3, d3, m3, o3, er, -, -, -⟩ := qr
   replace er : vs 4 = _ := er
   have r0 := hx.froz0
   have t0 := hx.cell0
   have r1 := hx.froz1
   have t1 := hx.cell1
   have r2 := hx.froz2
   have t2 := hx.cell2
   have hw := Wr.set3 hx hno b3 a3 n3 c3 d3 m3 o3
   have hq := hx.set (.bool b3) (.slice a3 n3 c3) (.slice d3 m3 o3)
   simp only [ev, er] at hKO; go_simp
   exact hKO _ _ hw ⟨(Ext.wr hS.1 hw (by omega)), (hS.2.1.wr hw), (hS.2.2.1.wr hw (by omega)), (hS.2.2.2.1.wr hw), (hS.2.2.2.2.1.wr hw (by omega)), (hS.2.2.2.2.2.1.wr hw), (hS.2.2.2.2.2.2.1.wr hw (by omega)), (hS.2.2.2.2.2.2.2.1.wr hw), (hS.2.2.2.2.2.2.2.2.1.wr hw (by omega)), (Nat.le_trans hS.2.2.2.2.2.2.2.2.2 hw.apart.size)⟩ ⟨g, b3, a3, n3, c3, d3, m3, o3, ev, er, hg, hq⟩
  ·have e5 := isOf hp.1; simp only [e5] at hKO; go_simp; exact hKO _ W (.refl W) rfl
 intro vs W66 hS hp
 clear szw66 E0 hx1 p2 h63_4 p63_7 h64_4 p64_7 h65_4 p65_7
 obtain ⟨E0, hx1, p2, h63_4, p63_7, h64_4, p64_7, h65_4, p65_7, sz66⟩ := hS
 obtain ⟨h66_0, h66_1, h66_2, h66_3, h66_4, h66_5, h66_6, h66_7, h66_8, -⟩ := hp
 obtain ⟨g66_7, b66_7, a66_7, n66_7, c66_7, d66_7, m66_7, o66_7, ev66_7, er66_7, hg66_7, p66_7⟩ := h66_7
 replace ev66_7 : vs 6 = _ := ev66_7; replace er66_7 : vs 4 = _ := er66_7; replace h66_4 := (show Rw W66 (vs 4) X from h66_4)
 rw [er66_7] at h66_4
 replace h66_0 : vs 0 = .agg #[.bool b63_7, .slice a63_7 n63_7 c63_7] := h66_0
 replace h66_1 : vs 1 = .int .i64 (K : Int) := h66_1
 replace h66_5 : vs 5 = .int .i64 0 := h66_5
 replace h66_8 : vs 8 = .int .i64 0 := h66_8
 simp only [ev66_7, er66_7, h66_0, h66_1, h66_5, h66_8]
 clear ev66_7 er66_7 h66_0 h66_1 h66_5 h66_8 h66_2 h66_3 h66_6
 obtain ⟨kp2_0, kp2_1, kp2_2⟩ := p2.c3
 obtain ⟨kp63_7_0, kp63_7_1⟩ := p63_7.c2
 obtain ⟨kp64_7_0, kp64_7_1⟩ := p64_7.c2
 obtain ⟨kp65_7_0, kp65_7_1⟩ := p65_7.c2
 obtain ⟨kp66_7_0, kp66_7_1, kp66_7_2⟩ := p66_7.c3
 go_upto_region 9 with (fail)
 clear kp2_0 kp2_1 kp2_2 kp63_7_0 kp63_7_1 kp64_7_0 kp64_7_1 kp65_7_0 kp65_7_1 kp66_7_0 kp66_7_1 kp66_7_2; have ltp66_7 := p66_7.lt; have szw67 := Ext.size E0
 refine region_gs [.one fun v _ => v = .agg #[.bool b64_7, .slice a64_7 n64_7 c64_7],
   .one fun v _ => v = .int .i64 (K : Int),
   .one fun v W => ∃ v', v = .tuple #[v', .int .i64 0] ∧ (fun v W => Rw W v Y) v' W,
   .one fun v W => ∃ v', v = .tuple #[v', .int .i64 0] ∧ (fun v W => Rw W v Y) v' W,
   .one fun v W => Rw W v Y,
   .one fun v _ => v = .int .i64 0,
   .one fun v W => ∃ g, v = .pointer (some ⟨g, 0, none⟩) ∧ W66.heap.size ≤ g ∧ Form W g 27 3,
   .three 6 4 (fun p r _ W => Put3 W66.heap.size 27 p r W),
   .one fun v _ => v = .int .i64 0]
  (fun W => Ext w W ∧ Rw W (.agg #[.bool b1, .slice a1 n1 c1, .slice d1 m1 o1]) x ∧ Bx3 W w.heap.size 27 (.bool b1) (.slice a1 n1 c1) (.slice d1 m1 o1) ∧ Zw W (.agg #[.bool b63_7, .slice a63_7 n63_7 c63_7]) F ∧ Bx2 W g63_7 25 (.bool b63_7) (.slice a63_7 n63_7 c63_7) ∧ Zw W (.agg #[.bool b64_7, .slice a64_7 n64_7 c64_7]) C ∧ Bx2 W g64_7 25 (.bool b64_7) (.slice a64_7 n64_7 c64_7) ∧ Zw W (.agg #[.bool b65_7, .slice a65_7 n65_7 c65_7]) M ∧ Bx2 W g65_7 25 (.bool b65_7) (.slice a65_7 n65_7 c65_7) ∧ Rw W (.agg #[.bool b66_7, .slice a66_7 n66_7 c66_7, .slice d66_7 m66_7 o66_7]) X ∧ Bx3 W g66_7 27 (.bool b66_7) (.slice a66_7 n66_7 c66_7) (.slice d66_7 m66_7 o66_7) ∧ W66.heap.size ≤ W.heap.size) ⟨Good.is _, Good.is _, (Good.rat _).tup _, (Good.rat _).tup _, Good.rat _, Good.is _, Good.box _ _ _, cert_put3, Good.is _, trivial⟩
  ⟨E0, hx1, p2, h63_4, p63_7, h64_4, p64_7, h65_4, p65_7, h66_4, p66_7, Nat.le_refl _⟩ (A := ?A67) ?hA67 ?howe67 ?hfin67
 case hA67 =>
  intro vs
  simp only [putAll, Act.put, sA, sZ, sS, Nat.zero_add, Nat.reduceAdd]
  exact rfl
 case howe67 =>
  clear E0 hx1 p2 h63_4 p63_7 h64_4 p64_7 h65_4 p65_7 h66_4 p66_7
  intro hf
  refine ⟨oE 0 [] hf rfl ?_, oE 1 [] hf rfl ?_, oE 2 [0, 1] hf rfl ?_, oE 3 [2] hf rfl ?_, oE 4 [3] hf rfl ?_, oE 5 [3] hf rfl ?_, oE 6 [] hf rfl ?_, oW 7 [6, 4] hf rfl ?_, oE 8 [5] hf rfl ?_, trivial⟩
  all_goals intro vs W hS hp hx KO hKO
  all_goals simp only [Act.put, sA, sZ, sS] at hKO
  ·have fc0 := hS.2.2.2.2.2.2.1.cell0; have fc1 := hS.2.2.2.2.2.2.1.cell1; go_simp; exact hKO _ W (.refl W) rfl
  ·go_simp; exact hKO _ W (.refl W) rfl
  ·have e0 := isOf hp.1; have e1 := isOf hp.2.1; simp only [e0, e1] at hKO; go_simp
   refine (Try.refBack (hS.2.2.2.2.2.1) SC.out (by omega) K (by omega)).mono ?_
   rintro e W1 ⟨v, rfl, hv, hE⟩
   rw [HY.out] at hv
   exact hKO _ W1 hE ⟨_, rfl, hv⟩
  ·have q2 := hp.1
   obtain ⟨u, ev, hu⟩ := q2
   replace ev : vs 2 = _ := ev; simp only [ev] at hKO; go_simp; exact hKO _ W (Ext.refl W) ⟨u, rfl, hu⟩
  ·have q3 := hp.1
   obtain ⟨u, ev, hu⟩ := q3
   replace ev : vs 3 = _ := ev; simp only [ev] at hKO; go_simp; exact hKO _ W (Ext.refl W) hu
  ·have q3 := hp.1
   obtain ⟨u, ev, hu⟩ := q3
   replace ev : vs 3 = _ := ev; simp only [ev] at hKO; go_simp; exact hKO _ W (.refl W) rfl
  ·have hn := Bx3.new W 27 (.bool false) (.slice none 0 0) (.slice none 0 0)
   have hE := Ext.alloc1 W (.cells #[.bool false, .slice none 0 0, .slice none 0 0] 27)
   have hsz := hS.2.2.2.2.2.2.2.2.2.2.2
   go_simp
   exact hKO _ _ hE ⟨_, rfl, hsz, hn.form⟩
  ·have q6 := hp.1; have q4 := hp.2.1
   obtain ⟨g, ev, hg, hf⟩ := q6
   replace ev : vs 6 = _ := ev
   obtain ⟨x0_0, x0_1, x0_2, hx, hno⟩ := hf.bx3
   have qr := q4
   obtain ⟨b3, a3, n3, c3, d3, m3, o3, er, -, -, -⟩ := qr
   replace er : vs 4 = _ := er
   have r0 := hx.froz0
   have t0 := hx.cell0
   have r1 := hx.froz1
   have t1 := hx.cell1
   have r2 := hx.froz2
   have t2 := hx.cell2
   have hw := Wr.set3 hx hno b3 a3 n3 c3 d3 m3 o3
   have hq := hx.set (.bool b3) (.slice a3 n3 c3) (.slice d3 m3 o3)
   simp only [ev, er] at hKO; go_simp
   exact hKO _ _ hw ⟨(Ext.wr hS.1 hw (by omega)), (hS.2.1.wr hw), (hS.2.2.1.wr hw (by omega)), (hS.2.2.2.1.wr hw), (hS.2.2.2.2.1.wr hw (by omega)), (hS.2.2.2.2.2.1.wr hw), (hS.2.2.2.2.2.2.1.wr hw (by omega)), (hS.2.2.2.2.2.2.2.1.wr hw), (hS.2.2.2.2.2.2.2.2.1.wr hw (by omega)), (hS.2.2.2.2.2.2.2.2.2.1.wr hw), (hS.2.2.2.2.2.2.2.2.2.2.1.wr hw (by omega)), (Nat.le_trans hS.2.2.2.2.2.2.2.2.2.2.2 hw.apart.size)⟩ ⟨g, b3, a3, n3, c3, d3, m3, o3, ev, er, hg, hq⟩
  ·have e5 := isOf hp.1; simp only [e5] at hKO; go_simp; exact hKO _ W (.refl W) rfl
 intro vs W67 hS hp
 clear szw67 E0 hx1 p2 h63_4 p63_7 h64_4 p64_7 h65_4 p65_7 h66_4 p66_7
 obtain ⟨E0, hx1, p2, h63_4, p63_7, h64_4, p64_7, h65_4, p65_7, h66_4, p66_7, sz67⟩ := hS
 obtain ⟨h67_0, h67_1, h67_2, h67_3, h67_4, h67_5, h67_6, h67_7, h67_8, -⟩ := hp
 obtain ⟨g67_7, b67_7, a67_7, n67_7, c67_7, d67_7, m67_7, o67_7, ev67_7, er67_7, hg67_7, p67_7⟩ := h67_7
 replace ev67_7 : vs 6 = _ := ev67_7; replace er67_7 : vs 4 = _ := er67_7; replace h67_4 := (show Rw W67 (vs 4) Y from h67_4)
 rw [er67_7] at h67_4
 replace h67_0 : vs 0 = .agg #[.bool b64_7, .slice a64_7 n64_7 c64_7] := h67_0
 replace h67_1 : vs 1 = .int .i64 (K : Int) := h67_1
 replace h67_5 : vs 5 = .int .i64 0 := h67_5
 replace h67_8 : vs 8 = .int .i64 0 := h67_8
 simp only [ev67_7, er67_7, h67_0, h67_1, h67_5, h67_8]
 clear ev67_7 er67_7 h67_0 h67_1 h67_5 h67_8 h67_2 h67_3 h67_6
 obtain ⟨kp2_0, kp2_1, kp2_2⟩ := p2.c3
 obtain ⟨kp63_7_0, kp63_7_1⟩ := p63_7.c2
 obtain ⟨kp64_7_0, kp64_7_1⟩ := p64_7.c2
 obtain ⟨kp65_7_0, kp65_7_1⟩ := p65_7.c2
 obtain ⟨kp66_7_0, kp66_7_1, kp66_7_2⟩ := p66_7.c3
 obtain ⟨kp67_7_0, kp67_7_1, kp67_7_2⟩ := p67_7.c3
 go_upto_region 10 with (fail)
 clear kp2_0 kp2_1 kp2_2 kp63_7_0 kp63_7_1 kp64_7_0 kp64_7_1 kp65_7_0 kp65_7_1 kp66_7_0 kp66_7_1 kp66_7_2 kp67_7_0 kp67_7_1 kp67_7_2; have ltp67_7 := p67_7.lt; have szw68 := Ext.size E0
 refine region_gs [.one fun v _ => v = .agg #[.bool b65_7, .slice a65_7 n65_7 c65_7],
   .one fun v _ => v = .int .i64 (K : Int),
   .one fun v W => ∃ v', v = .tuple #[v', .int .i64 0] ∧ (fun v W => Rw W v Z) v' W,
   .one fun v W => ∃ v', v = .tuple #[v', .int .i64 0] ∧ (fun v W => Rw W v Z) v' W,
   .one fun v W => Rw W v Z,
   .one fun v _ => v = .int .i64 0,
   .one fun v W => ∃ g, v = .pointer (some ⟨g, 0, none⟩) ∧ W67.heap.size ≤ g ∧ Form W g 27 3,
   .three 6 4 (fun p r _ W => Put3 W67.heap.size 27 p r W),
   .one fun v _ => v = .int .i64 0]
  (fun W => Ext w W ∧ Rw W (.agg #[.bool b1, .slice a1 n1 c1, .slice d1 m1 o1]) x ∧ Bx3 W w.heap.size 27 (.bool b1) (.slice a1 n1 c1) (.slice d1 m1 o1) ∧ Zw W (.agg #[.bool b63_7, .slice a63_7 n63_7 c63_7]) F ∧ Bx2 W g63_7 25 (.bool b63_7) (.slice a63_7 n63_7 c63_7) ∧ Zw W (.agg #[.bool b64_7, .slice a64_7 n64_7 c64_7]) C ∧ Bx2 W g64_7 25 (.bool b64_7) (.slice a64_7 n64_7 c64_7) ∧ Zw W (.agg #[.bool b65_7, .slice a65_7 n65_7 c65_7]) M ∧ Bx2 W g65_7 25 (.bool b65_7) (.slice a65_7 n65_7 c65_7) ∧ Rw W (.agg #[.bool b66_7, .slice a66_7 n66_7 c66_7, .slice d66_7 m66_7 o66_7]) X ∧ Bx3 W g66_7 27 (.bool b66_7) (.slice a66_7 n66_7 c66_7) (.slice d66_7 m66_7 o66_7) ∧ Rw W (.agg #[.bool b67_7, .slice a67_7 n67_7 c67_7, .slice d67_7 m67_7 o67_7]) Y ∧ Bx3 W g67_7 27 (.bool b67_7) (.slice a67_7 n67_7 c67_7) (.slice d67_7 m67_7 o67_7) ∧ W67.heap.size ≤ W.heap.size) ⟨Good.is _, Good.is _, (Good.rat _).tup _, (Good.rat _).tup _, Good.rat _, Good.is _, Good.box _ _ _, cert_put3, Good.is _, trivial⟩
  ⟨E0, hx1, p2, h63_4, p63_7, h64_4, p64_7, h65_4, p65_7, h66_4, p66_7, h67_4, p67_7, Nat.le_refl _⟩ (A := ?A68) ?hA68 ?howe68 ?hfin68
 case hA68 =>
  intro vs
  simp only [putAll, Act.put, sA, sZ, sS, Nat.zero_add, Nat.reduceAdd]
  exact rfl
 case howe68 =>
  clear E0 hx1 p2 h63_4 p63_7 h64_4 p64_7 h65_4 p65_7 h66_4 p66_7 h67_4 p67_7
  intro hf
  refine ⟨oE 0 [] hf rfl ?_, oE 1 [] hf rfl ?_, oE 2 [0, 1] hf rfl ?_, oE 3 [2] hf rfl ?_, oE 4 [3] hf rfl ?_, oE 5 [3] hf rfl ?_, oE 6 [] hf rfl ?_, oW 7 [6, 4] hf rfl ?_, oE 8 [5] hf rfl ?_, trivial⟩
  all_goals intro vs W hS hp hx KO hKO
  all_goals simp only [Act.put, sA, sZ, sS] at hKO
  ·have fc0 := hS.2.2.2.2.2.2.2.2.1.cell0; have fc1 := hS.2.2.2.2.2.2.2.2.1.cell1; go_simp; exact hKO _ W (.refl W) rfl
  ·go_simp; exact hKO _ W (.refl W) rfl
  ·have e0 := isOf hp.1; have e1 := isOf hp.2.1; simp only [e0, e1] at hKO; go_simp
   refine (Try.refBack (hS.2.2.2.2.2.2.2.1) SM.out (by omega) K (by omega)).mono ?_
   rintro e W1 ⟨v, rfl, hv, hE⟩
   rw [HZ.out] at hv
   exact hKO _ W1 hE ⟨_, rfl, hv⟩
  ·have q2 := hp.1
   obtain ⟨u, ev, hu⟩ := q2
   replace ev : vs 2 = _ := ev; simp only [ev] at hKO; go_simp; exact hKO _ W (Ext.refl W) ⟨u, rfl, hu⟩
  ·have q3 := hp.1
   obtain ⟨u, ev, hu⟩ := q3
   replace ev : vs 3 = _ := ev; simp only [ev] at hKO; go_simp; exact hKO _ W (Ext.refl W) hu
  ·have q3 := hp.1
   obtain ⟨u, ev, hu⟩ := q3
   replace ev : vs 3 = _ := ev; simp only [ev] at hKO; go_simp; exact hKO _ W (.refl W) rfl
  ·have hn := Bx3.new W 27 (.bool false) (.slice none 0 0) (.slice none 0 0)
   have hE := Ext.alloc1 W (.cells #[.bool false, .slice none 0 0, .slice none 0 0] 27)
   have hsz := hS.2.2.2.2.2.2.2.2.2.2.2.2.2
   go_simp
   exact hKO _ _ hE ⟨_, rfl, hsz, hn.form⟩
  ·have q6 := hp.1; have q4 := hp.2.1
   obtain ⟨g, ev, hg, hf⟩ := q6
   replace ev : vs 6 = _ := ev
   obtain ⟨x0_0, x0_1, x0_2, hx, hno⟩ := hf.bx3
   have qr := q4
   obtain ⟨b3, a3, n3, c3, d3, m3, o3, er, -, -, -⟩ := qr
   replace er : vs 4 = _ := er
   have r0 := hx.froz0
   have t0 := hx.cell0
   have r1 := hx.froz1
   have t1 := hx.cell1
   have r2 := hx.froz2
   have t2 := hx.cell2
   have hw := Wr.set3 hx hno b3 a3 n3 c3 d3 m3 o3
   have hq := hx.set (.bool b3) (.slice a3 n3 c3) (.slice d3 m3 o3)
   simp only [ev, er] at hKO; go_simp
   exact hKO _ _ hw ⟨(Ext.wr hS.1 hw (by omega)), (hS.2.1.wr hw), (hS.2.2.1.wr hw (by omega)), (hS.2.2.2.1.wr hw), (hS.2.2.2.2.1.wr hw (by omega)), (hS.2.2.2.2.2.1.wr hw), (hS.2.2.2.2.2.2.1.wr hw (by omega)), (hS.2.2.2.2.2.2.2.1.wr hw), (hS.2.2.2.2.2.2.2.2.1.wr hw (by omega)), (hS.2.2.2.2.2.2.2.2.2.1.wr hw), (hS.2.2.2.2.2.2.2.2.2.2.1.wr hw (by omega)), (hS.2.2.2.2.2.2.2.2.2.2.2.1.wr hw), (hS.2.2.2.2.2.2.2.2.2.2.2.2.1.wr hw (by omega)), (Nat.le_trans hS.2.2.2.2.2.2.2.2.2.2.2.2.2 hw.apart.size)⟩ ⟨g, b3, a3, n3, c3, d3, m3, o3, ev, er, hg, hq⟩
  ·have e5 := isOf hp.1; simp only [e5] at hKO; go_simp; exact hKO _ W (.refl W) rfl
 intro vs W68 hS hp
 clear szw68 E0 hx1 p2 h63_4 p63_7 h64_4 p64_7 h65_4 p65_7 h66_4 p66_7 h67_4 p67_7
 obtain ⟨E0, hx1, p2, h63_4, p63_7, h64_4, p64_7, h65_4, p65_7, h66_4, p66_7, h67_4, p67_7, sz68⟩ := hS
 obtain ⟨h68_0, h68_1, h68_2, h68_3, h68_4, h68_5, h68_6, h68_7, h68_8, -⟩ := hp
 obtain ⟨g68_7, b68_7, a68_7, n68_7, c68_7, d68_7, m68_7, o68_7, ev68_7, er68_7, hg68_7, p68_7⟩ := h68_7
 replace ev68_7 : vs 6 = _ := ev68_7; replace er68_7 : vs 4 = _ := er68_7; replace h68_4 := (show Rw W68 (vs 4) Z from h68_4)
 rw [er68_7] at h68_4
 replace h68_0 : vs 0 = .agg #[.bool b65_7, .slice a65_7 n65_7 c65_7] := h68_0
 replace h68_1 : vs 1 = .int .i64 (K : Int) := h68_1
 replace h68_5 : vs 5 = .int .i64 0 := h68_5
 replace h68_8 : vs 8 = .int .i64 0 := h68_8
 simp only [ev68_7, er68_7, h68_0, h68_1, h68_5, h68_8]
 clear ev68_7 er68_7 h68_0 h68_1 h68_5 h68_8 h68_2 h68_3 h68_6
 obtain ⟨kp2_0, kp2_1, kp2_2⟩ := p2.c3
 obtain ⟨kp63_7_0, kp63_7_1⟩ := p63_7.c2
 obtain ⟨kp64_7_0, kp64_7_1⟩ := p64_7.c2
 obtain ⟨kp65_7_0, kp65_7_1⟩ := p65_7.c2
 obtain ⟨kp66_7_0, kp66_7_1, kp66_7_2⟩ := p66_7.c3
 obtain ⟨kp67_7_0, kp67_7_1, kp67_7_2⟩ := p67_7.c3
 obtain ⟨kp68_7_0, kp68_7_1, kp68_7_2⟩ := p68_7.c3
 go_upto_region 11 with (fail)
 clear kp2_0 kp2_1 kp2_2 kp63_7_0 kp63_7_1 kp64_7_0 kp64_7_1 kp65_7_0 kp65_7_1 kp66_7_0 kp66_7_1 kp66_7_2 kp67_7_0 kp67_7_1 kp67_7_2 kp68_7_0 kp68_7_1 kp68_7_2; have ltp68_7 := p68_7.lt; have szw69 := Ext.size E0
 refine region_gs [.one fun v W => Zw W v 1,
   .one fun v _ => v = .int .i64 (K : Int),
   .one fun v W => ∃ v', v = .tuple #[v', .int .i64 0] ∧ (fun v W => Rw W v S) v' W,
   .one fun v W => ∃ v', v = .tuple #[v', .int .i64 0] ∧ (fun v W => Rw W v S) v' W,
   .one fun v W => Rw W v S,
   .one fun v _ => v = .int .i64 0,
   .one fun v W => ∃ g, v = .pointer (some ⟨g, 0, none⟩) ∧ W68.heap.size ≤ g ∧ Form W g 27 3,
   .three 6 4 (fun p r _ W => Put3 W68.heap.size 27 p r W),
   .one fun v _ => v = .int .i64 0]
  (fun W => Ext w W ∧ Rw W (.agg #[.bool b1, .slice a1 n1 c1, .slice d1 m1 o1]) x ∧ Bx3 W w.heap.size 27 (.bool b1) (.slice a1 n1 c1) (.slice d1 m1 o1) ∧ Zw W (.agg #[.bool b63_7, .slice a63_7 n63_7 c63_7]) F ∧ Bx2 W g63_7 25 (.bool b63_7) (.slice a63_7 n63_7 c63_7) ∧ Zw W (.agg #[.bool b64_7, .slice a64_7 n64_7 c64_7]) C ∧ Bx2 W g64_7 25 (.bool b64_7) (.slice a64_7 n64_7 c64_7) ∧ Zw W (.agg #[.bool b65_7, .slice a65_7 n65_7 c65_7]) M ∧ Bx2 W g65_7 25 (.bool b65_7) (.slice a65_7 n65_7 c65_7) ∧ Rw W (.agg #[.bool b66_7, .slice a66_7 n66_7 c66_7, .slice d66_7 m66_7 o66_7]) X ∧ Bx3 W g66_7 27 (.bool b66_7) (.slice a66_7 n66_7 c66_7) (.slice d66_7 m66_7 o66_7) ∧ Rw W (.agg #[.bool b67_7, .slice a67_7 n67_7 c67_7, .slice d67_7 m67_7 o67_7]) Y ∧ Bx3 W g67_7 27 (.bool b67_7) (.slice a67_7 n67_7 c67_7) (.slice d67_7 m67_7 o67_7) ∧ Rw W (.agg #[.bool b68_7, .slice a68_7 n68_7 c68_7, .slice d68_7 m68_7 o68_7]) Z ∧ Bx3 W g68_7 27 (.bool b68_7) (.slice a68_7 n68_7 c68_7) (.slice d68_7 m68_7 o68_7) ∧ W68.heap.size ≤ W.heap.size) ⟨Good.zed _, Good.is _, (Good.rat _).tup _, (Good.rat _).tup _, Good.rat _, Good.is _, Good.box _ _ _, cert_put3, Good.is _, trivial⟩
  ⟨E0, hx1, p2, h63_4, p63_7, h64_4, p64_7, h65_4, p65_7, h66_4, p66_7, h67_4, p67_7, h68_4, p68_7, Nat.le_refl _⟩ (A := ?A69) ?hA69 ?howe69 ?hfin69
 case hA69 =>
  intro vs
  simp only [putAll, Act.put, sA, sZ, sS, Nat.zero_add, Nat.reduceAdd]
  exact rfl
 case howe69 =>
  clear E0 hx1 p2 h63_4 p63_7 h64_4 p64_7 h65_4 p65_7 h66_4 p66_7 h67_4 p67_7 h68_4 p68_7
  intro hf
  refine ⟨oE 0 [] hf rfl ?_, oE 1 [] hf rfl ?_, oE 2 [0, 1] hf rfl ?_, oE 3 [2] hf rfl ?_, oE 4 [3] hf rfl ?_, oE 5 [3] hf rfl ?_, oE 6 [] hf rfl ?_, oW 7 [6, 4] hf rfl ?_, oE 8 [5] hf rfl ?_, trivial⟩
  all_goals intro vs W hS hp hx KO hKO
  all_goals simp only [Act.put, sA, sZ, sS] at hKO
  ·go_simp
   refine (Try.refZOf 1 _ (by omega) (by omega)).mono ?_
   rintro e W1 ⟨v, rfl, hv, hE⟩
   exact hKO _ W1 hE hv
  ·go_simp; exact hKO _ W (.refl W) rfl
  ·have q0 := hp.1; have e1 := isOf hp.2.1; simp only [e1] at hKO; go_simp
   refine (Try.refBack q0 S1.out (by omega) K (by omega)).mono ?_
   rintro e W1 ⟨v, rfl, hv, hE⟩
   rw [HSt.out] at hv
   exact hKO _ W1 hE ⟨_, rfl, hv⟩
  ·have q2 := hp.1
   obtain ⟨u, ev, hu⟩ := q2
   replace ev : vs 2 = _ := ev; simp only [ev] at hKO; go_simp; exact hKO _ W (Ext.refl W) ⟨u, rfl, hu⟩
  ·have q3 := hp.1
   obtain ⟨u, ev, hu⟩ := q3
   replace ev : vs 3 = _ := ev; simp only [ev] at hKO; go_simp; exact hKO _ W (Ext.refl W) hu
  ·have q3 := hp.1
   obtain ⟨u, ev, hu⟩ := q3
   replace ev : vs 3 = _ := ev; simp only [ev] at hKO; go_simp; exact hKO _ W (.refl W) rfl
  ·have hn := Bx3.new W 27 (.bool false) (.slice none 0 0) (.slice none 0 0)
   have hE := Ext.alloc1 W (.cells #[.bool false, .slice none 0 0, .slice none 0 0] 27)
   have hsz := hS.2.2.2.2.2.2.2.2.2.2.2.2.2.2.2
   go_simp
   exact hKO _ _ hE ⟨_, rfl, hsz, hn.form⟩
  ·have q6 := hp.1; have q4 := hp.2.1
   obtain ⟨g, ev, hg, hf⟩ := q6
   replace ev : vs 6 = _ := ev
   obtain ⟨x0_0, x0_1, x0_2, hx, hno⟩ := hf.bx3
   have qr := q4
   obtain ⟨b3, a3, n3, c3, d3, m3, o3, er, -, -, -⟩ := qr
   replace er : vs 4 = _ := er
   have r0 := hx.froz0
   have t0 := hx.cell0
   have r1 := hx.froz1
   have t1 := hx.cell1
   have r2 := hx.froz2
   have t2 := hx.cell2
   have hw := Wr.set3 hx hno b3 a3 n3 c3 d3 m3 o3
   have hq := hx.set (.bool b3) (.slice a3 n3 c3) (.slice d3 m3 o3)
   simp only [ev, er] at hKO; go_simp
   exact hKO _ _ hw ⟨(Ext.wr hS.1 hw (by omega)), (hS.2.1.wr hw), (hS.2.2.1.wr hw (by omega)), (hS.2.2.2.1.wr hw), (hS.2.2.2.2.1.wr hw (by omega)), (hS.2.2.2.2.2.1.wr hw), (hS.2.2.2.2.2.2.1.wr hw (by omega)), (hS.2.2.2.2.2.2.2.1.wr hw), (hS.2.2.2.2.2.2.2.2.1.wr hw (by omega)), (hS.2.2.2.2.2.2.2.2.2.1.wr hw), (hS.2.2.2.2.2.2.2.2.2.2.1.wr hw (by omega)), (hS.2.2.2.2.2.2.2.2.2.2.2.1.wr hw), (hS.2.2.2.2.2.2.2.2.2.2.2.2.1.wr hw (by omega)), (hS.2.2.2.2.2.2.2.2.2.2.2.2.2.1.wr hw), (hS.2.2.2.2.2.2.2.2.2.2.2.2.2.2.1.wr hw (by omega)), (Nat.le_trans hS.2.2.2.2.2.2.2.2.2.2.2.2.2.2.2 hw.apart.size)⟩ ⟨g, b3, a3, n3, c3, d3, m3, o3, ev, er, hg, hq⟩
  ·have e5 := isOf hp.1; simp only [e5] at hKO; go_simp; exact hKO _ W (.refl W) rfl
 intro vs W69 hS hp
 clear szw69 E0 hx1 p2 h63_4 p63_7 h64_4 p64_7 h65_4 p65_7 h66_4 p66_7 h67_4 p67_7 h68_4 p68_7
 obtain ⟨E0, hx1, p2, h63_4, p63_7, h64_4, p64_7, h65_4, p65_7, h66_4, p66_7, h67_4, p67_7, h68_4, p68_7, sz69⟩ := hS
 obtain ⟨h69_0, h69_1, h69_2, h69_3, h69_4, h69_5, h69_6, h69_7, h69_8, -⟩ := hp
 obtain ⟨g69_7, b69_7, a69_7, n69_7, c69_7, d69_7, m69_7, o69_7, ev69_7, er69_7, hg69_7, p69_7⟩ := h69_7
 replace ev69_7 : vs 6 = _ := ev69_7; replace er69_7 : vs 4 = _ := er69_7; replace h69_4 := (show Rw W69 (vs 4) S from h69_4)
 rw [er69_7] at h69_4
 replace h69_1 : vs 1 = .int .i64 (K : Int) := h69_1
 replace h69_5 : vs 5 = .int .i64 0 := h69_5
 replace h69_8 : vs 8 = .int .i64 0 := h69_8
 simp only [ev69_7, er69_7, h69_1, h69_5, h69_8]
 replace h69_0 : Zw W69 (vs 0) 1 := h69_0
 generalize vs 0 = u69_0 at h69_0 ⊢
 clear ev69_7 er69_7 h69_1 h69_5 h69_8 h69_2 h69_3 h69_6
 obtain ⟨kp2_0, kp2_1, kp2_2⟩ := p2.c3
 obtain ⟨kp63_7_0, kp63_7_1⟩ := p63_7.c2
 obtain ⟨kp64_7_0, kp64_7_1⟩ := p64_7.c2
 obtain ⟨kp65_7_0, kp65_7_1⟩ := p65_7.c2
 obtain ⟨kp66_7_0, kp66_7_1, kp66_7_2⟩ := p66_7.c3
 obtain ⟨kp67_7_0, kp67_7_1, kp67_7_2⟩ := p67_7.c3
 obtain ⟨kp68_7_0, kp68_7_1, kp68_7_2⟩ := p68_7.c3
 obtain ⟨kp69_7_0, kp69_7_1, kp69_7_2⟩ := p69_7.c3
 go_upto_region 12 with (fail)
 clear kp2_0 kp2_1 kp2_2 kp63_7_0 kp63_7_1 kp64_7_0 kp64_7_1 kp65_7_0 kp65_7_1 kp66_7_0 kp66_7_1 kp66_7_2 kp67_7_0 kp67_7_1 kp67_7_2 kp68_7_0 kp68_7_1 kp68_7_2 kp69_7_0 kp69_7_1 kp69_7_2; have ltp69_7 := p69_7.lt; have szw70 := Ext.size E0
 refine region_gs [.one fun v _ => v = .agg #[.bool b66_7, .slice a66_7 n66_7 c66_7, .slice d66_7 m66_7 o66_7],
   .one fun v _ => v = .agg #[.bool b1, .slice a1 n1 c1, .slice d1 m1 o1],
   .one fun v _ => v = .bool false,
   .one fun v _ => v = .bool false]
  (fun W => Ext w W ∧ Rw W (.agg #[.bool b1, .slice a1 n1 c1, .slice d1 m1 o1]) x ∧ Bx3 W w.heap.size 27 (.bool b1) (.slice a1 n1 c1) (.slice d1 m1 o1) ∧ Zw W (.agg #[.bool b63_7, .slice a63_7 n63_7 c63_7]) F ∧ Bx2 W g63_7 25 (.bool b63_7) (.slice a63_7 n63_7 c63_7) ∧ Zw W (.agg #[.bool b64_7, .slice a64_7 n64_7 c64_7]) C ∧ Bx2 W g64_7 25 (.bool b64_7) (.slice a64_7 n64_7 c64_7) ∧ Zw W (.agg #[.bool b65_7, .slice a65_7 n65_7 c65_7]) M ∧ Bx2 W g65_7 25 (.bool b65_7) (.slice a65_7 n65_7 c65_7) ∧ Rw W (.agg #[.bool b66_7, .slice a66_7 n66_7 c66_7, .slice d66_7 m66_7 o66_7]) X ∧ Bx3 W g66_7 27 (.bool b66_7) (.slice a66_7 n66_7 c66_7) (.slice d66_7 m66_7 o66_7) ∧ Rw W (.agg #[.bool b67_7, .slice a67_7 n67_7 c67_7, .slice d67_7 m67_7 o67_7]) Y ∧ Bx3 W g67_7 27 (.bool b67_7) (.slice a67_7 n67_7 c67_7) (.slice d67_7 m67_7 o67_7) ∧ Rw W (.agg #[.bool b68_7, .slice a68_7 n68_7 c68_7, .slice d68_7 m68_7 o68_7]) Z ∧ Bx3 W g68_7 27 (.bool b68_7) (.slice a68_7 n68_7 c68_7) (.slice d68_7 m68_7 o68_7) ∧ Rw W (.agg #[.bool b69_7, .slice a69_7 n69_7 c69_7, .slice d69_7 m69_7 o69_7]) S ∧ Bx3 W g69_7 27 (.bool b69_7) (.slice a69_7 n69_7 c69_7) (.slice d69_7 m69_7 o69_7) ∧ Zw W u69_0 1 ∧ W69.heap.size ≤ W.heap.size) ⟨Good.is _, Good.is _, Good.is _, Good.is _, trivial⟩
  ⟨E0, hx1, p2, h63_4, p63_7, h64_4, p64_7, h65_4, p65_7, h66_4, p66_7, h67_4, p67_7, h68_4, p68_7, h69_4, p69_7, h69_0, Nat.le_refl _⟩ (A := ?A70) ?hA70 ?howe70 ?hfin70
 case hA70 =>
  intro vs
  simp only [putAll, Act.put, sA, sZ, sS, Nat.zero_add, Nat.reduceAdd]
  exact rfl
 case howe70 =>
  clear E0 hx1 p2 h63_4 p63_7 h64_4 p64_7 h65_4 p65_7 h66_4 p66_7 h67_4 p67_7 h68_4 p68_7 h69_4 p69_7 h69_0
  intro hf
  refine ⟨oE 0 [] hf rfl ?_, oE 1 [] hf rfl ?_, oE 2 [0, 1] hf rfl ?_, oE 3 [2] hf rfl ?_, trivial⟩
  all_goals intro vs W hS hp hx KO hKO
  all_goals simp only [Act.put, sA, sZ, sS] at hKO
  ·have fc0 := hS.2.2.2.2.2.2.2.2.2.2.1.cell0; have fc1 := hS.2.2.2.2.2.2.2.2.2.2.1.cell1; have fc2 := hS.2.2.2.2.2.2.2.2.2.2.1.cell2; go_simp; exact hKO _ W (.refl W) rfl
  ·have fc0 := hS.2.2.1.cell0; have fc1 := hS.2.2.1.cell1; have fc2 := hS.2.2.1.cell2; go_simp; exact hKO _ W (.refl W) rfl
  ·have e0 := isOf hp.1; have e1 := isOf hp.2.1; simp only [e0, e1] at hKO; go_simp
   refine (Try.refRSameF6 (hS.2.2.2.2.2.2.2.2.2.1) (hS.2.1) HON.out).mono ?_
   rintro e W1 ⟨rfl, hE⟩
   exact hKO _ W1 hE rfl
  ·have e2 := isOf hp.1; simp only [e2] at hKO; go_simp; exact hKO _ W (.refl W) rfl
 intro vs W70 hS hp
 clear szw70 E0 hx1 p2 h63_4 p63_7 h64_4 p64_7 h65_4 p65_7 h66_4 p66_7 h67_4 p67_7 h68_4 p68_7 h69_4 p69_7 h69_0
 obtain ⟨E0, hx1, p2, h63_4, p63_7, h64_4, p64_7, h65_4, p65_7, h66_4, p66_7, h67_4, p67_7, h68_4, p68_7, h69_4, p69_7, h69_0, sz70⟩ := hS
 obtain ⟨h70_0, h70_1, h70_2, h70_3, -⟩ := hp
 replace h70_0 : vs 0 = .agg #[.bool b66_7, .slice a66_7 n66_7 c66_7, .slice d66_7 m66_7 o66_7] := h70_0
 replace h70_1 : vs 1 = .agg #[.bool b1, .slice a1 n1 c1, .slice d1 m1 o1] := h70_1
 replace h70_2 : vs 2 = .bool false := h70_2
 replace h70_3 : vs 3 = .bool false := h70_3
 simp only [h70_0, h70_1, h70_2, h70_3]
 clear h70_0 h70_1 h70_2 h70_3
 obtain ⟨kp2_0, kp2_1, kp2_2⟩ := p2.c3
 obtain ⟨kp63_7_0, kp63_7_1⟩ := p63_7.c2
 obtain ⟨kp64_7_0, kp64_7_1⟩ := p64_7.c2
 obtain ⟨kp65_7_0, kp65_7_1⟩ := p65_7.c2
 obtain ⟨kp66_7_0, kp66_7_1, kp66_7_2⟩ := p66_7.c3
 obtain ⟨kp67_7_0, kp67_7_1, kp67_7_2⟩ := p67_7.c3
 obtain ⟨kp68_7_0, kp68_7_1, kp68_7_2⟩ := p68_7.c3
 obtain ⟨kp69_7_0, kp69_7_1, kp69_7_2⟩ := p69_7.c3
 go_upto_region 13 with (fail)
 clear kp2_0 kp2_1 kp2_2 kp63_7_0 kp63_7_1 kp64_7_0 kp64_7_1 kp65_7_0 kp65_7_1 kp66_7_0 kp66_7_1 kp66_7_2 kp67_7_0 kp67_7_1 kp67_7_2 kp68_7_0 kp68_7_1 kp68_7_2 kp69_7_0 kp69_7_1 kp69_7_2; have szw71 := Ext.size E0
 refine region_gs [.one fun v _ => v = .agg #[.bool b66_7, .slice a66_7 n66_7 c66_7, .slice d66_7 m66_7 o66_7],
   .one fun v _ => v = .agg #[.bool b1, .slice a1 n1 c1, .slice d1 m1 o1],
   .one fun v _ => v = .int .i64 e1,
   .one fun v _ => v = .bool false,
   .one fun v _ => v = .bool false,
   .one fun v _ => v = .agg #[.bool b1, .slice a1 n1 c1, .slice d1 m1 o1],
   .one fun v _ => v = .agg #[.bool b67_7, .slice a67_7 n67_7 c67_7, .slice d67_7 m67_7 o67_7],
   .one fun v _ => v = .int .i64 e2,
   .one fun v _ => v = .bool false,
   .one fun v _ => v = .bool false,
   .one fun v _ => v = .bool false,
   .one fun v _ => v = .bool false,
   .one fun v _ => v = .agg #[.bool b67_7, .slice a67_7 n67_7 c67_7, .slice d67_7 m67_7 o67_7],
   .one fun v _ => v = .agg #[.bool b1, .slice a1 n1 c1, .slice d1 m1 o1],
   .one fun v _ => v = .bool false,
   .one fun v _ => v = .bool false,
   .one fun v _ => v = .bool false,
   .one fun v _ => v = .bool false,
   .one fun v _ => v = .bool false,
   .one fun v _ => v = .bool true,
   .one fun v _ => v = .bool true,
   .one fun v _ => v = .agg #[.bool b67_7, .slice a67_7 n67_7 c67_7, .slice d67_7 m67_7 o67_7],
   .one fun v _ => v = .agg #[.bool b66_7, .slice a66_7 n66_7 c66_7, .slice d66_7 m66_7 o66_7],
   .one fun v W => Rw W v S,
   .one fun v _ => v = .agg #[.bool b69_7, .slice a69_7 n69_7 c69_7, .slice d69_7 m69_7 o69_7],
   .one fun v _ => v = .bool true,
   .one fun v _ => v = .bool false,
   .one fun v _ => v = .bool false,
   .one fun v _ => v = .bool false]
  (fun W => Ext w W ∧ Rw W (.agg #[.bool b1, .slice a1 n1 c1, .slice d1 m1 o1]) x ∧ Bx3 W w.heap.size 27 (.bool b1) (.slice a1 n1 c1) (.slice d1 m1 o1) ∧ Zw W (.agg #[.bool b63_7, .slice a63_7 n63_7 c63_7]) F ∧ Bx2 W g63_7 25 (.bool b63_7) (.slice a63_7 n63_7 c63_7) ∧ Zw W (.agg #[.bool b64_7, .slice a64_7 n64_7 c64_7]) C ∧ Bx2 W g64_7 25 (.bool b64_7) (.slice a64_7 n64_7 c64_7) ∧ Zw W (.agg #[.bool b65_7, .slice a65_7 n65_7 c65_7]) M ∧ Bx2 W g65_7 25 (.bool b65_7) (.slice a65_7 n65_7 c65_7) ∧ Rw W (.agg #[.bool b66_7, .slice a66_7 n66_7 c66_7, .slice d66_7 m66_7 o66_7]) X ∧ Bx3 W g66_7 27 (.bool b66_7) (.slice a66_7 n66_7 c66_7) (.slice d66_7 m66_7 o66_7) ∧ Rw W (.agg #[.bool b67_7, .slice a67_7 n67_7 c67_7, .slice d67_7 m67_7 o67_7]) Y ∧ Bx3 W g67_7 27 (.bool b67_7) (.slice a67_7 n67_7 c67_7) (.slice d67_7 m67_7 o67_7) ∧ Rw W (.agg #[.bool b68_7, .slice a68_7 n68_7 c68_7, .slice d68_7 m68_7 o68_7]) Z ∧ Bx3 W g68_7 27 (.bool b68_7) (.slice a68_7 n68_7 c68_7) (.slice d68_7 m68_7 o68_7) ∧ Rw W (.agg #[.bool b69_7, .slice a69_7 n69_7 c69_7, .slice d69_7 m69_7 o69_7]) S ∧ Bx3 W g69_7 27 (.bool b69_7) (.slice a69_7 n69_7 c69_7) (.slice d69_7 m69_7 o69_7) ∧ Zw W u69_0 1 ∧ W70.heap.size ≤ W.heap.size) ⟨Good.is _, Good.is _, Good.is _, Good.is _, Good.is _, Good.is _, Good.is _, Good.is _, Good.is _, Good.is _, Good.is _, Good.is _, Good.is _, Good.is _, Good.is _, Good.is _, Good.is _, Good.is _, Good.is _, Good.is _, Good.is _, Good.is _, Good.is _, Good.rat _, Good.is _, Good.is _, Good.is _, Good.is _, Good.is _, trivial⟩
  ⟨E0, hx1, p2, h63_4, p63_7, h64_4, p64_7, h65_4, p65_7, h66_4, p66_7, h67_4, p67_7, h68_4, p68_7, h69_4, p69_7, h69_0, Nat.le_refl _⟩ (A := ?A71) ?hA71 ?howe71 ?hfin71
 case hA71 =>
  intro vs
  simp only [putAll, Act.put, sA, sZ, sS, Nat.zero_add, Nat.reduceAdd]
  exact rfl
 case howe71 =>
  clear E0 hx1 p2 h63_4 p63_7 h64_4 p64_7 h65_4 p65_7 h66_4 p66_7 h67_4 p67_7 h68_4 p68_7 h69_4 p69_7 h69_0
  intro hf
  refine ⟨oE 0 [] hf rfl ?_, oE 1 [] hf rfl ?_, oE 2 [0, 1] hf rfl ?_, oE 3 [2] hf rfl ?_, oE 4 [3] hf rfl ?_, oE 5 [4] hf rfl ?_, oE 6 [4] hf rfl ?_, oE 7 [4, 5, 6] hf rfl ?_, oE 8 [4, 7] hf rfl ?_, oE 9 [4, 8] hf rfl ?_, oE 10 [9] hf rfl ?_, oE 11 [10] hf rfl ?_, oE 12 [10] hf rfl ?_, oE 13 [10] hf rfl ?_, oE 14 [10, 12, 13] hf rfl ?_, oE 15 [10, 11, 14] hf rfl ?_, oE 16 [10, 15] hf rfl ?_, oE 17 [16] hf rfl ?_, oE 18 [17] hf rfl ?_, oE 19 [17, 18] hf rfl ?_, oE 20 [17, 19] hf rfl ?_, oE 21 [20] hf rfl ?_, oE 22 [20] hf rfl ?_, oE 23 [20, 21, 22] hf rfl ?_, oE 24 [20] hf rfl ?_, oE 25 [20, 23, 24] hf rfl ?_, oE 26 [20, 25] hf rfl ?_, oE 27 [17, 20, 26] hf rfl ?_, oE 28 [17, 27] hf rfl ?_, trivial⟩
  all_goals intro vs W hS hp hx KO hKO
  all_goals simp only [Act.put, sA, sZ, sS] at hKO
  ·have fc0 := hS.2.2.2.2.2.2.2.2.2.2.1.cell0; have fc1 := hS.2.2.2.2.2.2.2.2.2.2.1.cell1; have fc2 := hS.2.2.2.2.2.2.2.2.2.2.1.cell2; go_simp; exact hKO _ W (.refl W) rfl
  ·have fc0 := hS.2.2.1.cell0; have fc1 := hS.2.2.1.cell1; have fc2 := hS.2.2.1.cell2; go_simp; exact hKO _ W (.refl W) rfl
  ·have e0 := isOf hp.1; have e1 := isOf hp.2.1; simp only [e0, e1] at hKO; go_simp
   refine (Try.refRCmpR (hS.2.2.2.2.2.2.2.2.2.1) (hS.2.1) SX.out Sx.out (by omega) HC1.out).mono ?_
   rintro e W1 ⟨rfl, hE⟩
   exact hKO _ W1 hE rfl
  ·have e2 := isOf hp.1; simp only [e2] at hKO; go_simp; exact hKO _ W (.refl W) rfl
  ·have e3 := isOf hp.1; simp only [e3] at hKO; go_simp; exact hKO _ W (.refl W) rfl
  ·have e4 := isOf hp.1; simp only [e4] at hKO; have fc0 := hS.2.2.1.cell0; have fc1 := hS.2.2.1.cell1; have fc2 := hS.2.2.1.cell2; go_simp; exact hKO _ W (.refl W) rfl
  ·have e4 := isOf hp.1; simp only [e4] at hKO; have fc0 := hS.2.2.2.2.2.2.2.2.2.2.2.2.1.cell0; have fc1 := hS.2.2.2.2.2.2.2.2.2.2.2.2.1.cell1; have fc2 := hS.2.2.2.2.2.2.2.2.2.2.2.2.1.cell2; go_simp; exact hKO _ W (.refl W) rfl
  ·have e4 := isOf hp.1; have e5 := isOf hp.2.1; have e6 := isOf hp.2.2.1; simp only [e4, e5, e6] at hKO; go_simp
   refine (Try.refRCmpR (hS.2.1) (hS.2.2.2.2.2.2.2.2.2.2.2.1) Sx.out SY.out (by omega) HC2.out).mono ?_
   rintro e W1 ⟨rfl, hE⟩
   exact hKO _ W1 hE rfl
  ·have e4 := isOf hp.1; have e7 := isOf hp.2.1; simp only [e4, e7] at hKO; go_simp; exact hKO _ W (.refl W) rfl
  ·have e4 := isOf hp.1; have e8 := isOf hp.2.1; simp only [e4, e8] at hKO; go_simp; exact hKO _ W (.refl W) rfl
  ·have e9 := isOf hp.1; simp only [e9] at hKO; go_simp; exact hKO _ W (.refl W) rfl
  ·have e10 := isOf hp.1; simp only [e10] at hKO; go_simp; exact hKO _ W (.refl W) rfl
  ·have e10 := isOf hp.1; simp only [e10] at hKO; have fc0 := hS.2.2.2.2.2.2.2.2.2.2.2.2.1.cell0; have fc1 := hS.2.2.2.2.2.2.2.2.2.2.2.2.1.cell1; have fc2 := hS.2.2.2.2.2.2.2.2.2.2.2.2.1.cell2; go_simp; exact hKO _ W (.refl W) rfl
  ·have e10 := isOf hp.1; simp only [e10] at hKO; have fc0 := hS.2.2.1.cell0; have fc1 := hS.2.2.1.cell1; have fc2 := hS.2.2.1.cell2; go_simp; exact hKO _ W (.refl W) rfl
  ·have e10 := isOf hp.1; have e12 := isOf hp.2.1; have e13 := isOf hp.2.2.1; simp only [e10, e12, e13] at hKO; go_simp
   refine (Try.refRSameF6 (hS.2.2.2.2.2.2.2.2.2.2.2.1) (hS.2.1) HON2.out).mono ?_
   rintro e W1 ⟨rfl, hE⟩
   exact hKO _ W1 hE rfl
  ·have e10 := isOf hp.1; have e11 := isOf hp.2.1; have e14 := isOf hp.2.2.1; simp only [e10, e11, e14] at hKO; go_simp; exact hKO _ W (.refl W) rfl
  ·have e10 := isOf hp.1; have e15 := isOf hp.2.1; simp only [e10, e15] at hKO; go_simp; exact hKO _ W (.refl W) rfl
  ·have e16 := isOf hp.1; simp only [e16] at hKO; go_simp; exact hKO _ W (.refl W) rfl
  ·have e17 := isOf hp.1; simp only [e17] at hKO; go_simp; exact hKO _ W (.refl W) rfl
  ·have e17 := isOf hp.1; have e18 := isOf hp.2.1; simp only [e17, e18] at hKO; go_simp; exact hKO _ W (.refl W) rfl
  ·have e17 := isOf hp.1; have e19 := isOf hp.2.1; simp only [e17, e19] at hKO; go_simp; exact hKO _ W (.refl W) rfl
  ·have e20 := isOf hp.1; simp only [e20] at hKO; have fc0 := hS.2.2.2.2.2.2.2.2.2.2.2.2.1.cell0; have fc1 := hS.2.2.2.2.2.2.2.2.2.2.2.2.1.cell1; have fc2 := hS.2.2.2.2.2.2.2.2.2.2.2.2.1.cell2; go_simp; exact hKO _ W (.refl W) rfl
  ·have e20 := isOf hp.1; simp only [e20] at hKO; have fc0 := hS.2.2.2.2.2.2.2.2.2.2.1.cell0; have fc1 := hS.2.2.2.2.2.2.2.2.2.2.1.cell1; have fc2 := hS.2.2.2.2.2.2.2.2.2.2.1.cell2; go_simp; exact hKO _ W (.refl W) rfl
  ·have e20 := isOf hp.1; have e21 := isOf hp.2.1; have e22 := isOf hp.2.2.1; simp only [e20, e21, e22] at hKO; go_simp
   refine (Try.refRSub (hS.2.2.2.2.2.2.2.2.2.2.2.1) (hS.2.2.2.2.2.2.2.2.2.1) SY.out SX.out (by omega)).mono ?_
   rintro e W1 ⟨v, rfl, hv, hE⟩
   rw [HSd.out] at hv
   exact hKO _ W1 hE hv
  ·have e20 := isOf hp.1; simp only [e20] at hKO; have fc0 := hS.2.2.2.2.2.2.2.2.2.2.2.2.2.2.2.2.1.cell0; have fc1 := hS.2.2.2.2.2.2.2.2.2.2.2.2.2.2.2.2.1.cell1; have fc2 := hS.2.2.2.2.2.2.2.2.2.2.2.2.2.2.2.2.1.cell2; go_simp; exact hKO _ W (.refl W) rfl
  ·have e20 := isOf hp.1; have q23 := hp.2.1; have e24 := isOf hp.2.2.1; simp only [e20, e24] at hKO; go_simp
   refine (Try.refRSameD q23 (hS.2.2.2.2.2.2.2.2.2.2.2.2.2.2.2.1) rfl).mono ?_
   rintro e W1 ⟨rfl, hE⟩
   exact hKO _ W1 hE rfl
  ·have e20 := isOf hp.1; have e25 := isOf hp.2.1; simp only [e20, e25] at hKO; go_simp; exact hKO _ W (.refl W) rfl
  ·have e17 := isOf hp.1; have e20 := isOf hp.2.1; have e26 := isOf hp.2.2.1; simp only [e17, e20, e26] at hKO; go_simp; exact hKO _ W (.refl W) rfl
  ·have e17 := isOf hp.1; have e27 := isOf hp.2.1; simp only [e17, e27] at hKO; go_simp; exact hKO _ W (.refl W) rfl
 intro vs W71 hS hp
 clear szw71 E0 hx1 p2 h63_4 p63_7 h64_4 p64_7 h65_4 p65_7 h66_4 p66_7 h67_4 p67_7 h68_4 p68_7 h69_4 p69_7 h69_0
 obtain ⟨E0, hx1, p2, h63_4, p63_7, h64_4, p64_7, h65_4, p65_7, h66_4, p66_7, h67_4, p67_7, h68_4, p68_7, h69_4, p69_7, h69_0, sz71⟩ := hS
 obtain ⟨h71_0, h71_1, h71_2, h71_3, h71_4, h71_5, h71_6, h71_7, h71_8, h71_9, h71_10, h71_11, h71_12, h71_13, h71_14, h71_15, h71_16, h71_17, h71_18, h71_19, h71_20, h71_21, h71_22, h71_23, h71_24, h71_25, h71_26, h71_27, h71_28, -⟩ := hp
 replace h71_0 : vs 0 = .agg #[.bool b66_7, .slice a66_7 n66_7 c66_7, .slice d66_7 m66_7 o66_7] := h71_0
 replace h71_1 : vs 1 = .agg #[.bool b1, .slice a1 n1 c1, .slice d1 m1 o1] := h71_1
 replace h71_2 : vs 2 = .int .i64 e1 := h71_2
 replace h71_3 : vs 3 = .bool false := h71_3
 replace h71_4 : vs 4 = .bool false := h71_4
 replace h71_5 : vs 5 = .agg #[.bool b1, .slice a1 n1 c1, .slice d1 m1 o1] := h71_5
 replace h71_6 : vs 6 = .agg #[.bool b67_7, .slice a67_7 n67_7 c67_7, .slice d67_7 m67_7 o67_7] := h71_6
 replace h71_7 : vs 7 = .int .i64 e2 := h71_7
 replace h71_8 : vs 8 = .bool false := h71_8
 replace h71_9 : vs 9 = .bool false := h71_9
 replace h71_10 : vs 10 = .bool false := h71_10
 replace h71_11 : vs 11 = .bool false := h71_11
 replace h71_12 : vs 12 = .agg #[.bool b67_7, .slice a67_7 n67_7 c67_7, .slice d67_7 m67_7 o67_7] := h71_12
 replace h71_13 : vs 13 = .agg #[.bool b1, .slice a1 n1 c1, .slice d1 m1 o1] := h71_13
 replace h71_14 : vs 14 = .bool false := h71_14
 replace h71_15 : vs 15 = .bool false := h71_15
 replace h71_16 : vs 16 = .bool false := h71_16
 replace h71_17 : vs 17 = .bool false := h71_17
 replace h71_18 : vs 18 = .bool false := h71_18
 replace h71_19 : vs 19 = .bool true := h71_19
 replace h71_20 : vs 20 = .bool true := h71_20
 replace h71_21 : vs 21 = .agg #[.bool b67_7, .slice a67_7 n67_7 c67_7, .slice d67_7 m67_7 o67_7] := h71_21
 replace h71_22 : vs 22 = .agg #[.bool b66_7, .slice a66_7 n66_7 c66_7, .slice d66_7 m66_7 o66_7] := h71_22
 replace h71_24 : vs 24 = .agg #[.bool b69_7, .slice a69_7 n69_7 c69_7, .slice d69_7 m69_7 o69_7] := h71_24
 replace h71_25 : vs 25 = .bool true := h71_25
 replace h71_26 : vs 26 = .bool false := h71_26
 replace h71_27 : vs 27 = .bool false := h71_27
 replace h71_28 : vs 28 = .bool false := h71_28
 simp only [h71_0, h71_1, h71_2, h71_3, h71_4, h71_5, h71_6, h71_7, h71_8, h71_9, h71_10, h71_11, h71_12, h71_13, h71_14, h71_15, h71_16, h71_17, h71_18, h71_19, h71_20, h71_21, h71_22, h71_24, h71_25, h71_26, h71_27, h71_28]
 replace h71_23 : Rw W71 (vs 23) S := h71_23
 generalize vs 23 = u71_23 at h71_23 ⊢
 clear h71_0 h71_1 h71_2 h71_3 h71_4 h71_5 h71_6 h71_7 h71_8 h71_9 h71_10 h71_11 h71_12 h71_13 h71_14 h71_15 h71_16 h71_17 h71_18 h71_19 h71_20 h71_21 h71_22 h71_24 h71_25 h71_26 h71_27 h71_28
 obtain ⟨kp2_0, kp2_1, kp2_2⟩ := p2.c3
 obtain ⟨kp63_7_0, kp63_7_1⟩ := p63_7.c2
 obtain ⟨kp64_7_0, kp64_7_1⟩ := p64_7.c2
 obtain ⟨kp65_7_0, kp65_7_1⟩ := p65_7.c2
 obtain ⟨kp66_7_0, kp66_7_1, kp66_7_2⟩ := p66_7.c3
 obtain ⟨kp67_7_0, kp67_7_1, kp67_7_2⟩ := p67_7.c3
 obtain ⟨kp68_7_0, kp68_7_1, kp68_7_2⟩ := p68_7.c3
 obtain ⟨kp69_7_0, kp69_7_1, kp69_7_2⟩ := p69_7.c3
 go_upto_region 15 with (fail)
 clear kp2_0 kp2_1 kp2_2 kp63_7_0 kp63_7_1 kp64_7_0 kp64_7_1 kp65_7_0 kp65_7_1 kp66_7_0 kp66_7_1 kp66_7_2 kp67_7_0 kp67_7_1 kp67_7_2 kp68_7_0 kp68_7_1 kp68_7_2 kp69_7_0 kp69_7_1 kp69_7_2; have szw72 := Ext.size E0
 refine region_gs [.one fun v _ => v = .agg #[.bool b68_7, .slice a68_7 n68_7 c68_7, .slice d68_7 m68_7 o68_7],
   .one fun v _ => v = .agg #[.bool b1, .slice a1 n1 c1, .slice d1 m1 o1],
   .one fun v W => Rw W v (Z - x),
   .one fun v W => Rw W v D,
   .one fun v W => ∃ g, v = .pointer (some ⟨g, 0, none⟩) ∧ W71.heap.size ≤ g ∧ Form W g 27 3,
   .three 4 3 (fun p r _ W => Put3 W71.heap.size 27 p r W)]
  (fun W => Ext w W ∧ Rw W (.agg #[.bool b1, .slice a1 n1 c1, .slice d1 m1 o1]) x ∧ Bx3 W w.heap.size 27 (.bool b1) (.slice a1 n1 c1) (.slice d1 m1 o1) ∧ Zw W (.agg #[.bool b63_7, .slice a63_7 n63_7 c63_7]) F ∧ Bx2 W g63_7 25 (.bool b63_7) (.slice a63_7 n63_7 c63_7) ∧ Zw W (.agg #[.bool b64_7, .slice a64_7 n64_7 c64_7]) C ∧ Bx2 W g64_7 25 (.bool b64_7) (.slice a64_7 n64_7 c64_7) ∧ Zw W (.agg #[.bool b65_7, .slice a65_7 n65_7 c65_7]) M ∧ Bx2 W g65_7 25 (.bool b65_7) (.slice a65_7 n65_7 c65_7) ∧ Rw W (.agg #[.bool b66_7, .slice a66_7 n66_7 c66_7, .slice d66_7 m66_7 o66_7]) X ∧ Bx3 W g66_7 27 (.bool b66_7) (.slice a66_7 n66_7 c66_7) (.slice d66_7 m66_7 o66_7) ∧ Rw W (.agg #[.bool b67_7, .slice a67_7 n67_7 c67_7, .slice d67_7 m67_7 o67_7]) Y ∧ Bx3 W g67_7 27 (.bool b67_7) (.slice a67_7 n67_7 c67_7) (.slice d67_7 m67_7 o67_7) ∧ Rw W (.agg #[.bool b68_7, .slice a68_7 n68_7 c68_7, .slice d68_7 m68_7 o68_7]) Z ∧ Bx3 W g68_7 27 (.bool b68_7) (.slice a68_7 n68_7 c68_7) (.slice d68_7 m68_7 o68_7) ∧ Rw W (.agg #[.bool b69_7, .slice a69_7 n69_7 c69_7, .slice d69_7 m69_7 o69_7]) S ∧ Bx3 W g69_7 27 (.bool b69_7) (.slice a69_7 n69_7 c69_7) (.slice d69_7 m69_7 o69_7) ∧ Zw W u69_0 1 ∧ Rw W u71_23 S ∧ W71.heap.size ≤ W.heap.size) ⟨Good.is _, Good.is _, Good.rat _, Good.rat _, Good.box _ _ _, cert_put3, trivial⟩
  ⟨E0, hx1, p2, h63_4, p63_7, h64_4, p64_7, h65_4, p65_7, h66_4, p66_7, h67_4, p67_7, h68_4, p68_7, h69_4, p69_7, h69_0, h71_23, Nat.le_refl _⟩ (A := ?A72) ?hA72 ?howe72 ?hfin72
 case hA72 =>
  intro vs
  simp only [putAll, Act.put, sA, sZ, sS, Nat.zero_add, Nat.reduceAdd]
  exact rfl
 case howe72 =>
  clear E0 hx1 p2 h63_4 p63_7 h64_4 p64_7 h65_4 p65_7 h66_4 p66_7 h67_4 p67_7 h68_4 p68_7 h69_4 p69_7 h69_0 h71_23
  intro hf
  refine ⟨oE 0 [] hf rfl ?_, oE 1 [] hf rfl ?_, oE 2 [0, 1] hf rfl ?_, oE 3 [2] hf rfl ?_, oE 4 [] hf rfl ?_, oW 5 [4, 3] hf rfl ?_, trivial⟩
  all_goals intro vs W hS hp hx KO hKO
  all_goals simp only [Act.put, sA, sZ, sS] at hKO
  ·have fc0 := hS.2.2.2.2.2.2.2.2.2.2.2.2.2.2.1.cell0; have fc1 := hS.2.2.2.2.2.2.2.2.2.2.2.2.2.2.1.cell1; have fc2 := hS.2.2.2.2.2.2.2.2.2.2.2.2.2.2.1.cell2; go_simp; exact hKO _ W (.refl W) rfl
  ·have fc0 := hS.2.2.1.cell0; have fc1 := hS.2.2.1.cell1; have fc2 := hS.2.2.1.cell2; go_simp; exact hKO _ W (.refl W) rfl
  ·have e0 := isOf hp.1; have e1 := isOf hp.2.1; simp only [e0, e1] at hKO; go_simp
   refine (Try.refRSub (hS.2.2.2.2.2.2.2.2.2.2.2.2.2.1) (hS.2.1) SZ.out Sx.out (by omega)).mono ?_
   rintro e W1 ⟨v, rfl, hv, hE⟩
   exact hKO _ W1 hE hv
  ·have q2 := hp.1; go_simp
   refine (Try.refRAbs q2).mono ?_
   rintro e W1 ⟨v, rfl, hv, hE⟩
   rw [HD.out] at hv
   exact hKO _ W1 hE hv
  ·have hn := Bx3.new W 27 (.bool false) (.slice none 0 0) (.slice none 0 0)
   have hE := Ext.alloc1 W (.cells #[.bool false, .slice none 0 0, .slice none 0 0] 27)
   have hsz := hS.2.2.2.2.2.2.2.2.2.2.2.2.2.2.2.2.2.2.2
   go_simp
   exact hKO _ _ hE ⟨_, rfl, hsz, hn.form⟩
  ·have q4 := hp.1; have q3 := hp.2.1
   obtain ⟨g, ev, hg, hf⟩ := q4
   replace ev : vs 4 = _ := ev
   obtain ⟨x0_0, x0_1, x0_2, hx, hno⟩ := hf.bx3
   have qr := q3
   obtain ⟨b3, a3, n3, c3, d3, m3, o3, er, -, -, -⟩ := qr
   replace er : vs 3 = _ := er
   have r0 := hx.froz0
   have t0 := hx.cell0
   have r1 := hx.froz1
   have t1 := hx.cell1
   have r2 := hx.froz2
   have t2 := hx.cell2
   have hw := Wr.set3 hx hno b3 a3 n3 c3 d3 m3 o3
   have hq := hx.set (.bool b3) (.slice a3 n3 c3) (.slice d3 m3 o3)
   simp only [ev, er] at hKO; go_simp
   exact hKO _ _ hw ⟨(Ext.wr hS.1 hw (by omega)), (hS.2.1.wr hw), (hS.2.2.1.wr hw (by omega)), (hS.2.2.2.1.wr hw), (hS.2.2.2.2.1.wr hw (by omega)), (hS.2.2.2.2.2.1.wr hw), (hS.2.2.2.2.2.2.1.wr hw (by omega)), (hS.2.2.2.2.2.2.2.1.wr hw), (hS.2.2.2.2.2.2.2.2.1.wr hw (by omega)), (hS.2.2.2.2.2.2.2.2.2.1.wr hw), (hS.2.2.2.2.2.2.2.2.2.2.1.wr hw (by omega)), (hS.2.2.2.2.2.2.2.2.2.2.2.1.wr hw), (hS.2.2.2.2.2.2.2.2.2.2.2.2.1.wr hw (by omega)), (hS.2.2.2.2.2.2.2.2.2.2.2.2.2.1.wr hw), (hS.2.2.2.2.2.2.2.2.2.2.2.2.2.2.1.wr hw (by omega)), (hS.2.2.2.2.2.2.2.2.2.2.2.2.2.2.2.1.wr hw), (hS.2.2.2.2.2.2.2.2.2.2.2.2.2.2.2.2.1.wr hw (by omega)), (hS.2.2.2.2.2.2.2.2.2.2.2.2.2.2.2.2.2.1.wr hw), (hS.2.2.2.2.2.2.2.2.2.2.2.2.2.2.2.2.2.2.1.wr hw), (Nat.le_trans hS.2.2.2.2.2.2.2.2.2.2.2.2.2.2.2.2.2.2.2 hw.apart.size)⟩ ⟨g, b3, a3, n3, c3, d3, m3, o3, ev, er, hg, hq⟩
 intro vs W72 hS hp
 clear szw72 E0 hx1 p2 h63_4 p63_7 h64_4 p64_7 h65_4 p65_7 h66_4 p66_7 h67_4 p67_7 h68_4 p68_7 h69_4 p69_7 h69_0 h71_23
 obtain ⟨E0, hx1, p2, h63_4, p63_7, h64_4, p64_7, h65_4, p65_7, h66_4, p66_7, h67_4, p67_7, h68_4, p68_7, h69_4, p69_7, h69_0, h71_23, sz72⟩ := hS
 obtain ⟨h72_0, h72_1, h72_2, h72_3, h72_4, h72_5, -⟩ := hp
 obtain ⟨g72_5, b72_5, a72_5, n72_5, c72_5, d72_5, m72_5, o72_5, ev72_5, er72_5, hg72_5, p72_5⟩ := h72_5
 replace ev72_5 : vs 4 = _ := ev72_5; replace er72_5 : vs 3 = _ := er72_5; replace h72_3 := (show Rw W72 (vs 3) D from h72_3)
 rw [er72_5] at h72_3
 replace h72_0 : vs 0 = .agg #[.bool b68_7, .slice a68_7 n68_7 c68_7, .slice d68_7 m68_7 o68_7] := h72_0
 replace h72_1 : vs 1 = .agg #[.bool b1, .slice a1 n1 c1, .slice d1 m1 o1] := h72_1
 simp only [ev72_5, er72_5, h72_0, h72_1]
 replace h72_2 : Rw W72 (vs 2) (Z - x) := h72_2
 generalize vs 2 = u72_2 at h72_2 ⊢
 clear ev72_5 er72_5 h72_0 h72_1 h72_4
 obtain ⟨kp2_0, kp2_1, kp2_2⟩ := p2.c3
 obtain ⟨kp63_7_0, kp63_7_1⟩ := p63_7.c2
 obtain ⟨kp64_7_0, kp64_7_1⟩ := p64_7.c2
 obtain ⟨kp65_7_0, kp65_7_1⟩ := p65_7.c2
 obtain ⟨kp66_7_0, kp66_7_1, kp66_7_2⟩ := p66_7.c3
 obtain ⟨kp67_7_0, kp67_7_1, kp67_7_2⟩ := p67_7.c3
 obtain ⟨kp68_7_0, kp68_7_1, kp68_7_2⟩ := p68_7.c3
 obtain ⟨kp69_7_0, kp69_7_1, kp69_7_2⟩ := p69_7.c3
 obtain ⟨kp72_5_0, kp72_5_1, kp72_5_2⟩ := p72_5.c3
 go_upto_region 16 with (fail)
 clear kp2_0 kp2_1 kp2_2 kp63_7_0 kp63_7_1 kp64_7_0 kp64_7_1 kp65_7_0 kp65_7_1 kp66_7_0 kp66_7_1 kp66_7_2 kp67_7_0 kp67_7_1 kp67_7_2 kp68_7_0 kp68_7_1 kp68_7_2 kp69_7_0 kp69_7_1 kp69_7_2 kp72_5_0 kp72_5_1 kp72_5_2; have ltp72_5 := p72_5.lt; have szw73 := Ext.size E0
 refine region_gs [.one fun v _ => v = .agg #[.bool b72_5, .slice a72_5 n72_5 c72_5, .slice d72_5 m72_5 o72_5],
   .one fun v _ => v = .agg #[.bool b72_5, .slice a72_5 n72_5 c72_5, .slice d72_5 m72_5 o72_5],
   .one fun v W => Rw W v (D + D),
   .one fun v W => ∃ g, v = .pointer (some ⟨g, 0, none⟩) ∧ W72.heap.size ≤ g ∧ Form W g 27 3,
   .three 3 2 (fun p r _ W => Put3 W72.heap.size 27 p r W)]
  (fun W => Ext w W ∧ Rw W (.agg #[.bool b1, .slice a1 n1 c1, .slice d1 m1 o1]) x ∧ Bx3 W w.heap.size 27 (.bool b1) (.slice a1 n1 c1) (.slice d1 m1 o1) ∧ Zw W (.agg #[.bool b63_7, .slice a63_7 n63_7 c63_7]) F ∧ Bx2 W g63_7 25 (.bool b63_7) (.slice a63_7 n63_7 c63_7) ∧ Zw W (.agg #[.bool b64_7, .slice a64_7 n64_7 c64_7]) C ∧ Bx2 W g64_7 25 (.bool b64_7) (.slice a64_7 n64_7 c64_7) ∧ Zw W (.agg #[.bool b65_7, .slice a65_7 n65_7 c65_7]) M ∧ Bx2 W g65_7 25 (.bool b65_7) (.slice a65_7 n65_7 c65_7) ∧ Rw W (.agg #[.bool b66_7, .slice a66_7 n66_7 c66_7, .slice d66_7 m66_7 o66_7]) X ∧ Bx3 W g66_7 27 (.bool b66_7) (.slice a66_7 n66_7 c66_7) (.slice d66_7 m66_7 o66_7) ∧ Rw W (.agg #[.bool b67_7, .slice a67_7 n67_7 c67_7, .slice d67_7 m67_7 o67_7]) Y ∧ Bx3 W g67_7 27 (.bool b67_7) (.slice a67_7 n67_7 c67_7) (.slice d67_7 m67_7 o67_7) ∧ Rw W (.agg #[.bool b68_7, .slice a68_7 n68_7 c68_7, .slice d68_7 m68_7 o68_7]) Z ∧ Bx3 W g68_7 27 (.bool b68_7) (.slice a68_7 n68_7 c68_7) (.slice d68_7 m68_7 o68_7) ∧ Rw W (.agg #[.bool b69_7, .slice a69_7 n69_7 c69_7, .slice d69_7 m69_7 o69_7]) S ∧ Bx3 W g69_7 27 (.bool b69_7) (.slice a69_7 n69_7 c69_7) (.slice d69_7 m69_7 o69_7) ∧ Zw W u69_0 1 ∧ Rw W u71_23 S ∧ Rw W (.agg #[.bool b72_5, .slice a72_5 n72_5 c72_5, .slice d72_5 m72_5 o72_5]) D ∧ Bx3 W g72_5 27 (.bool b72_5) (.slice a72_5 n72_5 c72_5) (.slice d72_5 m72_5 o72_5) ∧ Rw W u72_2 (Z - x) ∧ W72.heap.size ≤ W.heap.size) ⟨Good.is _, Good.is _, Good.rat _, Good.box _ _ _, cert_put3, trivial⟩
  ⟨E0, hx1, p2, h63_4, p63_7, h64_4, p64_7, h65_4, p65_7, h66_4, p66_7, h67_4, p67_7, h68_4, p68_7, h69_4, p69_7, h69_0, h71_23, h72_3, p72_5, h72_2, Nat.le_refl _⟩ (A := ?A73) ?hA73 ?howe73 ?hfin73
 case hA73 =>
  intro vs
  simp only [putAll, Act.put, sA, sZ, sS, Nat.zero_add, Nat.reduceAdd]
  exact rfl
 case howe73 =>
  clear E0 hx1 p2 h63_4 p63_7 h64_4 p64_7 h65_4 p65_7 h66_4 p66_7 h67_4 p67_7 h68_4 p68_7 h69_4 p69_7 h69_0 h71_23 h72_3 p72_5 h72_2
  intro hf
  refine ⟨oE 0 [] hf rfl ?_, oE 1 [] hf rfl ?_, oE 2 [0, 1] hf rfl ?_, oE 3 [] hf rfl ?_, oW 4 [3, 2] hf rfl ?_, trivial⟩
  all_goals intro vs W hS hp hx KO hKO
  all_goals simp only [Act.put, sA, sZ, sS] at hKO
  ·have fc0 := hS.2.2.2.2.2.2.2.2.2.2.2.2.2.2.2.2.2.2.2.2.1.cell0; have fc1 := hS.2.2.2.2.2.2.2.2.2.2.2.2.2.2.2.2.2.2.2.2.1.cell1; have fc2 := hS.2.2.2.2.2.2.2.2.2.2.2.2.2.2.2.2.2.2.2.2.1.cell2; go_simp; exact hKO _ W (.refl W) rfl
  ·have fc0 := hS.2.2.2.2.2.2.2.2.2.2.2.2.2.2.2.2.2.2.2.2.1.cell0; have fc1 := hS.2.2.2.2.2.2.2.2.2.2.2.2.2.2.2.2.2.2.2.2.1.cell1; have fc2 := hS.2.2.2.2.2.2.2.2.2.2.2.2.2.2.2.2.2.2.2.2.1.cell2; go_simp; exact hKO _ W (.refl W) rfl
  ·have e0 := isOf hp.1; have e1 := isOf hp.2.1; simp only [e0, e1] at hKO; go_simp
   refine (Try.refRAdd (hS.2.2.2.2.2.2.2.2.2.2.2.2.2.2.2.2.2.2.2.1) (hS.2.2.2.2.2.2.2.2.2.2.2.2.2.2.2.2.2.2.2.1) SD.out SD.out (by omega)).mono ?_
   rintro e W1 ⟨v, rfl, hv, hE⟩
   exact hKO _ W1 hE hv
  ·have hn := Bx3.new W 27 (.bool false) (.slice none 0 0) (.slice none 0 0)
   have hE := Ext.alloc1 W (.cells #[.bool false, .slice none 0 0, .slice none 0 0] 27)
   have hsz := hS.2.2.2.2.2.2.2.2.2.2.2.2.2.2.2.2.2.2.2.2.2.2
   go_simp
   exact hKO _ _ hE ⟨_, rfl, hsz, hn.form⟩
  ·have q3 := hp.1; have q2 := hp.2.1
   obtain ⟨g, ev, hg, hf⟩ := q3
   replace ev : vs 3 = _ := ev
   obtain ⟨x0_0, x0_1, x0_2, hx, hno⟩ := hf.bx3
   have qr := q2
   obtain ⟨b3, a3, n3, c3, d3, m3, o3, er, -, -, -⟩ := qr
   replace er : vs 2 = _ := er
   have r0 := hx.froz0
   have t0 := hx.cell0
   have r1 := hx.froz1
   have t1 := hx.cell1
   have r2 := hx.froz2
   have t2 := hx.cell2
   have hw := Wr.set3 hx hno b3 a3 n3 c3 d3 m3 o3
   have hq := hx.set (.bool b3) (.slice a3 n3 c3) (.slice d3 m3 o3)
   simp only [ev, er] at hKO; go_simp
   exact hKO _ _ hw ⟨(Ext.wr hS.1 hw (by omega)), (hS.2.1.wr hw), (hS.2.2.1.wr hw (by omega)), (hS.2.2.2.1.wr hw), (hS.2.2.2.2.1.wr hw (by omega)), (hS.2.2.2.2.2.1.wr hw), (hS.2.2.2.2.2.2.1.wr hw (by omega)), (hS.2.2.2.2.2.2.2.1.wr hw), (hS.2.2.2.2.2.2.2.2.1.wr hw (by omega)), (hS.2.2.2.2.2.2.2.2.2.1.wr hw), (hS.2.2.2.2.2.2.2.2.2.2.1.wr hw (by omega)), (hS.2.2.2.2.2.2.2.2.2.2.2.1.wr hw), (hS.2.2.2.2.2.2.2.2.2.2.2.2.1.wr hw (by omega)), (hS.2.2.2.2.2.2.2.2.2.2.2.2.2.1.wr hw), (hS.2.2.2.2.2.2.2.2.2.2.2.2.2.2.1.wr hw (by omega)), (hS.2.2.2.2.2.2.2.2.2.2.2.2.2.2.2.1.wr hw), (hS.2.2.2.2.2.2.2.2.2.2.2.2.2.2.2.2.1.wr hw (by omega)), (hS.2.2.2.2.2.2.2.2.2.2.2.2.2.2.2.2.2.1.wr hw), (hS.2.2.2.2.2.2.2.2.2.2.2.2.2.2.2.2.2.2.1.wr hw), (hS.2.2.2.2.2.2.2.2.2.2.2.2.2.2.2.2.2.2.2.1.wr hw), (hS.2.2.2.2.2.2.2.2.2.2.2.2.2.2.2.2.2.2.2.2.1.wr hw (by omega)), (hS.2.2.2.2.2.2.2.2.2.2.2.2.2.2.2.2.2.2.2.2.2.1.wr hw), (Nat.le_trans hS.2.2.2.2.2.2.2.2.2.2.2.2.2.2.2.2.2.2.2.2.2.2 hw.apart.size)⟩ ⟨g, b3, a3, n3, c3, d3, m3, o3, ev, er, hg, hq⟩
 intro vs W73 hS hp
 clear szw73 E0 hx1 p2 h63_4 p63_7 h64_4 p64_7 h65_4 p65_7 h66_4 p66_7 h67_4 p67_7 h68_4 p68_7 h69_4 p69_7 h69_0 h71_23 h72_3 p72_5 h72_2
 obtain ⟨E0, hx1, p2, h63_4, p63_7, h64_4, p64_7, h65_4, p65_7, h66_4, p66_7, h67_4, p67_7, h68_4, p68_7, h69_4, p69_7, h69_0, h71_23, h72_3, p72_5, h72_2, sz73⟩ := hS
 obtain ⟨h73_0, h73_1, h73_2, h73_3, h73_4, -⟩ := hp
 obtain ⟨g73_4, b73_4, a73_4, n73_4, c73_4, d73_4, m73_4, o73_4, ev73_4, er73_4, hg73_4, p73_4⟩ := h73_4
 replace ev73_4 : vs 3 = _ := ev73_4; replace er73_4 : vs 2 = _ := er73_4; replace h73_2 := (show Rw W73 (vs 2) (D + D) from h73_2)
 rw [er73_4] at h73_2
 replace h73_0 : vs 0 = .agg #[.bool b72_5, .slice a72_5 n72_5 c72_5, .slice d72_5 m72_5 o72_5] := h73_0
 replace h73_1 : vs 1 = .agg #[.bool b72_5, .slice a72_5 n72_5 c72_5, .slice d72_5 m72_5 o72_5] := h73_1
 simp only [ev73_4, er73_4, h73_0, h73_1]
 clear ev73_4 er73_4 h73_0 h73_1 h73_3
 obtain ⟨kp2_0, kp2_1, kp2_2⟩ := p2.c3
 obtain ⟨kp63_7_0, kp63_7_1⟩ := p63_7.c2
 obtain ⟨kp64_7_0, kp64_7_1⟩ := p64_7.c2
 obtain ⟨kp65_7_0, kp65_7_1⟩ := p65_7.c2
 obtain ⟨kp66_7_0, kp66_7_1, kp66_7_2⟩ := p66_7.c3
 obtain ⟨kp67_7_0, kp67_7_1, kp67_7_2⟩ := p67_7.c3
 obtain ⟨kp68_7_0, kp68_7_1, kp68_7_2⟩ := p68_7.c3
 obtain ⟨kp69_7_0, kp69_7_1, kp69_7_2⟩ := p69_7.c3
 obtain ⟨kp72_5_0, kp72_5_1, kp72_5_2⟩ := p72_5.c3
 obtain ⟨kp73_4_0, kp73_4_1, kp73_4_2⟩ := p73_4.c3
 go_upto_region 17 with (fail)
 clear kp2_0 kp2_1 kp2_2 kp63_7_0 kp63_7_1 kp64_7_0 kp64_7_1 kp65_7_0 kp65_7_1 kp66_7_0 kp66_7_1 kp66_7_2 kp67_7_0 kp67_7_1 kp67_7_2 kp68_7_0 kp68_7_1 kp68_7_2 kp69_7_0 kp69_7_1 kp69_7_2 kp72_5_0 kp72_5_1 kp72_5_2 kp73_4_0 kp73_4_1 kp73_4_2; clear e1le e1led e1gt e1gtd e2le e2led e2gt e2gtd
 have hm := h65_4.num
 obtain ⟨_, _, _, er, hz0, -⟩ := hm.len
 cases er
 by_cases hn0 : 0 < n65_7
 ·obtain ⟨B, o, l, ea, hc, hl, hp⟩ := hm.limb0 hn0
  have hl2 : (l : Int) < 18446744073709551616 := by rw [B64_eq] at hl; omega
  have hn0I : (0 : Int) < (n65_7 : Int) := by omega
  have hnb : ((n65_7 : Int) == 0) = false := beq_eq_false_iff_ne.2 (by omega)
  have hnc : ¬ ((n65_7 : Int) = 0) := by omega
  have hnd : ¬ (n65_7 = 0) := by omega
  subst ea
  by_cases hev2 : l % 2 = 0
  ·have hpr : (((l : Int) % 2) == 0) = true := by simp; omega
   clear hz0 hp hl hev2 hm hn0
   obtain ⟨kp2_0, kp2_1, kp2_2⟩ := p2.c3
   obtain ⟨kp63_7_0, kp63_7_1⟩ := p63_7.c2
   obtain ⟨kp64_7_0, kp64_7_1⟩ := p64_7.c2
   obtain ⟨kp65_7_0, kp65_7_1⟩ := p65_7.c2
   obtain ⟨kp66_7_0, kp66_7_1, kp66_7_2⟩ := p66_7.c3
   obtain ⟨kp67_7_0, kp67_7_1, kp67_7_2⟩ := p67_7.c3
   obtain ⟨kp68_7_0, kp68_7_1, kp68_7_2⟩ := p68_7.c3
   obtain ⟨kp69_7_0, kp69_7_1, kp69_7_2⟩ := p69_7.c3
   obtain ⟨kp72_5_0, kp72_5_1, kp72_5_2⟩ := p72_5.c3
   obtain ⟨kp73_4_0, kp73_4_1, kp73_4_2⟩ := p73_4.c3
   go_upto_region 18 with (fail)
   clear kp2_0 kp2_1 kp2_2 kp63_7_0 kp63_7_1 kp64_7_0 kp64_7_1 kp65_7_0 kp65_7_1 kp66_7_0 kp66_7_1 kp66_7_2 kp67_7_0 kp67_7_1 kp67_7_2 kp68_7_0 kp68_7_1 kp68_7_2 kp69_7_0 kp69_7_1 kp69_7_2 kp72_5_0 kp72_5_1 kp72_5_2 kp73_4_0 kp73_4_1 kp73_4_2
   by_cases htw : D + D = S
   ·have HTW := Lib.hid htw
    clear htw; have ltp73_4 := p73_4.lt; have szw74 := Ext.size E0
    refine region_gs [.one fun v _ => v = .bool true,
      .one fun v _ => v = .bool true,
      .one fun v _ => v = .agg #[.bool b65_7, .slice (some ⟨B, o, none⟩) n65_7 c65_7],
      .one fun v _ => v = .agg #[.bool b63_7, .slice a63_7 n63_7 c63_7],
      .one fun v _ => v = .bool false,
      .one fun v _ => v = .bool false,
      .one fun v _ => v = .agg #[.bool b65_7, .slice (some ⟨B, o, none⟩) n65_7 c65_7],
      .one fun v _ => v = .agg #[.bool b64_7, .slice a64_7 n64_7 c64_7],
      .one fun v _ => v = .bool true,
      .one fun v _ => v = .bool true,
      .one fun v _ => v = .bool true,
      .one fun v _ => v = .bool true,
      .one fun v _ => v = .agg #[.bool b73_4, .slice a73_4 n73_4 c73_4, .slice d73_4 m73_4 o73_4],
      .one fun v _ => v = .agg #[.bool b69_7, .slice a69_7 n69_7 c69_7, .slice d69_7 m69_7 o69_7],
      .one fun v _ => v = .int .i64 e3,
      .one fun v _ => v = .bool true,
      .one fun v _ => v = .bool true,
      .one fun v _ => v = .bool true,
      .one fun v _ => v = .agg #[.bool b73_4, .slice a73_4 n73_4 c73_4, .slice d73_4 m73_4 o73_4],
      .one fun v _ => v = .agg #[.bool b69_7, .slice a69_7 n69_7 c69_7, .slice d69_7 m69_7 o69_7],
      .one fun v _ => v = .bool true,
      .one fun v _ => v = .bool false,
      .one fun v _ => v = .bool false,
      .one fun v _ => v = .bool true,
      .one fun v _ => v = .bool true,
      .one fun v _ => v = .bool true,
      .one fun v _ => v = .bool true]
     (fun W => Ext w W ∧ Rw W (.agg #[.bool b1, .slice a1 n1 c1, .slice d1 m1 o1]) x ∧ Bx3 W w.heap.size 27 (.bool b1) (.slice a1 n1 c1) (.slice d1 m1 o1) ∧ Zw W (.agg #[.bool b63_7, .slice a63_7 n63_7 c63_7]) F ∧ Bx2 W g63_7 25 (.bool b63_7) (.slice a63_7 n63_7 c63_7) ∧ Zw W (.agg #[.bool b64_7, .slice a64_7 n64_7 c64_7]) C ∧ Bx2 W g64_7 25 (.bool b64_7) (.slice a64_7 n64_7 c64_7) ∧ Zw W (.agg #[.bool b65_7, .slice (some ⟨B, o, none⟩) n65_7 c65_7]) M ∧ Bx2 W g65_7 25 (.bool b65_7) (.slice (some ⟨B, o, none⟩) n65_7 c65_7) ∧ Rw W (.agg #[.bool b66_7, .slice a66_7 n66_7 c66_7, .slice d66_7 m66_7 o66_7]) X ∧ Bx3 W g66_7 27 (.bool b66_7) (.slice a66_7 n66_7 c66_7) (.slice d66_7 m66_7 o66_7) ∧ Rw W (.agg #[.bool b67_7, .slice a67_7 n67_7 c67_7, .slice d67_7 m67_7 o67_7]) Y ∧ Bx3 W g67_7 27 (.bool b67_7) (.slice a67_7 n67_7 c67_7) (.slice d67_7 m67_7 o67_7) ∧ Rw W (.agg #[.bool b68_7, .slice a68_7 n68_7 c68_7, .slice d68_7 m68_7 o68_7]) Z ∧ Bx3 W g68_7 27 (.bool b68_7) (.slice a68_7 n68_7 c68_7) (.slice d68_7 m68_7 o68_7) ∧ Rw W (.agg #[.bool b69_7, .slice a69_7 n69_7 c69_7, .slice d69_7 m69_7 o69_7]) S ∧ Bx3 W g69_7 27 (.bool b69_7) (.slice a69_7 n69_7 c69_7) (.slice d69_7 m69_7 o69_7) ∧ Zw W u69_0 1 ∧ Rw W u71_23 S ∧ Rw W (.agg #[.bool b72_5, .slice a72_5 n72_5 c72_5, .slice d72_5 m72_5 o72_5]) D ∧ Bx3 W g72_5 27 (.bool b72_5) (.slice a72_5 n72_5 c72_5) (.slice d72_5 m72_5 o72_5) ∧ Rw W u72_2 (Z - x) ∧ Rw W (.agg #[.bool b73_4, .slice a73_4 n73_4 c73_4, .slice d73_4 m73_4 o73_4]) (D + D) ∧ Bx3 W g73_4 27 (.bool b73_4) (.slice a73_4 n73_4 c73_4) (.slice d73_4 m73_4 o73_4) ∧ W73.heap.size ≤ W.heap.size) ⟨Good.is _, Good.is _, Good.is _, Good.is _, Good.is _, Good.is _, Good.is _, Good.is _, Good.is _, Good.is _, Good.is _, Good.is _, Good.is _, Good.is _, Good.is _, Good.is _, Good.is _, Good.is _, Good.is _, Good.is _, Good.is _, Good.is _, Good.is _, Good.is _, Good.is _, Good.is _, Good.is _, trivial⟩
     ⟨E0, hx1, p2, h63_4, p63_7, h64_4, p64_7, h65_4, p65_7, h66_4, p66_7, h67_4, p67_7, h68_4, p68_7, h69_4, p69_7, h69_0, h71_23, h72_3, p72_5, h72_2, h73_2, p73_4, Nat.le_refl _⟩ (A := ?A74) ?hA74 ?howe74 ?hfin74
    case hA74 =>
     intro vs
     simp only [putAll, Act.put, sA, sZ, sS, Nat.zero_add, Nat.reduceAdd]
     exact rfl
    case howe74 =>
     clear E0 hx1 p2 h63_4 p63_7 h64_4 p64_7 h65_4 p65_7 h66_4 p66_7 h67_4 p67_7 h68_4 p68_7 h69_4 p69_7 h69_0 h71_23 h72_3 p72_5 h72_2 h73_2 p73_4
     intro hf
     refine ⟨oE 0 [] hf rfl ?_, oE 1 [0] hf rfl ?_, oE 2 [1] hf rfl ?_, oE 3 [1] hf rfl ?_, oE 4 [1, 2, 3] hf rfl ?_, oE 5 [1, 4] hf rfl ?_, oE 6 [5] hf rfl ?_, oE 7 [5] hf rfl ?_, oE 8 [5, 6, 7] hf rfl ?_, oE 9 [1, 5, 8] hf rfl ?_, oE 10 [1, 9] hf rfl ?_, oE 11 [10] hf rfl ?_, oE 12 [11] hf rfl ?_, oE 13 [11] hf rfl ?_, oE 14 [11, 12, 13] hf rfl ?_, oE 15 [11, 14] hf rfl ?_, oE 16 [11, 15] hf rfl ?_, oE 17 [16] hf rfl ?_, oE 18 [17] hf rfl ?_, oE 19 [17] hf rfl ?_, oE 20 [17, 18, 19] hf rfl ?_, oE 21 [17, 20] hf rfl ?_, oE 22 [17, 21] hf rfl ?_, oE 23 [22] hf rfl ?_, oE 24 [17, 22, 23] hf rfl ?_, oE 25 [17, 24] hf rfl ?_, oE 26 [25] hf rfl ?_, trivial⟩
     all_goals intro vs W hS hp hx KO hKO
     all_goals simp only [Act.put, sA, sZ, sS] at hKO
     ·go_simp
      refine (Try.alive06 _).mono ?_
      rintro e W1 ⟨rfl, hE⟩
      exact hKO _ W1 hE rfl
     ·have e0 := isOf hp.1; simp only [e0] at hKO; go_simp; exact hKO _ W (.refl W) rfl
     ·have e1 := isOf hp.1; simp only [e1] at hKO; have fc0 := hS.2.2.2.2.2.2.2.2.1.cell0; have fc1 := hS.2.2.2.2.2.2.2.2.1.cell1; go_simp; exact hKO _ W (.refl W) rfl
     ·have e1 := isOf hp.1; simp only [e1] at hKO; have fc0 := hS.2.2.2.2.1.cell0; have fc1 := hS.2.2.2.2.1.cell1; go_simp; exact hKO _ W (.refl W) rfl
     ·have e1 := isOf hp.1; have e2 := isOf hp.2.1; have e3 := isOf hp.2.2.1; simp only [e1, e2, e3] at hKO; go_simp
      refine (Try.refZSameF6 (hS.2.2.2.2.2.2.2.1) (hS.2.2.2.1) HMF.out).mono ?_
      rintro e W1 ⟨rfl, hE⟩
      exact hKO _ W1 hE rfl
     ·have e1 := isOf hp.1; have e4 := isOf hp.2.1; simp only [e1, e4] at hKO; go_simp; exact hKO _ W (.refl W) rfl
     ·have e5 := isOf hp.1; simp only [e5] at hKO; have fc0 := hS.2.2.2.2.2.2.2.2.1.cell0; have fc1 := hS.2.2.2.2.2.2.2.2.1.cell1; go_simp; exact hKO _ W (.refl W) rfl
     ·have e5 := isOf hp.1; simp only [e5] at hKO; have fc0 := hS.2.2.2.2.2.2.1.cell0; have fc1 := hS.2.2.2.2.2.2.1.cell1; go_simp; exact hKO _ W (.refl W) rfl
     ·have e5 := isOf hp.1; have e6 := isOf hp.2.1; have e7 := isOf hp.2.2.1; simp only [e5, e6, e7] at hKO; go_simp
      refine (Try.refZSameD (hS.2.2.2.2.2.2.2.1) (hS.2.2.2.2.2.1) HMC.out).mono ?_
      rintro e W1 ⟨rfl, hE⟩
      exact hKO _ W1 hE rfl
     ·have e1 := isOf hp.1; have e5 := isOf hp.2.1; have e8 := isOf hp.2.2.1; simp only [e1, e5, e8] at hKO; go_simp; exact hKO _ W (.refl W) rfl
     ·have e1 := isOf hp.1; have e9 := isOf hp.2.1; simp only [e1, e9] at hKO; go_simp; exact hKO _ W (.refl W) rfl
     ·have e10 := isOf hp.1; simp only [e10] at hKO; go_simp; exact hKO _ W (.refl W) rfl
     ·have e11 := isOf hp.1; simp only [e11] at hKO; have fc0 := hS.2.2.2.2.2.2.2.2.2.2.2.2.2.2.2.2.2.2.2.2.2.2.2.1.cell0; have fc1 := hS.2.2.2.2.2.2.2.2.2.2.2.2.2.2.2.2.2.2.2.2.2.2.2.1.cell1; have fc2 := hS.2.2.2.2.2.2.2.2.2.2.2.2.2.2.2.2.2.2.2.2.2.2.2.1.cell2; go_simp; exact hKO _ W (.refl W) rfl
     ·have e11 := isOf hp.1; simp only [e11] at hKO; have fc0 := hS.2.2.2.2.2.2.2.2.2.2.2.2.2.2.2.2.1.cell0; have fc1 := hS.2.2.2.2.2.2.2.2.2.2.2.2.2.2.2.2.1.cell1; have fc2 := hS.2.2.2.2.2.2.2.2.2.2.2.2.2.2.2.2.1.cell2; go_simp; exact hKO _ W (.refl W) rfl
     ·have e11 := isOf hp.1; have e12 := isOf hp.2.1; have e13 := isOf hp.2.2.1; simp only [e11, e12, e13] at hKO; go_simp
      refine (Try.refRCmpR (hS.2.2.2.2.2.2.2.2.2.2.2.2.2.2.2.2.2.2.2.2.2.2.1) (hS.2.2.2.2.2.2.2.2.2.2.2.2.2.2.2.1) SDD.out SS.out (by omega) HC3.out).mono ?_
      rintro e W1 ⟨rfl, hE⟩
      exact hKO _ W1 hE rfl
     ·have e11 := isOf hp.1; have e14 := isOf hp.2.1; simp only [e11, e14] at hKO; go_simp; exact hKO _ W (.refl W) rfl
     ·have e11 := isOf hp.1; have e15 := isOf hp.2.1; simp only [e11, e15] at hKO; go_simp; exact hKO _ W (.refl W) rfl
     ·have e16 := isOf hp.1; simp only [e16] at hKO; go_simp; exact hKO _ W (.refl W) rfl
     ·have e17 := isOf hp.1; simp only [e17] at hKO; have fc0 := hS.2.2.2.2.2.2.2.2.2.2.2.2.2.2.2.2.2.2.2.2.2.2.2.1.cell0; have fc1 := hS.2.2.2.2.2.2.2.2.2.2.2.2.2.2.2.2.2.2.2.2.2.2.2.1.cell1; have fc2 := hS.2.2.2.2.2.2.2.2.2.2.2.2.2.2.2.2.2.2.2.2.2.2.2.1.cell2; go_simp; exact hKO _ W (.refl W) rfl
     ·have e17 := isOf hp.1; simp only [e17] at hKO; have fc0 := hS.2.2.2.2.2.2.2.2.2.2.2.2.2.2.2.2.1.cell0; have fc1 := hS.2.2.2.2.2.2.2.2.2.2.2.2.2.2.2.2.1.cell1; have fc2 := hS.2.2.2.2.2.2.2.2.2.2.2.2.2.2.2.2.1.cell2; go_simp; exact hKO _ W (.refl W) rfl
     ·have e17 := isOf hp.1; have e18 := isOf hp.2.1; have e19 := isOf hp.2.2.1; simp only [e17, e18, e19] at hKO; go_simp
      refine (Try.refRSameD (hS.2.2.2.2.2.2.2.2.2.2.2.2.2.2.2.2.2.2.2.2.2.2.1) (hS.2.2.2.2.2.2.2.2.2.2.2.2.2.2.2.1) HTW.out).mono ?_
      rintro e W1 ⟨rfl, hE⟩
      exact hKO _ W1 hE rfl
     ·have e17 := isOf hp.1; have e20 := isOf hp.2.1; simp only [e17, e20] at hKO; go_simp; exact hKO _ W (.refl W) rfl
     ·have e17 := isOf hp.1; have e21 := isOf hp.2.1; simp only [e17, e21] at hKO; go_simp; exact hKO _ W (.refl W) rfl
     ·have e22 := isOf hp.1; simp only [e22] at hKO; go_simp; exact hKO _ W (.refl W) rfl
     ·have e17 := isOf hp.1; have e22 := isOf hp.2.1; have e23 := isOf hp.2.2.1; simp only [e17, e22, e23] at hKO; go_simp; exact hKO _ W (.refl W) rfl
     ·have e17 := isOf hp.1; have e24 := isOf hp.2.1; simp only [e17, e24] at hKO; go_simp; exact hKO _ W (.refl W) rfl
     ·have e25 := isOf hp.1; simp only [e25] at hKO; go_simp; exact hKO _ W (.refl W) rfl
    intro vs W74 hS hp
    clear szw74 E0 hx1 p2 h63_4 p63_7 h64_4 p64_7 h65_4 p65_7 h66_4 p66_7 h67_4 p67_7 h68_4 p68_7 h69_4 p69_7 h69_0 h71_23 h72_3 p72_5 h72_2 h73_2 p73_4
    obtain ⟨E0, hx1, p2, h63_4, p63_7, h64_4, p64_7, h65_4, p65_7, h66_4, p66_7, h67_4, p67_7, h68_4, p68_7, h69_4, p69_7, h69_0, h71_23, h72_3, p72_5, h72_2, h73_2, p73_4, sz74⟩ := hS
    obtain ⟨h74_0, h74_1, h74_2, h74_3, h74_4, h74_5, h74_6, h74_7, h74_8, h74_9, h74_10, h74_11, h74_12, h74_13, h74_14, h74_15, h74_16, h74_17, h74_18, h74_19, h74_20, h74_21, h74_22, h74_23, h74_24, h74_25, h74_26, -⟩ := hp
    replace h74_0 : vs 0 = .bool true := h74_0
    replace h74_1 : vs 1 = .bool true := h74_1
    replace h74_2 : vs 2 = .agg #[.bool b65_7, .slice (some ⟨B, o, none⟩) n65_7 c65_7] := h74_2
    replace h74_3 : vs 3 = .agg #[.bool b63_7, .slice a63_7 n63_7 c63_7] := h74_3
    replace h74_4 : vs 4 = .bool false := h74_4
    replace h74_5 : vs 5 = .bool false := h74_5
    replace h74_6 : vs 6 = .agg #[.bool b65_7, .slice (some ⟨B, o, none⟩) n65_7 c65_7] := h74_6
    replace h74_7 : vs 7 = .agg #[.bool b64_7, .slice a64_7 n64_7 c64_7] := h74_7
    replace h74_8 : vs 8 = .bool true := h74_8
    replace h74_9 : vs 9 = .bool true := h74_9
    replace h74_10 : vs 10 = .bool true := h74_10
    replace h74_11 : vs 11 = .bool true := h74_11
    replace h74_12 : vs 12 = .agg #[.bool b73_4, .slice a73_4 n73_4 c73_4, .slice d73_4 m73_4 o73_4] := h74_12
    replace h74_13 : vs 13 = .agg #[.bool b69_7, .slice a69_7 n69_7 c69_7, .slice d69_7 m69_7 o69_7] := h74_13
    replace h74_14 : vs 14 = .int .i64 e3 := h74_14
    replace h74_15 : vs 15 = .bool true := h74_15
    replace h74_16 : vs 16 = .bool true := h74_16
    replace h74_17 : vs 17 = .bool true := h74_17
    replace h74_18 : vs 18 = .agg #[.bool b73_4, .slice a73_4 n73_4 c73_4, .slice d73_4 m73_4 o73_4] := h74_18
    replace h74_19 : vs 19 = .agg #[.bool b69_7, .slice a69_7 n69_7 c69_7, .slice d69_7 m69_7 o69_7] := h74_19
    replace h74_20 : vs 20 = .bool true := h74_20
    replace h74_21 : vs 21 = .bool false := h74_21
    replace h74_22 : vs 22 = .bool false := h74_22
    replace h74_23 : vs 23 = .bool true := h74_23
    replace h74_24 : vs 24 = .bool true := h74_24
    replace h74_25 : vs 25 = .bool true := h74_25
    replace h74_26 : vs 26 = .bool true := h74_26
    simp only [h74_0, h74_1, h74_2, h74_3, h74_4, h74_5, h74_6, h74_7, h74_8, h74_9, h74_10, h74_11, h74_12, h74_13, h74_14, h74_15, h74_16, h74_17, h74_18, h74_19, h74_20, h74_21, h74_22, h74_23, h74_24, h74_25, h74_26]
    clear h74_0 h74_1 h74_2 h74_3 h74_4 h74_5 h74_6 h74_7 h74_8 h74_9 h74_10 h74_11 h74_12 h74_13 h74_14 h74_15 h74_16 h74_17 h74_18 h74_19 h74_20 h74_21 h74_22 h74_23 h74_24 h74_25 h74_26
    obtain ⟨kp2_0, kp2_1, kp2_2⟩ := p2.c3
    obtain ⟨kp63_7_0, kp63_7_1⟩ := p63_7.c2
    obtain ⟨kp64_7_0, kp64_7_1⟩ := p64_7.c2
    obtain ⟨kp65_7_0, kp65_7_1⟩ := p65_7.c2
    obtain ⟨kp66_7_0, kp66_7_1, kp66_7_2⟩ := p66_7.c3
    obtain ⟨kp67_7_0, kp67_7_1, kp67_7_2⟩ := p67_7.c3
    obtain ⟨kp68_7_0, kp68_7_1, kp68_7_2⟩ := p68_7.c3
    obtain ⟨kp69_7_0, kp69_7_1, kp69_7_2⟩ := p69_7.c3
    obtain ⟨kp72_5_0, kp72_5_1, kp72_5_2⟩ := p72_5.c3
    obtain ⟨kp73_4_0, kp73_4_1, kp73_4_2⟩ := p73_4.c3
    go_wp2; go_ret
    exact ⟨rfl, E0⟩
   ·have HTW := Lib.hid htw
    clear htw; have ltp73_4 := p73_4.lt; have szw75 := Ext.size E0
    refine region_gs [.one fun v _ => v = .bool true,
      .one fun v _ => v = .bool true,
      .one fun v _ => v = .agg #[.bool b65_7, .slice (some ⟨B, o, none⟩) n65_7 c65_7],
      .one fun v _ => v = .agg #[.bool b63_7, .slice a63_7 n63_7 c63_7],
      .one fun v _ => v = .bool false,
      .one fun v _ => v = .bool false,
      .one fun v _ => v = .agg #[.bool b65_7, .slice (some ⟨B, o, none⟩) n65_7 c65_7],
      .one fun v _ => v = .agg #[.bool b64_7, .slice a64_7 n64_7 c64_7],
      .one fun v _ => v = .bool true,
      .one fun v _ => v = .bool true,
      .one fun v _ => v = .bool true,
      .one fun v _ => v = .bool true,
      .one fun v _ => v = .agg #[.bool b73_4, .slice a73_4 n73_4 c73_4, .slice d73_4 m73_4 o73_4],
      .one fun v _ => v = .agg #[.bool b69_7, .slice a69_7 n69_7 c69_7, .slice d69_7 m69_7 o69_7],
      .one fun v _ => v = .int .i64 e3,
      .one fun v _ => v = .bool true,
      .one fun v _ => v = .bool true,
      .one fun v _ => v = .bool true,
      .one fun v _ => v = .agg #[.bool b73_4, .slice a73_4 n73_4 c73_4, .slice d73_4 m73_4 o73_4],
      .one fun v _ => v = .agg #[.bool b69_7, .slice a69_7 n69_7 c69_7, .slice d69_7 m69_7 o69_7],
      .one fun v _ => v = .bool false,
      .one fun v _ => v = .bool true,
      .one fun v _ => v = .bool true,
      .one fun v _ => v = undef,
      .one fun v _ => v = .bool true,
      .one fun v _ => v = .bool true,
      .one fun v _ => v = .bool true]
     (fun W => Ext w W ∧ Rw W (.agg #[.bool b1, .slice a1 n1 c1, .slice d1 m1 o1]) x ∧ Bx3 W w.heap.size 27 (.bool b1) (.slice a1 n1 c1) (.slice d1 m1 o1) ∧ Zw W (.agg #[.bool b63_7, .slice a63_7 n63_7 c63_7]) F ∧ Bx2 W g63_7 25 (.bool b63_7) (.slice a63_7 n63_7 c63_7) ∧ Zw W (.agg #[.bool b64_7, .slice a64_7 n64_7 c64_7]) C ∧ Bx2 W g64_7 25 (.bool b64_7) (.slice a64_7 n64_7 c64_7) ∧ Zw W (.agg #[.bool b65_7, .slice (some ⟨B, o, none⟩) n65_7 c65_7]) M ∧ Bx2 W g65_7 25 (.bool b65_7) (.slice (some ⟨B, o, none⟩) n65_7 c65_7) ∧ Rw W (.agg #[.bool b66_7, .slice a66_7 n66_7 c66_7, .slice d66_7 m66_7 o66_7]) X ∧ Bx3 W g66_7 27 (.bool b66_7) (.slice a66_7 n66_7 c66_7) (.slice d66_7 m66_7 o66_7) ∧ Rw W (.agg #[.bool b67_7, .slice a67_7 n67_7 c67_7, .slice d67_7 m67_7 o67_7]) Y ∧ Bx3 W g67_7 27 (.bool b67_7) (.slice a67_7 n67_7 c67_7) (.slice d67_7 m67_7 o67_7) ∧ Rw W (.agg #[.bool b68_7, .slice a68_7 n68_7 c68_7, .slice d68_7 m68_7 o68_7]) Z ∧ Bx3 W g68_7 27 (.bool b68_7) (.slice a68_7 n68_7 c68_7) (.slice d68_7 m68_7 o68_7) ∧ Rw W (.agg #[.bool b69_7, .slice a69_7 n69_7 c69_7, .slice d69_7 m69_7 o69_7]) S ∧ Bx3 W g69_7 27 (.bool b69_7) (.slice a69_7 n69_7 c69_7) (.slice d69_7 m69_7 o69_7) ∧ Zw W u69_0 1 ∧ Rw W u71_23 S ∧ Rw W (.agg #[.bool b72_5, .slice a72_5 n72_5 c72_5, .slice d72_5 m72_5 o72_5]) D ∧ Bx3 W g72_5 27 (.bool b72_5) (.slice a72_5 n72_5 c72_5) (.slice d72_5 m72_5 o72_5) ∧ Rw W u72_2 (Z - x) ∧ Rw W (.agg #[.bool b73_4, .slice a73_4 n73_4 c73_4, .slice d73_4 m73_4 o73_4]) (D + D) ∧ Bx3 W g73_4 27 (.bool b73_4) (.slice a73_4 n73_4 c73_4) (.slice d73_4 m73_4 o73_4) ∧ W73.heap.size ≤ W.heap.size) ⟨Good.is _, Good.is _, Good.is _, Good.is _, Good.is _, Good.is _, Good.is _, Good.is _, Good.is _, Good.is _, Good.is _, Good.is _, Good.is _, Good.is _, Good.is _, Good.is _, Good.is _, Good.is _, Good.is _, Good.is _, Good.is _, Good.is _, Good.is _, Good.is _, Good.is _, Good.is _, Good.is _, trivial⟩
     ⟨E0, hx1, p2, h63_4, p63_7, h64_4, p64_7, h65_4, p65_7, h66_4, p66_7, h67_4, p67_7, h68_4, p68_7, h69_4, p69_7, h69_0, h71_23, h72_3, p72_5, h72_2, h73_2, p73_4, Nat.le_refl _⟩ (A := ?A75) ?hA75 ?howe75 ?hfin75
    case hA75 =>
     intro vs
     simp only [putAll, Act.put, sA, sZ, sS, Nat.zero_add, Nat.reduceAdd]
     exact rfl
    case howe75 =>
     clear E0 hx1 p2 h63_4 p63_7 h64_4 p64_7 h65_4 p65_7 h66_4 p66_7 h67_4 p67_7 h68_4 p68_7 h69_4 p69_7 h69_0 h71_23 h72_3 p72_5 h72_2 h73_2 p73_4
     intro hf
     refine ⟨oE 0 [] hf rfl ?_, oE 1 [0] hf rfl ?_, oE 2 [1] hf rfl ?_, oE 3 [1] hf rfl ?_, oE 4 [1, 2, 3] hf rfl ?_, oE 5 [1, 4] hf rfl ?_, oE 6 [5] hf rfl ?_, oE 7 [5] hf rfl ?_, oE 8 [5, 6, 7] hf rfl ?_, oE 9 [1, 5, 8] hf rfl ?_, oE 10 [1, 9] hf rfl ?_, oE 11 [10] hf rfl ?_, oE 12 [11] hf rfl ?_, oE 13 [11] hf rfl ?_, oE 14 [11, 12, 13] hf rfl ?_, oE 15 [11, 14] hf rfl ?_, oE 16 [11, 15] hf rfl ?_, oE 17 [16] hf rfl ?_, oE 18 [17] hf rfl ?_, oE 19 [17] hf rfl ?_, oE 20 [17, 18, 19] hf rfl ?_, oE 21 [17, 20] hf rfl ?_, oE 22 [17, 21] hf rfl ?_, oE 23 [22] hf rfl ?_, oE 24 [17, 22, 23] hf rfl ?_, oE 25 [17, 24] hf rfl ?_, oE 26 [25] hf rfl ?_, trivial⟩
     all_goals intro vs W hS hp hx KO hKO
     all_goals simp only [Act.put, sA, sZ, sS] at hKO
     ·go_simp
      refine (Try.alive06 _).mono ?_
      rintro e W1 ⟨rfl, hE⟩
      exact hKO _ W1 hE rfl
     ·have e0 := isOf hp.1; simp only [e0] at hKO; go_simp; exact hKO _ W (.refl W) rfl
     ·have e1 := isOf hp.1; simp only [e1] at hKO; have fc0 := hS.2.2.2.2.2.2.2.2.1.cell0; have fc1 := hS.2.2.2.2.2.2.2.2.1.cell1; go_simp; exact hKO _ W (.refl W) rfl
     ·have e1 := isOf hp.1; simp only [e1] at hKO; have fc0 := hS.2.2.2.2.1.cell0; have fc1 := hS.2.2.2.2.1.cell1; go_simp; exact hKO _ W (.refl W) rfl
     ·have e1 := isOf hp.1; have e2 := isOf hp.2.1; have e3 := isOf hp.2.2.1; simp only [e1, e2, e3] at hKO; go_simp
      refine (Try.refZSameF6 (hS.2.2.2.2.2.2.2.1) (hS.2.2.2.1) HMF.out).mono ?_
      rintro e W1 ⟨rfl, hE⟩
      exact hKO _ W1 hE rfl
     ·have e1 := isOf hp.1; have e4 := isOf hp.2.1; simp only [e1, e4] at hKO; go_simp; exact hKO _ W (.refl W) rfl
     ·have e5 := isOf hp.1; simp only [e5] at hKO; have fc0 := hS.2.2.2.2.2.2.2.2.1.cell0; have fc1 := hS.2.2.2.2.2.2.2.2.1.cell1; go_simp; exact hKO _ W (.refl W) rfl
     ·have e5 := isOf hp.1; simp only [e5] at hKO; have fc0 := hS.2.2.2.2.2.2.1.cell0; have fc1 := hS.2.2.2.2.2.2.1.cell1; go_simp; exact hKO _ W (.refl W) rfl
     ·have e5 := isOf hp.1; have e6 := isOf hp.2.1; have e7 := isOf hp.2.2.1; simp only [e5, e6, e7] at hKO; go_simp
      refine (Try.refZSameD (hS.2.2.2.2.2.2.2.1) (hS.2.2.2.2.2.1) HMC.out).mono ?_
      rintro e W1 ⟨rfl, hE⟩
      exact hKO _ W1 hE rfl
     ·have e1 := isOf hp.1; have e5 := isOf hp.2.1; have e8 := isOf hp.2.2.1; simp only [e1, e5, e8] at hKO; go_simp; exact hKO _ W (.refl W) rfl
     ·have e1 := isOf hp.1; have e9 := isOf hp.2.1; simp only [e1, e9] at hKO; go_simp; exact hKO _ W (.refl W) rfl
     ·have e10 := isOf hp.1; simp only [e10] at hKO; go_simp; exact hKO _ W (.refl W) rfl
     ·have e11 := isOf hp.1; simp only [e11] at hKO; have fc0 := hS.2.2.2.2.2.2.2.2.2.2.2.2.2.2.2.2.2.2.2.2.2.2.2.1.cell0; have fc1 := hS.2.2.2.2.2.2.2.2.2.2.2.2.2.2.2.2.2.2.2.2.2.2.2.1.cell1; have fc2 := hS.2.2.2.2.2.2.2.2.2.2.2.2.2.2.2.2.2.2.2.2.2.2.2.1.cell2; go_simp; exact hKO _ W (.refl W) rfl
     ·have e11 := isOf hp.1; simp only [e11] at hKO; have fc0 := hS.2.2.2.2.2.2.2.2.2.2.2.2.2.2.2.2.1.cell0; have fc1 := hS.2.2.2.2.2.2.2.2.2.2.2.2.2.2.2.2.1.cell1; have fc2 := hS.2.2.2.2.2.2.2.2.2.2.2.2.2.2.2.2.1.cell2; go_simp; exact hKO _ W (.refl W) rfl
     ·have e11 := isOf hp.1; have e12 := isOf hp.2.1; have e13 := isOf hp.2.2.1; simp only [e11, e12, e13] at hKO; go_simp
      refine (Try.refRCmpR (hS.2.2.2.2.2.2.2.2.2.2.2.2.2.2.2.2.2.2.2.2.2.2.1) (hS.2.2.2.2.2.2.2.2.2.2.2.2.2.2.2.1) SDD.out SS.out (by omega) HC3.out).mono ?_
      rintro e W1 ⟨rfl, hE⟩
      exact hKO _ W1 hE rfl
     ·have e11 := isOf hp.1; have e14 := isOf hp.2.1; simp only [e11, e14] at hKO; go_simp; exact hKO _ W (.refl W) rfl
     ·have e11 := isOf hp.1; have e15 := isOf hp.2.1; simp only [e11, e15] at hKO; go_simp; exact hKO _ W (.refl W) rfl
     ·have e16 := isOf hp.1; simp only [e16] at hKO; go_simp; exact hKO _ W (.refl W) rfl
     ·have e17 := isOf hp.1; simp only [e17] at hKO; have fc0 := hS.2.2.2.2.2.2.2.2.2.2.2.2.2.2.2.2.2.2.2.2.2.2.2.1.cell0; have fc1 := hS.2.2.2.2.2.2.2.2.2.2.2.2.2.2.2.2.2.2.2.2.2.2.2.1.cell1; have fc2 := hS.2.2.2.2.2.2.2.2.2.2.2.2.2.2.2.2.2.2.2.2.2.2.2.1.cell2; go_simp; exact hKO _ W (.refl W) rfl
     ·have e17 := isOf hp.1; simp only [e17] at hKO; have fc0 := hS.2.2.2.2.2.2.2.2.2.2.2.2.2.2.2.2.1.cell0; have fc1 := hS.2.2.2.2.2.2.2.2.2.2.2.2.2.2.2.2.1.cell1; have fc2 := hS.2.2.2.2.2.2.2.2.2.2.2.2.2.2.2.2.1.cell2; go_simp; exact hKO _ W (.refl W) rfl
     ·have e17 := isOf hp.1; have e18 := isOf hp.2.1; have e19 := isOf hp.2.2.1; simp only [e17, e18, e19] at hKO; go_simp
      refine (Try.refRSameF6 (hS.2.2.2.2.2.2.2.2.2.2.2.2.2.2.2.2.2.2.2.2.2.2.1) (hS.2.2.2.2.2.2.2.2.2.2.2.2.2.2.2.1) HTW.out).mono ?_
      rintro e W1 ⟨rfl, hE⟩
      exact hKO _ W1 hE rfl
     ·have e17 := isOf hp.1; have e20 := isOf hp.2.1; simp only [e17, e20] at hKO; go_simp; exact hKO _ W (.refl W) rfl
     ·have e17 := isOf hp.1; have e21 := isOf hp.2.1; simp only [e17, e21] at hKO; go_simp; exact hKO _ W (.refl W) rfl
     ·have e22 := isOf hp.1; simp only [e22] at hKO; go_simp; exact hKO _ W (.refl W) rfl
     ·have e17 := isOf hp.1; have e22 := isOf hp.2.1; have e23 := isOf hp.2.2.1; simp only [e17, e22, e23] at hKO; go_simp; exact hKO _ W (.refl W) rfl
     ·have e17 := isOf hp.1; have e24 := isOf hp.2.1; simp only [e17, e24] at hKO; go_simp; exact hKO _ W (.refl W) rfl
     ·have e25 := isOf hp.1; simp only [e25] at hKO; go_simp; exact hKO _ W (.refl W) rfl
    intro vs W75 hS hp
    clear szw75 E0 hx1 p2 h63_4 p63_7 h64_4 p64_7 h65_4 p65_7 h66_4 p66_7 h67_4 p67_7 h68_4 p68_7 h69_4 p69_7 h69_0 h71_23 h72_3 p72_5 h72_2 h73_2 p73_4
    obtain ⟨E0, hx1, p2, h63_4, p63_7, h64_4, p64_7, h65_4, p65_7, h66_4, p66_7, h67_4, p67_7, h68_4, p68_7, h69_4, p69_7, h69_0, h71_23, h72_3, p72_5, h72_2, h73_2, p73_4, sz75⟩ := hS
    obtain ⟨h75_0, h75_1, h75_2, h75_3, h75_4, h75_5, h75_6, h75_7, h75_8, h75_9, h75_10, h75_11, h75_12, h75_13, h75_14, h75_15, h75_16, h75_17, h75_18, h75_19, h75_20, h75_21, h75_22, h75_23, h75_24, h75_25, h75_26, -⟩ := hp
    replace h75_0 : vs 0 = .bool true := h75_0
    replace h75_1 : vs 1 = .bool true := h75_1
    replace h75_2 : vs 2 = .agg #[.bool b65_7, .slice (some ⟨B, o, none⟩) n65_7 c65_7] := h75_2
    replace h75_3 : vs 3 = .agg #[.bool b63_7, .slice a63_7 n63_7 c63_7] := h75_3
    replace h75_4 : vs 4 = .bool false := h75_4
    replace h75_5 : vs 5 = .bool false := h75_5
    replace h75_6 : vs 6 = .agg #[.bool b65_7, .slice (some ⟨B, o, none⟩) n65_7 c65_7] := h75_6
    replace h75_7 : vs 7 = .agg #[.bool b64_7, .slice a64_7 n64_7 c64_7] := h75_7
    replace h75_8 : vs 8 = .bool true := h75_8
    replace h75_9 : vs 9 = .bool true := h75_9
    replace h75_10 : vs 10 = .bool true := h75_10
    replace h75_11 : vs 11 = .bool true := h75_11
    replace h75_12 : vs 12 = .agg #[.bool b73_4, .slice a73_4 n73_4 c73_4, .slice d73_4 m73_4 o73_4] := h75_12
    replace h75_13 : vs 13 = .agg #[.bool b69_7, .slice a69_7 n69_7 c69_7, .slice d69_7 m69_7 o69_7] := h75_13
    replace h75_14 : vs 14 = .int .i64 e3 := h75_14
    replace h75_15 : vs 15 = .bool true := h75_15
    replace h75_16 : vs 16 = .bool true := h75_16
    replace h75_17 : vs 17 = .bool true := h75_17
    replace h75_18 : vs 18 = .agg #[.bool b73_4, .slice a73_4 n73_4 c73_4, .slice d73_4 m73_4 o73_4] := h75_18
    replace h75_19 : vs 19 = .agg #[.bool b69_7, .slice a69_7 n69_7 c69_7, .slice d69_7 m69_7 o69_7] := h75_19
    replace h75_20 : vs 20 = .bool false := h75_20
    replace h75_21 : vs 21 = .bool true := h75_21
    replace h75_22 : vs 22 = .bool true := h75_22
    replace h75_23 : vs 23 = undef := h75_23
    replace h75_24 : vs 24 = .bool true := h75_24
    replace h75_25 : vs 25 = .bool true := h75_25
    replace h75_26 : vs 26 = .bool true := h75_26
    simp only [h75_0, h75_1, h75_2, h75_3, h75_4, h75_5, h75_6, h75_7, h75_8, h75_9, h75_10, h75_11, h75_12, h75_13, h75_14, h75_15, h75_16, h75_17, h75_18, h75_19, h75_20, h75_21, h75_22, h75_23, h75_24, h75_25, h75_26]
    clear h75_0 h75_1 h75_2 h75_3 h75_4 h75_5 h75_6 h75_7 h75_8 h75_9 h75_10 h75_11 h75_12 h75_13 h75_14 h75_15 h75_16 h75_17 h75_18 h75_19 h75_20 h75_21 h75_22 h75_23 h75_24 h75_25 h75_26
    obtain ⟨kp2_0, kp2_1, kp2_2⟩ := p2.c3
    obtain ⟨kp63_7_0, kp63_7_1⟩ := p63_7.c2
    obtain ⟨kp64_7_0, kp64_7_1⟩ := p64_7.c2
    obtain ⟨kp65_7_0, kp65_7_1⟩ := p65_7.c2
    obtain ⟨kp66_7_0, kp66_7_1, kp66_7_2⟩ := p66_7.c3
    obtain ⟨kp67_7_0, kp67_7_1, kp67_7_2⟩ := p67_7.c3
    obtain ⟨kp68_7_0, kp68_7_1, kp68_7_2⟩ := p68_7.c3
    obtain ⟨kp69_7_0, kp69_7_1, kp69_7_2⟩ := p69_7.c3
    obtain ⟨kp72_5_0, kp72_5_1, kp72_5_2⟩ := p72_5.c3
    obtain ⟨kp73_4_0, kp73_4_1, kp73_4_2⟩ := p73_4.c3
    go_wp2; go_ret
    exact ⟨rfl, E0⟩
  ·have HTW : Hid (D + D ≠ S) := Lib.hid (fun h => by have := HEV.out h; omega)
   have hpr : (((l : Int) % 2) == 0) = false := by simp; omega
   clear hz0 hp hl hev2 hm hn0
   obtain ⟨kp2_0, kp2_1, kp2_2⟩ := p2.c3
   obtain ⟨kp63_7_0, kp63_7_1⟩ := p63_7.c2
   obtain ⟨kp64_7_0, kp64_7_1⟩ := p64_7.c2
   obtain ⟨kp65_7_0, kp65_7_1⟩ := p65_7.c2
   obtain ⟨kp66_7_0, kp66_7_1, kp66_7_2⟩ := p66_7.c3
   obtain ⟨kp67_7_0, kp67_7_1, kp67_7_2⟩ := p67_7.c3
   obtain ⟨kp68_7_0, kp68_7_1, kp68_7_2⟩ := p68_7.c3
   obtain ⟨kp69_7_0, kp69_7_1, kp69_7_2⟩ := p69_7.c3
   obtain ⟨kp72_5_0, kp72_5_1, kp72_5_2⟩ := p72_5.c3
   obtain ⟨kp73_4_0, kp73_4_1, kp73_4_2⟩ := p73_4.c3
   go_upto_region 18 with (fail)
   clear kp2_0 kp2_1 kp2_2 kp63_7_0 kp63_7_1 kp64_7_0 kp64_7_1 kp65_7_0 kp65_7_1 kp66_7_0 kp66_7_1 kp66_7_2 kp67_7_0 kp67_7_1 kp67_7_2 kp68_7_0 kp68_7_1 kp68_7_2 kp69_7_0 kp69_7_1 kp69_7_2 kp72_5_0 kp72_5_1 kp72_5_2 kp73_4_0 kp73_4_1 kp73_4_2; have ltp73_4 := p73_4.lt; have szw76 := Ext.size E0
   refine region_gs [.one fun v _ => v = .bool true,
     .one fun v _ => v = .bool true,
     .one fun v _ => v = .agg #[.bool b65_7, .slice (some ⟨B, o, none⟩) n65_7 c65_7],
     .one fun v _ => v = .agg #[.bool b63_7, .slice a63_7 n63_7 c63_7],
     .one fun v _ => v = .bool false,
     .one fun v _ => v = .bool false,
     .one fun v _ => v = .agg #[.bool b65_7, .slice (some ⟨B, o, none⟩) n65_7 c65_7],
     .one fun v _ => v = .agg #[.bool b64_7, .slice a64_7 n64_7 c64_7],
     .one fun v _ => v = .bool true,
     .one fun v _ => v = .bool true,
     .one fun v _ => v = .bool true,
     .one fun v _ => v = .bool true,
     .one fun v _ => v = .agg #[.bool b73_4, .slice a73_4 n73_4 c73_4, .slice d73_4 m73_4 o73_4],
     .one fun v _ => v = .agg #[.bool b69_7, .slice a69_7 n69_7 c69_7, .slice d69_7 m69_7 o69_7],
     .one fun v _ => v = .int .i64 e3,
     .one fun v _ => v = .bool true,
     .one fun v _ => v = .bool true,
     .one fun v _ => v = .bool true,
     .one fun v _ => v = .agg #[.bool b73_4, .slice a73_4 n73_4 c73_4, .slice d73_4 m73_4 o73_4],
     .one fun v _ => v = .agg #[.bool b69_7, .slice a69_7 n69_7 c69_7, .slice d69_7 m69_7 o69_7],
     .one fun v _ => v = .bool false,
     .one fun v _ => v = .bool true,
     .one fun v _ => v = .bool true,
     .one fun v _ => v = undef,
     .one fun v _ => v = .bool true,
     .one fun v _ => v = .bool true,
     .one fun v _ => v = .bool true]
    (fun W => Ext w W ∧ Rw W (.agg #[.bool b1, .slice a1 n1 c1, .slice d1 m1 o1]) x ∧ Bx3 W w.heap.size 27 (.bool b1) (.slice a1 n1 c1) (.slice d1 m1 o1) ∧ Zw W (.agg #[.bool b63_7, .slice a63_7 n63_7 c63_7]) F ∧ Bx2 W g63_7 25 (.bool b63_7) (.slice a63_7 n63_7 c63_7) ∧ Zw W (.agg #[.bool b64_7, .slice a64_7 n64_7 c64_7]) C ∧ Bx2 W g64_7 25 (.bool b64_7) (.slice a64_7 n64_7 c64_7) ∧ Zw W (.agg #[.bool b65_7, .slice (some ⟨B, o, none⟩) n65_7 c65_7]) M ∧ Bx2 W g65_7 25 (.bool b65_7) (.slice (some ⟨B, o, none⟩) n65_7 c65_7) ∧ Rw W (.agg #[.bool b66_7, .slice a66_7 n66_7 c66_7, .slice d66_7 m66_7 o66_7]) X ∧ Bx3 W g66_7 27 (.bool b66_7) (.slice a66_7 n66_7 c66_7) (.slice d66_7 m66_7 o66_7) ∧ Rw W (.agg #[.bool b67_7, .slice a67_7 n67_7 c67_7, .slice d67_7 m67_7 o67_7]) Y ∧ Bx3 W g67_7 27 (.bool b67_7) (.slice a67_7 n67_7 c67_7) (.slice d67_7 m67_7 o67_7) ∧ Rw W (.agg #[.bool b68_7, .slice a68_7 n68_7 c68_7, .slice d68_7 m68_7 o68_7]) Z ∧ Bx3 W g68_7 27 (.bool b68_7) (.slice a68_7 n68_7 c68_7) (.slice d68_7 m68_7 o68_7) ∧ Rw W (.agg #[.bool b69_7, .slice a69_7 n69_7 c69_7, .slice d69_7 m69_7 o69_7]) S ∧ Bx3 W g69_7 27 (.bool b69_7) (.slice a69_7 n69_7 c69_7) (.slice d69_7 m69_7 o69_7) ∧ Zw W u69_0 1 ∧ Rw W u71_23 S ∧ Rw W (.agg #[.bool b72_5, .slice a72_5 n72_5 c72_5, .slice d72_5 m72_5 o72_5]) D ∧ Bx3 W g72_5 27 (.bool b72_5) (.slice a72_5 n72_5 c72_5) (.slice d72_5 m72_5 o72_5) ∧ Rw W u72_2 (Z - x) ∧ Rw W (.agg #[.bool b73_4, .slice a73_4 n73_4 c73_4, .slice d73_4 m73_4 o73_4]) (D + D) ∧ Bx3 W g73_4 27 (.bool b73_4) (.slice a73_4 n73_4 c73_4) (.slice d73_4 m73_4 o73_4) ∧ W73.heap.size ≤ W.heap.size) ⟨Good.is _, Good.is _, Good.is _, Good.is _, Good.is _, Good.is _, Good.is _, Good.is _, Good.is _, Good.is _, Good.is _, Good.is _, Good.is _, Good.is _, Good.is _, Good.is _, Good.is _, Good.is _, Good.is _, Good.is _, Good.is _, Good.is _, Good.is _, Good.is _, Good.is _, Good.is _, Good.is _, trivial⟩
    ⟨E0, hx1, p2, h63_4, p63_7, h64_4, p64_7, h65_4, p65_7, h66_4, p66_7, h67_4, p67_7, h68_4, p68_7, h69_4, p69_7, h69_0, h71_23, h72_3, p72_5, h72_2, h73_2, p73_4, Nat.le_refl _⟩ (A := ?A76) ?hA76 ?howe76 ?hfin76
   case hA76 =>
    intro vs
    simp only [putAll, Act.put, sA, sZ, sS, Nat.zero_add, Nat.reduceAdd]
    exact rfl
   case howe76 =>
    clear E0 hx1 p2 h63_4 p63_7 h64_4 p64_7 h65_4 p65_7 h66_4 p66_7 h67_4 p67_7 h68_4 p68_7 h69_4 p69_7 h69_0 h71_23 h72_3 p72_5 h72_2 h73_2 p73_4
    intro hf
    refine ⟨oE 0 [] hf rfl ?_, oE 1 [0] hf rfl ?_, oE 2 [1] hf rfl ?_, oE 3 [1] hf rfl ?_, oE 4 [1, 2, 3] hf rfl ?_, oE 5 [1, 4] hf rfl ?_, oE 6 [5] hf rfl ?_, oE 7 [5] hf rfl ?_, oE 8 [5, 6, 7] hf rfl ?_, oE 9 [1, 5, 8] hf rfl ?_, oE 10 [1, 9] hf rfl ?_, oE 11 [10] hf rfl ?_, oE 12 [11] hf rfl ?_, oE 13 [11] hf rfl ?_, oE 14 [11, 12, 13] hf rfl ?_, oE 15 [11, 14] hf rfl ?_, oE 16 [11, 15] hf rfl ?_, oE 17 [16] hf rfl ?_, oE 18 [17] hf rfl ?_, oE 19 [17] hf rfl ?_, oE 20 [17, 18, 19] hf rfl ?_, oE 21 [17, 20] hf rfl ?_, oE 22 [17, 21] hf rfl ?_, oE 23 [22] hf rfl ?_, oE 24 [17, 22, 23] hf rfl ?_, oE 25 [17, 24] hf rfl ?_, oE 26 [25] hf rfl ?_, trivial⟩
    all_goals intro vs W hS hp hx KO hKO
    all_goals simp only [Act.put, sA, sZ, sS] at hKO
    ·go_simp
     refine (Try.alive06 _).mono ?_
     rintro e W1 ⟨rfl, hE⟩
     exact hKO _ W1 hE rfl
    ·have e0 := isOf hp.1; simp only [e0] at hKO; go_simp; exact hKO _ W (.refl W) rfl
    ·have e1 := isOf hp.1; simp only [e1] at hKO; have fc0 := hS.2.2.2.2.2.2.2.2.1.cell0; have fc1 := hS.2.2.2.2.2.2.2.2.1.cell1; go_simp; exact hKO _ W (.refl W) rfl
    ·have e1 := isOf hp.1; simp only [e1] at hKO; have fc0 := hS.2.2.2.2.1.cell0; have fc1 := hS.2.2.2.2.1.cell1; go_simp; exact hKO _ W (.refl W) rfl
    ·have e1 := isOf hp.1; have e2 := isOf hp.2.1; have e3 := isOf hp.2.2.1; simp only [e1, e2, e3] at hKO; go_simp
     refine (Try.refZSameF6 (hS.2.2.2.2.2.2.2.1) (hS.2.2.2.1) HMF.out).mono ?_
     rintro e W1 ⟨rfl, hE⟩
     exact hKO _ W1 hE rfl
    ·have e1 := isOf hp.1; have e4 := isOf hp.2.1; simp only [e1, e4] at hKO; go_simp; exact hKO _ W (.refl W) rfl
    ·have e5 := isOf hp.1; simp only [e5] at hKO; have fc0 := hS.2.2.2.2.2.2.2.2.1.cell0; have fc1 := hS.2.2.2.2.2.2.2.2.1.cell1; go_simp; exact hKO _ W (.refl W) rfl
    ·have e5 := isOf hp.1; simp only [e5] at hKO; have fc0 := hS.2.2.2.2.2.2.1.cell0; have fc1 := hS.2.2.2.2.2.2.1.cell1; go_simp; exact hKO _ W (.refl W) rfl
    ·have e5 := isOf hp.1; have e6 := isOf hp.2.1; have e7 := isOf hp.2.2.1; simp only [e5, e6, e7] at hKO; go_simp
     refine (Try.refZSameD (hS.2.2.2.2.2.2.2.1) (hS.2.2.2.2.2.1) HMC.out).mono ?_
     rintro e W1 ⟨rfl, hE⟩
     exact hKO _ W1 hE rfl
    ·have e1 := isOf hp.1; have e5 := isOf hp.2.1; have e8 := isOf hp.2.2.1; simp only [e1, e5, e8] at hKO; go_simp; exact hKO _ W (.refl W) rfl
    ·have e1 := isOf hp.1; have e9 := isOf hp.2.1; simp only [e1, e9] at hKO; go_simp; exact hKO _ W (.refl W) rfl
    ·have e10 := isOf hp.1; simp only [e10] at hKO; go_simp; exact hKO _ W (.refl W) rfl
    ·have e11 := isOf hp.1; simp only [e11] at hKO; have fc0 := hS.2.2.2.2.2.2.2.2.2.2.2.2.2.2.2.2.2.2.2.2.2.2.2.1.cell0; have fc1 := hS.2.2.2.2.2.2.2.2.2.2.2.2.2.2.2.2.2.2.2.2.2.2.2.1.cell1; have fc2 := hS.2.2.2.2.2.2.2.2.2.2.2.2.2.2.2.2.2.2.2.2.2.2.2.1.cell2; go_simp; exact hKO _ W (.refl W) rfl
    ·have e11 := isOf hp.1; simp only [e11] at hKO; have fc0 := hS.2.2.2.2.2.2.2.2.2.2.2.2.2.2.2.2.1.cell0; have fc1 := hS.2.2.2.2.2.2.2.2.2.2.2.2.2.2.2.2.1.cell1; have fc2 := hS.2.2.2.2.2.2.2.2.2.2.2.2.2.2.2.2.1.cell2; go_simp; exact hKO _ W (.refl W) rfl
    ·have e11 := isOf hp.1; have e12 := isOf hp.2.1; have e13 := isOf hp.2.2.1; simp only [e11, e12, e13] at hKO; go_simp
     refine (Try.refRCmpR (hS.2.2.2.2.2.2.2.2.2.2.2.2.2.2.2.2.2.2.2.2.2.2.1) (hS.2.2.2.2.2.2.2.2.2.2.2.2.2.2.2.1) SDD.out SS.out (by omega) HC3.out).mono ?_
     rintro e W1 ⟨rfl, hE⟩
     exact hKO _ W1 hE rfl
    ·have e11 := isOf hp.1; have e14 := isOf hp.2.1; simp only [e11, e14] at hKO; go_simp; exact hKO _ W (.refl W) rfl
    ·have e11 := isOf hp.1; have e15 := isOf hp.2.1; simp only [e11, e15] at hKO; go_simp; exact hKO _ W (.refl W) rfl
    ·have e16 := isOf hp.1; simp only [e16] at hKO; go_simp; exact hKO _ W (.refl W) rfl
    ·have e17 := isOf hp.1; simp only [e17] at hKO; have fc0 := hS.2.2.2.2.2.2.2.2.2.2.2.2.2.2.2.2.2.2.2.2.2.2.2.1.cell0; have fc1 := hS.2.2.2.2.2.2.2.2.2.2.2.2.2.2.2.2.2.2.2.2.2.2.2.1.cell1; have fc2 := hS.2.2.2.2.2.2.2.2.2.2.2.2.2.2.2.2.2.2.2.2.2.2.2.1.cell2; go_simp; exact hKO _ W (.refl W) rfl
    ·have e17 := isOf hp.1; simp only [e17] at hKO; have fc0 := hS.2.2.2.2.2.2.2.2.2.2.2.2.2.2.2.2.1.cell0; have fc1 := hS.2.2.2.2.2.2.2.2.2.2.2.2.2.2.2.2.1.cell1; have fc2 := hS.2.2.2.2.2.2.2.2.2.2.2.2.2.2.2.2.1.cell2; go_simp; exact hKO _ W (.refl W) rfl
    ·have e17 := isOf hp.1; have e18 := isOf hp.2.1; have e19 := isOf hp.2.2.1; simp only [e17, e18, e19] at hKO; go_simp
     refine (Try.refRSameF6 (hS.2.2.2.2.2.2.2.2.2.2.2.2.2.2.2.2.2.2.2.2.2.2.1) (hS.2.2.2.2.2.2.2.2.2.2.2.2.2.2.2.1) HTW.out).mono ?_
     rintro e W1 ⟨rfl, hE⟩
     exact hKO _ W1 hE rfl
    ·have e17 := isOf hp.1; have e20 := isOf hp.2.1; simp only [e17, e20] at hKO; go_simp; exact hKO _ W (.refl W) rfl
    ·have e17 := isOf hp.1; have e21 := isOf hp.2.1; simp only [e17, e21] at hKO; go_simp; exact hKO _ W (.refl W) rfl
    ·have e22 := isOf hp.1; simp only [e22] at hKO; go_simp; exact hKO _ W (.refl W) rfl
    ·have e17 := isOf hp.1; have e22 := isOf hp.2.1; have e23 := isOf hp.2.2.1; simp only [e17, e22, e23] at hKO; go_simp; exact hKO _ W (.refl W) rfl
    ·have e17 := isOf hp.1; have e24 := isOf hp.2.1; simp only [e17, e24] at hKO; go_simp; exact hKO _ W (.refl W) rfl
    ·have e25 := isOf hp.1; simp only [e25] at hKO; go_simp; exact hKO _ W (.refl W) rfl
   intro vs W76 hS hp
   clear szw76 E0 hx1 p2 h63_4 p63_7 h64_4 p64_7 h65_4 p65_7 h66_4 p66_7 h67_4 p67_7 h68_4 p68_7 h69_4 p69_7 h69_0 h71_23 h72_3 p72_5 h72_2 h73_2 p73_4
   obtain ⟨E0, hx1, p2, h63_4, p63_7, h64_4, p64_7, h65_4, p65_7, h66_4, p66_7, h67_4, p67_7, h68_4, p68_7, h69_4, p69_7, h69_0, h71_23, h72_3, p72_5, h72_2, h73_2, p73_4, sz76⟩ := hS
   obtain ⟨h76_0, h76_1, h76_2, h76_3, h76_4, h76_5, h76_6, h76_7, h76_8, h76_9, h76_10, h76_11, h76_12, h76_13, h76_14, h76_15, h76_16, h76_17, h76_18, h76_19, h76_20, h76_21, h76_22, h76_23, h76_24, h76_25, h76_26, -⟩ := hp
   replace h76_0 : vs 0 = .bool true := h76_0
   replace h76_1 : vs 1 = .bool true := h76_1
   replace h76_2 : vs 2 = .agg #[.bool b65_7, .slice (some ⟨B, o, none⟩) n65_7 c65_7] := h76_2
   replace h76_3 : vs 3 = .agg #[.bool b63_7, .slice a63_7 n63_7 c63_7] := h76_3
   replace h76_4 : vs 4 = .bool false := h76_4
   replace h76_5 : vs 5 = .bool false := h76_5
   replace h76_6 : vs 6 = .agg #[.bool b65_7, .slice (some ⟨B, o, none⟩) n65_7 c65_7] := h76_6
   replace h76_7 : vs 7 = .agg #[.bool b64_7, .slice a64_7 n64_7 c64_7] := h76_7
   replace h76_8 : vs 8 = .bool true := h76_8
   replace h76_9 : vs 9 = .bool true := h76_9
   replace h76_10 : vs 10 = .bool true := h76_10
   replace h76_11 : vs 11 = .bool true := h76_11
   replace h76_12 : vs 12 = .agg #[.bool b73_4, .slice a73_4 n73_4 c73_4, .slice d73_4 m73_4 o73_4] := h76_12
   replace h76_13 : vs 13 = .agg #[.bool b69_7, .slice a69_7 n69_7 c69_7, .slice d69_7 m69_7 o69_7] := h76_13
   replace h76_14 : vs 14 = .int .i64 e3 := h76_14
   replace h76_15 : vs 15 = .bool true := h76_15
   replace h76_16 : vs 16 = .bool true := h76_16
   replace h76_17 : vs 17 = .bool true := h76_17
   replace h76_18 : vs 18 = .agg #[.bool b73_4, .slice a73_4 n73_4 c73_4, .slice d73_4 m73_4 o73_4] := h76_18
   replace h76_19 : vs 19 = .agg #[.bool b69_7, .slice a69_7 n69_7 c69_7, .slice d69_7 m69_7 o69_7] := h76_19
   replace h76_20 : vs 20 = .bool false := h76_20
   replace h76_21 : vs 21 = .bool true := h76_21
   replace h76_22 : vs 22 = .bool true := h76_22
   replace h76_23 : vs 23 = undef := h76_23
   replace h76_24 : vs 24 = .bool true := h76_24
   replace h76_25 : vs 25 = .bool true := h76_25
   replace h76_26 : vs 26 = .bool true := h76_26
   simp only [h76_0, h76_1, h76_2, h76_3, h76_4, h76_5, h76_6, h76_7, h76_8, h76_9, h76_10, h76_11, h76_12, h76_13, h76_14, h76_15, h76_16, h76_17, h76_18, h76_19, h76_20, h76_21, h76_22, h76_23, h76_24, h76_25, h76_26]
   clear h76_0 h76_1 h76_2 h76_3 h76_4 h76_5 h76_6 h76_7 h76_8 h76_9 h76_10 h76_11 h76_12 h76_13 h76_14 h76_15 h76_16 h76_17 h76_18 h76_19 h76_20 h76_21 h76_22 h76_23 h76_24 h76_25 h76_26
   obtain ⟨kp2_0, kp2_1, kp2_2⟩ := p2.c3
   obtain ⟨kp63_7_0, kp63_7_1⟩ := p63_7.c2
   obtain ⟨kp64_7_0, kp64_7_1⟩ := p64_7.c2
   obtain ⟨kp65_7_0, kp65_7_1⟩ := p65_7.c2
   obtain ⟨kp66_7_0, kp66_7_1, kp66_7_2⟩ := p66_7.c3
   obtain ⟨kp67_7_0, kp67_7_1, kp67_7_2⟩ := p67_7.c3
   obtain ⟨kp68_7_0, kp68_7_1, kp68_7_2⟩ := p68_7.c3
   obtain ⟨kp69_7_0, kp69_7_1, kp69_7_2⟩ := p69_7.c3
   obtain ⟨kp72_5_0, kp72_5_1, kp72_5_2⟩ := p72_5.c3
   obtain ⟨kp73_4_0, kp73_4_1, kp73_4_2⟩ := p73_4.c3
   go_wp2; go_ret
   exact ⟨rfl, E0⟩
 ·have hnz : n65_7 = 0 := by omega
  have hnb : ((n65_7 : Int) == 0) = true := by simp [hnz]
  have hnc : ((n65_7 : Int) = 0) := by omega
  have hn0I : ¬ (0 : Int) < (n65_7 : Int) := by omega
  clear hz0 hm hnz
  obtain ⟨kp2_0, kp2_1, kp2_2⟩ := p2.c3
  obtain ⟨kp63_7_0, kp63_7_1⟩ := p63_7.c2
  obtain ⟨kp64_7_0, kp64_7_1⟩ := p64_7.c2
  obtain ⟨kp65_7_0, kp65_7_1⟩ := p65_7.c2
  obtain ⟨kp66_7_0, kp66_7_1, kp66_7_2⟩ := p66_7.c3
  obtain ⟨kp67_7_0, kp67_7_1, kp67_7_2⟩ := p67_7.c3
  obtain ⟨kp68_7_0, kp68_7_1, kp68_7_2⟩ := p68_7.c3
  obtain ⟨kp69_7_0, kp69_7_1, kp69_7_2⟩ := p69_7.c3
  obtain ⟨kp72_5_0, kp72_5_1, kp72_5_2⟩ := p72_5.c3
  obtain ⟨kp73_4_0, kp73_4_1, kp73_4_2⟩ := p73_4.c3
  go_upto_region 18 with (fail)
  clear kp2_0 kp2_1 kp2_2 kp63_7_0 kp63_7_1 kp64_7_0 kp64_7_1 kp65_7_0 kp65_7_1 kp66_7_0 kp66_7_1 kp66_7_2 kp67_7_0 kp67_7_1 kp67_7_2 kp68_7_0 kp68_7_1 kp68_7_2 kp69_7_0 kp69_7_1 kp69_7_2 kp72_5_0 kp72_5_1 kp72_5_2 kp73_4_0 kp73_4_1 kp73_4_2
  by_cases htw : D + D = S
  ·have HTW := Lib.hid htw
   clear htw; have ltp73_4 := p73_4.lt; have szw77 := Ext.size E0
   refine region_gs [.one fun v _ => v = .bool true,
     .one fun v _ => v = .bool true,
     .one fun v _ => v = .agg #[.bool b65_7, .slice a65_7 n65_7 c65_7],
     .one fun v _ => v = .agg #[.bool b63_7, .slice a63_7 n63_7 c63_7],
     .one fun v _ => v = .bool false,
     .one fun v _ => v = .bool false,
     .one fun v _ => v = .agg #[.bool b65_7, .slice a65_7 n65_7 c65_7],
     .one fun v _ => v = .agg #[.bool b64_7, .slice a64_7 n64_7 c64_7],
     .one fun v _ => v = .bool true,
     .one fun v _ => v = .bool true,
     .one fun v _ => v = .bool true,
     .one fun v _ => v = .bool true,
     .one fun v _ => v = .agg #[.bool b73_4, .slice a73_4 n73_4 c73_4, .slice d73_4 m73_4 o73_4],
     .one fun v _ => v = .agg #[.bool b69_7, .slice a69_7 n69_7 c69_7, .slice d69_7 m69_7 o69_7],
     .one fun v _ => v = .int .i64 e3,
     .one fun v _ => v = .bool true,
     .one fun v _ => v = .bool true,
     .one fun v _ => v = .bool true,
     .one fun v _ => v = .agg #[.bool b73_4, .slice a73_4 n73_4 c73_4, .slice d73_4 m73_4 o73_4],
     .one fun v _ => v = .agg #[.bool b69_7, .slice a69_7 n69_7 c69_7, .slice d69_7 m69_7 o69_7],
     .one fun v _ => v = .bool true,
     .one fun v _ => v = .bool false,
     .one fun v _ => v = .bool false,
     .one fun v _ => v = .bool true,
     .one fun v _ => v = .bool true,
     .one fun v _ => v = .bool true,
     .one fun v _ => v = .bool true]
    (fun W => Ext w W ∧ Rw W (.agg #[.bool b1, .slice a1 n1 c1, .slice d1 m1 o1]) x ∧ Bx3 W w.heap.size 27 (.bool b1) (.slice a1 n1 c1) (.slice d1 m1 o1) ∧ Zw W (.agg #[.bool b63_7, .slice a63_7 n63_7 c63_7]) F ∧ Bx2 W g63_7 25 (.bool b63_7) (.slice a63_7 n63_7 c63_7) ∧ Zw W (.agg #[.bool b64_7, .slice a64_7 n64_7 c64_7]) C ∧ Bx2 W g64_7 25 (.bool b64_7) (.slice a64_7 n64_7 c64_7) ∧ Zw W (.agg #[.bool b65_7, .slice a65_7 n65_7 c65_7]) M ∧ Bx2 W g65_7 25 (.bool b65_7) (.slice a65_7 n65_7 c65_7) ∧ Rw W (.agg #[.bool b66_7, .slice a66_7 n66_7 c66_7, .slice d66_7 m66_7 o66_7]) X ∧ Bx3 W g66_7 27 (.bool b66_7) (.slice a66_7 n66_7 c66_7) (.slice d66_7 m66_7 o66_7) ∧ Rw W (.agg #[.bool b67_7, .slice a67_7 n67_7 c67_7, .slice d67_7 m67_7 o67_7]) Y ∧ Bx3 W g67_7 27 (.bool b67_7) (.slice a67_7 n67_7 c67_7) (.slice d67_7 m67_7 o67_7) ∧ Rw W (.agg #[.bool b68_7, .slice a68_7 n68_7 c68_7, .slice d68_7 m68_7 o68_7]) Z ∧ Bx3 W g68_7 27 (.bool b68_7) (.slice a68_7 n68_7 c68_7) (.slice d68_7 m68_7 o68_7) ∧ Rw W (.agg #[.bool b69_7, .slice a69_7 n69_7 c69_7, .slice d69_7 m69_7 o69_7]) S ∧ Bx3 W g69_7 27 (.bool b69_7) (.slice a69_7 n69_7 c69_7) (.slice d69_7 m69_7 o69_7) ∧ Zw W u69_0 1 ∧ Rw W u71_23 S ∧ Rw W (.agg #[.bool b72_5, .slice a72_5 n72_5 c72_5, .slice d72_5 m72_5 o72_5]) D ∧ Bx3 W g72_5 27 (.bool b72_5) (.slice a72_5 n72_5 c72_5) (.slice d72_5 m72_5 o72_5) ∧ Rw W u72_2 (Z - x) ∧ Rw W (.agg #[.bool b73_4, .slice a73_4 n73_4 c73_4, .slice d73_4 m73_4 o73_4]) (D + D) ∧ Bx3 W g73_4 27 (.bool b73_4) (.slice a73_4 n73_4 c73_4) (.slice d73_4 m73_4 o73_4) ∧ W73.heap.size ≤ W.heap.size) ⟨Good.is _, Good.is _, Good.is _, Good.is _, Good.is _, Good.is _, Good.is _, Good.is _, Good.is _, Good.is _, Good.is _, Good.is _, Good.is _, Good.is _, Good.is _, Good.is _, Good.is _, Good.is _, Good.is _, Good.is _, Good.is _, Good.is _, Good.is _, Good.is _, Good.is _, Good.is _, Good.is _, trivial⟩
    ⟨E0, hx1, p2, h63_4, p63_7, h64_4, p64_7, h65_4, p65_7, h66_4, p66_7, h67_4, p67_7, h68_4, p68_7, h69_4, p69_7, h69_0, h71_23, h72_3, p72_5, h72_2, h73_2, p73_4, Nat.le_refl _⟩ (A := ?A77) ?hA77 ?howe77 ?hfin77
   case hA77 =>
    intro vs
    simp only [putAll, Act.put, sA, sZ, sS, Nat.zero_add, Nat.reduceAdd]
    exact rfl
   case howe77 =>
    clear E0 hx1 p2 h63_4 p63_7 h64_4 p64_7 h65_4 p65_7 h66_4 p66_7 h67_4 p67_7 h68_4 p68_7 h69_4 p69_7 h69_0 h71_23 h72_3 p72_5 h72_2 h73_2 p73_4
    intro hf
    refine ⟨oE 0 [] hf rfl ?_, oE 1 [0] hf rfl ?_, oE 2 [1] hf rfl ?_, oE 3 [1] hf rfl ?_, oE 4 [1, 2, 3] hf rfl ?_, oE 5 [1, 4] hf rfl ?_, oE 6 [5] hf rfl ?_, oE 7 [5] hf rfl ?_, oE 8 [5, 6, 7] hf rfl ?_, oE 9 [1, 5, 8] hf rfl ?_, oE 10 [1, 9] hf rfl ?_, oE 11 [10] hf rfl ?_, oE 12 [11] hf rfl ?_, oE 13 [11] hf rfl ?_, oE 14 [11, 12, 13] hf rfl ?_, oE 15 [11, 14] hf rfl ?_, oE 16 [11, 15] hf rfl ?_, oE 17 [16] hf rfl ?_, oE 18 [17] hf rfl ?_, oE 19 [17] hf rfl ?_, oE 20 [17, 18, 19] hf rfl ?_, oE 21 [17, 20] hf rfl ?_, oE 22 [17, 21] hf rfl ?_, oE 23 [22] hf rfl ?_, oE 24 [17, 22, 23] hf rfl ?_, oE 25 [17, 24] hf rfl ?_, oE 26 [25] hf rfl ?_, trivial⟩
    all_goals intro vs W hS hp hx KO hKO
    all_goals simp only [Act.put, sA, sZ, sS] at hKO
    ·go_simp
     refine (Try.alive06 _).mono ?_
     rintro e W1 ⟨rfl, hE⟩
     exact hKO _ W1 hE rfl
    ·have e0 := isOf hp.1; simp only [e0] at hKO; go_simp; exact hKO _ W (.refl W) rfl
    ·have e1 := isOf hp.1; simp only [e1] at hKO; have fc0 := hS.2.2.2.2.2.2.2.2.1.cell0; have fc1 := hS.2.2.2.2.2.2.2.2.1.cell1; go_simp; exact hKO _ W (.refl W) rfl
    ·have e1 := isOf hp.1; simp only [e1] at hKO; have fc0 := hS.2.2.2.2.1.cell0; have fc1 := hS.2.2.2.2.1.cell1; go_simp; exact hKO _ W (.refl W) rfl
    ·have e1 := isOf hp.1; have e2 := isOf hp.2.1; have e3 := isOf hp.2.2.1; simp only [e1, e2, e3] at hKO; go_simp
     refine (Try.refZSameF6 (hS.2.2.2.2.2.2.2.1) (hS.2.2.2.1) HMF.out).mono ?_
     rintro e W1 ⟨rfl, hE⟩
     exact hKO _ W1 hE rfl
    ·have e1 := isOf hp.1; have e4 := isOf hp.2.1; simp only [e1, e4] at hKO; go_simp; exact hKO _ W (.refl W) rfl
    ·have e5 := isOf hp.1; simp only [e5] at hKO; have fc0 := hS.2.2.2.2.2.2.2.2.1.cell0; have fc1 := hS.2.2.2.2.2.2.2.2.1.cell1; go_simp; exact hKO _ W (.refl W) rfl
    ·have e5 := isOf hp.1; simp only [e5] at hKO; have fc0 := hS.2.2.2.2.2.2.1.cell0; have fc1 := hS.2.2.2.2.2.2.1.cell1; go_simp; exact hKO _ W (.refl W) rfl
    ·have e5 := isOf hp.1; have e6 := isOf hp.2.1; have e7 := isOf hp.2.2.1; simp only [e5, e6, e7] at hKO; go_simp
     refine (Try.refZSameD (hS.2.2.2.2.2.2.2.1) (hS.2.2.2.2.2.1) HMC.out).mono ?_
     rintro e W1 ⟨rfl, hE⟩
     exact hKO _ W1 hE rfl
    ·have e1 := isOf hp.1; have e5 := isOf hp.2.1; have e8 := isOf hp.2.2.1; simp only [e1, e5, e8] at hKO; go_simp; exact hKO _ W (.refl W) rfl
    ·have e1 := isOf hp.1; have e9 := isOf hp.2.1; simp only [e1, e9] at hKO; go_simp; exact hKO _ W (.refl W) rfl
    ·have e10 := isOf hp.1; simp only [e10] at hKO; go_simp; exact hKO _ W (.refl W) rfl
    ·have e11 := isOf hp.1; simp only [e11] at hKO; have fc0 := hS.2.2.2.2.2.2.2.2.2.2.2.2.2.2.2.2.2.2.2.2.2.2.2.1.cell0; have fc1 := hS.2.2.2.2.2.2.2.2.2.2.2.2.2.2.2.2.2.2.2.2.2.2.2.1.cell1; have fc2 := hS.2.2.2.2.2.2.2.2.2.2.2.2.2.2.2.2.2.2.2.2.2.2.2.1.cell2; go_simp; exact hKO _ W (.refl W) rfl
    ·have e11 := isOf hp.1; simp only [e11] at hKO; have fc0 := hS.2.2.2.2.2.2.2.2.2.2.2.2.2.2.2.2.1.cell0; have fc1 := hS.2.2.2.2.2.2.2.2.2.2.2.2.2.2.2.2.1.cell1; have fc2 := hS.2.2.2.2.2.2.2.2.2.2.2.2.2.2.2.2.1.cell2; go_simp; exact hKO _ W (.refl W) rfl
    ·have e11 := isOf hp.1; have e12 := isOf hp.2.1; have e13 := isOf hp.2.2.1; simp only [e11, e12, e13] at hKO; go_simp
     refine (Try.refRCmpR (hS.2.2.2.2.2.2.2.2.2.2.2.2.2.2.2.2.2.2.2.2.2.2.1) (hS.2.2.2.2.2.2.2.2.2.2.2.2.2.2.2.1) SDD.out SS.out (by omega) HC3.out).mono ?_
     rintro e W1 ⟨rfl, hE⟩
     exact hKO _ W1 hE rfl
    ·have e11 := isOf hp.1; have e14 := isOf hp.2.1; simp only [e11, e14] at hKO; go_simp; exact hKO _ W (.refl W) rfl
    ·have e11 := isOf hp.1; have e15 := isOf hp.2.1; simp only [e11, e15] at hKO; go_simp; exact hKO _ W (.refl W) rfl
    ·have e16 := isOf hp.1; simp only [e16] at hKO; go_simp; exact hKO _ W (.refl W) rfl
    ·have e17 := isOf hp.1; simp only [e17] at hKO; have fc0 := hS.2.2.2.2.2.2.2.2.2.2.2.2.2.2.2.2.2.2.2.2.2.2.2.1.cell0; have fc1 := hS.2.2.2.2.2.2.2.2.2.2.2.2.2.2.2.2.2.2.2.2.2.2.2.1.cell1; have fc2 := hS.2.2.2.2.2.2.2.2.2.2.2.2.2.2.2.2.2.2.2.2.2.2.2.1.cell2; go_simp; exact hKO _ W (.refl W) rfl
    ·have e17 := isOf hp.1; simp only [e17] at hKO; have fc0 := hS.2.2.2.2.2.2.2.2.2.2.2.2.2.2.2.2.1.cell0; have fc1 := hS.2.2.2.2.2.2.2.2.2.2.2.2.2.2.2.2.1.cell1; have fc2 := hS.2.2.2.2.2.2.2.2.2.2.2.2.2.2.2.2.1.cell2; go_simp; exact hKO _ W (.refl W) rfl
    ·have e17 := isOf hp.1; have e18 := isOf hp.2.1; have e19 := isOf hp.2.2.1; simp only [e17, e18, e19] at hKO; go_simp
     refine (Try.refRSameD (hS.2.2.2.2.2.2.2.2.2.2.2.2.2.2.2.2.2.2.2.2.2.2.1) (hS.2.2.2.2.2.2.2.2.2.2.2.2.2.2.2.1) HTW.out).mono ?_
     rintro e W1 ⟨rfl, hE⟩
     exact hKO _ W1 hE rfl
    ·have e17 := isOf hp.1; have e20 := isOf hp.2.1; simp only [e17, e20] at hKO; go_simp; exact hKO _ W (.refl W) rfl
    ·have e17 := isOf hp.1; have e21 := isOf hp.2.1; simp only [e17, e21] at hKO; go_simp; exact hKO _ W (.refl W) rfl
    ·have e22 := isOf hp.1; simp only [e22] at hKO; go_simp; exact hKO _ W (.refl W) rfl
    ·have e17 := isOf hp.1; have e22 := isOf hp.2.1; have e23 := isOf hp.2.2.1; simp only [e17, e22, e23] at hKO; go_simp; exact hKO _ W (.refl W) rfl
    ·have e17 := isOf hp.1; have e24 := isOf hp.2.1; simp only [e17, e24] at hKO; go_simp; exact hKO _ W (.refl W) rfl
    ·have e25 := isOf hp.1; simp only [e25] at hKO; go_simp; exact hKO _ W (.refl W) rfl
   intro vs W77 hS hp
   clear szw77 E0 hx1 p2 h63_4 p63_7 h64_4 p64_7 h65_4 p65_7 h66_4 p66_7 h67_4 p67_7 h68_4 p68_7 h69_4 p69_7 h69_0 h71_23 h72_3 p72_5 h72_2 h73_2 p73_4
   obtain ⟨E0, hx1, p2, h63_4, p63_7, h64_4, p64_7, h65_4, p65_7, h66_4, p66_7, h67_4, p67_7, h68_4, p68_7, h69_4, p69_7, h69_0, h71_23, h72_3, p72_5, h72_2, h73_2, p73_4, sz77⟩ := hS
   obtain ⟨h77_0, h77_1, h77_2, h77_3, h77_4, h77_5, h77_6, h77_7, h77_8, h77_9, h77_10, h77_11, h77_12, h77_13, h77_14, h77_15, h77_16, h77_17, h77_18, h77_19, h77_20, h77_21, h77_22, h77_23, h77_24, h77_25, h77_26, -⟩ := hp
   replace h77_0 : vs 0 = .bool true := h77_0
   replace h77_1 : vs 1 = .bool true := h77_1
   replace h77_2 : vs 2 = .agg #[.bool b65_7, .slice a65_7 n65_7 c65_7] := h77_2
   replace h77_3 : vs 3 = .agg #[.bool b63_7, .slice a63_7 n63_7 c63_7] := h77_3
   replace h77_4 : vs 4 = .bool false := h77_4
   replace h77_5 : vs 5 = .bool false := h77_5
   replace h77_6 : vs 6 = .agg #[.bool b65_7, .slice a65_7 n65_7 c65_7] := h77_6
   replace h77_7 : vs 7 = .agg #[.bool b64_7, .slice a64_7 n64_7 c64_7] := h77_7
   replace h77_8 : vs 8 = .bool true := h77_8
   replace h77_9 : vs 9 = .bool true := h77_9
   replace h77_10 : vs 10 = .bool true := h77_10
   replace h77_11 : vs 11 = .bool true := h77_11
   replace h77_12 : vs 12 = .agg #[.bool b73_4, .slice a73_4 n73_4 c73_4, .slice d73_4 m73_4 o73_4] := h77_12
   replace h77_13 : vs 13 = .agg #[.bool b69_7, .slice a69_7 n69_7 c69_7, .slice d69_7 m69_7 o69_7] := h77_13
   replace h77_14 : vs 14 = .int .i64 e3 := h77_14
   replace h77_15 : vs 15 = .bool true := h77_15
   replace h77_16 : vs 16 = .bool true := h77_16
   replace h77_17 : vs 17 = .bool true := h77_17
   replace h77_18 : vs 18 = .agg #[.bool b73_4, .slice a73_4 n73_4 c73_4, .slice d73_4 m73_4 o73_4] := h77_18
   replace h77_19 : vs 19 = .agg #[.bool b69_7, .slice a69_7 n69_7 c69_7, .slice d69_7 m69_7 o69_7] := h77_19
   replace h77_20 : vs 20 = .bool true := h77_20
   replace h77_21 : vs 21 = .bool false := h77_21
   replace h77_22 : vs 22 = .bool false := h77_22
   replace h77_23 : vs 23 = .bool true := h77_23
   replace h77_24 : vs 24 = .bool true := h77_24
   replace h77_25 : vs 25 = .bool true := h77_25
   replace h77_26 : vs 26 = .bool true := h77_26
   simp only [h77_0, h77_1, h77_2, h77_3, h77_4, h77_5, h77_6, h77_7, h77_8, h77_9, h77_10, h77_11, h77_12, h77_13, h77_14, h77_15, h77_16, h77_17, h77_18, h77_19, h77_20, h77_21, h77_22, h77_23, h77_24, h77_25, h77_26]
   clear h77_0 h77_1 h77_2 h77_3 h77_4 h77_5 h77_6 h77_7 h77_8 h77_9 h77_10 h77_11 h77_12 h77_13 h77_14 h77_15 h77_16 h77_17 h77_18 h77_19 h77_20 h77_21 h77_22 h77_23 h77_24 h77_25 h77_26
   obtain ⟨kp2_0, kp2_1, kp2_2⟩ := p2.c3
   obtain ⟨kp63_7_0, kp63_7_1⟩ := p63_7.c2
   obtain ⟨kp64_7_0, kp64_7_1⟩ := p64_7.c2
   obtain ⟨kp65_7_0, kp65_7_1⟩ := p65_7.c2
   obtain ⟨kp66_7_0, kp66_7_1, kp66_7_2⟩ := p66_7.c3
   obtain ⟨kp67_7_0, kp67_7_1, kp67_7_2⟩ := p67_7.c3
   obtain ⟨kp68_7_0, kp68_7_1, kp68_7_2⟩ := p68_7.c3
   obtain ⟨kp69_7_0, kp69_7_1, kp69_7_2⟩ := p69_7.c3
   obtain ⟨kp72_5_0, kp72_5_1, kp72_5_2⟩ := p72_5.c3
   obtain ⟨kp73_4_0, kp73_4_1, kp73_4_2⟩ := p73_4.c3
   go_wp2; go_ret
   exact ⟨rfl, E0⟩
  ·have HTW := Lib.hid htw
   clear htw; have ltp73_4 := p73_4.lt; have szw78 := Ext.size E0
   refine region_gs [.one fun v _ => v = .bool true,
     .one fun v _ => v = .bool true,
     .one fun v _ => v = .agg #[.bool b65_7, .slice a65_7 n65_7 c65_7],
     .one fun v _ => v = .agg #[.bool b63_7, .slice a63_7 n63_7 c63_7],
     .one fun v _ => v = .bool false,
     .one fun v _ => v = .bool false,
     .one fun v _ => v = .agg #[.bool b65_7, .slice a65_7 n65_7 c65_7],
     .one fun v _ => v = .agg #[.bool b64_7, .slice a64_7 n64_7 c64_7],
     .one fun v _ => v = .bool true,
     .one fun v _ => v = .bool true,
     .one fun v _ => v = .bool true,
     .one fun v _ => v = .bool true,
     .one fun v _ => v = .agg #[.bool b73_4, .slice a73_4 n73_4 c73_4, .slice d73_4 m73_4 o73_4],
     .one fun v _ => v = .agg #[.bool b69_7, .slice a69_7 n69_7 c69_7, .slice d69_7 m69_7 o69_7],
     .one fun v _ => v = .int .i64 e3,
     .one fun v _ => v = .bool true,
     .one fun v _ => v = .bool true,
     .one fun v _ => v = .bool true,
     .one fun v _ => v = .agg #[.bool b73_4, .slice a73_4 n73_4 c73_4, .slice d73_4 m73_4 o73_4],
     .one fun v _ => v = .agg #[.bool b69_7, .slice a69_7 n69_7 c69_7, .slice d69_7 m69_7 o69_7],
     .one fun v _ => v = .bool false,
     .one fun v _ => v = .bool true,
     .one fun v _ => v = .bool true,
     .one fun v _ => v = undef,
     .one fun v _ => v = .bool true,
     .one fun v _ => v = .bool true,
     .one fun v _ => v = .bool true]
    (fun W => Ext w W ∧ Rw W (.agg #[.bool b1, .slice a1 n1 c1, .slice d1 m1 o1]) x ∧ Bx3 W w.heap.size 27 (.bool b1) (.slice a1 n1 c1) (.slice d1 m1 o1) ∧ Zw W (.agg #[.bool b63_7, .slice a63_7 n63_7 c63_7]) F ∧ Bx2 W g63_7 25 (.bool b63_7) (.slice a63_7 n63_7 c63_7) ∧ Zw W (.agg #[.bool b64_7, .slice a64_7 n64_7 c64_7]) C ∧ Bx2 W g64_7 25 (.bool b64_7) (.slice a64_7 n64_7 c64_7) ∧ Zw W (.agg #[.bool b65_7, .slice a65_7 n65_7 c65_7]) M ∧ Bx2 W g65_7 25 (.bool b65_7) (.slice a65_7 n65_7 c65_7) ∧ Rw W (.agg #[.bool b66_7, .slice a66_7 n66_7 c66_7, .slice d66_7 m66_7 o66_7]) X ∧ Bx3 W g66_7 27 (.bool b66_7) (.slice a66_7 n66_7 c66_7) (.slice d66_7 m66_7 o66_7) ∧ Rw W (.agg #[.bool b67_7, .slice a67_7 n67_7 c67_7, .slice d67_7 m67_7 o67_7]) Y ∧ Bx3 W g67_7 27 (.bool b67_7) (.slice a67_7 n67_7 c67_7) (.slice d67_7 m67_7 o67_7) ∧ Rw W (.agg #[.bool b68_7, .slice a68_7 n68_7 c68_7, .slice d68_7 m68_7 o68_7]) Z ∧ Bx3 W g68_7 27 (.bool b68_7) (.slice a68_7 n68_7 c68_7) (.slice d68_7 m68_7 o68_7) ∧ Rw W (.agg #[.bool b69_7, .slice a69_7 n69_7 c69_7, .slice d69_7 m69_7 o69_7]) S ∧ Bx3 W g69_7 27 (.bool b69_7) (.slice a69_7 n69_7 c69_7) (.slice d69_7 m69_7 o69_7) ∧ Zw W u69_0 1 ∧ Rw W u71_23 S ∧ Rw W (.agg #[.bool b72_5, .slice a72_5 n72_5 c72_5, .slice d72_5 m72_5 o72_5]) D ∧ Bx3 W g72_5 27 (.bool b72_5) (.slice a72_5 n72_5 c72_5) (.slice d72_5 m72_5 o72_5) ∧ Rw W u72_2 (Z - x) ∧ Rw W (.agg #[.bool b73_4, .slice a73_4 n73_4 c73_4, .slice d73_4 m73_4 o73_4]) (D + D) ∧ Bx3 W g73_4 27 (.bool b73_4) (.slice a73_4 n73_4 c73_4) (.slice d73_4 m73_4 o73_4) ∧ W73.heap.size ≤ W.heap.size) ⟨Good.is _, Good.is _, Good.is _, Good.is _, Good.is _, Good.is _, Good.is _, Good.is _, Good.is _, Good.is _, Good.is _, Good.is _, Good.is _, Good.is _, Good.is _, Good.is _, Good.is _, Good.is _, Good.is _, Good.is _, Good.is _, Good.is _, Good.is _, Good.is _, Good.is _, Good.is _, Good.is _, trivial⟩
    ⟨E0, hx1, p2, h63_4, p63_7, h64_4, p64_7, h65_4, p65_7, h66_4, p66_7, h67_4, p67_7, h68_4, p68_7, h69_4, p69_7, h69_0, h71_23, h72_3, p72_5, h72_2, h73_2, p73_4, Nat.le_refl _⟩ (A := ?A78) ?hA78 ?howe78 ?hfin78
   case hA78 =>
    intro vs
    simp only [putAll, Act.put, sA, sZ, sS, Nat.zero_add, Nat.reduceAdd]
    exact rfl
   case howe78 =>
    clear E0 hx1 p2 h63_4 p63_7 h64_4 p64_7 h65_4 p65_7 h66_4 p66_7 h67_4 p67_7 h68_4 p68_7 h69_4 p69_7 h69_0 h71_23 h72_3 p72_5 h72_2 h73_2 p73_4
    intro hf
    refine ⟨oE 0 [] hf rfl ?_, oE 1 [0] hf rfl ?_, oE 2 [1] hf rfl ?_, oE 3 [1] hf rfl ?_, oE 4 [1, 2, 3] hf rfl ?_, oE 5 [1, 4] hf rfl ?_, oE 6 [5] hf rfl ?_, oE 7 [5] hf rfl ?_, oE 8 [5, 6, 7] hf rfl ?_, oE 9 [1, 5, 8] hf rfl ?_, oE 10 [1, 9] hf rfl ?_, oE 11 [10] hf rfl ?_, oE 12 [11] hf rfl ?_, oE 13 [11] hf rfl ?_, oE 14 [11, 12, 13] hf rfl ?_, oE 15 [11, 14] hf rfl ?_, oE 16 [11, 15] hf rfl ?_, oE 17 [16] hf rfl ?_, oE 18 [17] hf rfl ?_, oE 19 [17] hf rfl ?_, oE 20 [17, 18, 19] hf rfl ?_, oE 21 [17, 20] hf rfl ?_, oE 22 [17, 21] hf rfl ?_, oE 23 [22] hf rfl ?_, oE 24 [17, 22, 23] hf rfl ?_, oE 25 [17, 24] hf rfl ?_, oE 26 [25] hf rfl ?_, trivial⟩
    all_goals intro vs W hS hp hx KO hKO
    all_goals simp only [Act.put, sA, sZ, sS] at hKO
    ·go_simp
     refine (Try.alive06 _).mono ?_
     rintro e W1 ⟨rfl, hE⟩
     exact hKO _ W1 hE rfl
    ·have e0 := isOf hp.1; simp only [e0] at hKO; go_simp; exact hKO _ W (.refl W) rfl
    ·have e1 := isOf hp.1; simp only [e1] at hKO; have fc0 := hS.2.2.2.2.2.2.2.2.1.cell0; have fc1 := hS.2.2.2.2.2.2.2.2.1.cell1; go_simp; exact hKO _ W (.refl W) rfl
    ·have e1 := isOf hp.1; simp only [e1] at hKO; have fc0 := hS.2.2.2.2.1.cell0; have fc1 := hS.2.2.2.2.1.cell1; go_simp; exact hKO _ W (.refl W) rfl
    ·have e1 := isOf hp.1; have e2 := isOf hp.2.1; have e3 := isOf hp.2.2.1; simp only [e1, e2, e3] at hKO; go_simp
     refine (Try.refZSameF6 (hS.2.2.2.2.2.2.2.1) (hS.2.2.2.1) HMF.out).mono ?_
     rintro e W1 ⟨rfl, hE⟩
     exact hKO _ W1 hE rfl
    ·have e1 := isOf hp.1; have e4 := isOf hp.2.1; simp only [e1, e4] at hKO; go_simp; exact hKO _ W (.refl W) rfl
    ·have e5 := isOf hp.1; simp only [e5] at hKO; have fc0 := hS.2.2.2.2.2.2.2.2.1.cell0; have fc1 := hS.2.2.2.2.2.2.2.2.1.cell1; go_simp; exact hKO _ W (.refl W) rfl
    ·have e5 := isOf hp.1; simp only [e5] at hKO; have fc0 := hS.2.2.2.2.2.2.1.cell0; have fc1 := hS.2.2.2.2.2.2.1.cell1; go_simp; exact hKO _ W (.refl W) rfl
    ·have e5 := isOf hp.1; have e6 := isOf hp.2.1; have e7 := isOf hp.2.2.1; simp only [e5, e6, e7] at hKO; go_simp
     refine (Try.refZSameD (hS.2.2.2.2.2.2.2.1) (hS.2.2.2.2.2.1) HMC.out).mono ?_
     rintro e W1 ⟨rfl, hE⟩
     exact hKO _ W1 hE rfl
    ·have e1 := isOf hp.1; have e5 := isOf hp.2.1; have e8 := isOf hp.2.2.1; simp only [e1, e5, e8] at hKO; go_simp; exact hKO _ W (.refl W) rfl
    ·have e1 := isOf hp.1; have e9 := isOf hp.2.1; simp only [e1, e9] at hKO; go_simp; exact hKO _ W (.refl W) rfl
    ·have e10 := isOf hp.1; simp only [e10] at hKO; go_simp; exact hKO _ W (.refl W) rfl
    ·have e11 := isOf hp.1; simp only [e11] at hKO; have fc0 := hS.2.2.2.2.2.2.2.2.2.2.2.2.2.2.2.2.2.2.2.2.2.2.2.1.cell0; have fc1 := hS.2.2.2.2.2.2.2.2.2.2.2.2.2.2.2.2.2.2.2.2.2.2.2.1.cell1; have fc2 := hS.2.2.2.2.2.2.2.2.2.2.2.2.2.2.2.2.2.2.2.2.2.2.2.1.cell2; go_simp; exact hKO _ W (.refl W) rfl
    ·have e11 := isOf hp.1; simp only [e11] at hKO; have fc0 := hS.2.2.2.2.2.2.2.2.2.2.2.2.2.2.2.2.1.cell0; have fc1 := hS.2.2.2.2.2.2.2.2.2.2.2.2.2.2.2.2.1.cell1; have fc2 := hS.2.2.2.2.2.2.2.2.2.2.2.2.2.2.2.2.1.cell2; go_simp; exact hKO _ W (.refl W) rfl
    ·have e11 := isOf hp.1; have e12 := isOf hp.2.1; have e13 := isOf hp.2.2.1; simp only [e11, e12, e13] at hKO; go_simp
     refine (Try.refRCmpR (hS.2.2.2.2.2.2.2.2.2.2.2.2.2.2.2.2.2.2.2.2.2.2.1) (hS.2.2.2.2.2.2.2.2.2.2.2.2.2.2.2.1) SDD.out SS.out (by omega) HC3.out).mono ?_
     rintro e W1 ⟨rfl, hE⟩
     exact hKO _ W1 hE rfl
    ·have e11 := isOf hp.1; have e14 := isOf hp.2.1; simp only [e11, e14] at hKO; go_simp; exact hKO _ W (.refl W) rfl
    ·have e11 := isOf hp.1; have e15 := isOf hp.2.1; simp only [e11, e15] at hKO; go_simp; exact hKO _ W (.refl W) rfl
    ·have e16 := isOf hp.1; simp only [e16] at hKO; go_simp; exact hKO _ W (.refl W) rfl
    ·have e17 := isOf hp.1; simp only [e17] at hKO; have fc0 := hS.2.2.2.2.2.2.2.2.2.2.2.2.2.2.2.2.2.2.2.2.2.2.2.1.cell0; have fc1 := hS.2.2.2.2.2.2.2.2.2.2.2.2.2.2.2.2.2.2.2.2.2.2.2.1.cell1; have fc2 := hS.2.2.2.2.2.2.2.2.2.2.2.2.2.2.2.2.2.2.2.2.2.2.2.1.cell2; go_simp; exact hKO _ W (.refl W) rfl
    ·have e17 := isOf hp.1; simp only [e17] at hKO; have fc0 := hS.2.2.2.2.2.2.2.2.2.2.2.2.2.2.2.2.1.cell0; have fc1 := hS.2.2.2.2.2.2.2.2.2.2.2.2.2.2.2.2.1.cell1; have fc2 := hS.2.2.2.2.2.2.2.2.2.2.2.2.2.2.2.2.1.cell2; go_simp; exact hKO _ W (.refl W) rfl
    ·have e17 := isOf hp.1; have e18 := isOf hp.2.1; have e19 := isOf hp.2.2.1; simp only [e17, e18, e19] at hKO; go_simp
     refine (Try.refRSameF6 (hS.2.2.2.2.2.2.2.2.2.2.2.2.2.2.2.2.2.2.2.2.2.2.1) (hS.2.2.2.2.2.2.2.2.2.2.2.2.2.2.2.1) HTW.out).mono ?_
     rintro e W1 ⟨rfl, hE⟩
     exact hKO _ W1 hE rfl
    ·have e17 := isOf hp.1; have e20 := isOf hp.2.1; simp only [e17, e20] at hKO; go_simp; exact hKO _ W (.refl W) rfl
    ·have e17 := isOf hp.1; have e21 := isOf hp.2.1; simp only [e17, e21] at hKO; go_simp; exact hKO _ W (.refl W) rfl
    ·have e22 := isOf hp.1; simp only [e22] at hKO; go_simp; exact hKO _ W (.refl W) rfl
    ·have e17 := isOf hp.1; have e22 := isOf hp.2.1; have e23 := isOf hp.2.2.1; simp only [e17, e22, e23] at hKO; go_simp; exact hKO _ W (.refl W) rfl
    ·have e17 := isOf hp.1; have e24 := isOf hp.2.1; simp only [e17, e24] at hKO; go_simp; exact hKO _ W (.refl W) rfl
    ·have e25 := isOf hp.1; simp only [e25] at hKO; go_simp; exact hKO _ W (.refl W) rfl
   intro vs W78 hS hp
   clear szw78 E0 hx1 p2 h63_4 p63_7 h64_4 p64_7 h65_4 p65_7 h66_4 p66_7 h67_4 p67_7 h68_4 p68_7 h69_4 p69_7 h69_0 h71_23 h72_3 p72_5 h72_2 h73_2 p73_4
   obtain ⟨E0, hx1, p2, h63_4, p63_7, h64_4, p64_7, h65_4, p65_7, h66_4, p66_7, h67_4, p67_7, h68_4, p68_7, h69_4, p69_7, h69_0, h71_23, h72_3, p72_5, h72_2, h73_2, p73_4, sz78⟩ := hS
   obtain ⟨h78_0, h78_1, h78_2, h78_3, h78_4, h78_5, h78_6, h78_7, h78_8, h78_9, h78_10, h78_11, h78_12, h78_13, h78_14, h78_15, h78_16, h78_17, h78_18, h78_19, h78_20, h78_21, h78_22, h78_23, h78_24, h78_25, h78_26, -⟩ := hp
   replace h78_0 : vs 0 = .bool true := h78_0
   replace h78_1 : vs 1 = .bool true := h78_1
   replace h78_2 : vs 2 = .agg #[.bool b65_7, .slice a65_7 n65_7 c65_7] := h78_2
   replace h78_3 : vs 3 = .agg #[.bool b63_7, .slice a63_7 n63_7 c63_7] := h78_3
   replace h78_4 : vs 4 = .bool false := h78_4
   replace h78_5 : vs 5 = .bool false := h78_5
   replace h78_6 : vs 6 = .agg #[.bool b65_7, .slice a65_7 n65_7 c65_7] := h78_6
   replace h78_7 : vs 7 = .agg #[.bool b64_7, .slice a64_7 n64_7 c64_7] := h78_7
   replace h78_8 : vs 8 = .bool true := h78_8
   replace h78_9 : vs 9 = .bool true := h78_9
   replace h78_10 : vs 10 = .bool true := h78_10
   replace h78_11 : vs 11 = .bool true := h78_11
   replace h78_12 : vs 12 = .agg #[.bool b73_4, .slice a73_4 n73_4 c73_4, .slice d73_4 m73_4 o73_4] := h78_12
   replace h78_13 : vs 13 = .agg #[.bool b69_7, .slice a69_7 n69_7 c69_7, .slice d69_7 m69_7 o69_7] := h78_13
   replace h78_14 : vs 14 = .int .i64 e3 := h78_14
   replace h78_15 : vs 15 = .bool true := h78_15
   replace h78_16 : vs 16 = .bool true := h78_16
   replace h78_17 : vs 17 = .bool true := h78_17
   replace h78_18 : vs 18 = .agg #[.bool b73_4, .slice a73_4 n73_4 c73_4, .slice d73_4 m73_4 o73_4] := h78_18
   replace h78_19 : vs 19 = .agg #[.bool b69_7, .slice a69_7 n69_7 c69_7, .slice d69_7 m69_7 o69_7] := h78_19
   replace h78_20 : vs 20 = .bool false := h78_20
   replace h78_21 : vs 21 = .bool true := h78_21
   replace h78_22 : vs 22 = .bool true := h78_22
   replace h78_23 : vs 23 = undef := h78_23
   replace h78_24 : vs 24 = .bool true := h78_24
   replace h78_25 : vs 25 = .bool true := h78_25
   replace h78_26 : vs 26 = .bool true := h78_26
   simp only [h78_0, h78_1, h78_2, h78_3, h78_4, h78_5, h78_6, h78_7, h78_8, h78_9, h78_10, h78_11, h78_12, h78_13, h78_14, h78_15, h78_16, h78_17, h78_18, h78_19, h78_20, h78_21, h78_22, h78_23, h78_24, h78_25, h78_26]
   clear h78_0 h78_1 h78_2 h78_3 h78_4 h78_5 h78_6 h78_7 h78_8 h78_9 h78_10 h78_11 h78_12 h78_13 h78_14 h78_15 h78_16 h78_17 h78_18 h78_19 h78_20 h78_21 h78_22 h78_23 h78_24 h78_25 h78_26
   obtain ⟨kp2_0, kp2_1, kp2_2⟩ := p2.c3
   obtain ⟨kp63_7_0, kp63_7_1⟩ := p63_7.c2
   obtain ⟨kp64_7_0, kp64_7_1⟩ := p64_7.c2
   obtain ⟨kp65_7_0, kp65_7_1⟩ := p65_7.c2
   obtain ⟨kp66_7_0, kp66_7_1, kp66_7_2⟩ := p66_7.c3
   obtain ⟨kp67_7_0, kp67_7_1, kp67_7_2⟩ := p67_7.c3
   obtain ⟨kp68_7_0, kp68_7_1, kp68_7_2⟩ := p68_7.c3
   obtain ⟨kp69_7_0, kp69_7_1, kp69_7_2⟩ := p69_7.c3
   obtain ⟨kp72_5_0, kp72_5_1, kp72_5_2⟩ := p72_5.c3
   obtain ⟨kp73_4_0, kp73_4_1, kp73_4_2⟩ := p73_4.c3
   go_wp2; go_ret
   exact ⟨rfl, E0⟩

end Go.Rt
