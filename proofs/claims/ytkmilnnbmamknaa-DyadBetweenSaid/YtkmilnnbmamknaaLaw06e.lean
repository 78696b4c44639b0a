/-
 The laws of chapter 06 (dyads): Between, on the grid.
-/
import Derived.Test.YtkmilnnbmamknaaSqz
import Derived.Test.YtkmilnnbmamknaaDyadD
namespace Go.Rt
open Go Go.RowKit Go.Proofs


set_option maxRecDepth 100000 in
set_option maxHeartbeats 16000000 in
theorem Try.lawDyadBetweenTT {b1 : Bool} {a1 : Option Addr} {n1 c1 : Nat} {d1 : Option Addr} {m1 o1 : Nat} {xs1 ys1 : List Nat} {w : World} (h1 : Nt w (.slice a1 n1 c1) xs1) (k1 : Nt w (.slice d1 m1 o1) ys1) (HG0 : Hid (fewR b1 xs1 ys1 ((4 : Nat) : Int) = true)) (x : Rat) (hx1 : Rw w (.agg #[.bool b1, .slice a1 n1 c1, .slice d1 m1 o1]) x) (s1 : SmR 4 x) (K : Nat) (hKb : K ≤ 400) (hxo : Hid (((x * P2 K).floor : Rat) / P2 K = x)) (hmf : Hid (nearR (x * P2 K) = (x * P2 K).floor)) :
  Calls Try.prog 3 #[.agg #[.bool b1, .slice a1 n1 c1, .slice d1 m1 o1], .int .i64 (K : Int)] w fun e w' => e = .returned (.bool true) ∧ Ext w w' := by
 have hk0 : ¬ ((K : Int) < 0) := by omega
 have hk0d := decide_eq_false hk0
 have hk4 : ¬ (400 < (K : Int)) := by omega
 have hk4d := decide_eq_false hk4
 have hk4n : ¬ 400 < K := by omega
 have hk0n : 0 ≤ K := Nat.zero_le K
 obtain ⟨F, hF_⟩ : ∃ F : Int, (x * P2 K).floor = F := ⟨_, rfl⟩
 obtain ⟨C, hC_⟩ : ∃ C : Int, (x * P2 K).ceil = C := ⟨_, rfl⟩
 obtain ⟨M, hM_⟩ : ∃ M : Int, nearR (x * P2 K) = M := ⟨_, rfl⟩
 obtain ⟨X, hX_⟩ : ∃ X : Rat, (F : Rat) / P2 K = X := ⟨_, rfl⟩
 obtain ⟨Y, hY_⟩ : ∃ Y : Rat, (C : Rat) / P2 K = Y := ⟨_, rfl⟩
 obtain ⟨Z, hZ_⟩ : ∃ Z : Rat, (M : Rat) / P2 K = Z := ⟨_, rfl⟩
 obtain ⟨S, hS_⟩ : ∃ S : Rat, ((1 : Int) : Rat) / P2 K = S := ⟨_, rfl⟩
 obtain ⟨D, hD_⟩ : ∃ D : Rat, (Z - x).abs = D := ⟨_, rfl⟩
 obtain ⟨e1, he1_⟩ : ∃ e1 : Int, cmpR X x = e1 := ⟨_, rfl⟩
 obtain ⟨e2, he2_⟩ : ∃ e2 : Int, cmpR x Y = e2 := ⟨_, rfl⟩
 obtain ⟨e3, he3_⟩ : ∃ e3 : Int, cmpR (D + D) S = e3 := ⟨_, rfl⟩
 have HFl := Lib.hid hF_
 have HCl := Lib.hid hC_
 have HNr := Lib.hid hM_
 have HX := Lib.hid hX_
 have HY := Lib.hid hY_
 have HZ := Lib.hid hZ_
 have HSt := Lib.hid hS_
 have HD := Lib.hid hD_
 have HC1 := Lib.hid he1_
 have HC2 := Lib.hid he2_
 have HC3 := Lib.hid he3_
 have he1 : Hid (e1 ≤ 0) := Lib.hid (by rw [← he1_, cmpR_le0, ← hX_, ← hF_]; exact low_le x K)
 have he2 : Hid (e2 ≤ 0) := Lib.hid (by rw [← he2_, cmpR_le0, ← hY_, ← hC_]; exact le_high x K)
 have hon : X = x ↔ Y = x := by rw [← hX_, ← hY_, ← hF_, ← hC_]; exact on_iff x K
 have hside : X ≠ x → Y - X = S := by rw [← hX_, ← hY_, ← hS_, ← hF_, ← hC_]; exact side_by
 have hmid : M = F ∨ M = C := by rw [← hM_, ← hF_, ← hC_]; exact near_end _
 have hhalf := near_half x K
 rw [hM_, hZ_, hD_, hS_] at hhalf
 have he3 : Hid (e3 ≤ 0) := Lib.hid (by rw [← he3_, cmpR_le0]; exact hhalf.1)
 have hev := hhalf.2
 have SF : Hid (Sm 12 F.natAbs) := Lib.hid (by rw [← hF_]; exact (Sm.floor s1 K).mono (by omega))
 have SC : Hid (Sm 12 C.natAbs) := Lib.hid (by rw [← hC_]; exact (Sm.ceil s1 K).mono (by omega))
 have SM : Hid (Sm 12 M.natAbs) := Lib.hid (by rw [← hM_]; exact (Sm.near s1 K).mono (by omega))
 have S1 : Hid (Sm 12 (1 : Int).natAbs) := Lib.hid ((Sm.small (by omega)).mono (by omega))
 have SX : Hid (SmR 20 X) := Lib.hid (by rw [← hX_, ← back_eq]; exact (SmR.back SF.out K).mono (by omega))
 have SY : Hid (SmR 20 Y) := Lib.hid (by rw [← hY_, ← back_eq]; exact (SmR.back SC.out K).mono (by omega))
 have SZ : Hid (SmR 20 Z) := Lib.hid (by rw [← hZ_, ← back_eq]; exact (SmR.back SM.out K).mono (by omega))
 have SS : Hid (SmR 20 S) := Lib.hid (by rw [← hS_, ← back_eq]; exact (SmR.back S1.out K).mono (by omega))
 have Sx : Hid (SmR 20 x) := Lib.hid (s1.mono (by omega))
 have SD : Hid (SmR 41 D) := Lib.hid (by rw [← hD_]; exact (SZ.out.sub Sx.out).abs)
 have SDD : Hid (SmR 83 (D + D)) := Lib.hid (SD.out.add SD.out)
 have SS : Hid (SmR 83 S) := Lib.hid (SS.out.mono (by omega))
 have SS20 : Hid (SmR 20 S) := Lib.hid (by rw [← hS_, ← back_eq]; exact (SmR.back S1.out K).mono (by omega))
 have HON : Hid (X = x) := Lib.hid (by rw [← hX_, ← hF_]; exact hxo.out)
 have HMF : Hid (M = F) := Lib.hid (by rw [← hM_, ← hF_]; exact hmf.out)
 clear hxo hmf; clear hF_ hC_ hM_ hX_ hY_ hZ_ hS_ hD_ he1_ he2_ he3_; clear hhalf
 have e1le : e1 ≤ 0 := he1.out
 have e1led := decide_eq_true e1le
 have e1gt : ¬ (0 < e1) := by omega
 have e1gtd := decide_eq_false e1gt
 have e2le : e2 ≤ 0 := he2.out
 have e2led := decide_eq_true e2le
 have e2gt : ¬ (0 < e2) := by omega
 have e2gtd := decide_eq_false e2gt
 have e3le : e3 ≤ 0 := he3.out
 have e3led := decide_eq_true e3le
 have e3gt : ¬ (0 < e3) := by omega
 have e3gtd := decide_eq_false e3gt
 have HON2 := Lib.hid (hon.1 HON.out)
 have HEV := Lib.hid hev
 clear hon hside hmid hev
 obtain ⟨W0, hW0⟩ : ∃ W0, W0 = (w.alloc (.cells #[.bool b1, .slice a1 n1 c1, .slice d1 m1 o1] 27)) := ⟨_, rfl⟩
 have E0 : Ext w W0 := by rw [hW0]; exact (Ext.alloc1 w (.cells #[.bool b1, .slice a1 n1 c1, .slice d1 m1 o1] 27))
 replace h1 : Nt W0 (.slice a1 n1 c1) xs1 := h1.ext E0
 replace k1 : Nt W0 (.slice d1 m1 o1) ys1 := k1.ext E0
 replace hx1 : Rw W0 (.agg #[.bool b1, .slice a1 n1 c1, .slice d1 m1 o1]) x := hx1.ext E0
 have p2 : Bx3 W0 w.heap.size 27 (.bool b1) (.slice a1 n1 c1) (.slice d1 m1 o1) := by rw [hW0]; exact (Bx3.new w 27 (.bool b1) (.slice a1 n1 c1) (.slice d1 m1 o1))
 go_enter Try.func3, Try.ntmps3
 obtain ⟨kp2_0, kp2_1, kp2_2⟩ := p2.c3
 go_wp2_with fail
 rw [← hW0]
 clear hW0; clear kp2_0 kp2_1 kp2_2
 refine (Try.refRFew h1 k1 4 (by omega)).mono ?_
 rintro e Wf0 ⟨rfl, hE⟩
 rw [HG0.out]; replace E0 := (Ext.trans E0 hE); replace h1 := (h1.ext hE)
 replace k1 := (k1.ext hE)
 replace hx1 := (hx1.ext hE); replace p2 := (p2.ext hE); clear hE; clear h1 k1
 obtain ⟨kp2_0, kp2_1, kp2_2⟩ := p2.c3
 go_upto_region 3 with (fail)
 clear kp2_0 kp2_1 kp2_2; have ltp2 := p2.lt; have szw31 := Ext.size E0
 refine region_gs [.one fun v _ => v = .agg #[.bool b1, .slice a1 n1 c1, .slice d1 m1 o1],
   .one fun v _ => v = .int .i64 (K : Int),
   .one fun v W => ∃ v', v = .tuple #[v', .int .i64 0] ∧ (fun v W => Zw W v F) v' W,
   .one fun v W => ∃ v', v = .tuple #[v', .int .i64 0] ∧ (fun v W => Zw W v F) v' W,
   .one fun v W => Zw W v F,
   .one fun v _ => v = .int .i64 0,
   .one fun v W => ∃ g, v = .pointer (some ⟨g, 0, none⟩) ∧ Wf0.heap.size ≤ g ∧ Form W g 25 2,
   .three 6 4 (fun p r _ W => Put2 Wf0.heap.size 25 p r W),
   .one fun v _ => v = .int .i64 0]
  (fun W => Ext w W ∧ Rw W (.agg #[.bool b1, .slice a1 n1 c1, .slice d1 m1 o1]) x ∧ Bx3 W w.heap.size 27 (.bool b1) (.slice a1 n1 c1) (.slice d1 m1 o1) ∧ Wf0.heap.size ≤ W.heap.size) ⟨Good.is _, Good.is _, (Good.zed _).tup _, (Good.zed _).tup _, Good.zed _, Good.is _, Good.box _ _ _, cert_put2, Good.is _, trivial⟩
  ⟨E0, hx1, p2, Nat.le_refl _⟩ (A := ?A31) ?hA31 ?howe31 ?hfin31
 case hA31 =>
  intro vs
  simp only [putAll, Act.put, sA, sZ, sS, Nat.zero_add, Nat.reduceAdd]
  exact rfl
 case howe31 =>
  clear E0 hx1 p2
  intro hf
  refine ⟨oE 0 [] hf rfl ?_, oE 1 [] hf rfl ?_, oE 2 [0, 1] hf rfl ?_, oE 3 [2] hf rfl ?_, oE 4 [3] hf rfl ?_, oE 5 [3] hf rfl ?_, oE 6 [] hf rfl ?_, oW 7 [6, 4] hf rfl ?_, oE 8 [5] hf rfl ?_, trivial⟩
  all_goals intro vs W hS hp hx KO hKO
  all_goals simp only [Act.put, sA, sZ, sS] at hKO
  ·have fc0 := hS.2.2.1.cell0; have fc1 := hS.2.2.1.cell1; have fc2 := hS.2.2.1.cell2; go_simp; exact hKO _ W (.refl W) rfl
  ·go_simp; exact hKO _ W (.refl W) rfl
  ·have e0 := isOf hp.1; have e1 := isOf hp.2.1; simp only [e0, e1] at hKO; go_simp
   refine (Try.dyadFloor (hS.2.1) s1 (by omega) K (by omega)).mono ?_
   rintro e W1 ⟨v, rfl, hv, hE⟩
   rw [HFl.out] at hv
   exact hKO _ W1 hE ⟨_, rfl, hv⟩
  ·have q2 := hp.1
   obtain ⟨u, ev, hu⟩ := q2
   replace ev : vs 2 = _ := ev; simp only [ev] at hKO; go_simp; exact hKO _ W (Ext.refl W) ⟨u, rfl, hu⟩
  ·have q3 := hp.1
   obtain ⟨u, ev, hu⟩ := q3
   replace ev : vs 3 = _ := ev; simp only [ev] at hKO; go_simp; exact hKO _ W (Ext.refl W) hu
  ·have q3 := hp.1
   obtain ⟨u, ev, hu⟩ := q3
   replace ev : vs 3 = _ := ev; simp only [ev] at hKO; go_simp; exact hKO _ W (.refl W) rfl
  ·have hn := Bx2.new W 25 (.bool false) (.slice none 0 0)
   have hE := Ext.alloc1 W (.cells #[.bool false, .slice none 0 0] 25)
   have hsz := hS.2.2.2
   go_simp
   exact hKO _ _ hE ⟨_, rfl, hsz, hn.form⟩
  ·have q6 := hp.1; have q4 := hp.2.1
   obtain ⟨g, ev, hg, hf⟩ := q6
   replace ev : vs 6 = _ := ev
   obtain ⟨x0_0, x0_1, hx, hno⟩ := hf.bx2
   have qr := q4
   obtain ⟨b3, a3, n3, c3, er, -, -⟩ := qr
   replace er : vs 4 = _ := er
   have r0 := hx.froz0
   have t0 := hx.cell0
   have r1 := hx.froz1
   have t1 := hx.cell1
   have hw := Wr.set2 hx hno b3 a3 n3 c3
   have hq := hx.set (.bool b3) (.slice a3 n3 c3)
   simp only [ev, er] at hKO; go_simp
   exact hKO _ _ hw ⟨(Ext.wr hS.1 hw (by omega)), (hS.2.1.wr hw), (hS.2.2.1.wr hw (by omega)), (Nat.le_trans hS.2.2.2 hw.apart.size)⟩ ⟨g, b3, a3, n3, c3, ev, er, hg, hq⟩
  ·have e5 := isOf hp.1; simp only [e5] at hKO; go_simp; exact hKO _ W (.refl W) rfl
 intro vs W31 hS hp
 clear szw31 E0 hx1 p2
 obtain ⟨E0, hx1, p2, sz31⟩ := hS
 obtain ⟨h31_0, h31_1, h31_2, h31_3, h31_4, h31_5, h31_6, h31_7, h31_8, -⟩ := hp
 obtain ⟨g31_7, b31_7, a31_7, n31_7, c31_7, ev31_7, er31_7, hg31_7, p31_7⟩ := h31_7
 replace ev31_7 : vs 6 = _ := ev31_7; replace er31_7 : vs 4 = _ := er31_7; replace h31_4 := (show Zw W31 (vs 4) F from h31_4)
 rw [er31_7] at h31_4
 replace h31_0 : vs 0 = .agg #[.bool b1, .slice a1 n1 c1, .slice d1 m1 o1] := h31_0
 replace h31_1 : vs 1 = .int .i64 (K : Int) := h31_1
 replace h31_5 : vs 5 = .int .i64 0 := h31_5
 replace h31_8 : vs 8 = .int .i64 0 := h31_8
 simp only [ev31_7, er31_7, h31_0, h31_1, h31_5, h31_8]
 clear ev31_7 er31_7 h31_0 h31_1 h31_5 h31_8 h31_2 h31_3 h31_6
 obtain ⟨kp2_0, kp2_1, kp2_2⟩ := p2.c3
 obtain ⟨kp31_7_0, kp31_7_1⟩ := p31_7.c2
 go_upto_region 4 with (fail)
 clear kp2_0 kp2_1 kp2_2 kp31_7_0 kp31_7_1; have ltp31_7 := p31_7.lt; have szw32 := Ext.size E0
 refine region_gs [.one fun v _ => v = .agg #[.bool b1, .slice a1 n1 c1, .slice d1 m1 o1],
   .one fun v _ => v = .int .i64 (K : Int),
   .one fun v W => ∃ v', v = .tuple #[v', .int .i64 0] ∧ (fun v W => Zw W v C) v' W,
   .one fun v W => ∃ v', v = .tuple #[v', .int .i64 0] ∧ (fun v W => Zw W v C) v' W,
   .one fun v W => Zw W v C,
   .one fun v _ => v = .int .i64 0,
   .one fun v W => ∃ g, v = .pointer (some ⟨g, 0, none⟩) ∧ W31.heap.size ≤ g ∧ Form W g 25 2,
   .three 6 4 (fun p r _ W => Put2 W31.heap.size 25 p r W),
   .one fun v _ => v = .int .i64 0]
  (fun W => Ext w W ∧ Rw W (.agg #[.bool b1, .slice a1 n1 c1, .slice d1 m1 o1]) x ∧ Bx3 W w.heap.size 27 (.bool b1) (.slice a1 n1 c1) (.slice d1 m1 o1) ∧ Zw W (.agg #[.bool b31_7, .slice a31_7 n31_7 c31_7]) F ∧ Bx2 W g31_7 25 (.bool b31_7) (.slice a31_7 n31_7 c31_7) ∧ W31.heap.size ≤ W.heap.size) ⟨Good.is _, Good.is _, (Good.zed _).tup _, (Good.zed _).tup _, Good.zed _, Good.is _, Good.box _ _ _, cert_put2, Good.is _, trivial⟩
  ⟨E0, hx1, p2, h31_4, p31_7, Nat.le_refl _⟩ (A := ?A32) ?hA32 ?howe32 ?hfin32
 case hA32 =>
  intro vs
  simp only [putAll, Act.put, sA, sZ, sS, Nat.zero_add, Nat.reduceAdd]
  exact rfl
 case howe32 =>
  clear E0 hx1 p2 h31_4 p31_7
  intro hf
  refine ⟨oE 0 [] hf rfl ?_, oE 1 [] hf rfl ?_, oE 2 [0, 1] hf rfl ?_, oE 3 [2] hf rfl ?_, oE 4 [3] hf rfl ?_, oE 5 [3] hf rfl ?_, oE 6 [] hf rfl ?_, oW 7 [6, 4] hf rfl ?_, oE 8 [5] hf rfl ?_, trivial⟩
  all_goals intro vs W hS hp hx KO hKO
  all_goals simp only [Act.put, sA, sZ, sS] at hKO
  ·have fc0 := hS.2.2.1.cell0; have fc1 := hS.2.2.1.cell1; have fc2 := hS.2.2.1.cell2; go_simp; exact hKO _ W (.refl W) rfl
  ·go_simp; exact hKO _ W (.refl W) rfl
  ·have e0 := isOf hp.1; have e1 := isOf hp.2.1; simp only [e0, e1] at hKO; go_simp
   refine (Try.dyadCeil (hS.2.1) s1 (by omega) K (by omega)).mono ?_
   rintro e W1 ⟨v, rfl, hv, hE⟩
   rw [HCl.out] at hv
   exact hKO _ W1 hE ⟨_, rfl, hv⟩
  ·have q2 := hp.1
   obtain ⟨u, ev, hu⟩ := q2
   replace ev : vs 2 = _ := ev; simp only [ev] at hKO; go_simp; exact hKO _ W (Ext.refl W) ⟨u, rfl, hu⟩
  ·have q3 := hp.1
   obtain ⟨u, ev, hu⟩ := q3
   replace ev : vs 3 = _ := ev; simp only [ev] at hKO; go_simp; exact hKO _ W (Ext.refl W) hu
  ·have q3 := hp.1
   obtain ⟨u, ev, hu⟩ := q3
   replace ev : vs 3 = _ := ev; simp only [ev] at hKO; go_simp; exact hKO _ W (.refl W) rfl
  ·have hn := Bx2.new W 25 (.bool false) (.slice none 0 0)
   have hE := Ext.alloc1 W (.cells #[.bool false, .slice none 0 0] 25)
   have hsz := hS.2.2.2.2.2
   go_simp
   exact hKO _ _ hE ⟨_, rfl, hsz, hn.form⟩
  ·have q6 := hp.1; have q4 := hp.2.1
   obtain ⟨g, ev, hg, hf⟩ := q6
   replace ev : vs 6 = _ := ev
   obtain ⟨x0_0, x0_1, hx, hno⟩ := hf.bx2
   have qr := q4
   obtain ⟨b3, a3, n3, c3, er, -, -⟩ := qr
   replace er : vs 4 = _ := er
   have r0 := hx.froz0
   have t0 := hx.cell0
   have r1 := hx.froz1
   have t1 := hx.cell1
   have hw := Wr.set2 hx hno b3 a3 n3 c3
   have hq := hx.set (.bool b3) (.slice a3 n3 c3)
   simp only [ev, er] at hKO; go_simp
   exact hKO _ _ hw ⟨(Ext.wr hS.1 hw (by omega)), (hS.2.1.wr hw), (hS.2.2.1.wr hw (by omega)), (hS.2.2.2.1.wr hw), (hS.2.2.2.2.1.wr hw (by omega)), (Nat.le_trans hS.2.2.2.2.2 hw.apart.size)⟩ ⟨g, b3, a3, n3, c3, ev, er, hg, hq⟩
  ·have e5 := isOf hp.1; simp only [e5] at hKO; go_simp; exact hKO _ W (.refl W) rfl
 intro vs W32 hS hp
 clear szw32 E0 hx1 p2 h31_4 p31_7
 obtain ⟨E0, hx1, p2, h31_4, p31_7, sz32⟩ := hS
 obtain ⟨h32_0, h32_1, h32_2, h32_3, h32_4, h32_5, h32_6, h32_7, h32_8, -⟩ := hp
 obtain ⟨g32_7, b32_7, a32_7, n32_7, c32_7, ev32_7, er32_7, hg32_7, p32_7⟩ := h32_7
 replace ev32_7 : vs 6 = _ := ev32_7; replace er32_7 : vs 4 = _ := er32_7; replace h32_4 := (show Zw W32 (vs 4) C from h32_4)
 rw [er32_7] at h32_4
 replace h32_0 : vs 0 = .agg #[.bool b1, .slice a1 n1 c1, .slice d1 m1 o1] := h32_0
 replace h32_1 : vs 1 = .int .i64 (K : Int) := h32_1
 replace h32_5 : vs 5 = .int .i64 0 := h32_5
 replace h32_8 : vs 8 = .int .i64 0 := h32_8
 simp only [ev32_7, er32_7, h32_0, h32_1, h32_5, h32_8]
 clear ev32_7 er32_7 h32_0 h32_1 h32_5 h32_8 h32_2 h32_3 h32_6
 obtain ⟨kp2_0, kp2_1, kp2_2⟩ := p2.c3
 obtain ⟨kp31_7_0, kp31_7_1⟩ := p31_7.c2
 obtain ⟨kp32_7_0, kp32_7_1⟩ := p32_7.c2
 go_upto_region 5 with (fail)
 clear kp2_0 kp2_1 kp2_2 kp31_7_0 kp31_7_1 kp32_7_0 kp32_7_1; have ltp32_7 := p32_7.lt; have szw33 := Ext.size E0
 refine region_gs [.one fun v _ => v = .agg #[.bool b1, .slice a1 n1 c1, .slice d1 m1 o1],
   .one fun v _ => v = .int .i64 (K : Int),
   .one fun v W => ∃ v', v = .tuple #[v', .int .i64 0] ∧ (fun v W => Zw W v M) v' W,
   .one fun v W => ∃ v', v = .tuple #[v', .int .i64 0] ∧ (fun v W => Zw W v M) v' W,
   .one fun v W => Zw W v M,
   .one fun v _ => v = .int .i64 0,
   .one fun v W => ∃ g, v = .pointer (some ⟨g, 0, none⟩) ∧ W32.heap.size ≤ g ∧ Form W g 25 2,
   .three 6 4 (fun p r _ W => Put2 W32.heap.size 25 p r W),
   .one fun v _ => v = .int .i64 0]
  (fun W => Ext w W ∧ Rw W (.agg #[.bool b1, .slice a1 n1 c1, .slice d1 m1 o1]) x ∧ Bx3 W w.heap.size 27 (.bool b1) (.slice a1 n1 c1) (.slice d1 m1 o1) ∧ Zw W (.agg #[.bool b31_7, .slice a31_7 n31_7 c31_7]) F ∧ Bx2 W g31_7 25 (.bool b31_7) (.slice a31_7 n31_7 c31_7) ∧ Zw W (.agg #[.bool b32_7, .slice a32_7 n32_7 c32_7]) C ∧ Bx2 W g32_7 25 (.bool b32_7) (.slice a32_7 n32_7 c32_7) ∧ W32.heap.size ≤ W.heap.size) ⟨Good.is _, Good.is _, (Good.zed _).tup _, (Good.zed _).tup _, Good.zed _, Good.is _, Good.box _ _ _, cert_put2, Good.is _, trivial⟩
  ⟨E0, hx1, p2, h31_4, p31_7, h32_4, p32_7, Nat.le_refl _⟩ (A := ?A33) ?hA33 ?howe33 ?hfin33
 case hA33 =>
  intro vs
  simp only [putAll, Act.put, sA, sZ, sS, Nat.zero_add, Nat.reduceAdd]
  exact rfl
 case howe33 =>
  clear E0 hx1 p2 h31_4 p31_7 h32_4 p32_7
  intro hf
  refine ⟨oE 0 [] hf rfl ?_, oE 1 [] hf rfl ?_, oE 2 [0, 1] hf rfl ?_, oE 3 [2] hf rfl ?_, oE 4 [3] hf rfl ?_, oE 5 [3] hf rfl ?_, oE 6 [] hf rfl ?_, oW 7 [6, 4] hf rfl ?_, oE 8 [5] hf rfl ?_, trivial⟩
  all_goals intro vs W hS hp hx KO hKO
  all_goals simp only [Act.put, sA, sZ, sS] at hKO
  ·have fc0 := hS.2.2.1.cell0; have fc1 := hS.2.2.1.cell1; have fc2 := hS.2.2.1.cell2; go_simp; exact hKO _ W (.refl W) rfl
  ·go_simp; exact hKO _ W (.refl W) rfl
  ·have e0 := isOf hp.1; have e1 := isOf hp.2.1; simp only [e0, e1] at hKO; go_simp
   refine (Try.dyadNear (hS.2.1) s1 (by omega) K (by omega)).mono ?_
   rintro e W1 ⟨v, rfl, hv, hE⟩
   rw [HNr.out] at hv
   exact hKO _ W1 hE ⟨_, rfl, hv⟩
  ·have q2 := hp.1
   obtain ⟨u, ev, hu⟩ := q2
   replace ev : vs 2 = _ := ev; simp only [ev] at hKO; go_simp; exact hKO _ W (Ext.refl W) ⟨u, rfl, hu⟩
  ·have q3 := hp.1
   obtain ⟨u, ev, hu⟩ := q3
   replace ev : vs 3 = _ := ev; simp only [ev] at hKO; go_simp; exact hKO _ W (Ext.refl W) hu
  ·have q3 := hp.1
   obtain ⟨u, ev, hu⟩ := q3
   replace ev : vs 3 = _ := ev; simp only [ev] at hKO; go_simp; exact hKO _ W (.refl W) rfl
  ·have hn := Bx2.new W 25 (.bool false) (.slice none 0 0)
   have hE := Ext.alloc1 W (.cells #[.bool false, .slice none 0 0] 25)
   have hsz := hS.2.2.2.2.2.2.2
   go_simp
   exact hKO _ _ hE ⟨_, rfl, hsz, hn.form⟩
  ·have q6 := hp.1; have q4 := hp.2.1
   obtain ⟨g, ev, hg, hf⟩ := q6
   replace ev : vs 6 = _ := ev
   obtain ⟨x0_0, x0_1, hx, hno⟩ := hf.bx2
   have qr := q4
   obtain ⟨b3, a3, n3, c3, er, -, -⟩ := qr
   replace er : vs 4 = _ := er
   have r0 := hx.froz0
   have t0 := hx.cell0
   have r1 := hx.froz1
   have t1 := hx.cell1
   have hw := Wr.set2 hx hno b3 a3 n3 c3
   have hq := hx.set (.bool b3) (.slice a3 n3 c3)
   simp only [ev, er] at hKO; go_simp
   exact hKO _ _ hw ⟨(Ext.wr hS.1 hw (by omega)), (hS.2.1.wr hw), (hS.2.2.1.wr hw (by omega)), (hS.2.2.2.1.wr hw), (hS.2.2.2.2.1.wr hw (by omega)), (hS.2.2.2.2.2.1.wr hw), (hS.2.2.2.2.2.2.1.wr hw (by omega)), (Nat.le_trans hS.2.2.2.2.2.2.2 hw.apart.size)⟩ ⟨g, b3, a3, n3, c3, ev, er, hg, hq⟩
  ·have e5 := isOf hp.1; simp only [e5] at hKO; go_simp; exact hKO _ W (.refl W) rfl
 intro vs W33 hS hp
 clear szw33 E0 hx1 p2 h31_4 p31_7 h32_4 p32_7
 obtain ⟨E0, hx1, p2, h31_4, p31_7, h32_4, p32_7, sz33⟩ := hS
 obtain ⟨h33_0, h33_1, h33_2, h33_3, h33_4, h33_5, h33_6, h33_7, h33_8, -⟩ := hp
 obtain ⟨g33_7, b33_7, a33_7, n33_7, c33_7, ev33_7, er33_7, hg33_7, p33_7⟩ := h33_7
 replace ev33_7 : vs 6 = _ := ev33_7; replace er33_7 : vs 4 = _ := er33_7; replace h33_4 := (show Zw W33 (vs 4) M from h33_4)
 rw [er33_7] at h33_4
 replace h33_0 : vs 0 = .agg #[.bool b1, .slice a1 n1 c1, .slice d1 m1 o1] := h33_0
 replace h33_1 : vs 1 = .int .i64 (K : Int) := h33_1
 replace h33_5 : vs 5 = .int .i64 0 := h33_5
 replace h33_8 : vs 8 = .int .i64 0 := h33_8
 simp only [ev33_7, er33_7, h33_0, h33_1, h33_5, h33_8]
 clear ev33_7 er33_7 h33_0 h33_1 h33_5 h33_8 h33_2 h33_3 h33_6
 obtain ⟨kp2_0, kp2_1, kp2_2⟩ := p2.c3
 obtain ⟨kp31_7_0, kp31_7_1⟩ := p31_7.c2
 obtain ⟨kp32_7_0, kp32_7_1⟩ := p32_7.c2
 obtain ⟨kp33_7_0, kp33_7_1⟩ := p33_7.c2
 go_upto_region 8 with (fail)
 clear kp2_0 kp2_1 kp2_2 kp31_7_0 kp31_7_1 kp32_7_0 kp32_7_1 kp33_7_0 kp33_7_1; have ltp33_7 := p33_7.lt; have szw34 := Ext.size E0
 refine region_gs [.one fun v _ => v = .agg #[.bool b31_7, .slice a31_7 n31_7 c31_7],
   .one fun v _ => v = .int .i64 (K : Int),
   .one fun v W => ∃ v', v = .tuple #[v', .int .i64 0] ∧ (fun v W => Rw W v X) v' W,
   .one fun v W => ∃ v', v = .tuple #[v', .int .i64 0] ∧ (fun v W => Rw W v X) v' W,
   .one fun v W => Rw W v X,
   .one fun v _ => v = .int .i64 0,
   .one fun v W => ∃ g, v = .pointer (some ⟨g, 0, none⟩) ∧ W33.heap.size ≤ g ∧ Form W g 27 3,
   .three 6 4 (fun p r _ W => Put3 W33.heap.size 27 p r W),
   .one fun v _ => v = .int .i64 0]
  (fun W => Ext w W ∧ Rw W (.agg #[.bool b1, .slice a1 n1 c1, .slice d1 m1 o1]) x ∧ Bx3 W w.heap.size 27 (.bool b1) (.slice a1 n1 c1) (.slice d1 m1 o1) ∧ Zw W (.agg #[.bool b31_7, .slice a31_7 n31_7 c31_7]) F ∧ Bx2 W g31_7 25 (.bool b31_7) (.slice a31_7 n31_7 c31_7) ∧ Zw W (.agg #[.bool b32_7, .slice a32_7 n32_7 c32_7]) C ∧ Bx2 W g32_7 25 (.bool b32_7) (.slice a32_7 n32_7 c32_7) ∧ Zw W (.agg #[.bool b33_7, .slice a33_7 n33_7 c33_7]) M ∧ Bx2 W g33_7 25 (.bool b33_7) (.slice a33_7 n33_7 c33_7) ∧ W33.heap.size ≤ W.heap.size) ⟨Good.is _, Good.is _, (Good.rat _).tup _, (Good.rat _).tup _, Good.rat _, Good.is _, Good.box _ _ _, cert_put3, Good.is _, trivial⟩
  ⟨E0, hx1, p2, h31_4, p31_7, h32_4, p32_7, h33_4, p33_7, Nat.le_refl _⟩ (A := ?A34) ?hA34 ?howe34 ?hfin34
 case hA34 =>
  intro vs
  simp only [putAll, Act.put, sA, sZ, sS, Nat.zero_add, Nat.reduceAdd]
  exact rfl
 case howe34 =>
  clear E0 hx1 p2 h31_4 p31_7 h32_4 p32_7 h33_4 p33_7
  intro hf
  refine ⟨oE 0 [] hf rfl ?_, oE 1 [] hf rfl ?_, oE 2 [0, 1] hf rfl ?_, oE 3 [2] hf rfl ?_, oE 4 [3] hf rfl ?_, oE 5 [3] hf rfl ?_, oE 6 [] hf rfl ?_, oW 7 [6, 4] hf rfl ?_, oE 8 [5] hf rfl ?_, trivial⟩
  all_goals intro vs W hS hp hx KO hKO
  all_goals simp only [Act.put, sA, sZ, sS] at hKO
  ·have fc0 := hS.2.2.2.2.1.cell0; have fc1 := hS.2.2.2.2.1.cell1; go_simp; exact hKO _ W (.refl W) rfl
  ·go_simp; exact hKO _ W (.refl W) rfl
  ·have e0 := isOf hp.1; have e1 := isOf hp.2.1; simp only [e0, e1] at hKO; go_simp
   refine (Try.refBack (hS.2.2.2.1) SF.out (by omega) K (by omega)).mono ?_
   rintro e W1 ⟨v, rfl, hv, hE⟩
   rw [HX.out] at hv
   exact hKO _ W1 hE ⟨_, rfl, hv⟩
  ·have q2 := hp.1
   obtain ⟨u, ev, hu⟩ := q2
   replace ev : vs 2 = _ := ev; simp only [ev] at hKO; go_simp; exact hKO _ W (Ext.refl W) ⟨u, rfl, hu⟩
  ·have q3 := hp.1
   obtain ⟨u, ev, hu⟩ := q3
   replace ev : vs 3 = _ := ev; simp only [ev] at hKO; go_simp; exact hKO _ W (Ext.refl W) hu
  ·have q3 := hp.1
   obtain ⟨u, ev, hu⟩ := q3
   replace ev : vs 3 = _ := ev; simp only [ev] at hKO; go_simp; exact hKO _ W (.refl W) rfl
  ·have hn := Bx3.new W 27 (.bool false) (.slice none 0 0) (.slice none 0 0)
   have hE := Ext.alloc1 W (.cells #[.bool false, .slice none 0 0, .slice none 0 0] 27)
   have hsz := hS.2.2.2.2.2.2.2.2.2
   go_simp
   exact hKO _ _ hE ⟨_, rfl, hsz, hn.form⟩
  ·have q6 := hp.1; have q4 := hp.2.1
   obtain ⟨g, ev, hg, hf⟩ := q6
   replace ev : vs 6 = _ := ev
   obtain ⟨x0_0, x0_1, x0_2, hx, hno⟩ := hf.bx3
   have qr := q4
   obtain ⟨b3, a3, n3, c3, d3, m3, o3, er, -, -, -⟩ := qr
   replace er : vs 4 = _ := er
   have r0 := hx.froz0
   have t0 := hx.cell0
   have r1 := hx.froz1
   have t1 := hx.cell1
   have r2 := hx.froz2
   have t2 := hx.cell2
   have hw := Wr.set3 hx hno b3 a3 n3 c3 d3 m3 o3
   have hq := hx.set (.bool b3) (.slice a3 n3 c3) (.slice d3 m3 o3)
   simp only [ev, er] at hKO; go_simp
   exact hKO _ _ hw ⟨(Ext.wr hS.1 hw (by omega)), (hS.2.1.wr hw), (hS.2.2.1.wr hw (by omega)), (hS.2.2.2.1.wr hw), (hS.2.2.2.2.1.wr hw (by omega)), (hS.2.2.2.2.2.1.wr hw), (hS.2.2.2.2.2.2.1.wr hw (by omega)), (hS.2.2.2.2.2.2.2.1.wr hw), (hS.2.2.2.2.2.2.2.2.1.wr hw (by omega)), (Nat.le_trans hS.2.2.2.2.2.2.2.2.2 hw.apart.size)⟩ ⟨g, b3, a3, n3, c3, d3, m3, o3, ev, er, hg, hq⟩
  ·have e5 := isOf hp.1; simp only [e5] at hKO; go_simp; exact hKO _ W (.refl W) rfl
 intro vs W34 hS hp
 clear szw34 E0 hx1 p2 h31_4 p31_7 h32_4 p32_7 h33_4 p33_7
 obtain ⟨E0, hx1, p2, h31_4, p31_7, h32_4, p32_7, h33_4, p33_7, sz34⟩ := hS
 obtain ⟨h34_0, h34_1, h34_2, h34_3, h34_4, h34_5, h34_6, h34_7, h34_8, -⟩ := hp
 obtain ⟨g34_7, b34_7, a34_7, n34_7, c34_7, d34_7, m34_7, o34_7, ev34_7, er34_7, hg34_7, p34_7⟩ := h34_7
 replace ev34_7 : vs 6 = _ := ev34_7; replace er34_7 : vs 4 = _ := er34_7; replace h34_4 := (show Rw W34 (vs 4) X from h34_4)
 rw [er34_7] at h34_4
 replace h34_0 : vs 0 = .agg #[.bool b31_7, .slice a31_7 n31_7 c31_7] := h34_0
 replace h34_1 : vs 1 = .int .i64 (K : Int) := h34_1
 replace h34_5 : vs 5 = .int .i64 0 := h34_5
 replace h34_8 : vs 8 = .int .i64 0 := h34_8
 simp only [ev34_7, er34_7, h34_0, h34_1, h34_5, h34_8]
 clear ev34_7 er34_7 h34_0 h34_1 h34_5 h34_8 h34_2 h34_3 h34_6
 obtain ⟨kp2_0, kp2_1, kp2_2⟩ := p2.c3
 obtain ⟨kp31_7_0, kp31_7_1⟩ := p31_7.c2
 obtain ⟨kp32_7_0, kp32_7_1⟩ := p32_7.c2
 obtain ⟨kp33_7_0, kp33_7_1⟩ := p33_7.c2
 obtain ⟨kp34_7_0, kp34_7_1, kp34_7_2⟩ := p34_7.c3
 go_upto_region 9 with (fail)
 clear kp2_0 kp2_1 kp2_2 kp31_7_0 kp31_7_1 kp32_7_0 kp32_7_1 kp33_7_0 kp33_7_1 kp34_7_0 kp34_7_1 kp34_7_2; have ltp34_7 := p34_7.lt; have szw35 := Ext.size E0
 refine region_gs [.one fun v _ => v = .agg #[.bool b32_7, .slice a32_7 n32_7 c32_7],
   .one fun v _ => v = .int .i64 (K : Int),
   .one fun v W => ∃ v', v = .tuple #[v', .int .i64 0] ∧ (fun v W => Rw W v Y) v' W,
   .one fun v W => ∃ v', v = .tuple #[v', .int .i64 0] ∧ (fun v W => Rw W v Y) v' W,
   .one fun v W => Rw W v Y,
   .one fun v _ => v = .int .i64 0,
   .one fun v W => ∃ g, v = .pointer (some ⟨g, 0, none⟩) ∧ W34.heap.size ≤ g ∧ Form W g 27 3,
   .three 6 4 (fun p r _ W => Put3 W34.heap.size 27 p r W),
   .one fun v _ => v = .int .i64 0]
  (fun W => Ext w W ∧ Rw W (.agg #[.bool b1, .slice a1 n1 c1, .slice d1 m1 o1]) x ∧ Bx3 W w.heap.size 27 (.bool b1) (.slice a1 n1 c1) (.slice d1 m1 o1) ∧ Zw W (.agg #[.bool b31_7, .slice a31_7 n31_7 c31_7]) F ∧ Bx2 W g31_7 25 (.bool b31_7) (.slice a31_7 n31_7 c31_7) ∧ Zw W (.agg #[.bool b32_7, .slice a32_7 n32_7 c32_7]) C ∧ Bx2 W g32_7 25 (.bool b32_7) (.slice a32_7 n32_7 c32_7) ∧ Zw W (.agg #[.bool b33_7, .slice a33_7 n33_7 c33_7]) M ∧ Bx2 W g33_7 25 (.bool b33_7) (.slice a33_7 n33_7 c33_7) ∧ Rw W (.agg #[.bool b34_7, .slice a34_7 n34_7 c34_7, .slice d34_7 m34_7 o34_7]) X ∧ Bx3 W g34_7 27 (.bool b34_7) (.slice a34_7 n34_7 c34_7) (.slice d34_7 m34_7 o34_7) ∧ W34.heap.size ≤ W.heap.size) ⟨Good.is _, Good.is _, (Good.rat _).tup _, (Good.rat _).tup _, Good.rat _, Good.is _, Good.box _ _ _, cert_put3, Good.is _, trivial⟩
  ⟨E0, hx1, p2, h31_4, p31_7, h32_4, p32_7, h33_4, p33_7, h34_4, p34_7, Nat.le_refl _⟩ (A := ?A35) ?hA35 ?howe35 ?hfin35
 case hA35 =>
  intro vs
  simp only [putAll, Act.put, sA, sZ, sS, Nat.zero_add, Nat.reduceAdd]
  exact rfl
 case howe35 =>
  clear E0 hx1 p2 h31_4 p31_7 h32_4 p32_7 h33_4 p33_7 h34_4 p34_7
  intro hf
  refine ⟨oE 0 [] hf rfl ?_, oE 1 [] hf rfl ?_, oE 2 [0, 1] hf rfl ?_, oE 3 [2] hf rfl ?_, oE 4 [3] hf rfl ?_, oE 5 [3] hf rfl ?_, oE 6 [] hf rfl ?_, oW 7 [6, 4] hf rfl ?_, oE 8 [5] hf rfl ?_, trivial⟩
  all_goals intro vs W hS hp hx KO hKO
  all_goals simp only [Act.put, sA, sZ, sS] at hKO
  ·have fc0 := hS.2.2.2.2.2.2.1.cell0; have fc1 := hS.2.2.2.2.2.2.1.cell1; go_simp; exact hKO _ W (.refl W) rfl
  ·go_simp; exact hKO _ W (.refl W) rfl
  ·have e0 := isOf hp.1; have e1 := isOf hp.2.1; simp only [e0, e1] at hKO; go_simp
   refine (Try.refBack (hS.2.2.2.2.2.1) SC.out (by omega) K (by omega)).mono ?_
   rintro e W1 ⟨v, rfl, hv, hE⟩
   rw [HY.out] at hv
   exact hKO _ W1 hE ⟨_, rfl, hv⟩
  ·have q2 := hp.1
   obtain ⟨u, ev, hu⟩ := q2
   replace ev : vs 2 = _ := ev; simp only [ev] at hKO; go_simp; exact hKO _ W (Ext.refl W) ⟨u, rfl, hu⟩
  ·have q3 := hp.1
   obtain ⟨u, ev, hu⟩ := q3
   replace ev : vs 3 = _ := ev; simp only [ev] at hKO; go_simp; exact hKO _ W (Ext.refl W) hu
  ·have q3 := hp.1
   obtain ⟨u, ev, hu⟩ := q3
   replace ev : vs 3 = _ := ev; simp only [ev] at hKO; go_simp; exact hKO _ W (.refl W) rfl
  ·have hn := Bx3.new W 27 (.bool false) (.slice none 0 0) (.slice none 0 0)
   have hE := Ext.alloc1 W (.cells #[.bool false, .slice none 0 0, .slice none 0 0] 27)
   have hsz := hS.2.2.2.2.2.2.2.2.2.2.2
   go_simp
   exact hKO _ _ hE ⟨_, rfl, hsz, hn.form⟩
  ·have q6 := hp.1; have q4 := hp.2.1
   obtain ⟨g, ev, hg, hf⟩ := q6
   replace ev : vs 6 = _ := ev
   obtain ⟨x0_0, x0_1, x0_2, hx, hno⟩ := hf.bx3
   have qr := q4
   obtain ⟨b3, a3, n3, c3, d3, m3, o3, er, -, -, -⟩ := qr
   replace er : vs 4 = _ := er
   have r0 := hx.froz0
   have t0 := hx.cell0
   have r1 := hx.froz1
   have t1 := hx.cell1
   have r2 := hx.froz2
   have t2 := hx.cell2
   have hw := Wr.set3 hx hno b3 a3 n3 c3 d3 m3 o3
   have hq := hx.set (.bool b3) (.slice a3 n3 c3) (.slice d3 m3 o3)
   simp only [ev, er] at hKO; go_simp
   exact hKO _ _ hw ⟨(Ext.wr hS.1 hw (by omega)), (hS.2.1.wr hw), (hS.2.2.1.wr hw (by omega)), (hS.2.2.2.1.wr hw), (hS.2.2.2.2.1.wr hw (by omega)), (hS.2.2.2.2.2.1.wr hw), (hS.2.2.2.2.2.2.1.wr hw (by omega)), (hS.2.2.2.2.2.2.2.1.wr hw), (hS.2.2.2.2.2.2.2.2.1.wr hw (by omega)), (hS.2.2.2.2.2.2.2.2.2.1.wr hw), (hS.2.2.2.2.2.2.2.2.2.2.1.wr hw (by omega)), (Nat.le_trans hS.2.2.2.2.2.2.2.2.2.2.2 hw.apart.size)⟩ ⟨g, b3, a3, n3, c3, d3, m3, o3, ev, er, hg, hq⟩
  ·have e5 := isOf hp.1; simp only [e5] at hKO; go_simp; exact hKO _ W (.refl W) rfl
 intro vs W35 hS hp
 clear szw35 E0 hx1 p2 h31_4 p31_7 h32_4 p32_7 h33_4 p33_7 h34_4 p34_7
 obtain ⟨E0, hx1, p2, h31_4, p31_7, h32_4, p32_7, h33_4, p33_7, h34_4, p34_7, sz35⟩ := hS
 obtain ⟨h35_0, h35_1, h35_2, h35_3, h35_4, h35_5, h35_6, h35_7, h35_8, -⟩ := hp
 obtain ⟨g35_7, b35_7, a35_7, n35_7, c35_7, d35_7, m35_7, o35_7, ev35_7, er35_7, hg35_7, p35_7⟩ := h35_7
 replace ev35_7 : vs 6 = _ := ev35_7; replace er35_7 : vs 4 = _ := er35_7; replace h35_4 := (show Rw W35 (vs 4) Y from h35_4)
 rw [er35_7] at h35_4
 replace h35_0 : vs 0 = .agg #[.bool b32_7, .slice a32_7 n32_7 c32_7] := h35_0
 replace h35_1 : vs 1 = .int .i64 (K : Int) := h35_1
 replace h35_5 : vs 5 = .int .i64 0 := h35_5
 replace h35_8 : vs 8 = .int .i64 0 := h35_8
 simp only [ev35_7, er35_7, h35_0, h35_1, h35_5, h35_8]
 clear ev35_7 er35_7 h35_0 h35_1 h35_5 h35_8 h35_2 h35_3 h35_6
 obtain ⟨kp2_0, kp2_1, kp2_2⟩ := p2.c3
 obtain ⟨kp31_7_0, kp31_7_1⟩ := p31_7.c2
 obtain ⟨kp32_7_0, kp32_7_1⟩ := p32_7.c2
 obtain ⟨kp33_7_0, kp33_7_1⟩ := p33_7.c2
 obtain ⟨kp34_7_0, kp34_7_1, kp34_7_2⟩ := p34_7.c3
 obtain ⟨kp35_7_0, kp35_7_1, kp35_7_2⟩ := p35_7.c3
 go_upto_region 10 with (fail)
 clear kp2_0 kp2_1 kp2_2 kp31_7_0 kp31_7_1 kp32_7_0 kp32_7_1 kp33_7_0 kp33_7_1 kp34_7_0 kp34_7_1 kp34_7_2 kp35_7_0 kp35_7_1 kp35_7_2; have ltp35_7 := p35_7.lt; have szw36 := Ext.size E0
 refine region_gs [.one fun v _ => v = .agg #[.bool b33_7, .slice a33_7 n33_7 c33_7],
   .one fun v _ => v = .int .i64 (K : Int),
   .one fun v W => ∃ v', v = .tuple #[v', .int .i64 0] ∧ (fun v W => Rw W v Z) v' W,
   .one fun v W => ∃ v', v = .tuple #[v', .int .i64 0] ∧ (fun v W => Rw W v Z) v' W,
   .one fun v W => Rw W v Z,
   .one fun v _ => v = .int .i64 0,
   .one fun v W => ∃ g, v = .pointer (some ⟨g, 0, none⟩) ∧ W35.heap.size ≤ g ∧ Form W g 27 3,
   .three 6 4 (fun p r _ W => Put3 W35.heap.size 27 p r W),
   .one fun v _ => v = .int .i64 0]
  (fun W => Ext w W ∧ Rw W (.agg #[.bool b1, .slice a1 n1 c1, .slice d1 m1 o1]) x ∧ Bx3 W w.heap.size 27 (.bool b1) (.slice a1 n1 c1) (.slice d1 m1 o1) ∧ Zw W (.agg #[.bool b31_7, .slice a31_7 n31_7 c31_7]) F ∧ Bx2 W g31_7 25 (.bool b31_7) (.slice a31_7 n31_7 c31_7) ∧ Zw W (.agg #[.bool b32_7, .slice a32_7 n32_7 c32_7]) C ∧ Bx2 W g32_7 25 (.bool b32_7) (.slice a32_7 n32_7 c32_7) ∧ Zw W (.agg #[.bool b33_7, .slice a33_7 n33_7 c33_7]) M ∧ Bx2 W g33_7 25 (.bool b33_7) (.slice a33_7 n33_7 c33_7) ∧ Rw W (.agg #[.bool b34_7, .slice a34_7 n34_7 c34_7, .slice d34_7 m34_7 o34_7]) X ∧ Bx3 W g34_7 27 (.bool b34_7) (.slice a34_7 n34_7 c34_7) (.slice d34_7 m34_7 o34_7) ∧ Rw W (.agg #[.bool b35_7, .slice a35_7 n35_7 c35_7, .slice d35_7 m35_7 o35_7]) Y ∧ Bx3 W g35_7 27 (.bool b35_7) (.slice a35_7 n35_7 c35_7) (.slice d35_7 m35_7 o35_7) ∧ W35.heap.size ≤ W.heap.size) ⟨Good.is _, Good.is _, (Good.rat _).tup _, (Good.rat _).tup _, Good.rat _, Good.is _, Good.box _ _ _, cert_put3, Good.is _, trivial⟩
  ⟨E0, hx1, p2, h31_4, p31_7, h32_4, p32_7, h33_4, p33_7, h34_4, p34_7, h35_4, p35_7, Nat.le_refl _⟩ (A := ?A36) ?hA36 ?howe36 ?hfin36
 case hA36 =>
  intro vs
  simp only [putAll, Act.put, sA, sZ, sS, Nat.zero_add, Nat.reduceAdd]
  exact rfl
 case howe36 =>
  clear E0 hx1 p2 h31_4 p31_7 h32_4 p32_7 h33_4 p33_7 h34_4 p34_7 h35_4 p35_7
  intro hf
  refine ⟨oE 0 [] hf rfl ?_, oE 1 [] hf rfl ?_, oE 2 [0, 1] hf rfl ?_, oE 3 [2] hf rfl ?_, oE 4 [3] hf rfl ?_, oE 5 [3] hf rfl ?_, oE 6 [] hf rfl ?_, oW 7 [6, 4] hf rfl ?_, oE 8 [5] hf rfl ?_, trivial⟩
  all_goals intro vs W hS hp hx KO hKO
  all_goals simp only [Act.put, sA, sZ, sS] at hKO
  ·have fc0 := hS.2.2.2.2.2.2.2.2.1.cell0; have fc1 := hS.2.2.2.2.2.2.2.2.1.cell1; go_simp; exact hKO _ W (.refl W) rfl
  ·go_simp; exact hKO _ W (.refl W) rfl
  ·have e0 := isOf hp.1; have e1 := isOf hp.2.1; simp only [e0, e1] at hKO; go_simp
   refine (Try.refBack (hS.2.2.2.2.2.2.2.1) SM.out (by omega) K (by omega)).mono ?_
   rintro e W1 ⟨v, rfl, hv, hE⟩
   rw [HZ.out] at hv
   exact hKO _ W1 hE ⟨_, rfl, hv⟩
  ·have q2 := hp.1
   obtain ⟨u, ev, hu⟩ := q2
   replace ev : vs 2 = _ := ev; simp only [ev] at hKO; go_simp; exact hKO _ W (Ext.refl W) ⟨u, rfl, hu⟩
  ·have q3 := hp.1
   obtain ⟨u, ev, hu⟩ := q3
   replace ev : vs 3 = _ := ev; simp only [ev] at hKO; go_simp; exact hKO _ W (Ext.refl W) hu
  ·have q3 := hp.1
   obtain ⟨u, ev, hu⟩ := q3
   replace ev : vs 3 = _ := ev; simp only [ev] at hKO; go_simp; exact hKO _ W (.refl W) rfl
  ·have hn := Bx3.new W 27 (.bool false) (.slice none 0 0) (.slice none 0 0)
   have hE := Ext.alloc1 W (.cells #[.bool false, .slice none 0 0, .slice none 0 0] 27)
   have hsz := hS.2.2.2.2.2.2.2.2.2.2.2.2.2
   go_simp
   exact hKO _ _ hE ⟨_, rfl, hsz, hn.form⟩
  ·have q6 := hp.1; have q4 := hp.2.1
   obtain ⟨g, ev, hg, hf⟩ := q6
   replace ev : vs 6 = _ := ev
   obtain ⟨x0_0, x0_1, x0_2, hx, hno⟩ := hf.bx3
   have qr := q4
   obtain ⟨b3, a3, n3, c3, d3, m3, o3, er, -, -, -⟩ := qr
   replace er : vs 4 = _ := er
   have r0 := hx.froz0
   have t0 := hx.cell0
   have r1 := hx.froz1
   have t1 := hx.cell1
   have r2 := hx.froz2
   have t2 := hx.cell2
   have hw := Wr.set3 hx hno b3 a3 n3 c3 d3 m3 o3
   have hq := hx.set (.bool b3) (.slice a3 n3 c3) (.slice d3 m3 o3)
   simp only [ev, er] at hKO; go_simp
   exact hKO _ _ hw ⟨(Ext.wr hS.1 hw (by omega)), (hS.2.1.wr hw), (hS.2.2.1.wr hw (by omega)), (hS.2.2.2.1.wr hw), (hS.2.2.2.2.1.wr hw (by omega)), (hS.2.2.2.2.2.1.wr hw), (hS.2.2.2.2.2.2.1.wr hw (by omega)), (hS.2.2.2.2.2.2.2.1.wr hw), (hS.2.2.2.2.2.2.2.2.1.wr hw (by omega)), (hS.2.2.2.2.2.2.2.2.2.1.wr hw), (hS.2.2.2.2.2.2.2.2.2.2.1.wr hw (by omega)), (hS.2.2.2.2.2.2.2.2.2.2.2.1.wr hw), (hS.2.2.2.2.2.2.2.2.2.2.2.2.1.wr hw (by omega)), (Nat.le_trans hS.2.2.2.2.2.2.2.2.2.2.2.2.2 hw.apart.size)⟩ ⟨g, b3, a3, n3, c3, d3, m3, o3, ev, er, hg, hq⟩
  ·have e5 := isOf hp.1; simp only [e5] at hKO; go_simp; exact hKO _ W (.refl W) rfl
 intro vs W36 hS hp
 clear szw36 E0 hx1 p2 h31_4 p31_7 h32_4 p32_7 h33_4 p33_7 h34_4 p34_7 h35_4 p35_7
 obtain ⟨E0, hx1, p2, h31_4, p31_7, h32_4, p32_7, h33_4, p33_7, h34_4, p34_7, h35_4, p35_7, sz36⟩ := hS
 obtain ⟨h36_0, h36_1, h36_2, h36_3, h36_4, h36_5, h36_6, h36_7, h36_8, -⟩ := hp
 obtain ⟨g36_7, b36_7, a36_7, n36_7, c36_7, d36_7, m36_7, o36_7, ev36_7, er36_7, hg36_7, p36_7⟩ := h36_7
 replace ev36_7 : vs 6 = _ := ev36_7; replace er36_7 : vs 4 = _ := er36_7; replace h36_4 := (show Rw W36 (vs 4) Z from h36_4)
 rw [er36_7] at h36_4
 replace h36_0 : vs 0 = .agg #[.bool b33_7, .slice a33_7 n33_7 c33_7] := h36_0
 replace h36_1 : vs 1 = .int .i64 (K : Int) := h36_1
 replace h36_5 : vs 5 = .int .i64 0 := h36_5
 replace h36_8 : vs 8 = .int .i64 0 := h36_8
 simp only [ev36_7, er36_7, h36_0, h36_1, h36_5, h36_8]
 clear ev36_7 er36_7 h36_0 h36_1 h36_5 h36_8 h36_2 h36_3 h36_6
 obtain ⟨kp2_0, kp2_1, kp2_2⟩ := p2.c3
 obtain ⟨kp31_7_0, kp31_7_1⟩ := p31_7.c2
 obtain ⟨kp32_7_0, kp32_7_1⟩ := p32_7.c2
 obtain ⟨kp33_7_0, kp33_7_1⟩ := p33_7.c2
 obtain ⟨kp34_7_0, kp34_7_1, kp34_7_2⟩ := p34_7.c3
 obtain ⟨kp35_7_0, kp35_7_1, kp35_7_2⟩ := p35_7.c3
 obtain ⟨kp36_7_0, kp36_7_1, kp36_7_2⟩ := p36_7.c3
 go_upto_region 11 with (fail)
 clear kp2_0 kp2_1 kp2_2 kp31_7_0 kp31_7_1 kp32_7_0 kp32_7_1 kp33_7_0 kp33_7_1 kp34_7_0 kp34_7_1 kp34_7_2 kp35_7_0 kp35_7_1 kp35_7_2 kp36_7_0 kp36_7_1 kp36_7_2; have ltp36_7 := p36_7.lt; have szw37 := Ext.size E0
 refine region_gs [.one fun v W => Zw W v 1,
   .one fun v _ => v = .int .i64 (K : Int),
   .one fun v W => ∃ v', v = .tuple #[v', .int .i64 0] ∧ (fun v W => Rw W v S) v' W,
   .one fun v W => ∃ v', v = .tuple #[v', .int .i64 0] ∧ (fun v W => Rw W v S) v' W,
   .one fun v W => Rw W v S,
   .one fun v _ => v = .int .i64 0,
   .one fun v W => ∃ g, v = .pointer (some ⟨g, 0, none⟩) ∧ W36.heap.size ≤ g ∧ Form W g 27 3,
   .three 6 4 (fun p r _ W => Put3 W36.heap.size 27 p r W),
   .one fun v _ => v = .int .i64 0]
  (fun W => Ext w W ∧ Rw W (.agg #[.bool b1, .slice a1 n1 c1, .slice d1 m1 o1]) x ∧ Bx3 W w.heap.size 27 (.bool b1) (.slice a1 n1 c1) (.slice d1 m1 o1) ∧ Zw W (.agg #[.bool b31_7, .slice a31_7 n31_7 c31_7]) F ∧ Bx2 W g31_7 25 (.bool b31_7) (.slice a31_7 n31_7 c31_7) ∧ Zw W (.agg #[.bool b32_7, .slice a32_7 n32_7 c32_7]) C ∧ Bx2 W g32_7 25 (.bool b32_7) (.slice a32_7 n32_7 c32_7) ∧ Zw W (.agg #[.bool b33_7, .slice a33_7 n33_7 c33_7]) M ∧ Bx2 W g33_7 25 (.bool b33_7) (.slice a33_7 n33_7 c33_7) ∧ Rw W (.agg #[.bool b34_7, .slice a34_7 n34_7 c34_7, .slice d34_7 m34_7 o34_7]) X ∧ Bx3 W g34_7 27 (.bool b34_7) (.slice a34_7 n34_7 c34_7) (.slice d34_7 m34_7 o34_7) ∧ Rw W (.agg #[.bool b35_7, .slice a35_7 n35_7 c35_7, .slice d35_7 m35_7 o35_7]) Y ∧ Bx3 W g35_7 27 (.bool b35_7) (.slice a35_7 n35_7 c35_7) (.slice d35_7 m35_7 o35_7) ∧ Rw W (.agg #[.bool b36_7, .slice a36_7 n36_7 c36_7, .slice d36_7 m36_7 o36_7]) Z ∧ Bx3 W g36_7 27 (.bool b36_7) (.slice a36_7 n36_7 c36_7) (.slice d36_7 m36_7 o36_7) ∧ W36.heap.size ≤ W.heap.size) ⟨Good.zed _, Good.is _, (Good.rat _).tup _, (Good.rat _).tup _, Good.rat _, Good.is _, Good.box _ _ _, cert_put3, Good.is _, trivial⟩
  ⟨E0, hx1, p2, h31_4, p31_7, h32_4, p32_7, h33_4, p33_7, h34_4, p34_7, h35_4, p35_7, h36_4, p36_7, Nat.le_refl _⟩ (A := ?A37) ?hA37 ?howe37 ?hfin37
 case hA37 =>
  intro vs
  simp only [putAll, Act.put, sA, sZ, sS, Nat.zero_add, Nat.reduceAdd]
  exact rfl
 case howe37 =>
  clear E0 hx1 p2 h31_4 p31_7 h32_4 p32_7 h33_4 p33_7 h34_4 p34_7 h35_4 p35_7 h36_4 p36_7
  intro hf
  refine ⟨oE 0 [] hf rfl ?_, oE 1 [] hf rfl ?_, oE 2 [0, 1] hf rfl ?_, oE 3 [2] hf rfl ?_, oE 4 [3] hf rfl ?_, oE 5 [3] hf rfl ?_, oE 6 [] hf rfl ?_, oW 7 [6, 4] hf rfl ?_, oE 8 [5] hf rfl ?_, trivial⟩
  all_goals intro vs W hS hp hx KO hKO
  all_goals simp only [Act.put, sA, sZ, sS] at hKO
  ·go_simp
   refine (Try.refZOf 1 _ (by omega) (by omega)).mono ?_
   rintro e W1 ⟨v, rfl, hv, hE⟩
   exact hKO _ W1 hE hv
  ·go_simp; exact hKO _ W (.refl W) rfl
  ·have q0 := hp.1; have e1 := isOf hp.2.1; simp only [e1] at hKO; go_simp
   refine (Try.refBack q0 S1.out (by omega) K (by omega)).mono ?_
   rintro e W1 ⟨v, rfl, hv, hE⟩
   rw [HSt.out] at hv
   exact hKO _ W1 hE ⟨_, rfl, hv⟩
  ·have q2 := hp.1
   obtain ⟨u, ev, hu⟩ := q2
   replace ev : vs 2 = _ := ev; simp only [ev] at hKO; go_simp; exact hKO _ W (Ext.refl W) ⟨u, rfl, hu⟩
  ·have q3 := hp.1
   obtain ⟨u, ev, hu⟩ := q3
   replace ev : vs 3 = _ := ev; simp only [ev] at hKO; go_simp; exact hKO _ W (Ext.refl W) hu
  ·have q3 := hp.1
   obtain ⟨u, ev, hu⟩ := q3
   replace ev : vs 3 = _ := ev; simp only [ev] at hKO; go_simp; exact hKO _ W (.refl W) rfl
  ·have hn := Bx3.new W 27 (.bool false) (.slice none 0 0) (.slice none 0 0)
   have hE := Ext.alloc1 W (.cells #[.bool false, .slice none 0 0, .slice none 0 0] 27)
   have hsz := hS.2.2.2.2.2.2.2.2.2.2.2.2.2.2.2
   go_simp
   exact hKO _ _ hE ⟨_, rfl, hsz, hn.form⟩
  ·have q6 := hp.1; have q4 := hp.2.1
   obtain ⟨g, ev, hg, hf⟩ := q6
   replace ev : vs 6 = _ := ev
   obtain ⟨x0_0, x0_1, x0_2, hx, hno⟩ := hf.bx3
   have qr := q4
   obtain ⟨b3, a3, n3, c3, d3, m3, o3, er, -, -, -⟩ := qr
   replace er : vs 4 = _ := er
   have r0 := hx.froz0
   have t0 := hx.cell0
   have r1 := hx.froz1
   have t1 := hx.cell1
   have r2 := hx.froz2
   have t2 := hx.cell2
   have hw := Wr.set3 hx hno b3 a3 n3 c3 d3 m3 o3
   have hq := hx.set (.bool b3) (.slice a3 n3 c3) (.slice d3 m3 o3)
   simp only [ev, er] at hKO; go_simp
   exact hKO _ _ hw ⟨(Ext.wr hS.1 hw (by omega)), (hS.2.1.wr hw), (hS.2.2.1.wr hw (by omega)), (hS.2.2.2.1.wr hw), (hS.2.2.2.2.1.wr hw (by omega)), (hS.2.2.2.2.2.1.wr hw), (hS.2.2.2.2.2.2.1.wr hw (by omega)), (hS.2.2.2.2.2.2.2.1.wr hw), (hS.2.2.2.2.2.2.2.2.1.wr hw (by omega)), (hS.2.2.2.2.2.2.2.2.2.1.wr hw), (hS.2.2.2.2.2.2.2.2.2.2.1.wr hw (by omega)), (hS.2.2.2.2.2.2.2.2.2.2.2.1.wr hw), (hS.2.2.2.2.2.2.2.2.2.2.2.2.1.wr hw (by omega)), (hS.2.2.2.2.2.2.2.2.2.2.2.2.2.1.wr hw), (hS.2.2.2.2.2.2.2.2.2.2.2.2.2.2.1.wr hw (by omega)), (Nat.le_trans hS.2.2.2.2.2.2.2.2.2.2.2.2.2.2.2 hw.apart.size)⟩ ⟨g, b3, a3, n3, c3, d3, m3, o3, ev, er, hg, hq⟩
  ·have e5 := isOf hp.1; simp only [e5] at hKO; go_simp; exact hKO _ W (.refl W) rfl
 intro vs W37 hS hp
 clear szw37 E0 hx1 p2 h31_4 p31_7 h32_4 p32_7 h33_4 p33_7 h34_4 p34_7 h35_4 p35_7 h36_4 p36_7
 obtain ⟨E0, hx1, p2, h31_4, p31_7, h32_4, p32_7, h33_4, p33_7, h34_4, p34_7, h35_4, p35_7, h36_4, p36_7, sz37⟩ := hS
 obtain ⟨h37_0, h37_1, h37_2, h37_3, h37_4, h37_5, h37_6, h37_7, h37_8, -⟩ := hp
 obtain ⟨g37_7, b37_7, a37_7, n37_7, c37_7, d37_7, m37_7, o37_7, ev37_7, er37_7, hg37_7, p37_7⟩ := h37_7
 replace ev37_7 : vs 6 = _ := ev37_7; replace er37_7 : vs 4 = _ := er37_7; replace h37_4 := (show Rw W37 (vs 4) S from h37_4)
 rw [er37_7] at h37_4
 replace h37_1 : vs 1 = .int .i64 (K : Int) := h37_1
 replace h37_5 : vs 5 = .int .i64 0 := h37_5
 replace h37_8 : vs 8 = .int .i64 0 := h37_8
 simp only [ev37_7, er37_7, h37_1, h37_5, h37_8]
 replace h37_0 : Zw W37 (vs 0) 1 := h37_0
 generalize vs 0 = u37_0 at h37_0 ⊢
 clear ev37_7 er37_7 h37_1 h37_5 h37_8 h37_2 h37_3 h37_6
 obtain ⟨kp2_0, kp2_1, kp2_2⟩ := p2.c3
 obtain ⟨kp31_7_0, kp31_7_1⟩ := p31_7.c2
 obtain ⟨kp32_7_0, kp32_7_1⟩ := p32_7.c2
 obtain ⟨kp33_7_0, kp33_7_1⟩ := p33_7.c2
 obtain ⟨kp34_7_0, kp34_7_1, kp34_7_2⟩ := p34_7.c3
 obtain ⟨kp35_7_0, kp35_7_1, kp35_7_2⟩ := p35_7.c3
 obtain ⟨kp36_7_0, kp36_7_1, kp36_7_2⟩ := p36_7.c3
 obtain ⟨kp37_7_0, kp37_7_1, kp37_7_2⟩ := p37_7.c3
 go_upto_region 12 with (fail)
 clear kp2_0 kp2_1 kp2_2 kp31_7_0 kp31_7_1 kp32_7_0 kp32_7_1 kp33_7_0 kp33_7_1 kp34_7_0 kp34_7_1 kp34_7_2 kp35_7_0 kp35_7_1 kp35_7_2 kp36_7_0 kp36_7_1 kp36_7_2 kp37_7_0 kp37_7_1 kp37_7_2; have ltp37_7 := p37_7.lt; have szw38 := Ext.size E0
 refine region_gs [.one fun v _ => v = .agg #[.bool b34_7, .slice a34_7 n34_7 c34_7, .slice d34_7 m34_7 o34_7],
   .one fun v _ => v = .agg #[.bool b1, .slice a1 n1 c1, .slice d1 m1 o1],
   .one fun v _ => v = .bool true,
   .one fun v _ => v = .bool true]
  (fun W => Ext w W ∧ Rw W (.agg #[.bool b1, .slice a1 n1 c1, .slice d1 m1 o1]) x ∧ Bx3 W w.heap.size 27 (.bool b1) (.slice a1 n1 c1) (.slice d1 m1 o1) ∧ Zw W (.agg #[.bool b31_7, .slice a31_7 n31_7 c31_7]) F ∧ Bx2 W g31_7 25 (.bool b31_7) (.slice a31_7 n31_7 c31_7) ∧ Zw W (.agg #[.bool b32_7, .slice a32_7 n32_7 c32_7]) C ∧ Bx2 W g32_7 25 (.bool b32_7) (.slice a32_7 n32_7 c32_7) ∧ Zw W (.agg #[.bool b33_7, .slice a33_7 n33_7 c33_7]) M ∧ Bx2 W g33_7 25 (.bool b33_7) (.slice a33_7 n33_7 c33_7) ∧ Rw W (.agg #[.bool b34_7, .slice a34_7 n34_7 c34_7, .slice d34_7 m34_7 o34_7]) X ∧ Bx3 W g34_7 27 (.bool b34_7) (.slice a34_7 n34_7 c34_7) (.slice d34_7 m34_7 o34_7) ∧ Rw W (.agg #[.bool b35_7, .slice a35_7 n35_7 c35_7, .slice d35_7 m35_7 o35_7]) Y ∧ Bx3 W g35_7 27 (.bool b35_7) (.slice a35_7 n35_7 c35_7) (.slice d35_7 m35_7 o35_7) ∧ Rw W (.agg #[.bool b36_7, .slice a36_7 n36_7 c36_7, .slice d36_7 m36_7 o36_7]) Z ∧ Bx3 W g36_7 27 (.bool b36_7) (.slice a36_7 n36_7 c36_7) (.slice d36_7 m36_7 o36_7) ∧ Rw W (.agg #[.bool b37_7, .slice a37_7 n37_7 c37_7, .slice d37_7 m37_7 o37_7]) S ∧ Bx3 W g37_7 27 (.bool b37_7) (.slice a37_7 n37_7 c37_7) (.slice d37_7 m37_7 o37_7) ∧ Zw W u37_0 1 ∧ W37.heap.size ≤ W.heap.size) ⟨Good.is _, Good.is _, Good.is _, Good.is _, trivial⟩
  ⟨E0, hx1, p2, h31_4, p31_7, h32_4, p32_7, h33_4, p33_7, h34_4, p34_7, h35_4, p35_7, h36_4, p36_7, h37_4, p37_7, h37_0, Nat.le_refl _⟩ (A := ?A38) ?hA38 ?howe38 ?hfin38
 case hA38 =>
  intro vs
  simp only [putAll, Act.put, sA, sZ, sS, Nat.zero_add, Nat.reduceAdd]
  exact rfl
 case howe38 =>
  clear E0 hx1 p2 h31_4 p31_7 h32_4 p32_7 h33_4 p33_7 h34_4 p34_7 h35_4 p35_7 h36_4 p36_7 h37_4 p37_7 h37_0
  intro hf
  refine ⟨oE 0 [] hf rfl ?_, oE 1 [] hf rfl ?_, oE 2 [0, 1] hf rfl ?_, oE 3 [2] hf rfl ?_, trivial⟩
  all_goals intro vs W hS hp hx KO hKO
  all_goals simp only [Act.put, sA, sZ, sS] at hKO
  ·have fc0 := hS.2.2.2.2.2.2.2.2.2.2.1.cell0; have fc1 := hS.2.2.2.2.2.2.2.2.2.2.1.cell1; have fc2 := hS.2.2.2.2.2.2.2.2.2.2.1.cell2; go_simp; exact hKO _ W (.refl W) rfl
  ·have fc0 := hS.2.2.1.cell0; have fc1 := hS.2.2.1.cell1; have fc2 := hS.2.2.1.cell2; go_simp; exact hKO _ W (.refl W) rfl
  ·have e0 := isOf hp.1; have e1 := isOf hp.2.1; simp only [e0, e1] at hKO; go_simp
   refine (Try.refRSameD (hS.2.2.2.2.2.2.2.2.2.1) (hS.2.1) HON.out).mono ?_
   rintro e W1 ⟨rfl, hE⟩
   exact hKO _ W1 hE rfl
  ·have e2 := isOf hp.1; simp only [e2] at hKO; go_simp; exact hKO _ W (.refl W) rfl
 intro vs W38 hS hp
 clear szw38 E0 hx1 p2 h31_4 p31_7 h32_4 p32_7 h33_4 p33_7 h34_4 p34_7 h35_4 p35_7 h36_4 p36_7 h37_4 p37_7 h37_0
 obtain ⟨E0, hx1, p2, h31_4, p31_7, h32_4, p32_7, h33_4, p33_7, h34_4, p34_7, h35_4, p35_7, h36_4, p36_7, h37_4, p37_7, h37_0, sz38⟩ := hS
 obtain ⟨h38_0, h38_1, h38_2, h38_3, -⟩ := hp
 replace h38_0 : vs 0 = .agg #[.bool b34_7, .slice a34_7 n34_7 c34_7, .slice d34_7 m34_7 o34_7] := h38_0
 replace h38_1 : vs 1 = .agg #[.bool b1, .slice a1 n1 c1, .slice d1 m1 o1] := h38_1
 replace h38_2 : vs 2 = .bool true := h38_2
 replace h38_3 : vs 3 = .bool true := h38_3
 simp only [h38_0, h38_1, h38_2, h38_3]
 clear h38_0 h38_1 h38_2 h38_3
 obtain ⟨kp2_0, kp2_1, kp2_2⟩ := p2.c3
 obtain ⟨kp31_7_0, kp31_7_1⟩ := p31_7.c2
 obtain ⟨kp32_7_0, kp32_7_1⟩ := p32_7.c2
 obtain ⟨kp33_7_0, kp33_7_1⟩ := p33_7.c2
 obtain ⟨kp34_7_0, kp34_7_1, kp34_7_2⟩ := p34_7.c3
 obtain ⟨kp35_7_0, kp35_7_1, kp35_7_2⟩ := p35_7.c3
 obtain ⟨kp36_7_0, kp36_7_1, kp36_7_2⟩ := p36_7.c3
 obtain ⟨kp37_7_0, kp37_7_1, kp37_7_2⟩ := p37_7.c3
 go_upto_region 13 with (fail)
 clear kp2_0 kp2_1 kp2_2 kp31_7_0 kp31_7_1 kp32_7_0 kp32_7_1 kp33_7_0 kp33_7_1 kp34_7_0 kp34_7_1 kp34_7_2 kp35_7_0 kp35_7_1 kp35_7_2 kp36_7_0 kp36_7_1 kp36_7_2 kp37_7_0 kp37_7_1 kp37_7_2; have szw39 := Ext.size E0
 refine region_gs [.one fun v _ => v = .agg #[.bool b34_7, .slice a34_7 n34_7 c34_7, .slice d34_7 m34_7 o34_7],
   .one fun v _ => v = .agg #[.bool b1, .slice a1 n1 c1, .slice d1 m1 o1],
   .one fun v _ => v = .int .i64 e1,
   .one fun v _ => v = .bool false,
   .one fun v _ => v = .bool false,
   .one fun v _ => v = .agg #[.bool b1, .slice a1 n1 c1, .slice d1 m1 o1],
   .one fun v _ => v = .agg #[.bool b35_7, .slice a35_7 n35_7 c35_7, .slice d35_7 m35_7 o35_7],
   .one fun v _ => v = .int .i64 e2,
   .one fun v _ => v = .bool false,
   .one fun v _ => v = .bool false,
   .one fun v _ => v = .bool false,
   .one fun v _ => v = .bool true,
   .one fun v _ => v = .agg #[.bool b35_7, .slice a35_7 n35_7 c35_7, .slice d35_7 m35_7 o35_7],
   .one fun v _ => v = .agg #[.bool b1, .slice a1 n1 c1, .slice d1 m1 o1],
   .one fun v _ => v = .bool true,
   .one fun v _ => v = .bool false,
   .one fun v _ => v = .bool false,
   .one fun v _ => v = .bool false,
   .one fun v _ => v = .bool true,
   .one fun v _ => v = .bool false,
   .one fun v _ => v = .bool false,
   .one fun v _ => v = undef,
   .one fun v _ => v = undef,
   .one fun v _ => v = undef,
   .one fun v _ => v = undef,
   .one fun v _ => v = undef,
   .one fun v _ => v = undef,
   .one fun v _ => v = .bool false,
   .one fun v _ => v = .bool false]
  (fun W => Ext w W ∧ Rw W (.agg #[.bool b1, .slice a1 n1 c1, .slice d1 m1 o1]) x ∧ Bx3 W w.heap.size 27 (.bool b1) (.slice a1 n1 c1) (.slice d1 m1 o1) ∧ Zw W (.agg #[.bool b31_7, .slice a31_7 n31_7 c31_7]) F ∧ Bx2 W g31_7 25 (.bool b31_7) (.slice a31_7 n31_7 c31_7) ∧ Zw W (.agg #[.bool b32_7, .slice a32_7 n32_7 c32_7]) C ∧ Bx2 W g32_7 25 (.bool b32_7) (.slice a32_7 n32_7 c32_7) ∧ Zw W (.agg #[.bool b33_7, .slice a33_7 n33_7 c33_7]) M ∧ Bx2 W g33_7 25 (.bool b33_7) (.slice a33_7 n33_7 c33_7) ∧ Rw W (.agg #[.bool b34_7, .slice a34_7 n34_7 c34_7, .slice d34_7 m34_7 o34_7]) X ∧ Bx3 W g34_7 27 (.bool b34_7) (.slice a34_7 n34_7 c34_7) (.slice d34_7 m34_7 o34_7) ∧ Rw W (.agg #[.bool b35_7, .slice a35_7 n35_7 c35_7, .slice d35_7 m35_7 o35_7]) Y ∧ Bx3 W g35_7 27 (.bool b35_7) (.slice a35_7 n35_7 c35_7) (.slice d35_7 m35_7 o35_7) ∧ Rw W (.agg #[.bool b36_7, .slice a36_7 n36_7 c36_7, .slice d36_7 m36_7 o36_7]) Z ∧ Bx3 W g36_7 27 (.bool b36_7) (.slice a36_7 n36_7 c36_7) (.slice d36_7 m36_7 o36_7) ∧ Rw W (.agg #[.bool b37_7, .slice a37_7 n37_7 c37_7, .slice d37_7 m37_7 o37_7]) S ∧ Bx3 W g37_7 27 (.bool b37_7) (.slice a37_7 n37_7 c37_7) (.slice d37_7 m37_7 o37_7) ∧ Zw W u37_0 1 ∧ W38.heap.size ≤ W.heap.size) ⟨Good.is _, Good.is _, Good.is _, Good.is _, Good.is _, Good.is _, Good.is _, Good.is _, Good.is _, Good.is _, Good.is _, Good.is _, Good.is _, Good.is _, Good.is _, Good.is _, Good.is _, Good.is _, Good.is _, Good.is _, Good.is _, Good.is _, Good.is _, Good.is _, Good.is _, Good.is _, Good.is _, Good.is _, Good.is _, trivial⟩
  ⟨E0, hx1, p2, h31_4, p31_7, h32_4, p32_7, h33_4, p33_7, h34_4, p34_7, h35_4, p35_7, h36_4, p36_7, h37_4, p37_7, h37_0, Nat.le_refl _⟩ (A := ?A39) ?hA39 ?howe39 ?hfin39
 case hA39 =>
  intro vs
  simp only [putAll, Act.put, sA, sZ, sS, Nat.zero_add, Nat.reduceAdd]
  exact rfl
 case howe39 =>
  clear E0 hx1 p2 h31_4 p31_7 h32_4 p32_7 h33_4 p33_7 h34_4 p34_7 h35_4 p35_7 h36_4 p36_7 h37_4 p37_7 h37_0
  intro hf
  refine ⟨oE 0 [] hf rfl ?_, oE 1 [] hf rfl ?_, oE 2 [0, 1] hf rfl ?_, oE 3 [2] hf rfl ?_, oE 4 [3] hf rfl ?_, oE 5 [4] hf rfl ?_, oE 6 [4] hf rfl ?_, oE 7 [4, 5, 6] hf rfl ?_, oE 8 [4, 7] hf rfl ?_, oE 9 [4, 8] hf rfl ?_, oE 10 [9] hf rfl ?_, oE 11 [10] hf rfl ?_, oE 12 [10] hf rfl ?_, oE 13 [10] hf rfl ?_, oE 14 [10, 12, 13] hf rfl ?_, oE 15 [10, 11, 14] hf rfl ?_, oE 16 [10, 15] hf rfl ?_, oE 17 [16] hf rfl ?_, oE 18 [17] hf rfl ?_, oE 19 [17, 18] hf rfl ?_, oE 20 [17, 19] hf rfl ?_, oE 21 [20] hf rfl ?_, oE 22 [20] hf rfl ?_, oE 23 [20] hf rfl ?_, oE 24 [20] hf rfl ?_, oE 25 [20] hf rfl ?_, oE 26 [20] hf rfl ?_, oE 27 [17, 20, 26] hf rfl ?_, oE 28 [17, 27] hf rfl ?_, trivial⟩
  all_goals intro vs W hS hp hx KO hKO
  all_goals simp only [Act.put, sA, sZ, sS] at hKO
  ·have fc0 := hS.2.2.2.2.2.2.2.2.2.2.1.cell0; have fc1 := hS.2.2.2.2.2.2.2.2.2.2.1.cell1; have fc2 := hS.2.2.2.2.2.2.2.2.2.2.1.cell2; go_simp; exact hKO _ W (.refl W) rfl
  ·have fc0 := hS.2.2.1.cell0; have fc1 := hS.2.2.1.cell1; have fc2 := hS.2.2.1.cell2; go_simp; exact hKO _ W (.refl W) rfl
  ·have e0 := isOf hp.1; have e1 := isOf hp.2.1; simp only [e0, e1] at hKO; go_simp
   refine (Try.refRCmpR (hS.2.2.2.2.2.2.2.2.2.1) (hS.2.1) SX.out Sx.out (by omega) HC1.out).mono ?_
   rintro e W1 ⟨rfl, hE⟩
   exact hKO _ W1 hE rfl
  ·have e2 := isOf hp.1; simp only [e2] at hKO; go_simp; exact hKO _ W (.refl W) rfl
  ·have e3 := isOf hp.1; simp only [e3] at hKO; go_simp; exact hKO _ W (.refl W) rfl
  ·have e4 := isOf hp.1; simp only [e4] at hKO; have fc0 := hS.2.2.1.cell0; have fc1 := hS.2.2.1.cell1; have fc2 := hS.2.2.1.cell2; go_simp; exact hKO _ W (.refl W) rfl
  ·have e4 := isOf hp.1; simp only [e4] at hKO; have fc0 := hS.2.2.2.2.2.2.2.2.2.2.2.2.1.cell0; have fc1 := hS.2.2.2.2.2.2.2.2.2.2.2.2.1.cell1; have fc2 := hS.2.2.2.2.2.2.2.2.2.2.2.2.1.cell2; go_simp; exact hKO _ W (.refl W) rfl
  ·have e4 := isOf hp.1; have e5 := isOf hp.2.1; have e6 := isOf hp.2.2.1; simp only [e4, e5, e6] at hKO; go_simp
   refine (Try.refRCmpR (hS.2.1) (hS.2.2.2.2.2.2.2.2.2.2.2.1) Sx.out SY.out (by omega) HC2.out).mono ?_
   rintro e W1 ⟨rfl, hE⟩
   exact hKO _ W1 hE rfl
  ·have e4 := isOf hp.1; have e7 := isOf hp.2.1; simp only [e4, e7] at hKO; go_simp; exact hKO _ W (.refl W) rfl
  ·have e4 := isOf hp.1; have e8 := isOf hp.2.1; simp only [e4, e8] at hKO; go_simp; exact hKO _ W (.refl W) rfl
  ·have e9 := isOf hp.1; simp only [e9] at hKO; go_simp; exact hKO _ W (.refl W) rfl
  ·have e10 := isOf hp.1; simp only [e10] at hKO; go_simp; exact hKO _ W (.refl W) rfl
  ·have e10 := isOf hp.1; simp only [e10] at hKO; have fc0 := hS.2.2.2.2.2.2.2.2.2.2.2.2.1.cell0; have fc1 := hS.2.2.2.2.2.2.2.2.2.2.2.2.1.cell1; have fc2 := hS.2.2.2.2.2.2.2.2.2.2.2.2.1.cell2; go_simp; exact hKO _ W (.refl W) rfl
  ·have e10 := isOf hp.1; simp only [e10] at hKO; have fc0 := hS.2.2.1.cell0; have fc1 := hS.2.2.1.cell1; have fc2 := hS.2.2.1.cell2; go_simp; exact hKO _ W (.refl W) rfl
  ·have e10 := isOf hp.1; have e12 := isOf hp.2.1; have e13 := isOf hp.2.2.1; simp only [e10, e12, e13] at hKO; go_simp
   refine (Try.refRSameD (hS.2.2.2.2.2.2.2.2.2.2.2.1) (hS.2.1) HON2.out).mono ?_
   rintro e W1 ⟨rfl, hE⟩
   exact hKO _ W1 hE rfl
  ·have e10 := isOf hp.1; have e11 := isOf hp.2.1; have e14 := isOf hp.2.2.1; simp only [e10, e11, e14] at hKO; go_simp; exact hKO _ W (.refl W) rfl
  ·have e10 := isOf hp.1; have e15 := isOf hp.2.1; simp only [e10, e15] at hKO; go_simp; exact hKO _ W (.refl W) rfl
  ·have e16 := isOf hp.1; simp only [e16] at hKO; go_simp; exact hKO _ W (.refl W) rfl
  ·have e17 := isOf hp.1; simp only [e17] at hKO; go_simp; exact hKO _ W (.refl W) rfl
  ·have e17 := isOf hp.1; have e18 := isOf hp.2.1; simp only [e17, e18] at hKO; go_simp; exact hKO _ W (.refl W) rfl
  ·have e17 := isOf hp.1; have e19 := isOf hp.2.1; simp only [e17, e19] at hKO; go_simp; exact hKO _ W (.refl W) rfl
  ·have e20 := isOf hp.1; simp only [e20] at hKO; go_simp; exact hKO _ W (.refl W) rfl
  ·have e20 := isOf hp.1; simp only [e20] at hKO; go_simp; exact hKO _ W (.refl W) rfl
  ·have e20 := isOf hp.1; simp only [e20] at hKO; go_simp; exact hKO _ W (.refl W) rfl
  ·have e20 := isOf hp.1; simp only [e20] at hKO; go_simp; exact hKO _ W (.refl W) rfl
  ·have e20 := isOf hp.1; simp only [e20] at hKO; go_simp; exact hKO _ W (.refl W) rfl
  ·have e20 := isOf hp.1; simp only [e20] at hKO; go_simp; exact hKO _ W (.refl W) rfl
  ·have e17 := isOf hp.1; have e20 := isOf hp.2.1; have e26 := isOf hp.2.2.1; simp only [e17, e20, e26] at hKO; go_simp; exact hKO _ W (.refl W) rfl
  ·have e17 := isOf hp.1; have e27 := isOf hp.2.1; simp only [e17, e27] at hKO; go_simp; exact hKO _ W (.refl W) rfl
 intro vs W39 hS hp
 clear szw39 E0 hx1 p2 h31_4 p31_7 h32_4 p32_7 h33_4 p33_7 h34_4 p34_7 h35_4 p35_7 h36_4 p36_7 h37_4 p37_7 h37_0
 obtain ⟨E0, hx1, p2, h31_4, p31_7, h32_4, p32_7, h33_4, p33_7, h34_4, p34_7, h35_4, p35_7, h36_4, p36_7, h37_4, p37_7, h37_0, sz39⟩ := hS
 obtain ⟨h39_0, h39_1, h39_2, h39_3, h39_4, h39_5, h39_6, h39_7, h39_8, h39_9, h39_10, h39_11, h39_12, h39_13, h39_14, h39_15, h39_16, h39_17, h39_18, h39_19, h39_20, h39_21, h39_22, h39_23, h39_24, h39_25, h39_26, h39_27, h39_28, -⟩ := hp
 replace h39_0 : vs 0 = .agg #[.bool b34_7, .slice a34_7 n34_7 c34_7, .slice d34_7 m34_7 o34_7] := h39_0
 replace h39_1 : vs 1 = .agg #[.bool b1, .slice a1 n1 c1, .slice d1 m1 o1] := h39_1
 replace h39_2 : vs 2 = .int .i64 e1 := h39_2
 replace h39_3 : vs 3 = .bool false := h39_3
 replace h39_4 : vs 4 = .bool false := h39_4
 replace h39_5 : vs 5 = .agg #[.bool b1, .slice a1 n1 c1, .slice d1 m1 o1] := h39_5
 replace h39_6 : vs 6 = .agg #[.bool b35_7, .slice a35_7 n35_7 c35_7, .slice d35_7 m35_7 o35_7] := h39_6
 replace h39_7 : vs 7 = .int .i64 e2 := h39_7
 replace h39_8 : vs 8 = .bool false := h39_8
 replace h39_9 : vs 9 = .bool false := h39_9
 replace h39_10 : vs 10 = .bool false := h39_10
 replace h39_11 : vs 11 = .bool true := h39_11
 replace h39_12 : vs 12 = .agg #[.bool b35_7, .slice a35_7 n35_7 c35_7, .slice d35_7 m35_7 o35_7] := h39_12
 replace h39_13 : vs 13 = .agg #[.bool b1, .slice a1 n1 c1, .slice d1 m1 o1] := h39_13
 replace h39_14 : vs 14 = .bool true := h39_14
 replace h39_15 : vs 15 = .bool false := h39_15
 replace h39_16 : vs 16 = .bool false := h39_16
 replace h39_17 : vs 17 = .bool false := h39_17
 replace h39_18 : vs 18 = .bool true := h39_18
 replace h39_19 : vs 19 = .bool false := h39_19
 replace h39_20 : vs 20 = .bool false := h39_20
 replace h39_21 : vs 21 = undef := h39_21
 replace h39_22 : vs 22 = undef := h39_22
 replace h39_23 : vs 23 = undef := h39_23
 replace h39_24 : vs 24 = undef := h39_24
 replace h39_25 : vs 25 = undef := h39_25
 replace h39_26 : vs 26 = undef := h39_26
 replace h39_27 : vs 27 = .bool false := h39_27
 replace h39_28 : vs 28 = .bool false := h39_28
 simp only [h39_0, h39_1, h39_2, h39_3, h39_4, h39_5, h39_6, h39_7, h39_8, h39_9, h39_10, h39_11, h39_12, h39_13, h39_14, h39_15, h39_16, h39_17, h39_18, h39_19, h39_20, h39_21, h39_22, h39_23, h39_24, h39_25, h39_26, h39_27, h39_28]
 clear h39_0 h39_1 h39_2 h39_3 h39_4 h39_5 h39_6 h39_7 h39_8 h39_9 h39_10 h39_11 h39_12 h39_13 h39_14 h39_15 h39_16 h39_17 h39_18 h39_19 h39_20 h39_21 h39_22 h39_23 h39_24 h39_25 h39_26 h39_27 h39_28
 obtain ⟨kp2_0, kp2_1, kp2_2⟩ := p2.c3
 obtain ⟨kp31_7_0, kp31_7_1⟩ := p31_7.c2
 obtain ⟨kp32_7_0, kp32_7_1⟩ := p32_7.c2
 obtain ⟨kp33_7_0, kp33_7_1⟩ := p33_7.c2
 obtain ⟨kp34_7_0, kp34_7_1, kp34_7_2⟩ := p34_7.c3
 obtain ⟨kp35_7_0, kp35_7_1, kp35_7_2⟩ := p35_7.c3
 obtain ⟨kp36_7_0, kp36_7_1, kp36_7_2⟩ := p36_7.c3
 obtain ⟨kp37_7_0, kp37_7_1, kp37_7_2⟩ := p37_7.c3
 go_upto_region 15 with (fail)
 clear kp2_0 kp2_1 kp2_2 kp31_7_0 kp31_7_1 kp32_7_0 kp32_7_1 kp33_7_0 kp33_7_1 kp34_7_0 kp34_7_1 kp34_7_2 kp35_7_0 kp35_7_1 kp35_7_2 kp36_7_0 kp36_7_1 kp36_7_2 kp37_7_0 kp37_7_1 kp37_7_2; have szw40 := Ext.size E0
 refine region_gs [.one fun v _ => v = .agg #[.bool b36_7, .slice a36_7 n36_7 c36_7, .slice d36_7 m36_7 o36_7],
   .one fun v _ => v = .agg #[.bool b1, .slice a1 n1 c1, .slice d1 m1 o1],
   .one fun v W => Rw W v (Z - x),
   .one fun v W => Rw W v D,
   .one fun v W => ∃ g, v = .pointer (some ⟨g, 0, none⟩) ∧ W39.heap.size ≤ g ∧ Form W g 27 3,
   .three 4 3 (fun p r _ W => Put3 W39.heap.size 27 p r W)]
  (fun W => Ext w W ∧ Rw W (.agg #[.bool b1, .slice a1 n1 c1, .slice d1 m1 o1]) x ∧ Bx3 W w.heap.size 27 (.bool b1) (.slice a1 n1 c1) (.slice d1 m1 o1) ∧ Zw W (.agg #[.bool b31_7, .slice a31_7 n31_7 c31_7]) F ∧ Bx2 W g31_7 25 (.bool b31_7) (.slice a31_7 n31_7 c31_7) ∧ Zw W (.agg #[.bool b32_7, .slice a32_7 n32_7 c32_7]) C ∧ Bx2 W g32_7 25 (.bool b32_7) (.slice a32_7 n32_7 c32_7) ∧ Zw W (.agg #[.bool b33_7, .slice a33_7 n33_7 c33_7]) M ∧ Bx2 W g33_7 25 (.bool b33_7) (.slice a33_7 n33_7 c33_7) ∧ Rw W (.agg #[.bool b34_7, .slice a34_7 n34_7 c34_7, .slice d34_7 m34_7 o34_7]) X ∧ Bx3 W g34_7 27 (.bool b34_7) (.slice a34_7 n34_7 c34_7) (.slice d34_7 m34_7 o34_7) ∧ Rw W (.agg #[.bool b35_7, .slice a35_7 n35_7 c35_7, .slice d35_7 m35_7 o35_7]) Y ∧ Bx3 W g35_7 27 (.bool b35_7) (.slice a35_7 n35_7 c35_7) (.slice d35_7 m35_7 o35_7) ∧ Rw W (.agg #[.bool b36_7, .slice a36_7 n36_7 c36_7, .slice d36_7 m36_7 o36_7]) Z ∧ Bx3 W g36_7 27 (.bool b36_7) (.slice a36_7 n36_7 c36_7) (.slice d36_7 m36_7 o36_7) ∧ Rw W (.agg #[.bool b37_7, .slice a37_7 n37_7 c37_7, .slice d37_7 m37_7 o37_7]) S ∧ Bx3 W g37_7 27 (.bool b37_7) (.slice a37_7 n37_7 c37_7) (.slice d37_7 m37_7 o37_7) ∧ Zw W u37_0 1 ∧ W39.heap.size ≤ W.heap.size) ⟨Good.is _, Good.is _, Good.rat _, Good.rat _, Good.box _ _ _, cert_put3, trivial⟩
  ⟨E0, hx1, p2, h31_4, p31_7, h32_4, p32_7, h33_4, p33_7, h34_4, p34_7, h35_4, p35_7, h36_4, p36_7, h37_4, p37_7, h37_0, Nat.le_refl _⟩ (A := ?A40) ?hA40 ?howe40 ?hfin40
 case hA40 =>
  intro vs
  simp only [putAll, Act.put, sA, sZ, sS, Nat.zero_add, Nat.reduceAdd]
  exact rfl
 case howe40 =>
  clear E0 hx1 p2 h31_4 p31_7 h32_4 p32_7 h33_4 p33_7 h34_4 p34_7 h35_4 p35_7 h36_4 p36_7 h37_4 p37_7 h37_0
  intro hf
  refine ⟨oE 0 [] hf rfl ?_, oE 1 [] hf rfl ?_, oE 2 [0, 1] hf rfl ?_, oE 3 [2] hf rfl ?_, oE 4 [] hf rfl ?_, oW 5 [4, 3] hf rfl ?_, trivial⟩
  all_goals intro vs W hS hp hx KO hKO
  all_goals simp only [Act.put, sA, sZ, sS] at hKO
  ·have fc0 := hS.2.2.2.2.2.2.2.2.2.2.2.2.2.2.1.cell0; have fc1 := hS.2.2.2.2.2.2.2.2.2.2.2.2.2.2.1.cell1; have fc2 := hS.2.2.2.2.2.2.2.2.2.2.2.2.2.2.1.cell2; go_simp; exact hKO _ W (.refl W) rfl
  ·have fc0 := hS.2.2.1.cell0; have fc1 := hS.2.2.1.cell1; have fc2 := hS.2.2.1.cell2; go_simp; exact hKO _ W (.refl W) rfl
  ·have e0 := isOf hp.1; have e1 := isOf hp.2.1; simp only [e0, e1] at hKO; go_simp
   refine (Try.refRSub (hS.2.2.2.2.2.2.2.2.2.2.2.2.2.1) (hS.2.1) SZ.out Sx.out (by omega)).mono ?_
   rintro e W1 ⟨v, rfl, hv, hE⟩
   exact hKO _ W1 hE hv
  ·have q2 := hp.1; go_simp
   refine (Try.refRAbs q2).mono ?_
   rintro e W1 ⟨v, rfl, hv, hE⟩
   rw [HD.out] at hv
   exact hKO _ W1 hE hv
  ·have hn := Bx3.new W 27 (.bool false) (.slice none 0 0) (.slice none 0 0)
   have hE := Ext.alloc1 W (.cells #[.bool false, .slice none 0 0, .slice none 0 0] 27)
   have hsz := hS.2.2.2.2.2.2.2.2.2.2.2.2.2.2.2.2.2.2
   go_simp
   exact hKO _ _ hE ⟨_, rfl, hsz, hn.form⟩
  ·have q4 := hp.1; have q3 := hp.2.1
   obtain ⟨g, ev, hg, hf⟩ := q4
   replace ev : vs 4 = _ := ev
   obtain ⟨x0_0, x0_1, x0_2, hx, hno⟩ := hf.bx3
   have qr := q3
   obtain ⟨b3, a3, n3, c3, d3, m3, o3, er, -, -, -⟩ := qr
   replace er : vs 3 = _ := er
   have r0 := hx.froz0
   have t0 := hx.cell0
   have r1 := hx.froz1
   have t1 := hx.cell1
   have r2 := hx.froz2
   have t2 := hx.cell2
   have hw := Wr.set3 hx hno b3 a3 n3 c3 d3 m3 o3
   have hq := hx.set (.bool b3) (.slice a3 n3 c3) (.slice d3 m3 o3)
   simp only [ev, er] at hKO; go_simp
   exact hKO _ _ hw ⟨(Ext.wr hS.1 hw (by omega)), (hS.2.1.wr hw), (hS.2.2.1.wr hw (by omega)), (hS.2.2.2.1.wr hw), (hS.2.2.2.2.1.wr hw (by omega)), (hS.2.2.2.2.2.1.wr hw), (hS.2.2.2.2.2.2.1.wr hw (by omega)), (hS.2.2.2.2.2.2.2.1.wr hw), (hS.2.2.2.2.2.2.2.2.1.wr hw (by omega)), (hS.2.2.2.2.2.2.2.2.2.1.wr hw), (hS.2.2.2.2.2.2.2.2.2.2.1.wr hw (by omega)), (hS.2.2.2.2.2.2.2.2.2.2.2.1.wr hw), (hS.2.2.2.2.2.2.2.2.2.2.2.2.1.wr hw (by omega)), (hS.2.2.2.2.2.2.2.2.2.2.2.2.2.1.wr hw), (hS.2.2.2.2.2.2.2.2.2.2.2.2.2.2.1.wr hw (by omega)), (hS.2.2.2.2.2.2.2.2.2.2.2.2.2.2.2.1.wr hw), (hS.2.2.2.2.2.2.2.2.2.2.2.2.2.2.2.2.1.wr hw (by omega)), (hS.2.2.2.2.2.2.2.2.2.2.2.2.2.2.2.2.2.1.wr hw), (Nat.le_trans hS.2.2.2.2.2.2.2.2.2.2.2.2.2.2.2.2.2.2 hw.apart.size)⟩ ⟨g, b3, a3, n3, c3, d3, m3, o3, ev, er, hg, hq⟩
 intro vs W40 hS hp
 clear szw40 E0 hx1 p2 h31_4 p31_7 h32_4 p32_7 h33_4 p33_7 h34_4 p34_7 h35_4 p35_7 h36_4 p36_7 h37_4 p37_7 h37_0
 obtain ⟨E0, hx1, p2, h31_4, p31_7, h32_4, p32_7, h33_4, p33_7, h34_4, p34_7, h35_4, p35_7, h36_4, p36_7, h37_4, p37_7, h37_0, sz40⟩ := hS
 obtain ⟨h40_0, h40_1, h40_2, h40_3, h40_4, h40_5, -⟩ := hp
 obtain ⟨g40_5, b40_5, a40_5, n40_5, c40_5, d40_5, m40_5, o40_5, ev40_5, er40_5, hg40_5, p40_5⟩ := h40_5
 replace ev40_5 : vs 4 = _ := ev40_5; replace er40_5 : vs 3 = _ := er40_5; replace h40_3 := (show Rw W40 (vs 3) D from h40_3)
 rw [er40_5] at h40_3
 replace h40_0 : vs 0 = .agg #[.bool b36_7, .slice a36_7 n36_7 c36_7, .slice d36_7 m36_7 o36_7] := h40_0
 replace h40_1 : vs 1 = .agg #[.bool b1, .slice a1 n1 c1, .slice d1 m1 o1] := h40_1
 simp only [ev40_5, er40_5, h40_0, h40_1]
 replace h40_2 : Rw W40 (vs 2) (Z - x) := h40_2
 generalize vs 2 = u40_2 at h40_2 ⊢
 clear ev40_5 er40_5 h40_0 h40_1 h40_4
 obtain ⟨kp2_0, kp2_1, kp2_2⟩ := p2.c3
 obtain ⟨kp31_7_0, kp31_7_1⟩ := p31_7.c2
 obtain ⟨kp32_7_0, kp32_7_1⟩ := p32_7.c2
 obtain ⟨kp33_7_0, kp33_7_1⟩ := p33_7.c2
 obtain ⟨kp34_7_0, kp34_7_1, kp34_7_2⟩ := p34_7.c3
 obtain ⟨kp35_7_0, kp35_7_1, kp35_7_2⟩ := p35_7.c3
 obtain ⟨kp36_7_0, kp36_7_1, kp36_7_2⟩ := p36_7.c3
 obtain ⟨kp37_7_0, kp37_7_1, kp37_7_2⟩ := p37_7.c3
 obtain ⟨kp40_5_0, kp40_5_1, kp40_5_2⟩ := p40_5.c3
 go_upto_region 16 with (fail)
 clear kp2_0 kp2_1 kp2_2 kp31_7_0 kp31_7_1 kp32_7_0 kp32_7_1 kp33_7_0 kp33_7_1 kp34_7_0 kp34_7_1 kp34_7_2 kp35_7_0 kp35_7_1 kp35_7_2 kp36_7_0 kp36_7_1 kp36_7_2 kp37_7_0 kp37_7_1 kp37_7_2 kp40_5_0 kp40_5_1 kp40_5_2; have ltp40_5 := p40_5.lt; have szw41 := Ext.size E0
 refine region_gs [.one fun v _ => v = .agg #[.bool b40_5, .slice a40_5 n40_5 c40_5, .slice d40_5 m40_5 o40_5],
   .one fun v _ => v = .agg #[.bool b40_5, .slice a40_5 n40_5 c40_5, .slice d40_5 m40_5 o40_5],
   .one fun v W => Rw W v (D + D),
   .one fun v W => ∃ g, v = .pointer (some ⟨g, 0, none⟩) ∧ W40.heap.size ≤ g ∧ Form W g 27 3,
   .three 3 2 (fun p r _ W => Put3 W40.heap.size 27 p r W)]
  (fun W => Ext w W ∧ Rw W (.agg #[.bool b1, .slice a1 n1 c1, .slice d1 m1 o1]) x ∧ Bx3 W w.heap.size 27 (.bool b1) (.slice a1 n1 c1) (.slice d1 m1 o1) ∧ Zw W (.agg #[.bool b31_7, .slice a31_7 n31_7 c31_7]) F ∧ Bx2 W g31_7 25 (.bool b31_7) (.slice a31_7 n31_7 c31_7) ∧ Zw W (.agg #[.bool b32_7, .slice a32_7 n32_7 c32_7]) C ∧ Bx2 W g32_7 25 (.bool b32_7) (.slice a32_7 n32_7 c32_7) ∧ Zw W (.agg #[.bool b33_7, .slice a33_7 n33_7 c33_7]) M ∧ Bx2 W g33_7 25 (.bool b33_7) (.slice a33_7 n33_7 c33_7) ∧ Rw W (.agg #[.bool b34_7, .slice a34_7 n34_7 c34_7, .slice d34_7 m34_7 o34_7]) X ∧ Bx3 W g34_7 27 (.bool b34_7) (.slice a34_7 n34_7 c34_7) (.slice d34_7 m34_7 o34_7) ∧ Rw W (.agg #[.bool b35_7, .slice a35_7 n35_7 c35_7, .slice d35_7 m35_7 o35_7]) Y ∧ Bx3 W g35_7 27 (.bool b35_7) (.slice a35_7 n35_7 c35_7) (.slice d35_7 m35_7 o35_7) ∧ Rw W (.agg #[.bool b36_7, .slice a36_7 n36_7 c36_7, .slice d36_7 m36_7 o36_7]) Z ∧ Bx3 W g36_7 27 (.bool b36_7) (.slice a36_7 n36_7 c36_7) (.slice d36_7 m36_7 o36_7) ∧ Rw W (.agg #[.bool b37_7, .slice a37_7 n37_7 c37_7, .slice d37_7 m37_7 o37_7]) S ∧ Bx3 W g37_7 27 (.bool b37_7) (.slice a37_7 n37_7 c37_7) (.slice d37_7 m37_7 o37_7) ∧ Zw W u37_0 1 ∧ Rw W (.agg #[.bool b40_5, .slice a40_5 n40_5 c40_5, .slice d40_5 m40_5 o40_5]) D ∧ Bx3 W g40_5 27 (.bool b40_5) (.slice a40_5 n40_5 c40_5) (.slice d40_5 m40_5 o40_5) ∧ Rw W u40_2 (Z - x) ∧ W40.heap.size ≤ W.heap.size) ⟨Good.is _, Good.is _, Good.rat _, Good.box _ _ _, cert_put3, trivial⟩
  ⟨E0, hx1, p2, h31_4, p31_7, h32_4, p32_7, h33_4, p33_7, h34_4, p34_7, h35_4, p35_7, h36_4, p36_7, h37_4, p37_7, h37_0, h40_3, p40_5, h40_2, Nat.le_refl _⟩ (A := ?A41) ?hA41 ?howe41 ?hfin41
 case hA41 =>
  intro vs
  simp only [putAll, Act.put, sA, sZ, sS, Nat.zero_add, Nat.reduceAdd]
  exact rfl
 case howe41 =>
  clear E0 hx1 p2 h31_4 p31_7 h32_4 p32_7 h33_4 p33_7 h34_4 p34_7 h35_4 p35_7 h36_4 p36_7 h37_4 p37_7 h37_0 h40_3 p40_5 h40_2
  intro hf
  refine ⟨oE 0 [] hf rfl ?_, oE 1 [] hf rfl ?_, oE 2 [0, 1] hf rfl ?_, oE 3 [] hf rfl ?_, oW 4 [3, 2] hf rfl ?_, trivial⟩
  all_goals intro vs W hS hp hx KO hKO
  all_goals simp only [Act.put, sA, sZ, sS] at hKO
  ·have fc0 := hS.2.2.2.2.2.2.2.2.2.2.2.2.2.2.2.2.2.2.2.1.cell0; have fc1 := hS.2.2.2.2.2.2.2.2.2.2.2.2.2.2.2.2.2.2.2.1.cell1; have fc2 := hS.2.2.2.2.2.2.2.2.2.2.2.2.2.2.2.2.2.2.2.1.cell2; go_simp; exact hKO _ W (.refl W) rfl
  ·have fc0 := hS.2.2.2.2.2.2.2.2.2.2.2.2.2.2.2.2.2.2.2.1.cell0; have fc1 := hS.2.2.2.2.2.2.2.2.2.2.2.2.2.2.2.2.2.2.2.1.cell1; have fc2 := hS.2.2.2.2.2.2.2.2.2.2.2.2.2.2.2.2.2.2.2.1.cell2; go_simp; exact hKO _ W (.refl W) rfl
  ·have e0 := isOf hp.1; have e1 := isOf hp.2.1; simp only [e0, e1] at hKO; go_simp
   refine (Try.refRAdd (hS.2.2.2.2.2.2.2.2.2.2.2.2.2.2.2.2.2.2.1) (hS.2.2.2.2.2.2.2.2.2.2.2.2.2.2.2.2.2.2.1) SD.out SD.out (by omega)).mono ?_
   rintro e W1 ⟨v, rfl, hv, hE⟩
   exact hKO _ W1 hE hv
  ·have hn := Bx3.new W 27 (.bool false) (.slice none 0 0) (.slice none 0 0)
   have hE := Ext.alloc1 W (.cells #[.bool false, .slice none 0 0, .slice none 0 0] 27)
   have hsz := hS.2.2.2.2.2.2.2.2.2.2.2.2.2.2.2.2.2.2.2.2.2
   go_simp
   exact hKO _ _ hE ⟨_, rfl, hsz, hn.form⟩
  ·have q3 := hp.1; have q2 := hp.2.1
   obtain ⟨g, ev, hg, hf⟩ := q3
   replace ev : vs 3 = _ := ev
   obtain ⟨x0_0, x0_1, x0_2, hx, hno⟩ := hf.bx3
   have qr := q2
   obtain ⟨b3, a3, n3, c3, d3, m3, o3, er, -, -, -⟩ := qr
   replace er : vs 2 = _ := er
   have r0 := hx.froz0
   have t0 := hx.cell0
   have r1 := hx.froz1
   have t1 := hx.cell1
   have r2 := hx.froz2
   have t2 := hx.cell2
   have hw := Wr.set3 hx hno b3 a3 n3 c3 d3 m3 o3
   have hq := hx.set (.bool b3) (.slice a3 n3 c3) (.slice d3 m3 o3)
   simp only [ev, er] at hKO; go_simp
   exact hKO _ _ hw ⟨(Ext.wr hS.1 hw (by omega)), (hS.2.1.wr hw), (hS.2.2.1.wr hw (by omega)), (hS.2.2.2.1.wr hw), (hS.2.2.2.2.1.wr hw (by omega)), (hS.2.2.2.2.2.1.wr hw), (hS.2.2.2.2.2.2.1.wr hw (by omega)), (hS.2.2.2.2.2.2.2.1.wr hw), (hS.2.2.2.2.2.2.2.2.1.wr hw (by omega)), (hS.2.2.2.2.2.2.2.2.2.1.wr hw), (hS.2.2.2.2.2.2.2.2.2.2.1.wr hw (by omega)), (hS.2.2.2.2.2.2.2.2.2.2.2.1.wr hw), (hS.2.2.2.2.2.2.2.2.2.2.2.2.1.wr hw (by omega)), (hS.2.2.2.2.2.2.2.2.2.2.2.2.2.1.wr hw), (hS.2.2.2.2.2.2.2.2.2.2.2.2.2.2.1.wr hw (by omega)), (hS.2.2.2.2.2.2.2.2.2.2.2.2.2.2.2.1.wr hw), (hS.2.2.2.2.2.2.2.2.2.2.2.2.2.2.2.2.1.wr hw (by omega)), (hS.2.2.2.2.2.2.2.2.2.2.2.2.2.2.2.2.2.1.wr hw), (hS.2.2.2.2.2.2.2.2.2.2.2.2.2.2.2.2.2.2.1.wr hw), (hS.2.2.2.2.2.2.2.2.2.2.2.2.2.2.2.2.2.2.2.1.wr hw (by omega)), (hS.2.2.2.2.2.2.2.2.2.2.2.2.2.2.2.2.2.2.2.2.1.wr hw), (Nat.le_trans hS.2.2.2.2.2.2.2.2.2.2.2.2.2.2.2.2.2.2.2.2.2 hw.apart.size)⟩ ⟨g, b3, a3, n3, c3, d3, m3, o3, ev, er, hg, hq⟩
 intro vs W41 hS hp
 clear szw41 E0 hx1 p2 h31_4 p31_7 h32_4 p32_7 h33_4 p33_7 h34_4 p34_7 h35_4 p35_7 h36_4 p36_7 h37_4 p37_7 h37_0 h40_3 p40_5 h40_2
 obtain ⟨E0, hx1, p2, h31_4, p31_7, h32_4, p32_7, h33_4, p33_7, h34_4, p34_7, h35_4, p35_7, h36_4, p36_7, h37_4, p37_7, h37_0, h40_3, p40_5, h40_2, sz41⟩ := hS
 obtain ⟨h41_0, h41_1, h41_2, h41_3, h41_4, -⟩ := hp
 obtain ⟨g41_4, b41_4, a41_4, n41_4, c41_4, d41_4, m41_4, o41_4, ev41_4, er41_4, hg41_4, p41_4⟩ := h41_4
 replace ev41_4 : vs 3 = _ := ev41_4; replace er41_4 : vs 2 = _ := er41_4; replace h41_2 := (show Rw W41 (vs 2) (D + D) from h41_2)
 rw [er41_4] at h41_2
 replace h41_0 : vs 0 = .agg #[.bool b40_5, .slice a40_5 n40_5 c40_5, .slice d40_5 m40_5 o40_5] := h41_0
 replace h41_1 : vs 1 = .agg #[.bool b40_5, .slice a40_5 n40_5 c40_5, .slice d40_5 m40_5 o40_5] := h41_1
 simp only [ev41_4, er41_4, h41_0, h41_1]
 clear ev41_4 er41_4 h41_0 h41_1 h41_3
 obtain ⟨kp2_0, kp2_1, kp2_2⟩ := p2.c3
 obtain ⟨kp31_7_0, kp31_7_1⟩ := p31_7.c2
 obtain ⟨kp32_7_0, kp32_7_1⟩ := p32_7.c2
 obtain ⟨kp33_7_0, kp33_7_1⟩ := p33_7.c2
 obtain ⟨kp34_7_0, kp34_7_1, kp34_7_2⟩ := p34_7.c3
 obtain ⟨kp35_7_0, kp35_7_1, kp35_7_2⟩ := p35_7.c3
 obtain ⟨kp36_7_0, kp36_7_1, kp36_7_2⟩ := p36_7.c3
 obtain ⟨kp37_7_0, kp37_7_1, kp37_7_2⟩ := p37_7.c3
 obtain ⟨kp40_5_0, kp40_5_1, kp40_5_2⟩ := p40_5.c3
 obtain ⟨kp41_4_0, kp41_4_1, kp41_4_2⟩ := p41_4.c3
 go_upto_region 17 with (fail)
 clear kp2_0 kp2_1 kp2_2 kp31_7_0 kp31_7_1 kp32_7_0 kp32_7_1 kp33_7_0 kp33_7_1 kp34_7_0 kp34_7_1 kp34_7_2 kp35_7_0 kp35_7_1 kp35_7_2 kp36_7_0 kp36_7_1 kp36_7_2 kp37_7_0 kp37_7_1 kp37_7_2 kp40_5_0 kp40_5_1 kp40_5_2 kp41_4_0 kp41_4_1 kp41_4_2; clear e1le e1led e1gt e1gtd e2le e2led e2gt e2gtd
 have hm := h33_4.num
 obtain ⟨_, _, _, er, hz0, -⟩ := hm.len
 cases er
 by_cases hn0 : 0 < n33_7
 ·obtain ⟨B, o, l, ea, hc, hl, hp⟩ := hm.limb0 hn0
  have hl2 : (l : Int) < 18446744073709551616 := by rw [B64_eq] at hl; omega
  have hn0I : (0 : Int) < (n33_7 : Int) := by omega
  have hnb : ((n33_7 : Int) == 0) = false := beq_eq_false_iff_ne.2 (by omega)
  have hnc : ¬ ((n33_7 : Int) = 0) := by omega
  have hnd : ¬ (n33_7 = 0) := by omega
  subst ea
  by_cases hev2 : l % 2 = 0
  ·have hpr : (((l : Int) % 2) == 0) = true := by simp; omega
   clear hz0 hp hl hev2 hm hn0
   obtain ⟨kp2_0, kp2_1, kp2_2⟩ := p2.c3
   obtain ⟨kp31_7_0, kp31_7_1⟩ := p31_7.c2
   obtain ⟨kp32_7_0, kp32_7_1⟩ := p32_7.c2
   obtain ⟨kp33_7_0, kp33_7_1⟩ := p33_7.c2
   obtain ⟨kp34_7_0, kp34_7_1, kp34_7_2⟩ := p34_7.c3
   obtain ⟨kp35_7_0, kp35_7_1, kp35_7_2⟩ := p35_7.c3
   obtain ⟨kp36_7_0, kp36_7_1, kp36_7_2⟩ := p36_7.c3
   obtain ⟨kp37_7_0, kp37_7_1, kp37_7_2⟩ := p37_7.c3
   obtain ⟨kp40_5_0, kp40_5_1, kp40_5_2⟩ := p40_5.c3
   obtain ⟨kp41_4_0, kp41_4_1, kp41_4_2⟩ := p41_4.c3
   go_upto_region 18 with (fail)
   clear kp2_0 kp2_1 kp2_2 kp31_7_0 kp31_7_1 kp32_7_0 kp32_7_1 kp33_7_0 kp33_7_1 kp34_7_0 kp34_7_1 kp34_7_2 kp35_7_0 kp35_7_1 kp35_7_2 kp36_7_0 kp36_7_1 kp36_7_2 kp37_7_0 kp37_7_1 kp37_7_2 kp40_5_0 kp40_5_1 kp40_5_2 kp41_4_0 kp41_4_1 kp41_4_2
   by_cases htw : D + D = S
   ·have HTW := Lib.hid htw
    clear htw; have ltp41_4 := p41_4.lt; have szw42 := Ext.size E0
    refine region_gs [.one fun v _ => v = .bool true,
      .one fun v _ => v = .bool true,
      .one fun v _ => v = .agg #[.bool b33_7, .slice (some ⟨B, o, none⟩) n33_7 c33_7],
      .one fun v _ => v = .agg #[.bool b31_7, .slice a31_7 n31_7 c31_7],
      .one fun v _ => v = .bool true,
      .one fun v _ => v = .bool true,
      .one fun v _ => v = undef,
      .one fun v _ => v = undef,
      .one fun v _ => v = undef,
      .one fun v _ => v = .bool true,
      .one fun v _ => v = .bool true,
      .one fun v _ => v = .bool true,
      .one fun v _ => v = .agg #[.bool b41_4, .slice a41_4 n41_4 c41_4, .slice d41_4 m41_4 o41_4],
      .one fun v _ => v = .agg #[.bool b37_7, .slice a37_7 n37_7 c37_7, .slice d37_7 m37_7 o37_7],
      .one fun v _ => v = .int .i64 e3,
      .one fun v _ => v = .bool true,
      .one fun v _ => v = .bool true,
      .one fun v _ => v = .bool true,
      .one fun v _ => v = .agg #[.bool b41_4, .slice a41_4 n41_4 c41_4, .slice d41_4 m41_4 o41_4],
      .one fun v _ => v = .agg #[.bool b37_7, .slice a37_7 n37_7 c37_7, .slice d37_7 m37_7 o37_7],
      .one fun v _ => v = .bool true,
      .one fun v _ => v = .bool false,
      .one fun v _ => v = .bool false,
      .one fun v _ => v = .bool true,
      .one fun v _ => v = .bool true,
      .one fun v _ => v = .bool true,
      .one fun v _ => v = .bool true]
     (fun W => Ext w W ∧ Rw W (.agg #[.bool b1, .slice a1 n1 c1, .slice d1 m1 o1]) x ∧ Bx3 W w.heap.size 27 (.bool b1) (.slice a1 n1 c1) (.slice d1 m1 o1) ∧ Zw W (.agg #[.bool b31_7, .slice a31_7 n31_7 c31_7]) F ∧ Bx2 W g31_7 25 (.bool b31_7) (.slice a31_7 n31_7 c31_7) ∧ Zw W (.agg #[.bool b32_7, .slice a32_7 n32_7 c32_7]) C ∧ Bx2 W g32_7 25 (.bool b32_7) (.slice a32_7 n32_7 c32_7) ∧ Zw W (.agg #[.bool b33_7, .slice (some ⟨B, o, none⟩) n33_7 c33_7]) M ∧ Bx2 W g33_7 25 (.bool b33_7) (.slice (some ⟨B, o, none⟩) n33_7 c33_7) ∧ Rw W (.agg #[.bool b34_7, .slice a34_7 n34_7 c34_7, .slice d34_7 m34_7 o34_7]) X ∧ Bx3 W g34_7 27 (.bool b34_7) (.slice a34_7 n34_7 c34_7) (.slice d34_7 m34_7 o34_7) ∧ Rw W (.agg #[.bool b35_7, .slice a35_7 n35_7 c35_7, .slice d35_7 m35_7 o35_7]) Y ∧ Bx3 W g35_7 27 (.bool b35_7) (.slice a35_7 n35_7 c35_7) (.slice d35_7 m35_7 o35_7) ∧ Rw W (.agg #[.bool b36_7, .slice a36_7 n36_7 c36_7, .slice d36_7 m36_7 o36_7]) Z ∧ Bx3 W g36_7 27 (.bool b36_7) (.slice a36_7 n36_7 c36_7) (.slice d36_7 m36_7 o36_7) ∧ Rw W (.agg #[.bool b37_7, .slice a37_7 n37_7 c37_7, .slice d37_7 m37_7 o37_7]) S ∧ Bx3 W g37_7 27 (.bool b37_7) (.slice a37_7 n37_7 c37_7) (.slice d37_7 m37_7 o37_7) ∧ Zw W u37_0 1 ∧ Rw W (.agg #[.bool b40_5, .slice a40_5 n40_5 c40_5, .slice d40_5 m40_5 o40_5]) D ∧ Bx3 W g40_5 27 (.bool b40_5) (.slice a40_5 n40_5 c40_5) (.slice d40_5 m40_5 o40_5) ∧ Rw W u40_2 (Z - x) ∧ Rw W (.agg #[.bool b41_4, .slice a41_4 n41_4 c41_4, .slice d41_4 m41_4 o41_4]) (D + D) ∧ Bx3 W g41_4 27 (.bool b41_4) (.slice a41_4 n41_4 c41_4) (.slice d41_4 m41_4 o41_4) ∧ W41.heap.size ≤ W.heap.size) ⟨Good.is _, Good.is _, Good.is _, Good.is _, Good.is _, Good.is _, Good.is _, Good.is _, Good.is _, Good.is _, Good.is _, Good.is _, Good.is _, Good.is _, Good.is _, Good.is _, Good.is _, Good.is _, Good.is _, Good.is _, Good.is _, Good.is _, Good.is _, Good.is _, Good.is _, Good.is _, Good.is _, trivial⟩
     ⟨E0, hx1, p2, h31_4, p31_7, h32_4, p32_7, h33_4, p33_7, h34_4, p34_7, h35_4, p35_7, h36_4, p36_7, h37_4, p37_7, h37_0, h40_3, p40_5, h40_2, h41_2, p41_4, Nat.le_refl _⟩ (A := ?A42) ?hA42 ?howe42 ?hfin42
    case hA42 =>
     intro vs
     simp only [putAll, Act.put, sA, sZ, sS, Nat.zero_add, Nat.reduceAdd]
     exact rfl
    case howe42 =>
     clear E0 hx1 p2 h31_4 p31_7 h32_4 p32_7 h33_4 p33_7 h34_4 p34_7 h35_4 p35_7 h36_4 p36_7 h37_4 p37_7 h37_0 h40_3 p40_5 h40_2 h41_2 p41_4
     intro hf
     refine ⟨oE 0 [] hf rfl ?_, oE 1 [0] hf rfl ?_, oE 2 [1] hf rfl ?_, oE 3 [1] hf rfl ?_, oE 4 [1, 2, 3] hf rfl ?_, oE 5 [1, 4] hf rfl ?_, oE 6 [5] hf rfl ?_, oE 7 [5] hf rfl ?_, oE 8 [5] hf rfl ?_, oE 9 [1, 5, 8] hf rfl ?_, oE 10 [1, 9] hf rfl ?_, oE 11 [10] hf rfl ?_, oE 12 [11] hf rfl ?_, oE 13 [11] hf rfl ?_, oE 14 [11, 12, 13] hf rfl ?_, oE 15 [11, 14] hf rfl ?_, oE 16 [11, 15] hf rfl ?_, oE 17 [16] hf rfl ?_, oE 18 [17] hf rfl ?_, oE 19 [17] hf rfl ?_, oE 20 [17, 18, 19] hf rfl ?_, oE 21 [17, 20] hf rfl ?_, oE 22 [17, 21] hf rfl ?_, oE 23 [22] hf rfl ?_, oE 24 [17, 22, 23] hf rfl ?_, oE 25 [17, 24] hf rfl ?_, oE 26 [25] hf rfl ?_, trivial⟩
     all_goals intro vs W hS hp hx KO hKO
     all_goals simp only [Act.put, sA, sZ, sS] at hKO
     ·go_simp
      refine (Try.alive06 _).mono ?_
      rintro e W1 ⟨rfl, hE⟩
      exact hKO _ W1 hE rfl
     ·have e0 := isOf hp.1; simp only [e0] at hKO; go_simp; exact hKO _ W (.refl W) rfl
     ·have e1 := isOf hp.1; simp only [e1] at hKO; have fc0 := hS.2.2.2.2.2.2.2.2.1.cell0; have fc1 := hS.2.2.2.2.2.2.2.2.1.cell1; go_simp; exact hKO _ W (.refl W) rfl
     ·have e1 := isOf hp.1; simp only [e1] at hKO; have fc0 := hS.2.2.2.2.1.cell0; have fc1 := hS.2.2.2.2.1.cell1; go_simp; exact hKO _ W (.refl W) rfl
     ·have e1 := isOf hp.1; have e2 := isOf hp.2.1; have e3 := isOf hp.2.2.1; simp only [e1, e2, e3] at hKO; go_simp
      refine (Try.refZSameD (hS.2.2.2.2.2.2.2.1) (hS.2.2.2.1) HMF.out).mono ?_
      rintro e W1 ⟨rfl, hE⟩
      exact hKO _ W1 hE rfl
     ·have e1 := isOf hp.1; have e4 := isOf hp.2.1; simp only [e1, e4] at hKO; go_simp; exact hKO _ W (.refl W) rfl
     ·have e5 := isOf hp.1; simp only [e5] at hKO; go_simp; exact hKO _ W (.refl W) rfl
     ·have e5 := isOf hp.1; simp only [e5] at hKO; go_simp; exact hKO _ W (.refl W) rfl
     ·have e5 := isOf hp.1; simp only [e5] at hKO; go_simp; exact hKO _ W (.refl W) rfl
     ·have e1 := isOf hp.1; have e5 := isOf hp.2.1; have e8 := isOf hp.2.2.1; simp only [e1, e5, e8] at hKO; go_simp; exact hKO _ W (.refl W) rfl
     ·have e1 := isOf hp.1; have e9 := isOf hp.2.1; simp only [e1, e9] at hKO; go_simp; exact hKO _ W (.refl W) rfl
     ·have e10 := isOf hp.1; simp only [e10] at hKO; go_simp; exact hKO _ W (.refl W) rfl
     ·have e11 := isOf hp.1; simp only [e11] at hKO; have fc0 := hS.2.2.2.2.2.2.2.2.2.2.2.2.2.2.2.2.2.2.2.2.2.2.1.cell0; have fc1 := hS.2.2.2.2.2.2.2.2.2.2.2.2.2.2.2.2.2.2.2.2.2.2.1.cell1; have fc2 := hS.2.2.2.2.2.2.2.2.2.2.2.2.2.2.2.2.2.2.2.2.2.2.1.cell2; go_simp; exact hKO _ W (.refl W) rfl
     ·have e11 := isOf hp.1; simp only [e11] at hKO; have fc0 := hS.2.2.2.2.2.2.2.2.2.2.2.2.2.2.2.2.1.cell0; have fc1 := hS.2.2.2.2.2.2.2.2.2.2.2.2.2.2.2.2.1.cell1; have fc2 := hS.2.2.2.2.2.2.2.2.2.2.2.2.2.2.2.2.1.cell2; go_simp; exact hKO _ W (.refl W) rfl
     ·have e11 := isOf hp.1; have e12 := isOf hp.2.1; have e13 := isOf hp.2.2.1; simp only [e11, e12, e13] at hKO; go_simp
      refine (Try.refRCmpR (hS.2.2.2.2.2.2.2.2.2.2.2.2.2.2.2.2.2.2.2.2.2.1) (hS.2.2.2.2.2.2.2.2.2.2.2.2.2.2.2.1) SDD.out SS.out (by omega) HC3.out).mono ?_
      rintro e W1 ⟨rfl, hE⟩
      exact hKO _ W1 hE rfl
     ·have e11 := isOf hp.1; have e14 := isOf hp.2.1; simp only [e11, e14] at hKO; go_simp; exact hKO _ W (.refl W) rfl
     ·have e11 := isOf hp.1; have e15 := isOf hp.2.1; simp only [e11, e15] at hKO; go_simp; exact hKO _ W (.refl W) rfl
     ·have e16 := isOf hp.1; simp only [e16] at hKO; go_simp; exact hKO _ W (.refl W) rfl
     ·have e17 := isOf hp.1; simp only [e17] at hKO; have fc0 := hS.2.2.2.2.2.2.2.2.2.2.2.2.2.2.2.2.2.2.2.2.2.2.1.cell0; have fc1 := hS.2.2.2.2.2.2.2.2.2.2.2.2.2.2.2.2.2.2.2.2.2.2.1.cell1; have fc2 := hS.2.2.2.2.2.2.2.2.2.2.2.2.2.2.2.2.2.2.2.2.2.2.1.cell2; go_simp; exact hKO _ W (.refl W) rfl
     ·have e17 := isOf hp.1; simp only [e17] at hKO; have fc0 := hS.2.2.2.2.2.2.2.2.2.2.2.2.2.2.2.2.1.cell0; have fc1 := hS.2.2.2.2.2.2.2.2.2.2.2.2.2.2.2.2.1.cell1; have fc2 := hS.2.2.2.2.2.2.2.2.2.2.2.2.2.2.2.2.1.cell2; go_simp; exact hKO _ W (.refl W) rfl
     ·have e17 := isOf hp.1; have e18 := isOf hp.2.1; have e19 := isOf hp.2.2.1; simp only [e17, e18, e19] at hKO; go_simp
      refine (Try.refRSameD (hS.2.2.2.2.2.2.2.2.2.2.2.2.2.2.2.2.2.2.2.2.2.1) (hS.2.2.2.2.2.2.2.2.2.2.2.2.2.2.2.1) HTW.out).mono ?_
      rintro e W1 ⟨rfl, hE⟩
      exact hKO _ W1 hE rfl
     ·have e17 := isOf hp.1; have e20 := isOf hp.2.1; simp only [e17, e20] at hKO; go_simp; exact hKO _ W (.refl W) rfl
     ·have e17 := isOf hp.1; have e21 := isOf hp.2.1; simp only [e17, e21] at hKO; go_simp; exact hKO _ W (.refl W) rfl
     ·have e22 := isOf hp.1; simp only [e22] at hKO; go_simp; exact hKO _ W (.refl W) rfl
     ·have e17 := isOf hp.1; have e22 := isOf hp.2.1; have e23 := isOf hp.2.2.1; simp only [e17, e22, e23] at hKO; go_simp; exact hKO _ W (.refl W) rfl
     ·have e17 := isOf hp.1; have e24 := isOf hp.2.1; simp only [e17, e24] at hKO; go_simp; exact hKO _ W (.refl W) rfl
     ·have e25 := isOf hp.1; simp only [e25] at hKO; go_simp; exact hKO _ W (.refl W) rfl
    intro vs W42 hS hp
    clear szw42 E0 hx1 p2 h31_4 p31_7 h32_4 p32_7 h33_4 p33_7 h34_4 p34_7 h35_4 p35_7 h36_4 p36_7 h37_4 p37_7 h37_0 h40_3 p40_5 h40_2 h41_2 p41_4
    obtain ⟨E0, hx1, p2, h31_4, p31_7, h32_4, p32_7, h33_4, p33_7, h34_4, p34_7, h35_4, p35_7, h36_4, p36_7, h37_4, p37_7, h37_0, h40_3, p40_5, h40_2, h41_2, p41_4, sz42⟩ := hS
    obtain ⟨h42_0, h42_1, h42_2, h42_3, h42_4, h42_5, h42_6, h42_7, h42_8, h42_9, h42_10, h42_11, h42_12, h42_13, h42_14, h42_15, h42_16, h42_17, h42_18, h42_19, h42_20, h42_21, h42_22, h42_23, h42_24, h42_25, h42_26, -⟩ := hp
    replace h42_0 : vs 0 = .bool true := h42_0
    replace h42_1 : vs 1 = .bool true := h42_1
    replace h42_2 : vs 2 = .agg #[.bool b33_7, .slice (some ⟨B, o, none⟩) n33_7 c33_7] := h42_2
    replace h42_3 : vs 3 = .agg #[.bool b31_7, .slice a31_7 n31_7 c31_7] := h42_3
    replace h42_4 : vs 4 = .bool true := h42_4
    replace h42_5 : vs 5 = .bool true := h42_5
    replace h42_6 : vs 6 = undef := h42_6
    replace h42_7 : vs 7 = undef := h42_7
    replace h42_8 : vs 8 = undef := h42_8
    replace h42_9 : vs 9 = .bool true := h42_9
    replace h42_10 : vs 10 = .bool true := h42_10
    replace h42_11 : vs 11 = .bool true := h42_11
    replace h42_12 : vs 12 = .agg #[.bool b41_4, .slice a41_4 n41_4 c41_4, .slice d41_4 m41_4 o41_4] := h42_12
    replace h42_13 : vs 13 = .agg #[.bool b37_7, .slice a37_7 n37_7 c37_7, .slice d37_7 m37_7 o37_7] := h42_13
    replace h42_14 : vs 14 = .int .i64 e3 := h42_14
    replace h42_15 : vs 15 = .bool true := h42_15
    replace h42_16 : vs 16 = .bool true := h42_16
    replace h42_17 : vs 17 = .bool true := h42_17
    replace h42_18 : vs 18 = .agg #[.bool b41_4, .slice a41_4 n41_4 c41_4, .slice d41_4 m41_4 o41_4] := h42_18
    replace h42_19 : vs 19 = .agg #[.bool b37_7, .slice a37_7 n37_7 c37_7, .slice d37_7 m37_7 o37_7] := h42_19
    replace h42_20 : vs 20 = .bool true := h42_20
    replace h42_21 : vs 21 = .bool false := h42_21
    replace h42_22 : vs 22 = .bool false := h42_22
    replace h42_23 : vs 23 = .bool true := h42_23
    replace h42_24 : vs 24 = .bool true := h42_24
    replace h42_25 : vs 25 = .bool true := h42_25
    replace h42_26 : vs 26 = .bool true := h42_26
    simp only [h42_0, h42_1, h42_2, h42_3, h42_4, h42_5, h42_6, h42_7, h42_8, h42_9, h42_10, h42_11, h42_12, h42_13, h42_14, h42_15, h42_16, h42_17, h42_18, h42_19, h42_20, h42_21, h42_22, h42_23, h42_24, h42_25, h42_26]
    clear h42_0 h42_1 h42_2 h42_3 h42_4 h42_5 h42_6 h42_7 h42_8 h42_9 h42_10 h42_11 h42_12 h42_13 h42_14 h42_15 h42_16 h42_17 h42_18 h42_19 h42_20 h42_21 h42_22 h42_23 h42_24 h42_25 h42_26
    obtain ⟨kp2_0, kp2_1, kp2_2⟩ := p2.c3
    obtain ⟨kp31_7_0, kp31_7_1⟩ := p31_7.c2
    obtain ⟨kp32_7_0, kp32_7_1⟩ := p32_7.c2
    obtain ⟨kp33_7_0, kp33_7_1⟩ := p33_7.c2
    obtain ⟨kp34_7_0, kp34_7_1, kp34_7_2⟩ := p34_7.c3
    obtain ⟨kp35_7_0, kp35_7_1, kp35_7_2⟩ := p35_7.c3
    obtain ⟨kp36_7_0, kp36_7_1, kp36_7_2⟩ := p36_7.c3
    obtain ⟨kp37_7_0, kp37_7_1, kp37_7_2⟩ := p37_7.c3
    obtain ⟨kp40_5_0, kp40_5_1, kp40_5_2⟩ := p40_5.c3
    obtain ⟨kp41_4_0, kp41_4_1, kp41_4_2⟩ := p41_4.c3
    go_wp2; go_ret
    exact ⟨rfl, E0⟩
   ·have HTW := Lib.hid htw
    clear htw; have ltp41_4 := p41_4.lt; have szw43 := Ext.size E0
    refine region_gs [.one fun v _ => v = .bool true,
      .one fun v _ => v = .bool true,
      .one fun v _ => v = .agg #[.bool b33_7, .slice (some ⟨B, o, none⟩) n33_7 c33_7],
      .one fun v _ => v = .agg #[.bool b31_7, .slice a31_7 n31_7 c31_7],
      .one fun v _ => v = .bool true,
      .one fun v _ => v = .bool true,
      .one fun v _ => v = undef,
      .one fun v _ => v = undef,
      .one fun v _ => v = undef,
      .one fun v _ => v = .bool true,
      .one fun v _ => v = .bool true,
      .one fun v _ => v = .bool true,
      .one fun v _ => v = .agg #[.bool b41_4, .slice a41_4 n41_4 c41_4, .slice d41_4 m41_4 o41_4],
      .one fun v _ => v = .agg #[.bool b37_7, .slice a37_7 n37_7 c37_7, .slice d37_7 m37_7 o37_7],
      .one fun v _ => v = .int .i64 e3,
      .one fun v _ => v = .bool true,
      .one fun v _ => v = .bool true,
      .one fun v _ => v = .bool true,
      .one fun v _ => v = .agg #[.bool b41_4, .slice a41_4 n41_4 c41_4, .slice d41_4 m41_4 o41_4],
      .one fun v _ => v = .agg #[.bool b37_7, .slice a37_7 n37_7 c37_7, .slice d37_7 m37_7 o37_7],
      .one fun v _ => v = .bool false,
      .one fun v _ => v = .bool true,
      .one fun v _ => v = .bool true,
      .one fun v _ => v = undef,
      .one fun v _ => v = .bool true,
      .one fun v _ => v = .bool true,
      .one fun v _ => v = .bool true]
     (fun W => Ext w W ∧ Rw W (.agg #[.bool b1, .slice a1 n1 c1, .slice d1 m1 o1]) x ∧ Bx3 W w.heap.size 27 (.bool b1) (.slice a1 n1 c1) (.slice d1 m1 o1) ∧ Zw W (.agg #[.bool b31_7, .slice a31_7 n31_7 c31_7]) F ∧ Bx2 W g31_7 25 (.bool b31_7) (.slice a31_7 n31_7 c31_7) ∧ Zw W (.agg #[.bool b32_7, .slice a32_7 n32_7 c32_7]) C ∧ Bx2 W g32_7 25 (.bool b32_7) (.slice a32_7 n32_7 c32_7) ∧ Zw W (.agg #[.bool b33_7, .slice (some ⟨B, o, none⟩) n33_7 c33_7]) M ∧ Bx2 W g33_7 25 (.bool b33_7) (.slice (some ⟨B, o, none⟩) n33_7 c33_7) ∧ Rw W (.agg #[.bool b34_7, .slice a34_7 n34_7 c34_7, .slice d34_7 m34_7 o34_7]) X ∧ Bx3 W g34_7 27 (.bool b34_7) (.slice a34_7 n34_7 c34_7) (.slice d34_7 m34_7 o34_7) ∧ Rw W (.agg #[.bool b35_7, .slice a35_7 n35_7 c35_7, .slice d35_7 m35_7 o35_7]) Y ∧ Bx3 W g35_7 27 (.bool b35_7) (.slice a35_7 n35_7 c35_7) (.slice d35_7 m35_7 o35_7) ∧ Rw W (.agg #[.bool b36_7, .slice a36_7 n36_7 c36_7, .slice d36_7 m36_7 o36_7]) Z ∧ Bx3 W g36_7 27 (.bool b36_7) (.slice a36_7 n36_7 c36_7) (.slice d36_7 m36_7 o36_7) ∧ Rw W (.agg #[.bool b37_7, .slice a37_7 n37_7 c37_7, .slice d37_7 m37_7 o37_7]) S ∧ Bx3 W g37_7 27 (.bool b37_7) (.slice a37_7 n37_7 c37_7) (.slice d37_7 m37_7 o37_7) ∧ Zw W u37_0 1 ∧ Rw W (.agg #[.bool b40_5, .slice a40_5 n40_5 c40_5, .slice d40_5 m40_5 o40_5]) D ∧ Bx3 W g40_5 27 (.bool b40_5) (.slice a40_5 n40_5 c40_5) (.slice d40_5 m40_5 o40_5) ∧ Rw W u40_2 (Z - x) ∧ Rw W (.agg #[.bool b41_4, .slice a41_4 n41_4 c41_4, .slice d41_4 m41_4 o41_4]) (D + D) ∧ Bx3 W g41_4 27 (.bool b41_4) (.slice a41_4 n41_4 c41_4) (.slice d41_4 m41_4 o41_4) ∧ W41.heap.size ≤ W.heap.size) ⟨Good.is _, Good.is _, Good.is _, Good.is _, Good.is _, Good.is _, Good.is _, Good.is _, Good.is _, Good.is _, Good.is _, Good.is _, Good.is _, Good.is _, Good.is _, Good.is _, Good.is _, Good.is _, Good.is _, Good.is _, Good.is _, Good.is _, Good.is _, Good.is _, Good.is _, Good.is _, Good.is _, trivial⟩
     ⟨E0, hx1, p2, h31_4, p31_7, h32_4, p32_7, h33_4, p33_7, h34_4, p34_7, h35_4, p35_7, h36_4, p36_7, h37_4, p37_7, h37_0, h40_3, p40_5, h40_2, h41_2, p41_4, Nat.le_refl _⟩ (A := ?A43) ?hA43 ?howe43 ?hfin43
    case hA43 =>
     intro vs
     simp only [putAll, Act.put, sA, sZ, sS, Nat.zero_add, Nat.reduceAdd]
     exact rfl
    case howe43 =>
     clear E0 hx1 p2 h31_4 p31_7 h32_4 p32_7 h33_4 p33_7 h34_4 p34_7 h35_4 p35_7 h36_4 p36_7 h37_4 p37_7 h37_0 h40_3 p40_5 h40_2 h41_2 p41_4
     intro hf
     refine ⟨oE 0 [] hf rfl ?_, oE 1 [0] hf rfl ?_, oE 2 [1] hf rfl ?_, oE 3 [1] hf rfl ?_, oE 4 [1, 2, 3] hf rfl ?_, oE 5 [1, 4] hf rfl ?_, oE 6 [5] hf rfl ?_, oE 7 [5] hf rfl ?_, oE 8 [5] hf rfl ?_, oE 9 [1, 5, 8] hf rfl ?_, oE 10 [1, 9] hf rfl ?_, oE 11 [10] hf rfl ?_, oE 12 [11] hf rfl ?_, oE 13 [11] hf rfl ?_, oE 14 [11, 12, 13] hf rfl ?_, oE 15 [11, 14] hf rfl ?_, oE 16 [11, 15] hf rfl ?_, oE 17 [16] hf rfl ?_, oE 18 [17] hf rfl ?_, oE 19 [17] hf rfl ?_, oE 20 [17, 18, 19] hf rfl ?_, oE 21 [17, 20] hf rfl ?_, oE 22 [17, 21] hf rfl ?_, oE 23 [22] hf rfl ?_, oE 24 [17, 22, 23] hf rfl ?_, oE 25 [17, 24] hf rfl ?_, oE 26 [25] hf rfl ?_, trivial⟩
     all_goals intro vs W hS hp hx KO hKO
     all_goals simp only [Act.put, sA, sZ, sS] at hKO
     ·go_simp
      refine (Try.alive06 _).mono ?_
      rintro e W1 ⟨rfl, hE⟩
      exact hKO _ W1 hE rfl
     ·have e0 := isOf hp.1; simp only [e0] at hKO; go_simp; exact hKO _ W (.refl W) rfl
     ·have e1 := isOf hp.1; simp only [e1] at hKO; have fc0 := hS.2.2.2.2.2.2.2.2.1.cell0; have fc1 := hS.2.2.2.2.2.2.2.2.1.cell1; go_simp; exact hKO _ W (.refl W) rfl
     ·have e1 := isOf hp.1; simp only [e1] at hKO; have fc0 := hS.2.2.2.2.1.cell0; have fc1 := hS.2.2.2.2.1.cell1; go_simp; exact hKO _ W (.refl W) rfl
     ·have e1 := isOf hp.1; have e2 := isOf hp.2.1; have e3 := isOf hp.2.2.1; simp only [e1, e2, e3] at hKO; go_simp
      refine (Try.refZSameD (hS.2.2.2.2.2.2.2.1) (hS.2.2.2.1) HMF.out).mono ?_
      rintro e W1 ⟨rfl, hE⟩
      exact hKO _ W1 hE rfl
     ·have e1 := isOf hp.1; have e4 := isOf hp.2.1; simp only [e1, e4] at hKO; go_simp; exact hKO _ W (.refl W) rfl
     ·have e5 := isOf hp.1; simp only [e5] at hKO; go_simp; exact hKO _ W (.refl W) rfl
     ·have e5 := isOf hp.1; simp only [e5] at hKO; go_simp; exact hKO _ W (.refl W) rfl
     ·have e5 := isOf hp.1; simp only [e5] at hKO; go_simp; exact hKO _ W (.refl W) rfl
     ·have e1 := isOf hp.1; have e5 := isOf hp.2.1; have e8 := isOf hp.2.2.1; simp only [e1, e5, e8] at hKO; go_simp; exact hKO _ W (.refl W) rfl
     ·have e1 := isOf hp.1; have e9 := isOf hp.2.1; simp only [e1, e9] at hKO; go_simp; exact hKO _ W (.refl W) rfl
     ·have e10 := isOf hp.1; simp only [e10] at hKO; go_simp; exact hKO _ W (.refl W) rfl
     ·have e11 := isOf hp.1; simp only [e11] at hKO; have fc0 := hS.2.2.2.2.2.2.2.2.2.2.2.2.2.2.2.2.2.2.2.2.2.2.1.cell0; have fc1 := hS.2.2.2.2.2.2.2.2.2.2.2.2.2.2.2.2.2.2.2.2.2.2.1.cell1; have fc2 := hS.2.2.2.2.2.2.2.2.2.2.2.2.2.2.2.2.2.2.2.2.2.2.1.cell2; go_simp; exact hKO _ W (.refl W) rfl
     ·have e11 := isOf hp.1; simp only [e11] at hKO; have fc0 := hS.2.2.2.2.2.2.2.2.2.2.2.2.2.2.2.2.1.cell0; have fc1 := hS.2.2.2.2.2.2.2.2.2.2.2.2.2.2.2.2.1.cell1; have fc2 := hS.2.2.2.2.2.2.2.2.2.2.2.2.2.2.2.2.1.cell2; go_simp; exact hKO _ W (.refl W) rfl
     ·have e11 := isOf hp.1; have e12 := isOf hp.2.1; have e13 := isOf hp.2.2.1; simp only [e11, e12, e13] at hKO; go_simp
      refine (Try.refRCmpR (hS.2.2.2.2.2.2.2.2.2.2.2.2.2.2.2.2.2.2.2.2.2.1) (hS.2.2.2.2.2.2.2.2.2.2.2.2.2.2.2.1) SDD.out SS.out (by omega) HC3.out).mono ?_
      rintro e W1 ⟨rfl, hE⟩
      exact hKO _ W1 hE rfl
     ·have e11 := isOf hp.1; have e14 := isOf hp.2.1; simp only [e11, e14] at hKO; go_simp; exact hKO _ W (.refl W) rfl
     ·have e11 := isOf hp.1; have e15 := isOf hp.2.1; simp only [e11, e15] at hKO; go_simp; exact hKO _ W (.refl W) rfl
     ·have e16 := isOf hp.1; simp only [e16] at hKO; go_simp; exact hKO _ W (.refl W) rfl
     ·have e17 := isOf hp.1; simp only [e17] at hKO; have fc0 := hS.2.2.2.2.2.2.2.2.2.2.2.2.2.2.2.2.2.2.2.2.2.2.1.cell0; have fc1 := hS.2.2.2.2.2.2.2.2.2.2.2.2.2.2.2.2.2.2.2.2.2.2.1.cell1; have fc2 := hS.2.2.2.2.2.2.2.2.2.2.2.2.2.2.2.2.2.2.2.2.2.2.1.cell2; go_simp; exact hKO _ W (.refl W) rfl
     ·have e17 := isOf hp.1; simp only [e17] at hKO; have fc0 := hS.2.2.2.2.2.2.2.2.2.2.2.2.2.2.2.2.1.cell0; have fc1 := hS.2.2.2.2.2.2.2.2.2.2.2.2.2.2.2.2.1.cell1; have fc2 := hS.2.2.2.2.2.2.2.2.2.2.2.2.2.2.2.2.1.cell2; go_simp; exact hKO _ W (.refl W) rfl
     ·have e17 := isOf hp.1; have e18 := isOf hp.2.1; have e19 := isOf hp.2.2.1; simp only [e17, e18, e19] at hKO; go_simp
      refine (Try.refRSameF6 (hS.2.2.2.2.2.2.2.2.2.2.2.2.2.2.2.2.2.2.2.2.2.1) (hS.2.2.2.2.2.2.2.2.2.2.2.2.2.2.2.1) HTW.out).mono ?_
      rintro e W1 ⟨rfl, hE⟩
      exact hKO _ W1 hE rfl
     ·have e17 := isOf hp.1; have e20 := isOf hp.2.1; simp only [e17, e20] at hKO; go_simp; exact hKO _ W (.refl W) rfl
     ·have e17 := isOf hp.1; have e21 := isOf hp.2.1; simp only [e17, e21] at hKO; go_simp; exact hKO _ W (.refl W) rfl
     ·have e22 := isOf hp.1; simp only [e22] at hKO; go_simp; exact hKO _ W (.refl W) rfl
     ·have e17 := isOf hp.1; have e22 := isOf hp.2.1; have e23 := isOf hp.2.2.1; simp only [e17, e22, e23] at hKO; go_simp; exact hKO _ W (.refl W) rfl
     ·have e17 := isOf hp.1; have e24 := isOf hp.2.1; simp only [e17, e24] at hKO; go_simp; exact hKO _ W (.refl W) rfl
     ·have e25 := isOf hp.1; simp only [e25] at hKO; go_simp; exact hKO _ W (.refl W) rfl
    intro vs W43 hS hp
    clear szw43 E0 hx1 p2 h31_4 p31_7 h32_4 p32_7 h33_4 p33_7 h34_4 p34_7 h35_4 p35_7 h36_4 p36_7 h37_4 p37_7 h37_0 h40_3 p40_5 h40_2 h41_2 p41_4
    obtain ⟨E0, hx1, p2, h31_4, p31_7, h32_4, p32_7, h33_4, p33_7, h34_4, p34_7, h35_4, p35_7, h36_4, p36_7, h37_4, p37_7, h37_0, h40_3, p40_5, h40_2, h41_2, p41_4, sz43⟩ := hS
    obtain ⟨h43_0, h43_1, h43_2, h43_3, h43_4, h43_5, h43_6, h43_7, h43_8, h43_9, h43_10, h43_11, h43_12, h43_13, h43_14, h43_15, h43_16, h43_17, h43_18, h43_19, h43_20, h43_21, h43_22, h43_23, h43_24, h43_25, h43_26, -⟩ := hp
    replace h43_0 : vs 0 = .bool true := h43_0
    replace h43_1 : vs 1 = .bool true := h43_1
    replace h43_2 : vs 2 = .agg #[.bool b33_7, .slice (some ⟨B, o, none⟩) n33_7 c33_7] := h43_2
    replace h43_3 : vs 3 = .agg #[.bool b31_7, .slice a31_7 n31_7 c31_7] := h43_3
    replace h43_4 : vs 4 = .bool true := h43_4
    replace h43_5 : vs 5 = .bool true := h43_5
    replace h43_6 : vs 6 = undef := h43_6
    replace h43_7 : vs 7 = undef := h43_7
    replace h43_8 : vs 8 = undef := h43_8
    replace h43_9 : vs 9 = .bool true := h43_9
    replace h43_10 : vs 10 = .bool true := h43_10
    replace h43_11 : vs 11 = .bool true := h43_11
    replace h43_12 : vs 12 = .agg #[.bool b41_4, .slice a41_4 n41_4 c41_4, .slice d41_4 m41_4 o41_4] := h43_12
    replace h43_13 : vs 13 = .agg #[.bool b37_7, .slice a37_7 n37_7 c37_7, .slice d37_7 m37_7 o37_7] := h43_13
    replace h43_14 : vs 14 = .int .i64 e3 := h43_14
    replace h43_15 : vs 15 = .bool true := h43_15
    replace h43_16 : vs 16 = .bool true := h43_16
    replace h43_17 : vs 17 = .bool true := h43_17
    replace h43_18 : vs 18 = .agg #[.bool b41_4, .slice a41_4 n41_4 c41_4, .slice d41_4 m41_4 o41_4] := h43_18
    replace h43_19 : vs 19 = .agg #[.bool b37_7, .slice a37_7 n37_7 c37_7, .slice d37_7 m37_7 o37_7] := h43_19
    replace h43_20 : vs 20 = .bool false := h43_20
    replace h43_21 : vs 21 = .bool true := h43_21
    replace h43_22 : vs 22 = .bool true := h43_22
    replace h43_23 : vs 23 = undef := h43_23
    replace h43_24 : vs 24 = .bool true := h43_24
    replace h43_25 : vs 25 = .bool true := h43_25
    replace h43_26 : vs 26 = .bool true := h43_26
    simp only [h43_0, h43_1, h43_2, h43_3, h43_4, h43_5, h43_6, h43_7, h43_8, h43_9, h43_10, h43_11, h43_12, h43_13, h43_14, h43_15, h43_16, h43_17, h43_18, h43_19, h43_20, h43_21, h43_22, h43_23, h43_24, h43_25, h43_26]
    clear h43_0 h43_1 h43_2 h43_3 h43_4 h43_5 h43_6 h43_7 h43_8 h43_9 h43_10 h43_11 h43_12 h43_13 h43_14 h43_15 h43_16 h43_17 h43_18 h43_19 h43_20 h43_21 h43_22 h43_23 h43_24 h43_25 h43_26
    obtain ⟨kp2_0, kp2_1, kp2_2⟩ := p2.c3
    obtain ⟨kp31_7_0, kp31_7_1⟩ := p31_7.c2
    obtain ⟨kp32_7_0, kp32_7_1⟩ := p32_7.c2
    obtain ⟨kp33_7_0, kp33_7_1⟩ := p33_7.c2
    obtain ⟨kp34_7_0, kp34_7_1, kp34_7_2⟩ := p34_7.c3
    obtain ⟨kp35_7_0, kp35_7_1, kp35_7_2⟩ := p35_7.c3
    obtain ⟨kp36_7_0, kp36_7_1, kp36_7_2⟩ := p36_7.c3
    obtain ⟨kp37_7_0, kp37_7_1, kp37_7_2⟩ := p37_7.c3
    obtain ⟨kp40_5_0, kp40_5_1, kp40_5_2⟩ := p40_5.c3
    obtain ⟨kp41_4_0, kp41_4_1, kp41_4_2⟩ := p41_4.c3
    go_wp2; go_ret
    exact ⟨rfl, E0⟩
  ·have HTW : Hid (D + D ≠ S) := Lib.hid (fun h => by have := HEV.out h; omega)
   have hpr : (((l : Int) % 2) == 0) = false := by simp; omega
   clear hz0 hp hl hev2 hm hn0
   obtain ⟨kp2_0, kp2_1, kp2_2⟩ := p2.c3
   obtain ⟨kp31_7_0, kp31_7_1⟩ := p31_7.c2
   obtain ⟨kp32_7_0, kp32_7_1⟩ := p32_7.c2
   obtain ⟨kp33_7_0, kp33_7_1⟩ := p33_7.c2
   obtain ⟨kp34_7_0, kp34_7_1, kp34_7_2⟩ := p34_7.c3
   obtain ⟨kp35_7_0, kp35_7_1, kp35_7_2⟩ := p35_7.c3
   obtain ⟨kp36_7_0, kp36_7_1, kp36_7_2⟩ := p36_7.c3
   obtain ⟨kp37_7_0, kp37_7_1, kp37_7_2⟩ := p37_7.c3
   obtain ⟨kp40_5_0, kp40_5_1, kp40_5_2⟩ := p40_5.c3
   obtain ⟨kp41_4_0, kp41_4_1, kp41_4_2⟩ := p41_4.c3
   go_upto_region 18 with (fail)
   clear kp2_0 kp2_1 kp2_2 kp31_7_0 kp31_7_1 kp32_7_0 kp32_7_1 kp33_7_0 kp33_7_1 kp34_7_0 kp34_7_1 kp34_7_2 kp35_7_0 kp35_7_1 kp35_7_2 kp36_7_0 kp36_7_1 kp36_7_2 kp37_7_0 kp37_7_1 kp37_7_2 kp40_5_0 kp40_5_1 kp40_5_2 kp41_4_0 kp41_4_1 kp41_4_2; have ltp41_4 := p41_4.lt; have szw44 := Ext.size E0
   refine region_gs [.one fun v _ => v = .bool true,
     .one fun v _ => v = .bool true,
     .one fun v _ => v = .agg #[.bool b33_7, .slice (some ⟨B, o, none⟩) n33_7 c33_7],
     .one fun v _ => v = .agg #[.bool b31_7, .slice a31_7 n31_7 c31_7],
     .one fun v _ => v = .bool true,
     .one fun v _ => v = .bool true,
     .one fun v _ => v = undef,
     .one fun v _ => v = undef,
     .one fun v _ => v = undef,
     .one fun v _ => v = .bool true,
     .one fun v _ => v = .bool true,
     .one fun v _ => v = .bool true,
     .one fun v _ => v = .agg #[.bool b41_4, .slice a41_4 n41_4 c41_4, .slice d41_4 m41_4 o41_4],
     .one fun v _ => v = .agg #[.bool b37_7, .slice a37_7 n37_7 c37_7, .slice d37_7 m37_7 o37_7],
     .one fun v _ => v = .int .i64 e3,
     .one fun v _ => v = .bool true,
     .one fun v _ => v = .bool true,
     .one fun v _ => v = .bool true,
     .one fun v _ => v = .agg #[.bool b41_4, .slice a41_4 n41_4 c41_4, .slice d41_4 m41_4 o41_4],
     .one fun v _ => v = .agg #[.bool b37_7, .slice a37_7 n37_7 c37_7, .slice d37_7 m37_7 o37_7],
     .one fun v _ => v = .bool false,
     .one fun v _ => v = .bool true,
     .one fun v _ => v = .bool true,
     .one fun v _ => v = undef,
     .one fun v _ => v = .bool true,
     .one fun v _ => v = .bool true,
     .one fun v _ => v = .bool true]
    (fun W => Ext w W ∧ Rw W (.agg #[.bool b1, .slice a1 n1 c1, .slice d1 m1 o1]) x ∧ Bx3 W w.heap.size 27 (.bool b1) (.slice a1 n1 c1) (.slice d1 m1 o1) ∧ Zw W (.agg #[.bool b31_7, .slice a31_7 n31_7 c31_7]) F ∧ Bx2 W g31_7 25 (.bool b31_7) (.slice a31_7 n31_7 c31_7) ∧ Zw W (.agg #[.bool b32_7, .slice a32_7 n32_7 c32_7]) C ∧ Bx2 W g32_7 25 (.bool b32_7) (.slice a32_7 n32_7 c32_7) ∧ Zw W (.agg #[.bool b33_7, .slice (some ⟨B, o, none⟩) n33_7 c33_7]) M ∧ Bx2 W g33_7 25 (.bool b33_7) (.slice (some ⟨B, o, none⟩) n33_7 c33_7) ∧ Rw W (.agg #[.bool b34_7, .slice a34_7 n34_7 c34_7, .slice d34_7 m34_7 o34_7]) X ∧ Bx3 W g34_7 27 (.bool b34_7) (.slice a34_7 n34_7 c34_7) (.slice d34_7 m34_7 o34_7) ∧ Rw W (.agg #[.bool b35_7, .slice a35_7 n35_7 c35_7, .slice d35_7 m35_7 o35_7]) Y ∧ Bx3 W g35_7 27 (.bool b35_7) (.slice a35_7 n35_7 c35_7) (.slice d35_7 m35_7 o35_7) ∧ Rw W (.agg #[.bool b36_7, .slice a36_7 n36_7 c36_7, .slice d36_7 m36_7 o36_7]) Z ∧ Bx3 W g36_7 27 (.bool b36_7) (.slice a36_7 n36_7 c36_7) (.slice d36_7 m36_7 o36_7) ∧ Rw W (.agg #[.bool b37_7, .slice a37_7 n37_7 c37_7, .slice d37_7 m37_7 o37_7]) S ∧ Bx3 W g37_7 27 (.bool b37_7) (.slice a37_7 n37_7 c37_7) (.slice d37_7 m37_7 o37_7) ∧ Zw W u37_0 1 ∧ Rw W (.agg #[.bool b40_5, .slice a40_5 n40_5 c40_5, .slice d40_5 m40_5 o40_5]) D ∧ Bx3 W g40_5 27 (.bool b40_5) (.slice a40_5 n40_5 c40_5) (.slice d40_5 m40_5 o40_5) ∧ Rw W u40_2 (Z - x) ∧ Rw W (.agg #[.bool b41_4, .slice a41_4 n41_4 c41_4, .slice d41_4 m41_4 o41_4]) (D + D) ∧ Bx3 W g41_4 27 (.bool b41_4) (.slice a41_4 n41_4 c41_4) (.slice d41_4 m41_4 o41_4) ∧ W41.heap.size ≤ W.heap.size) ⟨Good.is _, Good.is _, Good.is _, Good.is _, Good.is _, Good.is _, Good.is _, Good.is _, Good.is _, Good.is _, Good.is _, Good.is _, Good.is _, Good.is _, Good.is _, Good.is _, Good.is _, Good.is _, Good.is _, Good.is _, Good.is _, Good.is _, Good.is _, Good.is _, Good.is _, Good.is _, Good.is _, trivial⟩
    ⟨E0, hx1, p2, h31_4, p31_7, h32_4, p32_7, h33_4, p33_7, h34_4, p34_7, h35_4, p35_7, h36_4, p36_7, h37_4, p37_7, h37_0, h40_3, p40_5, h40_2, h41_2, p41_4, Nat.le_refl _⟩ (A := ?A44) ?hA44 ?howe44 ?hfin44
   case hA44 =>
    intro vs
    simp only [putAll, Act.put, sA, sZ, sS, Nat.zero_add, Nat.reduceAdd]
    exact rfl
   case howe44 =>
    clear E0 hx1 p2 h31_4 p31_7 h32_4 p32_7 h33_4 p33_7 h34_4 p34_7 h35_4 p35_7 h36_4 p36_7 h37_4 p37_7 h37_0 h40_3 p40_5 h40_2 h41_2 p41_4
    intro hf
    refine ⟨oE 0 [] hf rfl ?_, oE 1 [0] hf rfl ?_, oE 2 [1] hf rfl ?_, oE 3 [1] hf rfl ?_, oE 4 [1, 2, 3] hf rfl ?_, oE 5 [1, 4] hf rfl ?_, oE 6 [5] hf rfl ?_, oE 7 [5] hf rfl ?_, oE 8 [5] hf rfl ?_, oE 9 [1, 5, 8] hf rfl ?_, oE 10 [1, 9] hf rfl ?_, oE 11 [10] hf rfl ?_, oE 12 [11] hf rfl ?_, oE 13 [11] hf rfl ?_, oE 14 [11, 12, 13] hf rfl ?_, oE 15 [11, 14] hf rfl ?_, oE 16 [11, 15] hf rfl ?_, oE 17 [16] hf rfl ?_, oE 18 [17] hf rfl ?_, oE 19 [17] hf rfl ?_, oE 20 [17, 18, 19] hf rfl ?_, oE 21 [17, 20] hf rfl ?_, oE 22 [17, 21] hf rfl ?_, oE 23 [22] hf rfl ?_, oE 24 [17, 22, 23] hf rfl ?_, oE 25 [17, 24] hf rfl ?_, oE 26 [25] hf rfl ?_, trivial⟩
    all_goals intro vs W hS hp hx KO hKO
    all_goals simp only [Act.put, sA, sZ, sS] at hKO
    ·go_simp
     refine (Try.alive06 _).mono ?_
     rintro e W1 ⟨rfl, hE⟩
     exact hKO _ W1 hE rfl
    ·have e0 := isOf hp.1; simp only [e0] at hKO; go_simp; exact hKO _ W (.refl W) rfl
    ·have e1 := isOf hp.1; simp only [e1] at hKO; have fc0 := hS.2.2.2.2.2.2.2.2.1.cell0; have fc1 := hS.2.2.2.2.2.2.2.2.1.cell1; go_simp; exact hKO _ W (.refl W) rfl
    ·have e1 := isOf hp.1; simp only [e1] at hKO; have fc0 := hS.2.2.2.2.1.cell0; have fc1 := hS.2.2.2.2.1.cell1; go_simp; exact hKO _ W (.refl W) rfl
    ·have e1 := isOf hp.1; have e2 := isOf hp.2.1; have e3 := isOf hp.2.2.1; simp only [e1, e2, e3] at hKO; go_simp
     refine (Try.refZSameD (hS.2.2.2.2.2.2.2.1) (hS.2.2.2.1) HMF.out).mono ?_
     rintro e W1 ⟨rfl, hE⟩
     exact hKO _ W1 hE rfl
    ·have e1 := isOf hp.1; have e4 := isOf hp.2.1; simp only [e1, e4] at hKO; go_simp; exact hKO _ W (.refl W) rfl
    ·have e5 := isOf hp.1; simp only [e5] at hKO; go_simp; exact hKO _ W (.refl W) rfl
    ·have e5 := isOf hp.1; simp only [e5] at hKO; go_simp; exact hKO _ W (.refl W) rfl
    ·have e5 := isOf hp.1; simp only [e5] at hKO; go_simp; exact hKO _ W (.refl W) rfl
    ·have e1 := isOf hp.1; have e5 := isOf hp.2.1; have e8 := isOf hp.2.2.1; simp only [e1, e5, e8] at hKO; go_simp; exact hKO _ W (.refl W) rfl
    ·have e1 := isOf hp.1; have e9 := isOf hp.2.1; simp only [e1, e9] at hKO; go_simp; exact hKO _ W (.refl W) rfl
    ·have e10 := isOf hp.1; simp only [e10] at hKO; go_simp; exact hKO _ W (.refl W) rfl
    ·have e11 := isOf hp.1; simp only [e11] at hKO; have fc0 := hS.2.2.2.2.2.2.2.2.2.2.2.2.2.2.2.2.2.2.2.2.2.2.1.cell0; have fc1 := hS.2.2.2.2.2.2.2.2.2.2.2.2.2.2.2.2.2.2.2.2.2.2.1.cell1; have fc2 := hS.2.2.2.2.2.2.2.2.2.2.2.2.2.2.2.2.2.2.2.2.2.2.1.cell2; go_simp; exact hKO _ W (.refl W) rfl
    ·have e11 := isOf hp.1; simp only [e11] at hKO; have fc0 := hS.2.2.2.2.2.2.2.2.2.2.2.2.2.2.2.2.1.cell0; have fc1 := hS.2.2.2.2.2.2.2.2.2.2.2.2.2.2.2.2.1.cell1; have fc2 := hS.2.2.2.2.2.2.2.2.2.2.2.2.2.2.2.2.1.cell2; go_simp; exact hKO _ W (.refl W) rfl
    ·have e11 := isOf hp.1; have e12 := isOf hp.2.1; have e13 := isOf hp.2.2.1; simp only [e11, e12, e13] at hKO; go_simp
     refine (Try.refRCmpR (hS.2.2.2.2.2.2.2.2.2.2.2.2.2.2.2.2.2.2.2.2.2.1) (hS.2.2.2.2.2.2.2.2.2.2.2.2.2.2.2.1) SDD.out SS.out (by omega) HC3.out).mono ?_
     rintro e W1 ⟨rfl, hE⟩
     exact hKO _ W1 hE rfl
    ·have e11 := isOf hp.1; have e14 := isOf hp.2.1; simp only [e11, e14] at hKO; go_simp; exact hKO _ W (.refl W) rfl
    ·have e11 := isOf hp.1; have e15 := isOf hp.2.1; simp only [e11, e15] at hKO; go_simp; exact hKO _ W (.refl W) rfl
    ·have e16 := isOf hp.1; simp only [e16] at hKO; go_simp; exact hKO _ W (.refl W) rfl
    ·have e17 := isOf hp.1; simp only [e17] at hKO; have fc0 := hS.2.2.2.2.2.2.2.2.2.2.2.2.2.2.2.2.2.2.2.2.2.2.1.cell0; have fc1 := hS.2.2.2.2.2.2.2.2.2.2.2.2.2.2.2.2.2.2.2.2.2.2.1.cell1; have fc2 := hS.2.2.2.2.2.2.2.2.2.2.2.2.2.2.2.2.2.2.2.2.2.2.1.cell2; go_simp; exact hKO _ W (.refl W) rfl
    ·have e17 := isOf hp.1; simp only [e17] at hKO; have fc0 := hS.2.2.2.2.2.2.2.2.2.2.2.2.2.2.2.2.1.cell0; have fc1 := hS.2.2.2.2.2.2.2.2.2.2.2.2.2.2.2.2.1.cell1; have fc2 := hS.2.2.2.2.2.2.2.2.2.2.2.2.2.2.2.2.1.cell2; go_simp; exact hKO _ W (.refl W) rfl
    ·have e17 := isOf hp.1; have e18 := isOf hp.2.1; have e19 := isOf hp.2.2.1; simp only [e17, e18, e19] at hKO; go_simp
     refine (Try.refRSameF6 (hS.2.2.2.2.2.2.2.2.2.2.2.2.2.2.2.2.2.2.2.2.2.1) (hS.2.2.2.2.2.2.2.2.2.2.2.2.2.2.2.1) HTW.out).mono ?_
     rintro e W1 ⟨rfl, hE⟩
     exact hKO _ W1 hE rfl
    ·have e17 := isOf hp.1; have e20 := isOf hp.2.1; simp only [e17, e20] at hKO; go_simp; exact hKO _ W (.refl W) rfl
    ·have e17 := isOf hp.1; have e21 := isOf hp.2.1; simp only [e17, e21] at hKO; go_simp; exact hKO _ W (.refl W) rfl
    ·have e22 := isOf hp.1; simp only [e22] at hKO; go_simp; exact hKO _ W (.refl W) rfl
    ·have e17 := isOf hp.1; have e22 := isOf hp.2.1; have e23 := isOf hp.2.2.1; simp only [e17, e22, e23] at hKO; go_simp; exact hKO _ W (.refl W) rfl
    ·have e17 := isOf hp.1; have e24 := isOf hp.2.1; simp only [e17, e24] at hKO; go_simp; exact hKO _ W (.refl W) rfl
    ·have e25 := isOf hp.1; simp only [e25] at hKO; go_simp; exact hKO _ W (.refl W) rfl
   intro vs W44 hS hp
   clear szw44 E0 hx1 p2 h31_4 p31_7 h32_4 p32_7 h33_4 p33_7 h34_4 p34_7 h35_4 p35_7 h36_4 p36_7 h37_4 p37_7 h37_0 h40_3 p40_5 h40_2 h41_2 p41_4
   obtain ⟨E0, hx1, p2, h31_4, p31_7, h32_4, p32_7, h33_4, p33_7, h34_4, p34_7, h35_4, p35_7, h36_4, p36_7, h37_4, p37_7, h37_0, h40_3, p40_5, h40_2, h41_2, p41_4, sz44⟩ := hS
   obtain ⟨h44_0, h44_1, h44_2, h44_3, h44_4, h44_5, h44_6, h44_7, h44_8, h44_9, h44_10, h44_11, h44_12, h44_13, h44_14, h44_15, h44_16, h44_17, h44_18, h44_19, h44_20, h44_21, h44_22, h44_23, h44_24, h44_25, h44_26, -⟩ := hp
   replace h44_0 : vs 0 = .bool true := h44_0
   replace h44_1 : vs 1 = .bool true := h44_1
   replace h44_2 : vs 2 = .agg #[.bool b33_7, .slice (some ⟨B, o, none⟩) n33_7 c33_7] := h44_2
   replace h44_3 : vs 3 = .agg #[.bool b31_7, .slice a31_7 n31_7 c31_7] := h44_3
   replace h44_4 : vs 4 = .bool true := h44_4
   replace h44_5 : vs 5 = .bool true := h44_5
   replace h44_6 : vs 6 = undef := h44_6
   replace h44_7 : vs 7 = undef := h44_7
   replace h44_8 : vs 8 = undef := h44_8
   replace h44_9 : vs 9 = .bool true := h44_9
   replace h44_10 : vs 10 = .bool true := h44_10
   replace h44_11 : vs 11 = .bool true := h44_11
   replace h44_12 : vs 12 = .agg #[.bool b41_4, .slice a41_4 n41_4 c41_4, .slice d41_4 m41_4 o41_4] := h44_12
   replace h44_13 : vs 13 = .agg #[.bool b37_7, .slice a37_7 n37_7 c37_7, .slice d37_7 m37_7 o37_7] := h44_13
   replace h44_14 : vs 14 = .int .i64 e3 := h44_14
   replace h44_15 : vs 15 = .bool true := h44_15
   replace h44_16 : vs 16 = .bool true := h44_16
   replace h44_17 : vs 17 = .bool true := h44_17
   replace h44_18 : vs 18 = .agg #[.bool b41_4, .slice a41_4 n41_4 c41_4, .slice d41_4 m41_4 o41_4] := h44_18
   replace h44_19 : vs 19 = .agg #[.bool b37_7, .slice a37_7 n37_7 c37_7, .slice d37_7 m37_7 o37_7] := h44_19
   replace h44_20 : vs 20 = .bool false := h44_20
   replace h44_21 : vs 21 = .bool true := h44_21
   replace h44_22 : vs 22 = .bool true := h44_22
   replace h44_23 : vs 23 = undef := h44_23
   replace h44_24 : vs 24 = .bool true := h44_24
   replace h44_25 : vs 25 = .bool true := h44_25
   replace h44_26 : vs 26 = .bool true := h44_26
   simp only [h44_0, h44_1, h44_2, h44_3, h44_4, h44_5, h44_6, h44_7, h44_8, h44_9, h44_10, h44_11, h44_12, h44_13, h44_14, h44_15, h44_16, h44_17, h44_18, h44_19, h44_20, h44_21, h44_22, h44_23, h44_24, h44_25, h44_26]
   clear h44_0 h44_1 h44_2 h44_3 h44_4 h44_5 h44_6 h44_7 h44_8 h44_9 h44_10 h44_11 h44_12 h44_13 h44_14 h44_15 h44_16 h44_17 h44_18 h44_19 h44_20 h44_21 h44_22 h44_23 h44_24 h44_25 h44_26
   obtain ⟨kp2_0, kp2_1, kp2_2⟩ := p2.c3
   obtain ⟨kp31_7_0, kp31_7_1⟩ := p31_7.c2
   obtain ⟨kp32_7_0, kp32_7_1⟩ := p32_7.c2
   obtain ⟨kp33_7_0, kp33_7_1⟩ := p33_7.c2
   obtain ⟨kp34_7_0, kp34_7_1, kp34_7_2⟩ := p34_7.c3
   obtain ⟨kp35_7_0, kp35_7_1, kp35_7_2⟩ := p35_7.c3
   obtain ⟨kp36_7_0, kp36_7_1, kp36_7_2⟩ := p36_7.c3
   obtain ⟨kp37_7_0, kp37_7_1, kp37_7_2⟩ := p37_7.c3
   obtain ⟨kp40_5_0, kp40_5_1, kp40_5_2⟩ := p40_5.c3
   obtain ⟨kp41_4_0, kp41_4_1, kp41_4_2⟩ := p41_4.c3
   go_wp2; go_ret
   exact ⟨rfl, E0⟩
 ·have hnz : n33_7 = 0 := by omega
  have hnb : ((n33_7 : Int) == 0) = true := by simp [hnz]
  have hnc : ((n33_7 : Int) = 0) := by omega
  have hn0I : ¬ (0 : Int) < (n33_7 : Int) := by omega
  clear hz0 hm hnz
  obtain ⟨kp2_0, kp2_1, kp2_2⟩ := p2.c3
  obtain ⟨kp31_7_0, kp31_7_1⟩ := p31_7.c2
  obtain ⟨kp32_7_0, kp32_7_1⟩ := p32_7.c2
  obtain ⟨kp33_7_0, kp33_7_1⟩ := p33_7.c2
  obtain ⟨kp34_7_0, kp34_7_1, kp34_7_2⟩ := p34_7.c3
  obtain ⟨kp35_7_0, kp35_7_1, kp35_7_2⟩ := p35_7.c3
  obtain ⟨kp36_7_0, kp36_7_1, kp36_7_2⟩ := p36_7.c3
  obtain ⟨kp37_7_0, kp37_7_1, kp37_7_2⟩ := p37_7.c3
  obtain ⟨kp40_5_0, kp40_5_1, kp40_5_2⟩ := p40_5.c3
  obtain ⟨kp41_4_0, kp41_4_1, kp41_4_2⟩ := p41_4.c3
  go_upto_region 18 with (fail)
  clear kp2_0 kp2_1 kp2_2 kp31_7_0 kp31_7_1 kp32_7_0 kp32_7_1 kp33_7_0 kp33_7_1 kp34_7_0 kp34_7_1 kp34_7_2 kp35_7_0 kp35_7_1 kp35_7_2 kp36_7_0 kp36_7_1 kp36_7_2 kp37_7_0 kp37_7_1 kp37_7_2 kp40_5_0 kp40_5_1 kp40_5_2 kp41_4_0 kp41_4_1 kp41_4_2
  by_cases htw : D + D = S
  ·have HTW := Lib.hid htw
   clear htw; have ltp41_4 := p41_4.lt; have szw45 := Ext.size E0
   refine region_gs [.one fun v _ => v = .bool true,
     .one fun v _ => v = .bool true,
     .one fun v _ => v = .agg #[.bool b33_7, .slice a33_7 n33_7 c33_7],
     .one fun v _ => v = .agg #[.bool b31_7, .slice a31_7 n31_7 c31_7],
     .one fun v _ => v = .bool true,
     .one fun v _ => v = .bool true,
     .one fun v _ => v = undef,
     .one fun v _ => v = undef,
     .one fun v _ => v = undef,
     .one fun v _ => v = .bool true,
     .one fun v _ => v = .bool true,
     .one fun v _ => v = .bool true,
     .one fun v _ => v = .agg #[.bool b41_4, .slice a41_4 n41_4 c41_4, .slice d41_4 m41_4 o41_4],
     .one fun v _ => v = .agg #[.bool b37_7, .slice a37_7 n37_7 c37_7, .slice d37_7 m37_7 o37_7],
     .one fun v _ => v = .int .i64 e3,
     .one fun v _ => v = .bool true,
     .one fun v _ => v = .bool true,
     .one fun v _ => v = .bool true,
     .one fun v _ => v = .agg #[.bool b41_4, .slice a41_4 n41_4 c41_4, .slice d41_4 m41_4 o41_4],
     .one fun v _ => v = .agg #[.bool b37_7, .slice a37_7 n37_7 c37_7, .slice d37_7 m37_7 o37_7],
     .one fun v _ => v = .bool true,
     .one fun v _ => v = .bool false,
     .one fun v _ => v = .bool false,
     .one fun v _ => v = .bool true,
     .one fun v _ => v = .bool true,
     .one fun v _ => v = .bool true,
     .one fun v _ => v = .bool true]
    (fun W => Ext w W ∧ Rw W (.agg #[.bool b1, .slice a1 n1 c1, .slice d1 m1 o1]) x ∧ Bx3 W w.heap.size 27 (.bool b1) (.slice a1 n1 c1) (.slice d1 m1 o1) ∧ Zw W (.agg #[.bool b31_7, .slice a31_7 n31_7 c31_7]) F ∧ Bx2 W g31_7 25 (.bool b31_7) (.slice a31_7 n31_7 c31_7) ∧ Zw W (.agg #[.bool b32_7, .slice a32_7 n32_7 c32_7]) C ∧ Bx2 W g32_7 25 (.bool b32_7) (.slice a32_7 n32_7 c32_7) ∧ Zw W (.agg #[.bool b33_7, .slice a33_7 n33_7 c33_7]) M ∧ Bx2 W g33_7 25 (.bool b33_7) (.slice a33_7 n33_7 c33_7) ∧ Rw W (.agg #[.bool b34_7, .slice a34_7 n34_7 c34_7, .slice d34_7 m34_7 o34_7]) X ∧ Bx3 W g34_7 27 (.bool b34_7) (.slice a34_7 n34_7 c34_7) (.slice d34_7 m34_7 o34_7) ∧ Rw W (.agg #[.bool b35_7, .slice a35_7 n35_7 c35_7, .slice d35_7 m35_7 o35_7]) Y ∧ Bx3 W g35_7 27 (.bool b35_7) (.slice a35_7 n35_7 c35_7) (.slice d35_7 m35_7 o35_7) ∧ Rw W (.agg #[.bool b36_7, .slice a36_7 n36_7 c36_7, .slice d36_7 m36_7 o36_7]) Z ∧ Bx3 W g36_7 27 (.bool b36_7) (.slice a36_7 n36_7 c36_7) (.slice d36_7 m36_7 o36_7) ∧ Rw W (.agg #[.bool b37_7, .slice a37_7 n37_7 c37_7, .slice d37_7 m37_7 o37_7]) S ∧ Bx3 W g37_7 27 (.bool b37_7) (.slice a37_7 n37_7 c37_7) (.slice d37_7 m37_7 o37_7) ∧ Zw W u37_0 1 ∧ Rw W (.agg #[.bool b40_5, .slice a40_5 n40_5 c40_5, .slice d40_5 m40_5 o40_5]) D ∧ Bx3 W g40_5 27 (.bool b40_5) (.slice a40_5 n40_5 c40_5) (.slice d40_5 m40_5 o40_5) ∧ Rw W u40_2 (Z - x) ∧ Rw W (.agg #[.bool b41_4, .slice a41_4 n41_4 c41_4, .slice d41_4 m41_4 o41_4]) (D + D) ∧ Bx3 W g41_4 27 (.bool b41_4) (.slice a41_4 n41_4 c41_4) (.slice d41_4 m41_4 o41_4) ∧ W41.heap.size ≤ W.heap.size) ⟨Good.is _, Good.is _, Good.is _, Good.is _, Good.is _, Good.is _, Good.is _, Good.is _, Good.is _, Good.is _, Good.is _, Good.is _, Good.is _, Good.is _, Good.is _, Good.is _, Good.is _, Good.is _, Good.is _, Good.is _, Good.is _, Good.is _, Good.is _, Good.is _, Good.is _, Good.is _, Good.is _, trivial⟩
    ⟨E0, hx1, p2, h31_4, p31_7, h32_4, p32_7, h33_4, p33_7, h34_4, p34_7, h35_4, p35_7, h36_4, p36_7, h37_4, p37_7, h37_0, h40_3, p40_5, h40_2, h41_2, p41_4, Nat.le_refl _⟩ (A := ?A45) ?hA45 ?howe45 ?hfin45
   case hA45 =>
    intro vs
    simp only [putAll, Act.put, sA, sZ, sS, Nat.zero_add, Nat.reduceAdd]
    exact rfl
   case howe45 =>
    clear E0 hx1 p2 h31_4 p31_7 h32_4 p32_7 h33_4 p33_7 h34_4 p34_7 h35_4 p35_7 h36_4 p36_7 h37_4 p37_7 h37_0 h40_3 p40_5 h40_2 h41_2 p41_4
    intro hf
    refine ⟨oE 0 [] hf rfl ?_, oE 1 [0] hf rfl ?_, oE 2 [1] hf rfl ?_, oE 3 [1] hf rfl ?_, oE 4 [1, 2, 3] hf rfl ?_, oE 5 [1, 4] hf rfl ?_, oE 6 [5] hf rfl ?_, oE 7 [5] hf rfl ?_, oE 8 [5] hf rfl ?_, oE 9 [1, 5, 8] hf rfl ?_, oE 10 [1, 9] hf rfl ?_, oE 11 [10] hf rfl ?_, oE 12 [11] hf rfl ?_, oE 13 [11] hf rfl ?_, oE 14 [11, 12, 13] hf rfl ?_, oE 15 [11, 14] hf rfl ?_, oE 16 [11, 15] hf rfl ?_, oE 17 [16] hf rfl ?_, oE 18 [17] hf rfl ?_, oE 19 [17] hf rfl ?_, oE 20 [17, 18, 19] hf rfl ?_, oE 21 [17, 20] hf rfl ?_, oE 22 [17, 21] hf rfl ?_, oE 23 [22] hf rfl ?_, oE 24 [17, 22, 23] hf rfl ?_, oE 25 [17, 24] hf rfl ?_, oE 26 [25] hf rfl ?_, trivial⟩
    all_goals intro vs W hS hp hx KO hKO
    all_goals simp only [Act.put, sA, sZ, sS] at hKO
    ·go_simp
     refine (Try.alive06 _).mono ?_
     rintro e W1 ⟨rfl, hE⟩
     exact hKO _ W1 hE rfl
    ·have e0 := isOf hp.1; simp only [e0] at hKO; go_simp; exact hKO _ W (.refl W) rfl
    ·have e1 := isOf hp.1; simp only [e1] at hKO; have fc0 := hS.2.2.2.2.2.2.2.2.1.cell0; have fc1 := hS.2.2.2.2.2.2.2.2.1.cell1; go_simp; exact hKO _ W (.refl W) rfl
    ·have e1 := isOf hp.1; simp only [e1] at hKO; have fc0 := hS.2.2.2.2.1.cell0; have fc1 := hS.2.2.2.2.1.cell1; go_simp; exact hKO _ W (.refl W) rfl
    ·have e1 := isOf hp.1; have e2 := isOf hp.2.1; have e3 := isOf hp.2.2.1; simp only [e1, e2, e3] at hKO; go_simp
     refine (Try.refZSameD (hS.2.2.2.2.2.2.2.1) (hS.2.2.2.1) HMF.out).mono ?_
     rintro e W1 ⟨rfl, hE⟩
     exact hKO _ W1 hE rfl
    ·have e1 := isOf hp.1; have e4 := isOf hp.2.1; simp only [e1, e4] at hKO; go_simp; exact hKO _ W (.refl W) rfl
    ·have e5 := isOf hp.1; simp only [e5] at hKO; go_simp; exact hKO _ W (.refl W) rfl
    ·have e5 := isOf hp.1; simp only [e5] at hKO; go_simp; exact hKO _ W (.refl W) rfl
    ·have e5 := isOf hp.1; simp only [e5] at hKO; go_simp; exact hKO _ W (.refl W) rfl
    ·have e1 := isOf hp.1; have e5 := isOf hp.2.1; have e8 := isOf hp.2.2.1; simp only [e1, e5, e8] at hKO; go_simp; exact hKO _ W (.refl W) rfl
    ·have e1 := isOf hp.1; have e9 := isOf hp.2.1; simp only [e1, e9] at hKO; go_simp; exact hKO _ W (.refl W) rfl
    ·have e10 := isOf hp.1; simp only [e10] at hKO; go_simp; exact hKO _ W (.refl W) rfl
    ·have e11 := isOf hp.1; simp only [e11] at hKO; have fc0 := hS.2.2.2.2.2.2.2.2.2.2.2.2.2.2.2.2.2.2.2.2.2.2.1.cell0; have fc1 := hS.2.2.2.2.2.2.2.2.2.2.2.2.2.2.2.2.2.2.2.2.2.2.1.cell1; have fc2 := hS.2.2.2.2.2.2.2.2.2.2.2.2.2.2.2.2.2.2.2.2.2.2.1.cell2; go_simp; exact hKO _ W (.refl W) rfl
    ·have e11 := isOf hp.1; simp only [e11] at hKO; have fc0 := hS.2.2.2.2.2.2.2.2.2.2.2.2.2.2.2.2.1.cell0; have fc1 := hS.2.2.2.2.2.2.2.2.2.2.2.2.2.2.2.2.1.cell1; have fc2 := hS.2.2.2.2.2.2.2.2.2.2.2.2.2.2.2.2.1.cell2; go_simp; exact hKO _ W (.refl W) rfl
    ·have e11 := isOf hp.1; have e12 := isOf hp.2.1; have e13 := isOf hp.2.2.1; simp only [e11, e12, e13] at hKO; go_simp
     refine (Try.refRCmpR (hS.2.2.2.2.2.2.2.2.2.2.2.2.2.2.2.2.2.2.2.2.2.1) (hS.2.2.2.2.2.2.2.2.2.2.2.2.2.2.2.1) SDD.out SS.out (by omega) HC3.out).mono ?_
     rintro e W1 ⟨rfl, hE⟩
     exact hKO _ W1 hE rfl
    ·have e11 := isOf hp.1; have e14 := isOf hp.2.1; simp only [e11, e14] at hKO; go_simp; exact hKO _ W (.refl W) rfl
    ·have e11 := isOf hp.1; have e15 := isOf hp.2.1; simp only [e11, e15] at hKO; go_simp; exact hKO _ W (.refl W) rfl
    ·have e16 := isOf hp.1; simp only [e16] at hKO; go_simp; exact hKO _ W (.refl W) rfl
    ·have e17 := isOf hp.1; simp only [e17] at hKO; have fc0 := hS.2.2.2.2.2.2.2.2.2.2.2.2.2.2.2.2.2.2.2.2.2.2.1.cell0; have fc1 := hS.2.2.2.2.2.2.2.2.2.2.2.2.2.2.2.2.2.2.2.2.2.2.1.cell1; have fc2 := hS.2.2.2.2.2.2.2.2.2.2.2.2.2.2.2.2.2.2.2.2.2.2.1.cell2; go_simp; exact hKO _ W (.refl W) rfl
    ·have e17 := isOf hp.1; simp only [e17] at hKO; have fc0 := hS.2.2.2.2.2.2.2.2.2.2.2.2.2.2.2.2.1.cell0; have fc1 := hS.2.2.2.2.2.2.2.2.2.2.2.2.2.2.2.2.1.cell1; have fc2 := hS.2.2.2.2.2.2.2.2.2.2.2.2.2.2.2.2.1.cell2; go_simp; exact hKO _ W (.refl W) rfl
    ·have e17 := isOf hp.1; have e18 := isOf hp.2.1; have e19 := isOf hp.2.2.1; simp only [e17, e18, e19] at hKO; go_simp
     refine (Try.refRSameD (hS.2.2.2.2.2.2.2.2.2.2.2.2.2.2.2.2.2.2.2.2.2.1) (hS.2.2.2.2.2.2.2.2.2.2.2.2.2.2.2.1) HTW.out).mono ?_
     rintro e W1 ⟨rfl, hE⟩
     exact hKO _ W1 hE rfl
    ·have e17 := isOf hp.1; have e20 := isOf hp.2.1; simp only [e17, e20] at hKO; go_simp; exact hKO _ W (.refl W) rfl
    ·have e17 := isOf hp.1; have e21 := isOf hp.2.1; simp only [e17, e21] at hKO; go_simp; exact hKO _ W (.refl W) rfl
    ·have e22 := isOf hp.1; simp only [e22] at hKO; go_simp; exact hKO _ W (.refl W) rfl
    ·have e17 := isOf hp.1; have e22 := isOf hp.2.1; have e23 := isOf hp.2.2.1; simp only [e17, e22, e23] at hKO; go_simp; exact hKO _ W (.refl W) rfl
    ·have e17 := isOf hp.1; have e24 := isOf hp.2.1; simp only [e17, e24] at hKO; go_simp; exact hKO _ W (.refl W) rfl
    ·have e25 := isOf hp.1; simp only [e25] at hKO; go_simp; exact hKO _ W (.refl W) rfl
   intro vs W45 hS hp
   clear szw45 E0 hx1 p2 h31_4 p31_7 h32_4 p32_7 h33_4 p33_7 h34_4 p34_7 h35_4 p35_7 h36_4 p36_7 h37_4 p37_7 h37_0 h40_3 p40_5 h40_2 h41_2 p41_4
   obtain ⟨E0, hx1, p2, h31_4, p31_7, h32_4, p32_7, h33_4, p33_7, h34_4, p34_7, h35_4, p35_7, h36_4, p36_7, h37_4, p37_7, h37_0, h40_3, p40_5, h40_2, h41_2, p41_4, sz45⟩ := hS
   obtain ⟨h45_0, h45_1, h45_2, h45_3, h45_4, h45_5, h45_6, h45_7, h45_8, h45_9, h45_10, h45_11, h45_12, h45_13, h45_14, h45_15, h45_16, h45_17, h45_18, h45_19, h45_20, h45_21, h45_22, h45_23, h45_24, h45_25, h45_26, -⟩ := hp
   replace h45_0 : vs 0 = .bool true := h45_0
   replace h45_1 : vs 1 = .bool true := h45_1
   replace h45_2 : vs 2 = .agg #[.bool b33_7, .slice a33_7 n33_7 c33_7] := h45_2
   replace h45_3 : vs 3 = .agg #[.bool b31_7, .slice a31_7 n31_7 c31_7] := h45_3
   replace h45_4 : vs 4 = .bool true := h45_4
   replace h45_5 : vs 5 = .bool true := h45_5
   replace h45_6 : vs 6 = undef := h45_6
   replace h45_7 : vs 7 = undef := h45_7
   replace h45_8 : vs 8 = undef := h45_8
   replace h45_9 : vs 9 = .bool true := h45_9
   replace h45_10 : vs 10 = .bool true := h45_10
   replace h45_11 : vs 11 = .bool true := h45_11
   replace h45_12 : vs 12 = .agg #[.bool b41_4, .slice a41_4 n41_4 c41_4, .slice d41_4 m41_4 o41_4] := h45_12
   replace h45_13 : vs 13 = .agg #[.bool b37_7, .slice a37_7 n37_7 c37_7, .slice d37_7 m37_7 o37_7] := h45_13
   replace h45_14 : vs 14 = .int .i64 e3 := h45_14
   replace h45_15 : vs 15 = .bool true := h45_15
   replace h45_16 : vs 16 = .bool true := h45_16
   replace h45_17 : vs 17 = .bool true := h45_17
   replace h45_18 : vs 18 = .agg #[.bool b41_4, .slice a41_4 n41_4 c41_4, .slice d41_4 m41_4 o41_4] := h45_18
   replace h45_19 : vs 19 = .agg #[.bool b37_7, .slice a37_7 n37_7 c37_7, .slice d37_7 m37_7 o37_7] := h45_19
   replace h45_20 : vs 20 = .bool true := h45_20
   replace h45_21 : vs 21 = .bool false := h45_21
   replace h45_22 : vs 22 = .bool false := h45_22
   replace h45_23 : vs 23 = .bool true := h45_23
   replace h45_24 : vs 24 = .bool true := h45_24
   replace h45_25 : vs 25 = .bool true := h45_25
   replace h45_26 : vs 26 = .bool true := h45_26
   simp only [h45_0, h45_1, h45_2, h45_3, h45_4, h45_5, h45_6, h45_7, h45_8, h45_9, h45_10, h45_11, h45_12, h45_13, h45_14, h45_15, h45_16, h45_17, h45_18, h45_19, h45_20, h45_21, h45_22, h45_23, h45_24, h45_25, h45_26]
   clear h45_0 h45_1 h45_2 h45_3 h45_4 h45_5 h45_6 h45_7 h45_8 h45_9 h45_10 h45_11 h45_12 h45_13 h45_14 h45_15 h45_16 h45_17 h45_18 h45_19 h45_20 h45_21 h45_22 h45_23 h45_24 h45_25 h45_26
   obtain ⟨kp2_0, kp2_1, kp2_2⟩ := p2.c3
   obtain ⟨kp31_7_0, kp31_7_1⟩ := p31_7.c2
   obtain ⟨kp32_7_0, kp32_7_1⟩ := p32_7.c2
   obtain ⟨kp33_7_0, kp33_7_1⟩ := p33_7.c2
   obtain ⟨kp34_7_0, kp34_7_1, kp34_7_2⟩ := p34_7.c3
   obtain ⟨kp35_7_0, kp35_7_1, kp35_7_2⟩ := p35_7.c3
   obtain ⟨kp36_7_0, kp36_7_1, kp36_7_2⟩ := p36_7.c3
   obtain ⟨kp37_7_0, kp37_7_1, kp37_7_2⟩ := p37_7.c3
   obtain ⟨kp40_5_0, kp40_5_1, kp40_5_2⟩ := p40_5.c3
   obtain ⟨kp41_4_0, kp41_4_1, kp41_4_2⟩ := p41_4.c3
   go_wp2; go_ret
   exact ⟨rfl, E0⟩
  ·have HTW := Lib.hid htw
   clear htw; have ltp41_4 := p41_4.lt; have szw46 := Ext.size E0
   refine region_gs [.one fun v _ => v = .bool true,
     .one fun v _ => v = .bool true,
     .one fun v _ => v = .agg #[.bool b33_7, .slice a33_7 n33_7 c33_7],
     .one fun v _ => v = .agg #[.bool b31_7, .slice a31_7 n31_7 c31_7],
     .one fun v _ => v = .bool true,
     .one fun v _ => v = .bool true,
     .one fun v _ => v = undef,
     .one fun v _ => v = undef,
     .one fun v _ => v = undef,
     .one fun v _ => v = .bool true,
     .one fun v _ => v = .bool true,
     .one fun v _ => v = .bool true,
     .one fun v _ => v = .agg #[.bool b41_4, .slice a41_4 n41_4 c41_4, .slice d41_4 m41_4 o41_4],
     .one fun v _ => v = .agg #[.bool b37_7, .slice a37_7 n37_7 c37_7, .slice d37_7 m37_7 o37_7],
     .one fun v _ => v = .int .i64 e3,
     .one fun v _ => v = .bool true,
     .one fun v _ => v = .bool true,
     .one fun v _ => v = .bool true,
     .one fun v _ => v = .agg #[.bool b41_4, .slice a41_4 n41_4 c41_4, .slice d41_4 m41_4 o41_4],
     .one fun v _ => v = .agg #[.bool b37_7, .slice a37_7 n37_7 c37_7, .slice d37_7 m37_7 o37_7],
     .one fun v _ => v = .bool false,
     .one fun v _ => v = .bool true,
     .one fun v _ => v = .bool true,
     .one fun v _ => v = undef,
     .one fun v _ => v = .bool true,
     .one fun v _ => v = .bool true,
     .one fun v _ => v = .bool true]
    (fun W => Ext w W ∧ Rw W (.agg #[.bool b1, .slice a1 n1 c1, .slice d1 m1 o1]) x ∧ Bx3 W w.heap.size 27 (.bool b1) (.slice a1 n1 c1) (.slice d1 m1 o1) ∧ Zw W (.agg #[.bool b31_7, .slice a31_7 n31_7 c31_7]) F ∧ Bx2 W g31_7 25 (.bool b31_7) (.slice a31_7 n31_7 c31_7) ∧ Zw W (.agg #[.bool b32_7, .slice a32_7 n32_7 c32_7]) C ∧ Bx2 W g32_7 25 (.bool b32_7) (.slice a32_7 n32_7 c32_7) ∧ Zw W (.agg #[.bool b33_7, .slice a33_7 n33_7 c33_7]) M ∧ Bx2 W g33_7 25 (.bool b33_7) (.slice a33_7 n33_7 c33_7) ∧ Rw W (.agg #[.bool b34_7, .slice a34_7 n34_7 c34_7, .slice d34_7 m34_7 o34_7]) X ∧ Bx3 W g34_7 27 (.bool b34_7) (.slice a34_7 n34_7 c34_7) (.slice d34_7 m34_7 o34_7) ∧ Rw W (.agg #[.bool b35_7, .slice a35_7 n35_7 c35_7, .slice d35_7 m35_7 o35_7]) Y ∧ Bx3 W g35_7 27 (.bool b35_7) (.slice a35_7 n35_7 c35_7) (.slice d35_7 m35_7 o35_7) ∧ Rw W (.agg #[.bool b36_7, .slice a36_7 n36_7 c36_7, .slice d36_7 m36_7 o36_7]) Z ∧ Bx3 W g36_7 27 (.bool b36_7) (.slice a36_7 n36_7 c36_7) (.slice d36_7 m36_7 o36_7) ∧ Rw W (.agg #[.bool b37_7, .slice a37_7 n37_7 c37_7, .slice d37_7 m37_7 o37_7]) S ∧ Bx3 W g37_7 27 (.bool b37_7) (.slice a37_7 n37_7 c37_7) (.slice d37_7 m37_7 o37_7) ∧ Zw W u37_0 1 ∧ Rw W (.agg #[.bool b40_5, .slice a40_5 n40_5 c40_5, .slice d40_5 m40_5 o40_5]) D ∧ Bx3 W g40_5 27 (.bool b40_5) (.slice a40_5 n40_5 c40_5) (.slice d40_5 m40_5 o40_5) ∧ Rw W u40_2 (Z - x) ∧ Rw W (.agg #[.bool b41_4, .slice a41_4 n41_4 c41_4, .slice d41_4 m41_4 o41_4]) (D + D) ∧ Bx3 W g41_4 27 (.bool b41_4) (.slice a41_4 n41_4 c41_4) (.slice d41_4 m41_4 o41_4) ∧ W41.heap.size ≤ W.heap.size) ⟨Good.is _, Good.is _, Good.is _, Good.is _, Good.is _, Good.is _, Good.is _, Good.is _, Good.is _, Good.is _, Good.is _, Good.is _, Good.is _, Good.is _, Good.is _, Good.is _, Good.is _, Good.is _, Good.is _, Good.is _, Good.is _, Good.is _, Good.is _, Good.is _, Good.is _, Good.is _, Good.is _, trivial⟩
    ⟨E0, hx1, p2, h31_4, p31_7, h32_4, p32_7, h33_4, p33_7, h34_4, p34_7, h35_4, p35_7, h36_4, p36_7, h37_4, p37_7, h37_0, h40_3, p40_5, h40_2, h41_2, p41_4, Nat.le_refl _⟩ (A := ?A46) ?hA46 ?howe46 ?hfin46
   case hA46 =>
    intro vs
    simp only [putAll, Act.put, sA, sZ, sS, Nat.zero_add, Nat.reduceAdd]
    exact rfl
   case howe46 =>
    clear E0 hx1 p2 h31_4 p31_7 h32_4 p32_7 h33_4 p33_7 h34_4 p34_7 h35_4 p35_7 h36_4 p36_7 h37_4 p37_7 h37_0 h40_3 p40_5 h40_2 h41_2 p41_4
    intro hf
    refine ⟨oE 0 [] hf rfl ?_, oE 1 [0] hf rfl ?_, oE 2 [1] hf rfl ?_, oE 3 [1] hf rfl ?_, oE 4 [1, 2, 3] hf rfl ?_, oE 5 [1, 4] hf rfl ?_, oE 6 [5] hf rfl ?_, oE 7 [5] hf rfl ?_, oE 8 [5] hf rfl ?_, oE 9 [1, 5, 8] hf rfl ?_, oE 10 [1, 9] hf rfl ?_, oE 11 [10] hf rfl ?_, oE 12 [11] hf rfl ?_, oE 13 [11] hf rfl ?_, oE 14 [11, 12, 13] hf rfl ?_, oE 15 [11, 14] hf rfl ?_, oE 16 [11, 15] hf rfl ?_, oE 17 [16] hf rfl ?_, oE 18 [17] hf rfl ?_, oE 19 [17] hf rfl ?_, oE 20 [17, 18, 19] hf rfl ?_, oE 21 [17, 20] hf rfl ?_, oE 22 [17, 21] hf rfl ?_, oE 23 [22] hf rfl ?_, oE 24 [17, 22, 23] hf rfl ?_, oE 25 [17, 24] hf rfl ?_, oE 26 [25] hf rfl ?_, trivial⟩
    all_goals intro vs W hS hp hx KO hKO
    all_goals simp only [Act.put, sA, sZ, sS] at hKO
    ·go_simp
     refine (Try.alive06 _).mono ?_
     rintro e W1 ⟨rfl, hE⟩
     exact hKO _ W1 hE rfl
    ·have e0 := isOf hp.1; simp only [e0] at hKO; go_simp; exact hKO _ W (.refl W) rfl
    ·have e1 := isOf hp.1; simp only [e1] at hKO; have fc0 := hS.2.2.2.2.2.2.2.2.1.cell0; have fc1 := hS.2.2.2.2.2.2.2.2.1.cell1; go_simp; exact hKO _ W (.refl W) rfl
    ·have e1 := isOf hp.1; simp only [e1] at hKO; have fc0 := hS.2.2.2.2.1.cell0; have fc1 := hS.2.2.2.2.1.cell1; go_simp; exact hKO _ W (.refl W) rfl
    ·have e1 := isOf hp.1; have e2 := isOf hp.2.1; have e3 := isOf hp.2.2.1; simp only [e1, e2, e3] at hKO; go_simp
     refine (Try.refZSameD (hS.2.2.2.2.2.2.2.1) (hS.2.2.2.1) HMF.out).mono ?_
     rintro e W1 ⟨rfl, hE⟩
     exact hKO _ W1 hE rfl
    ·have e1 := isOf hp.1; have e4 := isOf hp.2.1; simp only [e1, e4] at hKO; go_simp; exact hKO _ W (.refl W) rfl
    ·have e5 := isOf hp.1; simp only [e5] at hKO; go_simp; exact hKO _ W (.refl W) rfl
    ·have e5 := isOf hp.1; simp only [e5] at hKO; go_simp; exact hKO _ W (.refl W) rfl
    ·have e5 := isOf hp.1; simp only [e5] at hKO; go_simp; exact hKO _ W (.refl W) rfl
    ·have e1 := isOf hp.1; have e5 := isOf hp.2.1; have e8 := isOf hp.2.2.1; simp only [e1, e5, e8] at hKO; go_simp; exact hKO _ W (.refl W) rfl
    ·have e1 := isOf hp.1; have e9 := isOf hp.2.1; simp only [e1, e9] at hKO; go_simp; exact hKO _ W (.refl W) rfl
    ·have e10 := isOf hp.1; simp only [e10] at hKO; go_simp; exact hKO _ W (.refl W) rfl
    ·have e11 := isOf hp.1; simp only [e11] at hKO; have fc0 := hS.2.2.2.2.2.2.2.2.2.2.2.2.2.2.2.2.2.2.2.2.2.2.1.cell0; have fc1 := hS.2.2.2.2.2.2.2.2.2.2.2.2.2.2.2.2.2.2.2.2.2.2.1.cell1; have fc2 := hS.2.2.2.2.2.2.2.2.2.2.2.2.2.2.2.2.2.2.2.2.2.2.1.cell2; go_simp; exact hKO _ W (.refl W) rfl
    ·have e11 := isOf hp.1; simp only [e11] at hKO; have fc0 := hS.2.2.2.2.2.2.2.2.2.2.2.2.2.2.2.2.1.cell0; have fc1 := hS.2.2.2.2.2.2.2.2.2.2.2.2.2.2.2.2.1.cell1; have fc2 := hS.2.2.2.2.2.2.2.2.2.2.2.2.2.2.2.2.1.cell2; go_simp; exact hKO _ W (.refl W) rfl
    ·have e11 := isOf hp.1; have e12 := isOf hp.2.1; have e13 := isOf hp.2.2.1; simp only [e11, e12, e13] at hKO; go_simp
     refine (Try.refRCmpR (hS.2.2.2.2.2.2.2.2.2.2.2.2.2.2.2.2.2.2.2.2.2.1) (hS.2.2.2.2.2.2.2.2.2.2.2.2.2.2.2.1) SDD.out SS.out (by omega) HC3.out).mono ?_
     rintro e W1 ⟨rfl, hE⟩
     exact hKO _ W1 hE rfl
    ·have e11 := isOf hp.1; have e14 := isOf hp.2.1; simp only [e11, e14] at hKO; go_simp; exact hKO _ W (.refl W) rfl
    ·have e11 := isOf hp.1; have e15 := isOf hp.2.1; simp only [e11, e15] at hKO; go_simp; exact hKO _ W (.refl W) rfl
    ·have e16 := isOf hp.1; simp only [e16] at hKO; go_simp; exact hKO _ W (.refl W) rfl
    ·have e17 := isOf hp.1; simp only [e17] at hKO; have fc0 := hS.2.2.2.2.2.2.2.2.2.2.2.2.2.2.2.2.2.2.2.2.2.2.1.cell0; have fc1 := hS.2.2.2.2.2.2.2.2.2.2.2.2.2.2.2.2.2.2.2.2.2.2.1.cell1; have fc2 := hS.2.2.2.2.2.2.2.2.2.2.2.2.2.2.2.2.2.2.2.2.2.2.1.cell2; go_simp; exact hKO _ W (.refl W) rfl
    ·have e17 := isOf hp.1; simp only [e17] at hKO; have fc0 := hS.2.2.2.2.2.2.2.2.2.2.2.2.2.2.2.2.1.cell0; have fc1 := hS.2.2.2.2.2.2.2.2.2.2.2.2.2.2.2.2.1.cell1; have fc2 := hS.2.2.2.2.2.2.2.2.2.2.2.2.2.2.2.2.1.cell2; go_simp; exact hKO _ W (.refl W) rfl
    ·have e17 := isOf hp.1; have e18 := isOf hp.2.1; have e19 := isOf hp.2.2.1; simp only [e17, e18, e19] at hKO; go_simp
     refine (Try.refRSameF6 (hS.2.2.2.2.2.2.2.2.2.2.2.2.2.2.2.2.2.2.2.2.2.1) (hS.2.2.2.2.2.2.2.2.2.2.2.2.2.2.2.1) HTW.out).mono ?_
     rintro e W1 ⟨rfl, hE⟩
     exact hKO _ W1 hE rfl
    ·have e17 := isOf hp.1; have e20 := isOf hp.2.1; simp only [e17, e20] at hKO; go_simp; exact hKO _ W (.refl W) rfl
    ·have e17 := isOf hp.1; have e21 := isOf hp.2.1; simp only [e17, e21] at hKO; go_simp; exact hKO _ W (.refl W) rfl
    ·have e22 := isOf hp.1; simp only [e22] at hKO; go_simp; exact hKO _ W (.refl W) rfl
    ·have e17 := isOf hp.1; have e22 := isOf hp.2.1; have e23 := isOf hp.2.2.1; simp only [e17, e22, e23] at hKO; go_simp; exact hKO _ W (.refl W) rfl
    ·have e17 := isOf hp.1; have e24 := isOf hp.2.1; simp only [e17, e24] at hKO; go_simp; exact hKO _ W (.refl W) rfl
    ·have e25 := isOf hp.1; simp only [e25] at hKO; go_simp; exact hKO _ W (.refl W) rfl
   intro vs W46 hS hp
   clear szw46 E0 hx1 p2 h31_4 p31_7 h32_4 p32_7 h33_4 p33_7 h34_4 p34_7 h35_4 p35_7 h36_4 p36_7 h37_4 p37_7 h37_0 h40_3 p40_5 h40_2 h41_2 p41_4
   obtain ⟨E0, hx1, p2, h31_4, p31_7, h32_4, p32_7, h33_4, p33_7, h34_4, p34_7, h35_4, p35_7, h36_4, p36_7, h37_4, p37_7, h37_0, h40_3, p40_5, h40_2, h41_2, p41_4, sz46⟩ := hS
   obtain ⟨h46_0, h46_1, h46_2, h46_3, h46_4, h46_5, h46_6, h46_7, h46_8, h46_9, h46_10, h46_11, h46_12, h46_13, h46_14, h46_15, h46_16, h46_17, h46_18, h46_19, h46_20, h46_21, h46_22, h46_23, h46_24, h46_25, h46_26, -⟩ := hp
   replace h46_0 : vs 0 = .bool true := h46_0
   replace h46_1 : vs 1 = .bool true := h46_1
   replace h46_2 : vs 2 = .agg #[.bool b33_7, .slice a33_7 n33_7 c33_7] := h46_2
   replace h46_3 : vs 3 = .agg #[.bool b31_7, .slice a31_7 n31_7 c31_7] := h46_3
   replace h46_4 : vs 4 = .bool true := h46_4
   replace h46_5 : vs 5 = .bool true := h46_5
   replace h46_6 : vs 6 = undef := h46_6
   replace h46_7 : vs 7 = undef := h46_7
   replace h46_8 : vs 8 = undef := h46_8
   replace h46_9 : vs 9 = .bool true := h46_9
   replace h46_10 : vs 10 = .bool true := h46_10
   replace h46_11 : vs 11 = .bool true := h46_11
   replace h46_12 : vs 12 = .agg #[.bool b41_4, .slice a41_4 n41_4 c41_4, .slice d41_4 m41_4 o41_4] := h46_12
   replace h46_13 : vs 13 = .agg #[.bool b37_7, .slice a37_7 n37_7 c37_7, .slice d37_7 m37_7 o37_7] := h46_13
   replace h46_14 : vs 14 = .int .i64 e3 := h46_14
   replace h46_15 : vs 15 = .bool true := h46_15
   replace h46_16 : vs 16 = .bool true := h46_16
   replace h46_17 : vs 17 = .bool true := h46_17
   replace h46_18 : vs 18 = .agg #[.bool b41_4, .slice a41_4 n41_4 c41_4, .slice d41_4 m41_4 o41_4] := h46_18
   replace h46_19 : vs 19 = .agg #[.bool b37_7, .slice a37_7 n37_7 c37_7, .slice d37_7 m37_7 o37_7] := h46_19
   replace h46_20 : vs 20 = .bool false := h46_20
   replace h46_21 : vs 21 = .bool true := h46_21
   replace h46_22 : vs 22 = .bool true := h46_22
   replace h46_23 : vs 23 = undef := h46_23
   replace h46_24 : vs 24 = .bool true := h46_24
   replace h46_25 : vs 25 = .bool true := h46_25
   replace h46_26 : vs 26 = .bool true := h46_26
   simp only [h46_0, h46_1, h46_2, h46_3, h46_4, h46_5, h46_6, h46_7, h46_8, h46_9, h46_10, h46_11, h46_12, h46_13, h46_14, h46_15, h46_16, h46_17, h46_18, h46_19, h46_20, h46_21, h46_22, h46_23, h46_24, h46_25, h46_26]
   clear h46_0 h46_1 h46_2 h46_3 h46_4 h46_5 h46_6 h46_7 h46_8 h46_9 h46_10 h46_11 h46_12 h46_13 h46_14 h46_15 h46_16 h46_17 h46_18 h46_19 h46_20 h46_21 h46_22 h46_23 h46_24 h46_25 h46_26
   obtain ⟨kp2_0, kp2_1, kp2_2⟩ := p2.c3
   obtain ⟨kp31_7_0, kp31_7_1⟩ := p31_7.c2
   obtain ⟨kp32_7_0, kp32_7_1⟩ := p32_7.c2
   obtain ⟨kp33_7_0, kp33_7_1⟩ := p33_7.c2
   obtain ⟨kp34_7_0, kp34_7_1, kp34_7_2⟩ := p34_7.c3
   obtain ⟨kp35_7_0, kp35_7_1, kp35_7_2⟩ := p35_7.c3
   obtain ⟨kp36_7_0, kp36_7_1, kp36_7_2⟩ := p36_7.c3
   obtain ⟨kp37_7_0, kp37_7_1, kp37_7_2⟩ := p37_7.c3
   obtain ⟨kp40_5_0, kp40_5_1, kp40_5_2⟩ := p40_5.c3
   obtain ⟨kp41_4_0, kp41_4_1, kp41_4_2⟩ := p41_4.c3
   go_wp2; go_ret
   exact ⟨rfl, E0⟩

end Go.Rt
