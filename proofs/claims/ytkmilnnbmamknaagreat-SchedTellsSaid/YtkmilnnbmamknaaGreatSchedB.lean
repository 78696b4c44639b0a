/-
 Schedules: rates by the root of the step, by steps, by a power.
-/
import Derived.Test.YtkmilnnbmamknaaGreatSchedA
import Derived.Test.YtkmilnnbmamknaaGreatDyadP
import Derived.Test.YtkmilnnbmamknaaGreatGG
namespace Go.Rt
open Go Go.RowKit Go.Proofs

set_option maxRecDepth 100000 in
set_option maxHeartbeats 4000000 in
theorem Tryz.schedSlowed (B Wm t : Nat) (kd rr ee vv ll pp ff : Int) (w : World) (hB : B < 9223372036854775808) (hW : Wm ≤ 1000000) (ht1 : 1 ≤ t) (ht2 : t ≤ 1000000) (hWt : Wm < t) :
  Calls Tryz.prog 12 #[.agg #[.int .i64 kd, .int .i64 (B : Int), .int .i64 rr, .int .i64 ee, .int .i64 (Wm : Int), .int .i64 vv, .int .i64 ll, .int .i64 pp], .int .i64 (t : Int), .int .i64 ff] w fun e w' => e = .returned (.int .i64 ((slowV B Wm t : Nat) : Int)) ∧ Ext w w' := by
 obtain ⟨M, hM⟩ : ∃ M, M = max Wm 1 := ⟨_, rfl⟩
 have hMb : M ≤ 1000000 := by omega
 have hmx : max (Wm : Int) 1 = (M : Int) := by omega
 have hmy : max (1 : Int) (Wm : Int) = (M : Int) := by omega
 obtain ⟨r, hr⟩ : ∃ r, r = slowV B Wm t := ⟨_, rfl⟩
 have hrb : r ≤ B := by rw [hr]; exact slow_le (by omega) hWt
 have hwB : IntKind.u64.wrap (B : Int) = (B : Int) := by rw [IntKind.wrap_u64]; omega
 have hwM : IntKind.u64.wrap (M : Int) = (M : Int) := by rw [IntKind.wrap_u64]; omega
 have hwt : IntKind.u64.wrap (t : Int) = (t : Int) := by rw [IntKind.wrap_u64]; omega
 have hwr : IntKind.i64.wrap (r : Int) = (r : Int) := by rw [IntKind.wrap_i64]; omega
 have BB : Hid (B < B64) := Lib.hid (by rw [B64_eq]; omega)
 have BM : Hid (M < B64) := Lib.hid (by rw [B64_eq]; omega)
 have BT : Hid (t < B64) := Lib.hid (by rw [B64_eq]; omega)
 have SB : Hid (Sm 1 B) := Lib.hid (Sm.one BB.out)
 have SM : Hid (Sm 1 M) := Lib.hid (Sm.one BM.out)
 have SBB : Hid (Sm 2 (B * B)) := Lib.hid (SB.out.mul SB.out)
 obtain ⟨N, hN⟩ : ∃ N, N = B * B * M := ⟨_, rfl⟩
 have SN : Hid (Sm 3 N) := Lib.hid (by rw [hN]; exact SBB.out.mul SM.out)
 have SQ : Hid (Sm 3 (N / t)) := Lib.hid (SN.out.le (Nat.div_le_self _ _))
 have HN := Lib.hid hN
 have HT0 : Hid (t ≠ 0) := Lib.hid (by omega)
 have HRE : Hid (rootE 2 = 0) := Lib.hid rfl
 have HRV : Hid (rootV (N / t) 2 = r) := Lib.hid (by rw [hr, hN, hM]; exact if_pos (by omega))
 have HSN : Hid (smallN r = r) := Lib.hid (by unfold smallN; rw [B64_eq]; exact if_pos (by omega))
 have HSB : Hid (smallB r = true) := Lib.hid (by unfold smallB; rw [B64_eq]; exact decide_eq_true (by omega))
 rw [← hr]
 have htW : ¬ t ≤ Wm := by omega
 clear hM hr hN hrb hMb htW hWt hB hW ht1 ht2
 obtain ⟨W0, hW0⟩ : ∃ W0, W0 = (w.alloc (.cells #[.int .i64 kd, .int .i64 (B : Int), .int .i64 rr, .int .i64 ee, .int .i64 (Wm : Int), .int .i64 vv, .int .i64 ll, .int .i64 pp] 23)) := ⟨_, rfl⟩
 have E0 : Ext w W0 := by rw [hW0]; exact (Ext.alloc1 w (.cells #[.int .i64 kd, .int .i64 (B : Int), .int .i64 rr, .int .i64 ee, .int .i64 (Wm : Int), .int .i64 vv, .int .i64 ll, .int .i64 pp] 23))
 have p3 : BxA W0 w.heap.size 23 #[.int .i64 kd, .int .i64 (B : Int), .int .i64 rr, .int .i64 ee, .int .i64 (Wm : Int), .int .i64 vv, .int .i64 ll, .int .i64 pp] := by rw [hW0]; exact (BxA.new w 23 #[.int .i64 kd, .int .i64 (B : Int), .int .i64 rr, .int .i64 ee, .int .i64 (Wm : Int), .int .i64 vv, .int .i64 ll, .int .i64 pp])
 go_enter Tryz.func12, Tryz.ntmps12
 obtain ⟨kp3_0, kp3_1, kp3_2, kp3_3, kp3_4, kp3_5, kp3_6, kp3_7⟩ := p3.cells8
 go_wp2_with fail
 rw [← hW0]
 clear hW0
 clear kp3_0 kp3_1 kp3_2 kp3_3 kp3_4 kp3_5 kp3_6 kp3_7
 refine (Tryz.natOf B _ BB.out).mono ?_
 rintro e Wa ⟨v1, rfl, g1, hE, -⟩
 replace E0 := (Ext.trans E0 hE)
 replace p3 := (p3.ext hE)
 clear hE
 obtain ⟨kp3_0, kp3_1, kp3_2, kp3_3, kp3_4, kp3_5, kp3_6, kp3_7⟩ := p3.cells8
 go_upto_region 2 with (fail)
 clear kp3_0 kp3_1 kp3_2 kp3_3 kp3_4 kp3_5 kp3_6 kp3_7
 have ltp3 := p3.lt
 have szw9 := Ext.size E0
 refine region_go [.one fun v _ => v = v1,
   .one fun v _ => v = v1,
   .one fun v W => Nw W v (B * B),
   .one fun v _ => v = .pointer (some ⟨w.heap.size, 4, none⟩),
   .one fun v _ => v = .int .i64 (Wm : Int),
   .one fun v _ => v = .int .i64 (M : Int),
   .one fun v _ => v = .int .u64 (M : Int),
   .one fun v W => Nw W v M,
   .one fun v W => Nw W v N,
   .one fun v _ => v = .int .i64 (t : Int),
   .one fun v _ => v = .int .u64 (t : Int),
   .one fun v W => Nw W v t,
   .one fun v W => ∃ v' v'', v = .tuple #[v', v'', .int .i64 0] ∧ (fun v W => Nw W v (N / t)) v' W ∧ (fun v W => Nw W v (N % t)) v'' W,
   .one fun v W => ∃ v' v'', v = .tuple #[v', v'', .int .i64 0] ∧ (fun v W => Nw W v (N / t)) v' W ∧ (fun v W => Nw W v (N % t)) v'' W,
   .one fun v W => Nw W v (N / t),
   .one fun v W => Nw W v (N % t),
   .one fun v _ => v = .int .i64 0,
   .one fun v W => Nw W v (N / t),
   .one fun v W => Nw W v (N % t),
   .one fun v _ => v = .int .i64 0]
  (fun W => Ext w W ∧ BxA W w.heap.size 23 #[.int .i64 kd, .int .i64 (B : Int), .int .i64 rr, .int .i64 ee, .int .i64 (Wm : Int), .int .i64 vv, .int .i64 ll, .int .i64 pp] ∧ Nw W v1 B ∧ Wa.heap.size ≤ W.heap.size) ⟨Good.is _, Good.is _, Good.num _, Good.is _, Good.is _, Good.is _, Good.is _, Good.num _, Good.num _, Good.is _, Good.is _, Good.num _, (Good.num _).tup3 (Good.num _) _, (Good.num _).tup3 (Good.num _) _, Good.num _, Good.num _, Good.is _, Good.num _, Good.num _, Good.is _, trivial⟩
  (fun W W1 hS hE => ⟨(Ext.trans hS.1 hE), (hS.2.1.ext hE), (hS.2.2.1.ext hE), (Nat.le_trans hS.2.2.2 (Ext.size hE))⟩) ⟨E0, p3, g1, Nat.le_refl _⟩ (by kernel_rfl) (by kernel_rfl) (by kernel_rfl) (by kernel_rfl) (A := ?A9) ?hA9 ?howe9 ?hfin9
 case hA9 =>
  intro vs
  simp only [putAll, Act.put, List.setIfInBounds_toArray, List.set_cons_zero, List.set_cons_succ, Nat.zero_add, Nat.reduceAdd]
  exact rfl
 case howe9 =>
  clear E0 p3 g1
  intro hf
  refine ⟨owesE 0 [] hf rfl (by kernel_rfl) ?_, owesE 1 [] hf rfl (by kernel_rfl) ?_, owesE 2 [0, 1] hf rfl (by kernel_rfl) ?_, owesE 3 [] hf rfl (by kernel_rfl) ?_, owesE 4 [3] hf rfl (by kernel_rfl) ?_, owesE 5 [4] hf rfl (by kernel_rfl) ?_, owesE 6 [5] hf rfl (by kernel_rfl) ?_, owesE 7 [6] hf rfl (by kernel_rfl) ?_, owesE 8 [2, 7] hf rfl (by kernel_rfl) ?_, owesE 9 [] hf rfl (by kernel_rfl) ?_, owesE 10 [9] hf rfl (by kernel_rfl) ?_, owesE 11 [10] hf rfl (by kernel_rfl) ?_, owesE 12 [8, 11] hf rfl (by kernel_rfl) ?_, owesE 13 [12] hf rfl (by kernel_rfl) ?_, owesE 14 [13] hf rfl (by kernel_rfl) ?_, owesE 15 [13] hf rfl (by kernel_rfl) ?_, owesE 16 [13] hf rfl (by kernel_rfl) ?_, owesE 17 [14] hf rfl (by kernel_rfl) ?_, owesE 18 [15] hf rfl (by kernel_rfl) ?_, owesE 19 [16] hf rfl (by kernel_rfl) ?_, trivial⟩
  all_goals intro vs W hS hp hx KO hKO
  all_goals simp only [Act.put, List.setIfInBounds_toArray, List.set_cons_zero, List.set_cons_succ] at hKO
  ·go_simp
   exact hKO _ W (Ext.refl W) rfl
  ·go_simp
   exact hKO _ W (Ext.refl W) rfl
  ·have e0 := isOf hp.1
   have e1 := isOf hp.2.1
   simp only [e0, e1] at hKO
   go_simp
   refine (Tryz.natMul (hS.2.2.1) (hS.2.2.1) SB.out SB.out (by omega)).mono ?_
   rintro e W1 ⟨v, rfl, hv, hE, -⟩
   exact hKO _ W1 hE hv
  ·go_simp
   exact hKO _ W (Ext.refl W) rfl
  ·have e3 := isOf hp.1
   simp only [e3] at hKO
   have fc4 := BxA.cell (hS.2.1) 4 (v := .int .i64 (Wm : Int)) rfl
   go_simp
   exact hKO _ W (Ext.refl W) rfl
  ·have e4 := isOf hp.1
   simp only [e4] at hKO
   go_simp
   exact hKO _ W (Ext.refl W) rfl
  ·have e5 := isOf hp.1
   simp only [e5] at hKO
   go_simp
   exact hKO _ W (Ext.refl W) rfl
  ·have e6 := isOf hp.1
   simp only [e6] at hKO
   go_simp
   refine (Tryz.natOf M _ BM.out).mono ?_
   rintro e W1 ⟨v, rfl, hv, hE, -⟩
   exact hKO _ W1 hE hv
  ·have q2 := hp.1
   have q7 := hp.2.1
   go_simp
   refine (Tryz.natMul q2 q7 SBB.out SM.out (by omega)).mono ?_
   rintro e W1 ⟨v, rfl, hv, hE, -⟩
   rw [← HN.out] at hv
   exact hKO _ W1 hE hv
  ·go_simp
   exact hKO _ W (Ext.refl W) rfl
  ·have e9 := isOf hp.1
   simp only [e9] at hKO
   go_simp
   exact hKO _ W (Ext.refl W) rfl
  ·have e10 := isOf hp.1
   simp only [e10] at hKO
   go_simp
   refine (Tryz.natOf t _ BT.out).mono ?_
   rintro e W1 ⟨v, rfl, hv, hE, -⟩
   exact hKO _ W1 hE hv
  ·have q8 := hp.1
   have q11 := hp.2.1
   go_simp
   refine (Tryz.divDivModK q8 q11 SN.out (by omega) HT0.out).mono ?_
   rintro e W1 ⟨v, v2, rfl, hv, hv2, hE⟩
   exact hKO _ W1 hE ⟨_, _, rfl, hv, hv2⟩
  ·have q12 := hp.1
   obtain ⟨u, u2, ev, hu, hu2⟩ := q12
   replace ev : vs 12 = _ := ev
   simp only [ev] at hKO
   go_simp
   exact hKO _ W (Ext.refl W) ⟨u, u2, rfl, hu, hu2⟩
  ·have q13 := hp.1
   obtain ⟨u, u2, ev, hu, hu2⟩ := q13
   replace ev : vs 13 = _ := ev
   simp only [ev] at hKO
   go_simp
   exact hKO _ W (Ext.refl W) hu
  ·have q13 := hp.1
   obtain ⟨u, u2, ev, hu, hu2⟩ := q13
   replace ev : vs 13 = _ := ev
   simp only [ev] at hKO
   go_simp
   exact hKO _ W (Ext.refl W) hu2
  ·have q13 := hp.1
   obtain ⟨u, u2, ev, hu, hu2⟩ := q13
   replace ev : vs 13 = _ := ev
   simp only [ev] at hKO
   go_simp
   exact hKO _ W (Ext.refl W) rfl
  ·have q14 := hp.1
   go_simp
   exact hKO _ W (Ext.refl W) q14
  ·have q15 := hp.1
   go_simp
   exact hKO _ W (Ext.refl W) q15
  ·have e16 := isOf hp.1
   simp only [e16] at hKO
   go_simp
   exact hKO _ W (Ext.refl W) rfl
 intro vs W9 hS hp
 clear szw9 E0 p3 g1
 obtain ⟨E0, p3, g1, sz9⟩ := hS
 obtain ⟨h9_0, h9_1, h9_2, h9_3, h9_4, h9_5, h9_6, h9_7, h9_8, h9_9, h9_10, h9_11, h9_12, h9_13, h9_14, h9_15, h9_16, h9_17, h9_18, h9_19, -⟩ := hp
 replace h9_0 : vs 0 = v1 := h9_0
 replace h9_1 : vs 1 = v1 := h9_1
 replace h9_3 : vs 3 = .pointer (some ⟨w.heap.size, 4, none⟩) := h9_3
 replace h9_4 : vs 4 = .int .i64 (Wm : Int) := h9_4
 replace h9_5 : vs 5 = .int .i64 (M : Int) := h9_5
 replace h9_6 : vs 6 = .int .u64 (M : Int) := h9_6
 replace h9_9 : vs 9 = .int .i64 (t : Int) := h9_9
 replace h9_10 : vs 10 = .int .u64 (t : Int) := h9_10
 replace h9_16 : vs 16 = .int .i64 0 := h9_16
 replace h9_19 : vs 19 = .int .i64 0 := h9_19
 simp only [h9_0, h9_1, h9_3, h9_4, h9_5, h9_6, h9_9, h9_10, h9_16, h9_19]
 replace h9_2 : Nw W9 (vs 2) (B * B) := h9_2
 generalize vs 2 = u9_2 at h9_2 ⊢
 replace h9_7 : Nw W9 (vs 7) M := h9_7
 generalize vs 7 = u9_7 at h9_7 ⊢
 replace h9_8 : Nw W9 (vs 8) N := h9_8
 generalize vs 8 = u9_8 at h9_8 ⊢
 replace h9_11 : Nw W9 (vs 11) t := h9_11
 generalize vs 11 = u9_11 at h9_11 ⊢
 replace h9_14 : Nw W9 (vs 14) (N / t) := h9_14
 generalize vs 14 = u9_14 at h9_14 ⊢
 replace h9_15 : Nw W9 (vs 15) (N % t) := h9_15
 generalize vs 15 = u9_15 at h9_15 ⊢
 replace h9_17 : Nw W9 (vs 17) (N / t) := h9_17
 generalize vs 17 = u9_17 at h9_17 ⊢
 replace h9_18 : Nw W9 (vs 18) (N % t) := h9_18
 generalize vs 18 = u9_18 at h9_18 ⊢
 clear h9_0 h9_1 h9_3 h9_4 h9_5 h9_6 h9_9 h9_10 h9_16 h9_19 h9_12 h9_13
 obtain ⟨kp3_0, kp3_1, kp3_2, kp3_3, kp3_4, kp3_5, kp3_6, kp3_7⟩ := p3.cells8
 go_wp2_with fail
 clear kp3_0 kp3_1 kp3_2 kp3_3 kp3_4 kp3_5 kp3_6 kp3_7
 refine (Tryz.rootRoot h9_17 SQ.out (by omega) 2).mono ?_
 rintro e Wb ⟨v3, rfl, g3, hE⟩
 rw [HRE.out]
 rw [HRV.out] at g3
 replace E0 := (Ext.trans E0 hE)
 replace p3 := (p3.ext hE)
 replace g1 := (g1.ext hE)
 replace h9_2 := (h9_2.ext hE)
 replace h9_7 := (h9_7.ext hE)
 replace h9_8 := (h9_8.ext hE)
 replace h9_11 := (h9_11.ext hE)
 replace h9_14 := (h9_14.ext hE)
 replace h9_15 := (h9_15.ext hE)
 replace h9_17 := (h9_17.ext hE)
 replace h9_18 := (h9_18.ext hE)
 clear hE
 obtain ⟨kp3_0, kp3_1, kp3_2, kp3_3, kp3_4, kp3_5, kp3_6, kp3_7⟩ := p3.cells8
 go_wp2_with fail
 clear kp3_0 kp3_1 kp3_2 kp3_3 kp3_4 kp3_5 kp3_6 kp3_7
 refine (Tryz.natSmall g3).mono ?_
 rintro e Wc ⟨rfl, rfl⟩
 rw [HSN.out, HSB.out]
 go_wp2
 go_ret
 exact ⟨rfl, E0⟩

set_option maxRecDepth 100000 in
set_option maxHeartbeats 4000000 in
theorem Tryz.schedDropped (B R Wm V t K : Nat) (kd ee ll pp : Int) (w : World) (hB : B < 9223372036854775808) (hR : R ≤ 2 ^ K) (hK : K ≤ 40) (hW : Wm ≤ 1000000) (hV1 : 1 ≤ V) (hV2 : V ≤ 1000000) (ht2 : t ≤ 1000000) (hWt : Wm < t) :
  Calls Tryz.prog 13 #[.agg #[.int .i64 kd, .int .i64 (B : Int), .int .i64 (R : Int), .int .i64 ee, .int .i64 (Wm : Int), .int .i64 (V : Int), .int .i64 ll, .int .i64 pp], .int .i64 (t : Int), .int .i64 (K : Int)] w fun e w' => e = .returned (.int .i64 (dropV R K (B : Int) (min ((t - Wm) / V) 200))) ∧ Ext w w' := by
 obtain ⟨m, hm⟩ : ∃ m, m = min ((t - Wm) / V) 200 := ⟨_, rfl⟩
 obtain ⟨q, hq⟩ : ∃ q, q = (t - Wm) / V := ⟨_, rfl⟩
 have hqb : q ≤ 1000000 := by rw [hq]; exact Nat.le_trans (Nat.div_le_self _ _) (by omega)
 have hP : R ≤ 1099511627776 := Nat.le_trans hR (Nat.le_trans (Nat.pow_le_pow_right (by omega) hK) (by decide))
 have hs : IntKind.i64.wrap ((t : Int) - (Wm : Int)) = ((t - Wm : Nat) : Int) := by rw [IntKind.wrap_i64]; omega
 have hd : (((t - Wm : Nat) : Int)).tdiv (V : Int) = (q : Int) := by rw [Int.tdiv_eq_ediv_of_nonneg (by omega), hq]; rfl
 have hd2 : (((t - Wm : Nat) : Int)) / (V : Int) = (q : Int) := by rw [hq]; rfl
 have hd3 : IntKind.i64.wrap ((((t - Wm : Nat) : Int)).tdiv (V : Int)) = (q : Int) := by rw [hd, IntKind.wrap_i64]; omega
 have hd4 : IntKind.i64.wrap (q : Int) = (q : Int) := by rw [IntKind.wrap_i64]; omega
 have hv0 : ((V : Int) == 0) = false := beq_eq_false_iff_ne.2 (by omega)
 have hv0a : ¬ ((V : Int) = 0) := by omega
 have hv0b : ¬ (V = 0) := by omega
 have hmn : min (q : Int) 200 = (m : Int) := by rw [hm, ← hq]; omega
 have hmn2 : min (200 : Int) (q : Int) = (m : Int) := by rw [hm, ← hq]; omega
 have hmb : m ≤ 200 := by omega
 have HDB := Lib.hid (fun n => drop_bounds (R := R) (K := K) (x := (B : Int)) hR (by omega) n)
 have HK := Lib.hid hK
 have HBB := Lib.hid hB
 have HRB := Lib.hid hP
 rw [← hm]
 clear hm hq hqb hP hR hB hK
 obtain ⟨W0, hW0⟩ : ∃ W0, W0 = (w.alloc (.cells #[.int .i64 kd, .int .i64 (B : Int), .int .i64 (R : Int), .int .i64 ee, .int .i64 (Wm : Int), .int .i64 (V : Int), .int .i64 ll, .int .i64 pp] 23)) := ⟨_, rfl⟩
 have E0 : Ext w W0 := by rw [hW0]; exact (Ext.alloc1 w (.cells #[.int .i64 kd, .int .i64 (B : Int), .int .i64 (R : Int), .int .i64 ee, .int .i64 (Wm : Int), .int .i64 (V : Int), .int .i64 ll, .int .i64 pp] 23))
 have p3 : BxA W0 w.heap.size 23 #[.int .i64 kd, .int .i64 (B : Int), .int .i64 (R : Int), .int .i64 ee, .int .i64 (Wm : Int), .int .i64 (V : Int), .int .i64 ll, .int .i64 pp] := by rw [hW0]; exact (BxA.new w 23 #[.int .i64 kd, .int .i64 (B : Int), .int .i64 (R : Int), .int .i64 ee, .int .i64 (Wm : Int), .int .i64 (V : Int), .int .i64 ll, .int .i64 pp])
 go_enter Tryz.func13, Tryz.ntmps13
 obtain ⟨kp3_0, kp3_1, kp3_2, kp3_3, kp3_4, kp3_5, kp3_6, kp3_7⟩ := p3.cells8
 go_wp2_with fail
 rw [← hW0]
 clear hW0
 clear kp3_0 kp3_1 kp3_2 kp3_3 kp3_4 kp3_5 kp3_6 kp3_7
 go_loopw [7, 18] (fun x i wr => ∃ k : Nat, x = .int .i64 (dropV R K (B : Int) k) ∧ i = .int .i64 (k : Int) ∧ k ≤ m ∧ Ext W0 wr) (fun _ i _ => m - (intOf i).toNat)
 case atStart => exact ⟨0, rfl, rfl, by omega, Ext.refl W0⟩
 case round =>
  obtain ⟨k, rfl, rfl, hk, hX⟩ := hrel
  have E0r : Ext w wr := (Ext.trans E0 hX)
  have p3r : BxA wr w.heap.size 23 #[.int .i64 kd, .int .i64 (B : Int), .int .i64 (R : Int), .int .i64 ee, .int .i64 (Wm : Int), .int .i64 (V : Int), .int .i64 ll, .int .i64 pp] := (p3.ext hX)
  clear E0 p3
  by_cases hlt : k < m
  ·have hltI : (k : Int) < (m : Int) := by omega
   have h1 := (HDB.out k)
   have h2 := (HDB.out (k + 1))
   obtain ⟨X, hX0⟩ : ∃ X, X = dropV R K (B : Int) k := ⟨_, rfl⟩
   obtain ⟨Y, hY0⟩ : ∃ Y, Y = dropV R K (B : Int) (k + 1) := ⟨_, rfl⟩
   rw [← hX0] at h1 ⊢
   rw [← hY0] at h2
   have hfit : fits Y = true := fits_iff.2 (by have := HBB.out; omega)
   have HY : Hid (nearR (((X * (R : Int) : Int) : Rat) / ((2 ^ K : Nat) : Rat)) = Y) := Lib.hid (by rw [hY0, hX0]; rfl)
   have HV : Hid (fitV (nearR (((X * (R : Int) : Int) : Rat) / ((2 ^ K : Nat) : Rat))) = Y) := Lib.hid (by rw [HY.out]; exact fitV_in hfit)
   have HE : Hid (fitE (nearR (((X * (R : Int) : Int) : Rat) / ((2 ^ K : Nat) : Rat))) = 0) := Lib.hid (by rw [HY.out]; exact fitE_in hfit)
   have HY0 := Lib.hid hY0
   have HX1 := Lib.hid (show -9223372036854775808 ≤ X ∧ X < 9223372036854775808 by have := HBB.out; omega)
   clear h1 h2 hfit hX0 hY0
   obtain ⟨kp3r_0, kp3r_1, kp3r_2, kp3r_3, kp3r_4, kp3r_5, kp3r_6, kp3r_7⟩ := p3r.cells8
   go_wp2_with fail
   clear kp3r_0 kp3r_1 kp3r_2 kp3r_3 kp3r_4 kp3r_5 kp3r_6 kp3r_7
   refine (Tryz.fixMulV X (R : Int) K HK.out _ HX1.out.1 HX1.out.2 (by omega) (by have := HRB.out; omega) HV.out HE.out).mono ?_
   rintro e Wq ⟨rfl, hE⟩
   replace hX := hX.trans hE
   replace E0r := (Ext.trans E0r hE)
   replace p3r := (p3r.ext hE)
   clear hE
   obtain ⟨kp3r_0, kp3r_1, kp3r_2, kp3r_3, kp3r_4, kp3r_5, kp3r_6, kp3r_7⟩ := p3r.cells8
   go_wp2
   go_roundw
   case rel => exact ⟨k + 1, by rw [HY0.out], by go_num, by omega, hX⟩
   case measure => simp [intOf]; omega
  ·obtain rfl : k = m := by omega
   go_wp2
   go_ret
   exact ⟨rfl, E0r⟩

set_option maxRecDepth 100000 in
set_option maxHeartbeats 4000000 in
theorem Tryz.schedPowered (B E L P t : Nat) (kd rr ww vv ff : Int) (w : World) (hB : B < 9223372036854775808) (hE : E ≤ B) (hL1 : 1 ≤ L) (hL2 : L ≤ 1000000) (hP1 : 1 ≤ P) (hP2 : P ≤ 8) (ht1 : 1 ≤ t) (ht2 : t ≤ 1000000) :
  Calls Tryz.prog 14 #[.agg #[.int .i64 kd, .int .i64 (B : Int), .int .i64 rr, .int .i64 (E : Int), .int .i64 ww, .int .i64 vv, .int .i64 (L : Int), .int .i64 (P : Int)], .int .i64 (t : Int), .int .i64 ff] w fun e w' => e = .returned (.int .i64 ((E : Int) + shareV ((B : Int) - (E : Int)) L P (L - t))) ∧ Ext w w' := by
 obtain ⟨l, hl⟩ : ∃ l, l = L - t := ⟨_, rfl⟩
 obtain ⟨V, hV⟩ : ∃ V, V = shareV ((B : Int) - (E : Int)) L P l := ⟨_, rfl⟩
 obtain ⟨D, hD⟩ : ∃ D, D = (B : Int) - (E : Int) := ⟨_, rfl⟩
 have hvb := share_bounds (D := (B : Int) - (E : Int)) (L := L) (P := P) (l := l) (by omega) (by omega) (by omega)
 rw [← hV] at hvb
 rw [← hl, ← hV]
 have hlb : l ≤ 1000000 := by omega
 have hs : IntKind.i64.wrap ((L : Int) - (t : Int)) = (L : Int) - (t : Int) := by rw [IntKind.wrap_i64]; omega
 have hmx : max ((L : Int) - (t : Int)) 0 = (l : Int) := by omega
 have hmx2 : max (0 : Int) ((L : Int) - (t : Int)) = (l : Int) := by omega
 have hwl : IntKind.u64.wrap (l : Int) = (l : Int) := by rw [IntKind.wrap_u64]; omega
 have hwL : IntKind.u64.wrap (L : Int) = (L : Int) := by rw [IntKind.wrap_u64]; omega
 have hwD : IntKind.i64.wrap ((B : Int) - (E : Int)) = D := by rw [hD, IntKind.wrap_i64]; omega
 have hwE : IntKind.i64.wrap ((E : Int) + V) = (E : Int) + V := by rw [IntKind.wrap_i64]; omega
 have BL : Hid (L < B64) := Lib.hid (by rw [B64_eq]; omega)
 have Bl : Hid (l < B64) := Lib.hid (by rw [B64_eq]; omega)
 have SL : Hid (Sm 1 L) := Lib.hid (Sm.one BL.out)
 have Sl : Hid (Sm 1 l) := Lib.hid (Sm.one Bl.out)
 obtain ⟨N, hN⟩ : ∃ N, N = l ^ P := ⟨_, rfl⟩
 obtain ⟨M, hM⟩ : ∃ M, M = L ^ P := ⟨_, rfl⟩
 have SN : Hid (Sm 9 N) := Lib.hid (by rw [hN]; exact (Sl.out.pow P).mono (by omega))
 have SM : Hid (Sm 10 M) := Lib.hid (by rw [hM]; exact (SL.out.pow P).mono (by omega))
 have SNi : Hid (Sm 9 ((N : Nat) : Int).natAbs) := Lib.hid (by rw [Int.natAbs_natCast]; exact SN.out)
 have HPE : Hid (rootE (P : Int) = 0) := Lib.hid (if_pos (by omega))
 have HPN : Hid (powV l (P : Int) = N) := Lib.hid (by unfold powV; rw [if_pos (by omega), Int.toNat_natCast, hN])
 have HPM : Hid (powV L (P : Int) = M) := Lib.hid (by unfold powV; rw [if_pos (by omega), Int.toNat_natCast, hM])
 have HM0 : Hid (M ≠ 0) := Lib.hid (by rw [hM]; exact Nat.pos_iff_ne_zero.1 (Nat.pow_pos (by omega)))
 have SD : Hid (Sm 1 D.natAbs) := Lib.hid (Sm.small (by omega))
 obtain ⟨Z, hZ⟩ : ∃ Z, Z = D * ((N : Nat) : Int) := ⟨_, rfl⟩
 have SZ : Hid (Sm 10 Z.natAbs) := Lib.hid (by rw [hZ, Int.natAbs_mul]; exact SD.out.mul SNi.out)
 have SR : Hid (SmR 10 (mkRat Z M)) := Lib.hid (SmR.mk SZ.out SM.out HM0.out)
 have hval : nearR (mkRat Z M * P2 0) = V := by rw [P2_zero, Rat.mul_one, Rat.mkRat_eq_div, hV, hZ, hD, hN, hM]; rfl
 have hfit : fits V = true := fits_iff.2 (by omega)
 have HV : Hid (fitV (nearR (mkRat Z M * P2 0)) = V) := Lib.hid (by rw [hval]; exact fitV_in hfit)
 have HE : Hid (fitE (nearR (mkRat Z M * P2 0)) = 0) := Lib.hid (by rw [hval]; exact fitE_in hfit)
 have HZ := Lib.hid hZ
 have HDB := Lib.hid (show -9223372036854775808 ≤ D ∧ D < 9223372036854775808 by omega)
 clear hl hV hD hvb hlb hN hM hZ hval hfit hB hE hL1 hL2 hP1 hP2 ht1 ht2
 obtain ⟨W0, hW0⟩ : ∃ W0, W0 = (w.alloc (.cells #[.int .i64 kd, .int .i64 (B : Int), .int .i64 rr, .int .i64 (E : Int), .int .i64 ww, .int .i64 vv, .int .i64 (L : Int), .int .i64 (P : Int)] 23)) := ⟨_, rfl⟩
 have E0 : Ext w W0 := by rw [hW0]; exact (Ext.alloc1 w (.cells #[.int .i64 kd, .int .i64 (B : Int), .int .i64 rr, .int .i64 (E : Int), .int .i64 ww, .int .i64 vv, .int .i64 (L : Int), .int .i64 (P : Int)] 23))
 have p3 : BxA W0 w.heap.size 23 #[.int .i64 kd, .int .i64 (B : Int), .int .i64 rr, .int .i64 (E : Int), .int .i64 ww, .int .i64 vv, .int .i64 (L : Int), .int .i64 (P : Int)] := by rw [hW0]; exact (BxA.new w 23 #[.int .i64 kd, .int .i64 (B : Int), .int .i64 rr, .int .i64 (E : Int), .int .i64 ww, .int .i64 vv, .int .i64 (L : Int), .int .i64 (P : Int)])
 go_enter Tryz.func14, Tryz.ntmps14
 obtain ⟨kp3_0, kp3_1, kp3_2, kp3_3, kp3_4, kp3_5, kp3_6, kp3_7⟩ := p3.cells8
 go_upto_region 2 with (fail)
 rw [← hW0]
 clear hW0
 clear kp3_0 kp3_1 kp3_2 kp3_3 kp3_4 kp3_5 kp3_6 kp3_7
 have ltp3 := p3.lt
 have szw10 := Ext.size E0
 refine region_go [.one fun v _ => v = .int .i64 (l : Int),
   .one fun v _ => v = .int .u64 (l : Int),
   .one fun v W => Nw W v l,
   .one fun v _ => v = .pointer (some ⟨w.heap.size, 7, none⟩),
   .one fun v _ => v = .int .i64 (P : Int),
   .one fun v W => ∃ v', v = .tuple #[v', .int .i64 0] ∧ (fun v W => Nw W v N) v' W,
   .one fun v W => ∃ v', v = .tuple #[v', .int .i64 0] ∧ (fun v W => Nw W v N) v' W,
   .one fun v W => Nw W v N,
   .one fun v _ => v = .int .i64 0,
   .one fun v W => Nw W v N,
   .one fun v _ => v = .int .i64 0]
  (fun W => Ext w W ∧ BxA W w.heap.size 23 #[.int .i64 kd, .int .i64 (B : Int), .int .i64 rr, .int .i64 (E : Int), .int .i64 ww, .int .i64 vv, .int .i64 (L : Int), .int .i64 (P : Int)] ∧ W0.heap.size ≤ W.heap.size) ⟨Good.is _, Good.is _, Good.num _, Good.is _, Good.is _, (Good.num _).tup _, (Good.num _).tup _, Good.num _, Good.is _, Good.num _, Good.is _, trivial⟩
  (fun W W1 hS hE => ⟨(Ext.trans hS.1 hE), (hS.2.1.ext hE), (Nat.le_trans hS.2.2 (Ext.size hE))⟩) ⟨E0, p3, Nat.le_refl _⟩ (by kernel_rfl) (by kernel_rfl) (by kernel_rfl) (by kernel_rfl) (A := ?A10) ?hA10 ?howe10 ?hfin10
 case hA10 =>
  intro vs
  simp only [putAll, Act.put, List.setIfInBounds_toArray, List.set_cons_zero, List.set_cons_succ, Nat.zero_add, Nat.reduceAdd]
  exact rfl
 case howe10 =>
  clear E0 p3
  intro hf
  refine ⟨owesE 0 [] hf rfl (by kernel_rfl) ?_, owesE 1 [0] hf rfl (by kernel_rfl) ?_, owesE 2 [1] hf rfl (by kernel_rfl) ?_, owesE 3 [] hf rfl (by kernel_rfl) ?_, owesE 4 [3] hf rfl (by kernel_rfl) ?_, owesE 5 [2, 4] hf rfl (by kernel_rfl) ?_, owesE 6 [5] hf rfl (by kernel_rfl) ?_, owesE 7 [6] hf rfl (by kernel_rfl) ?_, owesE 8 [6] hf rfl (by kernel_rfl) ?_, owesE 9 [7] hf rfl (by kernel_rfl) ?_, owesE 10 [8] hf rfl (by kernel_rfl) ?_, trivial⟩
  all_goals intro vs W hS hp hx KO hKO
  all_goals simp only [Act.put, List.setIfInBounds_toArray, List.set_cons_zero, List.set_cons_succ] at hKO
  ·go_simp
   exact hKO _ W (Ext.refl W) rfl
  ·have e0 := isOf hp.1
   simp only [e0] at hKO
   go_simp
   exact hKO _ W (Ext.refl W) rfl
  ·have e1 := isOf hp.1
   simp only [e1] at hKO
   go_simp
   refine (Tryz.natOf l _ Bl.out).mono ?_
   rintro e W1 ⟨v, rfl, hv, hE, -⟩
   exact hKO _ W1 hE hv
  ·go_simp
   exact hKO _ W (Ext.refl W) rfl
  ·have e3 := isOf hp.1
   simp only [e3] at hKO
   have fc7 := BxA.cell (hS.2.1) 7 (v := .int .i64 (P : Int)) rfl
   go_simp
   exact hKO _ W (Ext.refl W) rfl
  ·have q2 := hp.1
   have e4 := isOf hp.2.1
   simp only [e4] at hKO
   go_simp
   refine (Tryz.rootPow q2 Sl.out (by omega) (P : Int)).mono ?_
   rintro e W1 ⟨v, rfl, hv, hE⟩
   rw [HPN.out] at hv; rw [HPE.out]
   exact hKO _ W1 hE ⟨_, rfl, hv⟩
  ·have q5 := hp.1
   obtain ⟨u, ev, hu⟩ := q5
   replace ev : vs 5 = _ := ev
   simp only [ev] at hKO
   go_simp
   exact hKO _ W (Ext.refl W) ⟨u, rfl, hu⟩
  ·have q6 := hp.1
   obtain ⟨u, ev, hu⟩ := q6
   replace ev : vs 6 = _ := ev
   simp only [ev] at hKO
   go_simp
   exact hKO _ W (Ext.refl W) hu
  ·have q6 := hp.1
   obtain ⟨u, ev, hu⟩ := q6
   replace ev : vs 6 = _ := ev
   simp only [ev] at hKO
   go_simp
   exact hKO _ W (Ext.refl W) rfl
  ·have q7 := hp.1
   go_simp
   exact hKO _ W (Ext.refl W) q7
  ·have e8 := isOf hp.1
   simp only [e8] at hKO
   go_simp
   exact hKO _ W (Ext.refl W) rfl
 intro vs W10 hS hp
 clear szw10 E0 p3
 obtain ⟨E0, p3, sz10⟩ := hS
 obtain ⟨h10_0, h10_1, h10_2, h10_3, h10_4, h10_5, h10_6, h10_7, h10_8, h10_9, h10_10, -⟩ := hp
 replace h10_0 : vs 0 = .int .i64 (l : Int) := h10_0
 replace h10_1 : vs 1 = .int .u64 (l : Int) := h10_1
 replace h10_3 : vs 3 = .pointer (some ⟨w.heap.size, 7, none⟩) := h10_3
 replace h10_4 : vs 4 = .int .i64 (P : Int) := h10_4
 replace h10_8 : vs 8 = .int .i64 0 := h10_8
 replace h10_10 : vs 10 = .int .i64 0 := h10_10
 simp only [h10_0, h10_1, h10_3, h10_4, h10_8, h10_10]
 replace h10_2 : Nw W10 (vs 2) l := h10_2
 generalize vs 2 = u10_2 at h10_2 ⊢
 replace h10_7 : Nw W10 (vs 7) N := h10_7
 generalize vs 7 = u10_7 at h10_7 ⊢
 replace h10_9 : Nw W10 (vs 9) N := h10_9
 generalize vs 9 = u10_9 at h10_9 ⊢
 clear h10_0 h10_1 h10_3 h10_4 h10_8 h10_10 h10_5 h10_6
 obtain ⟨kp3_0, kp3_1, kp3_2, kp3_3, kp3_4, kp3_5, kp3_6, kp3_7⟩ := p3.cells8
 go_upto_region 3 with (fail)
 clear kp3_0 kp3_1 kp3_2 kp3_3 kp3_4 kp3_5 kp3_6 kp3_7
 have szw11 := Ext.size E0
 refine region_go [.one fun v _ => v = .pointer (some ⟨w.heap.size, 6, none⟩),
   .one fun v _ => v = .int .i64 (L : Int),
   .one fun v _ => v = .int .u64 (L : Int),
   .one fun v W => Nw W v L,
   .one fun v _ => v = .pointer (some ⟨w.heap.size, 7, none⟩),
   .one fun v _ => v = .int .i64 (P : Int),
   .one fun v W => ∃ v', v = .tuple #[v', .int .i64 0] ∧ (fun v W => Nw W v M) v' W,
   .one fun v W => ∃ v', v = .tuple #[v', .int .i64 0] ∧ (fun v W => Nw W v M) v' W,
   .one fun v W => Nw W v M,
   .one fun v _ => v = .int .i64 0,
   .one fun v W => Nw W v M,
   .one fun v _ => v = .int .i64 0]
  (fun W => Ext w W ∧ BxA W w.heap.size 23 #[.int .i64 kd, .int .i64 (B : Int), .int .i64 rr, .int .i64 (E : Int), .int .i64 ww, .int .i64 vv, .int .i64 (L : Int), .int .i64 (P : Int)] ∧ Nw W u10_2 l ∧ Nw W u10_7 N ∧ Nw W u10_9 N ∧ W10.heap.size ≤ W.heap.size) ⟨Good.is _, Good.is _, Good.is _, Good.num _, Good.is _, Good.is _, (Good.num _).tup _, (Good.num _).tup _, Good.num _, Good.is _, Good.num _, Good.is _, trivial⟩
  (fun W W1 hS hE => ⟨(Ext.trans hS.1 hE), (hS.2.1.ext hE), (hS.2.2.1.ext hE), (hS.2.2.2.1.ext hE), (hS.2.2.2.2.1.ext hE), (Nat.le_trans hS.2.2.2.2.2 (Ext.size hE))⟩) ⟨E0, p3, h10_2, h10_7, h10_9, Nat.le_refl _⟩ (by kernel_rfl) (by kernel_rfl) (by kernel_rfl) (by kernel_rfl) (A := ?A11) ?hA11 ?howe11 ?hfin11
 case hA11 =>
  intro vs
  simp only [putAll, Act.put, List.setIfInBounds_toArray, List.set_cons_zero, List.set_cons_succ, Nat.zero_add, Nat.reduceAdd]
  exact rfl
 case howe11 =>
  clear E0 p3 h10_2 h10_7 h10_9
  intro hf
  refine ⟨owesE 0 [] hf rfl (by kernel_rfl) ?_, owesE 1 [0] hf rfl (by kernel_rfl) ?_, owesE 2 [1] hf rfl (by kernel_rfl) ?_, owesE 3 [2] hf rfl (by kernel_rfl) ?_, owesE 4 [] hf rfl (by kernel_rfl) ?_, owesE 5 [4] hf rfl (by kernel_rfl) ?_, owesE 6 [3, 5] hf rfl (by kernel_rfl) ?_, owesE 7 [6] hf rfl (by kernel_rfl) ?_, owesE 8 [7] hf rfl (by kernel_rfl) ?_, owesE 9 [7] hf rfl (by kernel_rfl) ?_, owesE 10 [8] hf rfl (by kernel_rfl) ?_, owesE 11 [9] hf rfl (by kernel_rfl) ?_, trivial⟩
  all_goals intro vs W hS hp hx KO hKO
  all_goals simp only [Act.put, List.setIfInBounds_toArray, List.set_cons_zero, List.set_cons_succ] at hKO
  ·go_simp
   exact hKO _ W (Ext.refl W) rfl
  ·have e0 := isOf hp.1
   simp only [e0] at hKO
   have fc6 := BxA.cell (hS.2.1) 6 (v := .int .i64 (L : Int)) rfl
   go_simp
   exact hKO _ W (Ext.refl W) rfl
  ·have e1 := isOf hp.1
   simp only [e1] at hKO
   go_simp
   exact hKO _ W (Ext.refl W) rfl
  ·have e2 := isOf hp.1
   simp only [e2] at hKO
   go_simp
   refine (Tryz.natOf L _ BL.out).mono ?_
   rintro e W1 ⟨v, rfl, hv, hE, -⟩
   exact hKO _ W1 hE hv
  ·go_simp
   exact hKO _ W (Ext.refl W) rfl
  ·have e4 := isOf hp.1
   simp only [e4] at hKO
   have fc7 := BxA.cell (hS.2.1) 7 (v := .int .i64 (P : Int)) rfl
   go_simp
   exact hKO _ W (Ext.refl W) rfl
  ·have q3 := hp.1
   have e5 := isOf hp.2.1
   simp only [e5] at hKO
   go_simp
   refine (Tryz.rootPow q3 SL.out (by omega) (P : Int)).mono ?_
   rintro e W1 ⟨v, rfl, hv, hE⟩
   rw [HPM.out] at hv; rw [HPE.out]
   exact hKO _ W1 hE ⟨_, rfl, hv⟩
  ·have q6 := hp.1
   obtain ⟨u, ev, hu⟩ := q6
   replace ev : vs 6 = _ := ev
   simp only [ev] at hKO
   go_simp
   exact hKO _ W (Ext.refl W) ⟨u, rfl, hu⟩
  ·have q7 := hp.1
   obtain ⟨u, ev, hu⟩ := q7
   replace ev : vs 7 = _ := ev
   simp only [ev] at hKO
   go_simp
   exact hKO _ W (Ext.refl W) hu
  ·have q7 := hp.1
   obtain ⟨u, ev, hu⟩ := q7
   replace ev : vs 7 = _ := ev
   simp only [ev] at hKO
   go_simp
   exact hKO _ W (Ext.refl W) rfl
  ·have q8 := hp.1
   go_simp
   exact hKO _ W (Ext.refl W) q8
  ·have e9 := isOf hp.1
   simp only [e9] at hKO
   go_simp
   exact hKO _ W (Ext.refl W) rfl
 intro vs W11 hS hp
 clear szw11 E0 p3 h10_2 h10_7 h10_9
 obtain ⟨E0, p3, h10_2, h10_7, h10_9, sz11⟩ := hS
 obtain ⟨h11_0, h11_1, h11_2, h11_3, h11_4, h11_5, h11_6, h11_7, h11_8, h11_9, h11_10, h11_11, -⟩ := hp
 replace h11_0 : vs 0 = .pointer (some ⟨w.heap.size, 6, none⟩) := h11_0
 replace h11_1 : vs 1 = .int .i64 (L : Int) := h11_1
 replace h11_2 : vs 2 = .int .u64 (L : Int) := h11_2
 replace h11_4 : vs 4 = .pointer (some ⟨w.heap.size, 7, none⟩) := h11_4
 replace h11_5 : vs 5 = .int .i64 (P : Int) := h11_5
 replace h11_9 : vs 9 = .int .i64 0 := h11_9
 replace h11_11 : vs 11 = .int .i64 0 := h11_11
 simp only [h11_0, h11_1, h11_2, h11_4, h11_5, h11_9, h11_11]
 replace h11_3 : Nw W11 (vs 3) L := h11_3
 generalize vs 3 = u11_3 at h11_3 ⊢
 replace h11_8 : Nw W11 (vs 8) M := h11_8
 generalize vs 8 = u11_8 at h11_8 ⊢
 replace h11_10 : Nw W11 (vs 10) M := h11_10
 generalize vs 10 = u11_10 at h11_10 ⊢
 clear h11_0 h11_1 h11_2 h11_4 h11_5 h11_9 h11_11 h11_6 h11_7
 obtain ⟨aa, na, ca, eza, za, -⟩ := h10_9.len
 rw [eza] at h10_9 ⊢
 clear eza
 clear za
 have hz := Zw.ofN h10_9
 obtain ⟨kp3_0, kp3_1, kp3_2, kp3_3, kp3_4, kp3_5, kp3_6, kp3_7⟩ := p3.cells8
 go_upto_region 4 with (fail)
 clear kp3_0 kp3_1 kp3_2 kp3_3 kp3_4 kp3_5 kp3_6 kp3_7
 have szw12 := Ext.size E0
 refine region_go [.one fun v _ => v = .pointer (some ⟨w.heap.size, 1, none⟩),
   .one fun v _ => v = .int .i64 (B : Int),
   .one fun v _ => v = .pointer (some ⟨w.heap.size, 3, none⟩),
   .one fun v _ => v = .int .i64 (E : Int),
   .one fun v _ => v = .int .i64 D,
   .one fun v W => Zw W v D,
   .one fun v _ => v = .slice aa na ca,
   .one fun v _ => v = .agg #[.bool false, .slice aa na ca],
   .one fun v W => Zw W v Z,
   .one fun v _ => v = u11_10,
   .one fun v W => ∃ v', v = .tuple #[v', .int .i64 0] ∧ (fun v W => Rw W v (mkRat Z M)) v' W,
   .one fun v W => ∃ v', v = .tuple #[v', .int .i64 0] ∧ (fun v W => Rw W v (mkRat Z M)) v' W,
   .one fun v W => Rw W v (mkRat Z M),
   .one fun v _ => v = .int .i64 0,
   .one fun v W => ∃ g, v = .pointer (some ⟨g, 0, none⟩) ∧ W11.heap.size ≤ g ∧ Form W g 56 3,
   .three 14 12 (fun p r _ W => Put3 W11.heap.size 56 p r W),
   .one fun v _ => v = .int .i64 0]
  (fun W => Ext w W ∧ BxA W w.heap.size 23 #[.int .i64 kd, .int .i64 (B : Int), .int .i64 rr, .int .i64 (E : Int), .int .i64 ww, .int .i64 vv, .int .i64 (L : Int), .int .i64 (P : Int)] ∧ Nw W u10_2 l ∧ Nw W u10_7 N ∧ Nw W (.slice aa na ca) N ∧ Nw W u11_3 L ∧ Nw W u11_8 M ∧ Nw W u11_10 M ∧ Zw W (.agg #[.bool false, .slice aa na ca]) (((N : Nat) : Int)) ∧ W11.heap.size ≤ W.heap.size) ⟨Good.is _, Good.is _, Good.is _, Good.is _, Good.is _, Good.zed _, Good.is _, Good.is _, Good.zed _, Good.is _, (Good.rat _).tup _, (Good.rat _).tup _, Good.rat _, Good.is _, Good.box _ _ _, cert_put3, Good.is _, trivial⟩
  (fun W W1 hS hE => ⟨(Ext.trans hS.1 hE), (hS.2.1.ext hE), (hS.2.2.1.ext hE), (hS.2.2.2.1.ext hE), (hS.2.2.2.2.1.ext hE), (hS.2.2.2.2.2.1.ext hE), (hS.2.2.2.2.2.2.1.ext hE), (hS.2.2.2.2.2.2.2.1.ext hE), (hS.2.2.2.2.2.2.2.2.1.ext hE), (Nat.le_trans hS.2.2.2.2.2.2.2.2.2 (Ext.size hE))⟩) ⟨E0, p3, h10_2, h10_7, h10_9, h11_3, h11_8, h11_10, hz, Nat.le_refl _⟩ (by kernel_rfl) (by kernel_rfl) (by kernel_rfl) (by kernel_rfl) (A := ?A12) ?hA12 ?howe12 ?hfin12
 case hA12 =>
  intro vs
  simp only [putAll, Act.put, List.setIfInBounds_toArray, List.set_cons_zero, List.set_cons_succ, Nat.zero_add, Nat.reduceAdd]
  exact rfl
 case howe12 =>
  clear E0 p3 h10_2 h10_7 h10_9 h11_3 h11_8 h11_10 hz
  intro hf
  refine ⟨owesE 0 [] hf rfl (by kernel_rfl) ?_, owesE 1 [0] hf rfl (by kernel_rfl) ?_, owesE 2 [] hf rfl (by kernel_rfl) ?_, owesE 3 [2] hf rfl (by kernel_rfl) ?_, owesE 4 [1, 3] hf rfl (by kernel_rfl) ?_, owesE 5 [4] hf rfl (by kernel_rfl) ?_, owesE 6 [] hf rfl (by kernel_rfl) ?_, owesE 7 [6] hf rfl (by kernel_rfl) ?_, owesE 8 [5, 7] hf rfl (by kernel_rfl) ?_, owesE 9 [] hf rfl (by kernel_rfl) ?_, owesE 10 [8, 9] hf rfl (by kernel_rfl) ?_, owesE 11 [10] hf rfl (by kernel_rfl) ?_, owesE 12 [11] hf rfl (by kernel_rfl) ?_, owesE 13 [11] hf rfl (by kernel_rfl) ?_, owesE 14 [] hf rfl (by kernel_rfl) ?_, owesW 15 [14, 12] hf rfl (by kernel_rfl) (by kernel_rfl) ?_, owesE 16 [13] hf rfl (by kernel_rfl) ?_, trivial⟩
  all_goals intro vs W hS hp hx KO hKO
  all_goals simp only [Act.put, List.setIfInBounds_toArray, List.set_cons_zero, List.set_cons_succ] at hKO
  ·go_simp
   exact hKO _ W (Ext.refl W) rfl
  ·have e0 := isOf hp.1
   simp only [e0] at hKO
   have fc1 := BxA.cell (hS.2.1) 1 (v := .int .i64 (B : Int)) rfl
   go_simp
   exact hKO _ W (Ext.refl W) rfl
  ·go_simp
   exact hKO _ W (Ext.refl W) rfl
  ·have e2 := isOf hp.1
   simp only [e2] at hKO
   have fc3 := BxA.cell (hS.2.1) 3 (v := .int .i64 (E : Int)) rfl
   go_simp
   exact hKO _ W (Ext.refl W) rfl
  ·have e1 := isOf hp.1
   have e3 := isOf hp.2.1
   simp only [e1, e3] at hKO
   go_simp
   exact hKO _ W (Ext.refl W) rfl
  ·have e4 := isOf hp.1
   simp only [e4] at hKO
   go_simp
   refine (Tryz.zedOf D _ HDB.out.1 HDB.out.2).mono ?_
   rintro e W1 ⟨v, rfl, hv, hE⟩
   exact hKO _ W1 hE hv
  ·go_simp
   exact hKO _ W (Ext.refl W) rfl
  ·have e6 := isOf hp.1
   simp only [e6] at hKO
   go_simp
   exact hKO _ W (Ext.refl W) rfl
  ·have q5 := hp.1
   have e7 := isOf hp.2.1
   simp only [e7] at hKO
   go_simp
   refine (Tryz.zedMul q5 (hS.2.2.2.2.2.2.2.2.1) SD.out SNi.out (by omega)).mono ?_
   rintro e W1 ⟨v, rfl, hv, hE⟩
   rw [← HZ.out] at hv
   exact hKO _ W1 hE hv
  ·go_simp
   exact hKO _ W (Ext.refl W) rfl
  ·have q8 := hp.1
   have e9 := isOf hp.2.1
   simp only [e9] at hKO
   go_simp
   refine (Tryz.ratMake q8 (hS.2.2.2.2.2.2.2.1) SZ.out SM.out (by omega) HM0.out).mono ?_
   rintro e W1 ⟨v, rfl, hv, hE⟩
   exact hKO _ W1 hE ⟨_, rfl, hv⟩
  ·have q10 := hp.1
   obtain ⟨u, ev, hu⟩ := q10
   replace ev : vs 10 = _ := ev
   simp only [ev] at hKO
   go_simp
   exact hKO _ W (Ext.refl W) ⟨u, rfl, hu⟩
  ·have q11 := hp.1
   obtain ⟨u, ev, hu⟩ := q11
   replace ev : vs 11 = _ := ev
   simp only [ev] at hKO
   go_simp
   exact hKO _ W (Ext.refl W) hu
  ·have q11 := hp.1
   obtain ⟨u, ev, hu⟩ := q11
   replace ev : vs 11 = _ := ev
   simp only [ev] at hKO
   go_simp
   exact hKO _ W (Ext.refl W) rfl
  ·have hn := Bx3.new W 56 (.bool false) (.slice none 0 0) (.slice none 0 0)
   have hE := Ext.alloc1 W (.cells #[.bool false, .slice none 0 0, .slice none 0 0] 56)
   have hsz := hS.2.2.2.2.2.2.2.2.2
   go_simp
   exact hKO _ _ hE ⟨_, rfl, hsz, hn.form⟩
  ·have q14 := hp.1
   have q12 := hp.2.1
   obtain ⟨g, ev, hg, hf⟩ := q14
   replace ev : vs 14 = _ := ev
   obtain ⟨x0, y0, z0, hx, hno⟩ := hf.bx3
   have qr := q12
   obtain ⟨b3, a3, n3, c3, d3, m3, o3, er, -, -, -⟩ := qr
   replace er : vs 12 = _ := er
   have r0 := hx.froz0
   have t0 := hx.cell0
   have r1 := hx.froz1
   have t1 := hx.cell1
   have r2 := hx.froz2
   have t2 := hx.cell2
   have hw := Wr.set3 hx hno b3 a3 n3 c3 d3 m3 o3
   have hq := hx.set (.bool b3) (.slice a3 n3 c3) (.slice d3 m3 o3)
   simp only [ev, er] at hKO
   go_simp
   exact hKO _ _ hw ⟨(Ext.wr hS.1 hw (by omega)), (hS.2.1.wr hw (by omega)), (hS.2.2.1.wr hw), (hS.2.2.2.1.wr hw), (hS.2.2.2.2.1.wr hw), (hS.2.2.2.2.2.1.wr hw), (hS.2.2.2.2.2.2.1.wr hw), (hS.2.2.2.2.2.2.2.1.wr hw), (hS.2.2.2.2.2.2.2.2.1.wr hw), (Nat.le_trans hS.2.2.2.2.2.2.2.2.2 hw.apart.size)⟩ ⟨g, b3, a3, n3, c3, d3, m3, o3, ev, er, hg, hq⟩
  ·have e13 := isOf hp.1
   simp only [e13] at hKO
   go_simp
   exact hKO _ W (Ext.refl W) rfl
 intro vs W12 hS hp
 clear szw12 E0 p3 h10_2 h10_7 h10_9 h11_3 h11_8 h11_10 hz
 obtain ⟨E0, p3, h10_2, h10_7, h10_9, h11_3, h11_8, h11_10, hz, sz12⟩ := hS
 obtain ⟨h12_0, h12_1, h12_2, h12_3, h12_4, h12_5, h12_6, h12_7, h12_8, h12_9, h12_10, h12_11, h12_12, h12_13, h12_14, h12_15, h12_16, -⟩ := hp
 obtain ⟨g12_15, b12_15, a12_15, n12_15, c12_15, d12_15, m12_15, o12_15, ev12_15, er12_15, hg12_15, p12_15⟩ := h12_15
 replace ev12_15 : vs 14 = _ := ev12_15
 replace er12_15 : vs 12 = _ := er12_15
 replace h12_12 := (show Rw W12 (vs 12) (mkRat Z M) from h12_12)
 rw [er12_15] at h12_12
 replace h12_0 : vs 0 = .pointer (some ⟨w.heap.size, 1, none⟩) := h12_0
 replace h12_1 : vs 1 = .int .i64 (B : Int) := h12_1
 replace h12_2 : vs 2 = .pointer (some ⟨w.heap.size, 3, none⟩) := h12_2
 replace h12_3 : vs 3 = .int .i64 (E : Int) := h12_3
 replace h12_4 : vs 4 = .int .i64 D := h12_4
 replace h12_6 : vs 6 = .slice aa na ca := h12_6
 replace h12_7 : vs 7 = .agg #[.bool false, .slice aa na ca] := h12_7
 replace h12_9 : vs 9 = u11_10 := h12_9
 replace h12_13 : vs 13 = .int .i64 0 := h12_13
 replace h12_16 : vs 16 = .int .i64 0 := h12_16
 simp only [ev12_15, er12_15, h12_0, h12_1, h12_2, h12_3, h12_4, h12_6, h12_7, h12_9, h12_13, h12_16]
 replace h12_5 : Zw W12 (vs 5) D := h12_5
 generalize vs 5 = u12_5 at h12_5 ⊢
 replace h12_8 : Zw W12 (vs 8) Z := h12_8
 generalize vs 8 = u12_8 at h12_8 ⊢
 clear ev12_15 er12_15 h12_0 h12_1 h12_2 h12_3 h12_4 h12_6 h12_7 h12_9 h12_13 h12_16 h12_10 h12_11 h12_14
 obtain ⟨kp3_0, kp3_1, kp3_2, kp3_3, kp3_4, kp3_5, kp3_6, kp3_7⟩ := p3.cells8
 have kp12_15_0 := p12_15.cell0
 have kp12_15_1 := p12_15.cell1
 have kp12_15_2 := p12_15.cell2
 go_wp2_with fail
 clear kp3_0 kp3_1 kp3_2 kp3_3 kp3_4 kp3_5 kp3_6 kp3_7 kp12_15_0 kp12_15_1 kp12_15_2
 refine (Tryz.fixOf h12_12 SR.out (by omega) 0 (by omega) HV.out HE.out).mono ?_
 rintro e Wz ⟨rfl, hE⟩
 replace E0 := (Ext.trans E0 hE)
 replace p3 := (p3.ext hE)
 replace h10_2 := (h10_2.ext hE)
 replace h10_7 := (h10_7.ext hE)
 replace h10_9 := (h10_9.ext hE)
 replace h11_3 := (h11_3.ext hE)
 replace h11_8 := (h11_8.ext hE)
 replace h11_10 := (h11_10.ext hE)
 replace hz := (hz.ext hE)
 replace h12_12 := (h12_12.ext hE)
 replace p12_15 := (p12_15.ext hE)
 replace h12_5 := (h12_5.ext hE)
 replace h12_8 := (h12_8.ext hE)
 clear hE
 obtain ⟨kp3_0, kp3_1, kp3_2, kp3_3, kp3_4, kp3_5, kp3_6, kp3_7⟩ := p3.cells8
 have kp12_15_0 := p12_15.cell0
 have kp12_15_1 := p12_15.cell1
 have kp12_15_2 := p12_15.cell2
 go_wp2
 go_ret
 exact ⟨rfl, E0⟩

end Go.Rt
