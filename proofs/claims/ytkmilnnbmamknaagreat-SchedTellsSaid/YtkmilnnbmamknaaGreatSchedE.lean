/-
  Schedules: a step's rate by definition; the law Tells.
-/
import Derived.Test.YtkmilnnbmamknaaGreatSchedC
import Derived.Test.YtkmilnnbmamknaaGreatFixN
import Derived.Test.YtkmilnnbmamknaaGreatGL
namespace Go.Rt
open Go Go.RowKit Go.Proofs

theorem Nw.zedOf {w : World} {a : Option Addr} {n c N : Nat} (h : Nw w (.slice a n c) N) : Zw w (.agg #[.bool false, .slice a n c]) (N : Int) := ⟨false, a, n, c, rfl, Lib.hid (by simp), by simpa using h⟩

/-- a share, k times multiplied -/
def partR (D : Int) (l L k : Nat) : Rat := mkRat (D * ((l ^ k : Nat) : Int)) (L ^ k)

theorem partR_zero (D : Int) (l L : Nat) : partR D l L 0 = (D : Rat) := by
  unfold partR
  simp [Rat.mkRat_one]

theorem partR_step (D : Int) (l L k : Nat) : partR D l L k * mkRat (l : Int) L = partR D l L (k + 1) := by
  unfold partR
  rw [Rat.mkRat_mul_mkRat, Nat.pow_succ, Nat.pow_succ, Int.natCast_mul, Int.mul_assoc]

theorem partR_sm {D : Int} {l L k : Nat} (hD : Sm 1 D.natAbs) (hl : l ≤ 1000000) (hL : 0 < L) (hL2 : L ≤ 1000000) (hk : k ≤ 8) : SmR 10 (partR D l L k) := by
  have pw : ∀ x : Nat, x ≤ 1000000 → ∀ j, Sm (j + 1) (x ^ j) := by
    intro x hx j
    induction j with
    | zero => rw [Nat.pow_zero]; exact Sm.small (by omega)
    | succ j ih => rw [Nat.pow_succ]; exact (ih.mul (Sm.small (by omega))).mono (by omega)
  unfold partR
  refine SmR.mk ?_ ((pw L hL2 k).mono (by omega)) (Nat.pos_iff_ne_zero.1 (Nat.pow_pos hL))
  rw [Int.natAbs_mul, Int.natAbs_natCast]
  have := hD.mul (pw l hl k)
  exact this.mono (by omega)

theorem partR_near (D : Int) (l L P : Nat) : nearR (partR D l L P * P2 0) = shareV D L P l := by
  have h : P2 0 = 1 := by unfold P2; simp
  unfold partR shareV ratioV
  rw [h, Rat.mul_one, Rat.mkRat_eq_div]

set_option maxRecDepth 100000 in
set_option maxHeartbeats 8000000 in
theorem Tryz.refFell (B Wm t : Nat) (kd rr ee vv ll pp : Int) (w : World) (hB : B < 9223372036854775808) (hW : Wm ≤ 1000000) (ht1 : 1 ≤ t) (ht2 : t ≤ 1000000) (hWt : Wm < t) :
    Calls Tryz.prog 17 #[.agg #[.int .i64 kd, .int .i64 (B : Int), .int .i64 rr, .int .i64 ee, .int .i64 (Wm : Int), .int .i64 vv, .int .i64 ll, .int .i64 pp], .int .i64 (t : Int)] w fun e w' => e = .returned (.int .i64 ((slowV B Wm t : Nat) : Int)) ∧ Ext w w' := by
  obtain ⟨M, hM⟩ : ∃ M, M = max Wm 1 := ⟨_, rfl⟩
  have hMb : M ≤ 1000000 := by omega
  have hmx : max (Wm : Int) 1 = (M : Int) := by omega
  have hmy : max (1 : Int) (Wm : Int) = (M : Int) := by omega
  obtain ⟨r, hr⟩ : ∃ r, r = slowV B Wm t := ⟨_, rfl⟩
  have hrb : r ≤ B := by rw [hr]; exact slow_le (by omega) hWt
  have hwB : IntKind.u64.wrap (B : Int) = (B : Int) := by rw [IntKind.wrap_u64]; omega
  have hwM : IntKind.u64.wrap (M : Int) = (M : Int) := by rw [IntKind.wrap_u64]; omega
  have hwt : IntKind.u64.wrap (t : Int) = (t : Int) := by rw [IntKind.wrap_u64]; omega
  have BB : Hid (B < B64) := Lib.hid (by rw [B64_eq]; omega)
  have BM : Hid (M < B64) := Lib.hid (by rw [B64_eq]; omega)
  have BT : Hid (t < B64) := Lib.hid (by rw [B64_eq]; omega)
  have SB : Hid (Sm 1 B) := Lib.hid (Sm.one BB.out)
  have SM : Hid (Sm 1 M) := Lib.hid (Sm.one BM.out)
  have ST : Hid (Sm 3 t) := Lib.hid ((Sm.one BT.out).mono (by omega))
  have SBB : Hid (Sm 2 (B * B)) := Lib.hid (SB.out.mul SB.out)
  obtain ⟨N, hN⟩ : ∃ N, N = B * B * M := ⟨_, rfl⟩
  have SN : Hid (Sm 3 N) := Lib.hid (by rw [hN]; exact SBB.out.mul SM.out)
  have SQ : Hid (Sm 3 (N / t)) := Lib.hid (SN.out.le (Nat.div_le_self _ _))
  have HN := Lib.hid hN
  have HT0 : Hid (t ≠ 0) := Lib.hid (by omega)
  have HRE : Hid (rootE 2 = 0) := Lib.hid rfl
  have HRV : Hid (rootV (N / t) 2 = r) := Lib.hid (by rw [hr, hN, hM]; exact if_pos (by omega))
  have hfit : fits (r : Int) = true := fits_iff.2 (by omega)
  have HV : Hid (fitV (r : Int) = (r : Int)) := Lib.hid (fitV_in hfit)
  have HF := Lib.hid hfit
  rw [← hr]
  clear hM hr hN hrb hMb hfit hWt hB hW ht1 ht2
  obtain ⟨W0, hW0⟩ : ∃ W0, W0 = (w.alloc (.cells #[.int .i64 kd, .int .i64 (B : Int), .int .i64 rr, .int .i64 ee, .int .i64 (Wm : Int), .int .i64 vv, .int .i64 ll, .int .i64 pp] 23)) := ⟨_, rfl⟩
  have E0 : Ext w W0 := by rw [hW0]; exact (Ext.alloc1 w (.cells #[.int .i64 kd, .int .i64 (B : Int), .int .i64 rr, .int .i64 ee, .int .i64 (Wm : Int), .int .i64 vv, .int .i64 ll, .int .i64 pp] 23))
  have p2 : BxA W0 w.heap.size 23 #[.int .i64 kd, .int .i64 (B : Int), .int .i64 rr, .int .i64 ee, .int .i64 (Wm : Int), .int .i64 vv, .int .i64 ll, .int .i64 pp] := by rw [hW0]; exact (BxA.new w 23 #[.int .i64 kd, .int .i64 (B : Int), .int .i64 rr, .int .i64 ee, .int .i64 (Wm : Int), .int .i64 vv, .int .i64 ll, .int .i64 pp])
  go_enter Tryz.func17, Tryz.ntmps17
  obtain ⟨kp2_0, kp2_1, kp2_2, kp2_3, kp2_4, kp2_5, kp2_6, kp2_7⟩ := p2.cells8
  go_upto_region 1 with (fail)
  rw [← hW0]
  clear hW0
  clear kp2_0 kp2_1 kp2_2 kp2_3 kp2_4 kp2_5 kp2_6 kp2_7
  have ltp2 := p2.lt
  have szw13 := Ext.size E0
  refine region_go [.one fun v _ => v = .pointer (some ⟨w.heap.size, 1, none⟩),
      .one fun v _ => v = .int .i64 (B : Int),
      .one fun v _ => v = .int .u64 (B : Int),
      .one fun v W => Nw W v B,
      .one fun v W => Nw W v B]
    (fun W => Ext w W ∧ BxA W w.heap.size 23 #[.int .i64 kd, .int .i64 (B : Int), .int .i64 rr, .int .i64 ee, .int .i64 (Wm : Int), .int .i64 vv, .int .i64 ll, .int .i64 pp] ∧ W0.heap.size ≤ W.heap.size) ⟨Good.is _, Good.is _, Good.is _, Good.num _, Good.num _, trivial⟩
    (fun W W1 hS hE => ⟨(Ext.trans hS.1 hE), (hS.2.1.ext hE), (Nat.le_trans hS.2.2 (Ext.size hE))⟩) ⟨E0, p2, Nat.le_refl _⟩ (by kernel_rfl) (by kernel_rfl) (by kernel_rfl) (by kernel_rfl) (A := ?A13) ?hA13 ?howe13 ?hfin13
  case hA13 =>
    intro vs
    simp only [putAll, Act.put, List.setIfInBounds_toArray, List.set_cons_zero, List.set_cons_succ, Nat.zero_add, Nat.reduceAdd]
    exact rfl
  case howe13 =>
    clear E0 p2
    intro hf
    refine ⟨owesE 0 [] hf rfl (by kernel_rfl) ?_, owesE 1 [0] hf rfl (by kernel_rfl) ?_, owesE 2 [1] hf rfl (by kernel_rfl) ?_, owesE 3 [2] hf rfl (by kernel_rfl) ?_, owesE 4 [3] hf rfl (by kernel_rfl) ?_, trivial⟩
    all_goals intro vs W hS hp hx KO hKO
    all_goals simp only [Act.put, List.setIfInBounds_toArray, List.set_cons_zero, List.set_cons_succ] at hKO
    · go_simp
      exact hKO _ W (Ext.refl W) rfl
    · have e0 := isOf hp.1
      simp only [e0] at hKO
      have fc1 := BxA.cell (hS.2.1) 1 (v := .int .i64 (B : Int)) rfl
      go_simp
      exact hKO _ W (Ext.refl W) rfl
    · have e1 := isOf hp.1
      simp only [e1] at hKO
      go_simp
      exact hKO _ W (Ext.refl W) rfl
    · have e2 := isOf hp.1
      simp only [e2] at hKO
      go_simp
      refine (Tryz.refOf B _ BB.out).mono ?_
      rintro e W1 ⟨v, rfl, hv, hE, -⟩
      exact hKO _ W1 hE hv
    · have q3 := hp.1
      go_simp
      exact hKO _ W (Ext.refl W) q3
  intro vs W13 hS hp
  clear szw13 E0 p2
  obtain ⟨E0, p2, sz13⟩ := hS
  obtain ⟨h13_0, h13_1, h13_2, h13_3, h13_4, -⟩ := hp
  replace h13_0 : vs 0 = .pointer (some ⟨w.heap.size, 1, none⟩) := h13_0
  replace h13_1 : vs 1 = .int .i64 (B : Int) := h13_1
  replace h13_2 : vs 2 = .int .u64 (B : Int) := h13_2
  simp only [h13_0, h13_1, h13_2]
  replace h13_3 : Nw W13 (vs 3) B := h13_3
  generalize vs 3 = u13_3 at h13_3 ⊢
  replace h13_4 : Nw W13 (vs 4) B := h13_4
  generalize vs 4 = u13_4 at h13_4 ⊢
  clear h13_0 h13_1 h13_2
  obtain ⟨kp2_0, kp2_1, kp2_2, kp2_3, kp2_4, kp2_5, kp2_6, kp2_7⟩ := p2.cells8
  go_upto_region 2 with (fail)
  clear kp2_0 kp2_1 kp2_2 kp2_3 kp2_4 kp2_5 kp2_6 kp2_7
  have szw14 := Ext.size E0
  refine region_go [.one fun v _ => v = .pointer (some ⟨w.heap.size, 4, none⟩),
      .one fun v _ => v = .int .i64 (Wm : Int),
      .one fun v _ => v = .int .i64 (M : Int),
      .one fun v _ => v = .int .u64 (M : Int),
      .one fun v W => Nw W v M,
      .one fun v W => Nw W v M]
    (fun W => Ext w W ∧ BxA W w.heap.size 23 #[.int .i64 kd, .int .i64 (B : Int), .int .i64 rr, .int .i64 ee, .int .i64 (Wm : Int), .int .i64 vv, .int .i64 ll, .int .i64 pp] ∧ Nw W u13_3 B ∧ Nw W u13_4 B ∧ W13.heap.size ≤ W.heap.size) ⟨Good.is _, Good.is _, Good.is _, Good.is _, Good.num _, Good.num _, trivial⟩
    (fun W W1 hS hE => ⟨(Ext.trans hS.1 hE), (hS.2.1.ext hE), (hS.2.2.1.ext hE), (hS.2.2.2.1.ext hE), (Nat.le_trans hS.2.2.2.2 (Ext.size hE))⟩) ⟨E0, p2, h13_3, h13_4, Nat.le_refl _⟩ (by kernel_rfl) (by kernel_rfl) (by kernel_rfl) (by kernel_rfl) (A := ?A14) ?hA14 ?howe14 ?hfin14
  case hA14 =>
    intro vs
    simp only [putAll, Act.put, List.setIfInBounds_toArray, List.set_cons_zero, List.set_cons_succ, Nat.zero_add, Nat.reduceAdd]
    exact rfl
  case howe14 =>
    clear E0 p2 h13_3 h13_4
    intro hf
    refine ⟨owesE 0 [] hf rfl (by kernel_rfl) ?_, owesE 1 [0] hf rfl (by kernel_rfl) ?_, owesE 2 [1] hf rfl (by kernel_rfl) ?_, owesE 3 [2] hf rfl (by kernel_rfl) ?_, owesE 4 [3] hf rfl (by kernel_rfl) ?_, owesE 5 [4] hf rfl (by kernel_rfl) ?_, trivial⟩
    all_goals intro vs W hS hp hx KO hKO
    all_goals simp only [Act.put, List.setIfInBounds_toArray, List.set_cons_zero, List.set_cons_succ] at hKO
    · go_simp
      exact hKO _ W (Ext.refl W) rfl
    · have e0 := isOf hp.1
      simp only [e0] at hKO
      have fc4 := BxA.cell (hS.2.1) 4 (v := .int .i64 (Wm : Int)) rfl
      go_simp
      exact hKO _ W (Ext.refl W) rfl
    · have e1 := isOf hp.1
      simp only [e1] at hKO
      go_simp
      exact hKO _ W (Ext.refl W) rfl
    · have e2 := isOf hp.1
      simp only [e2] at hKO
      go_simp
      exact hKO _ W (Ext.refl W) rfl
    · have e3 := isOf hp.1
      simp only [e3] at hKO
      go_simp
      refine (Tryz.refOf M _ BM.out).mono ?_
      rintro e W1 ⟨v, rfl, hv, hE, -⟩
      exact hKO _ W1 hE hv
    · have q4 := hp.1
      go_simp
      exact hKO _ W (Ext.refl W) q4
  intro vs W14 hS hp
  clear szw14 E0 p2 h13_3 h13_4
  obtain ⟨E0, p2, h13_3, h13_4, sz14⟩ := hS
  obtain ⟨h14_0, h14_1, h14_2, h14_3, h14_4, h14_5, -⟩ := hp
  replace h14_0 : vs 0 = .pointer (some ⟨w.heap.size, 4, none⟩) := h14_0
  replace h14_1 : vs 1 = .int .i64 (Wm : Int) := h14_1
  replace h14_2 : vs 2 = .int .i64 (M : Int) := h14_2
  replace h14_3 : vs 3 = .int .u64 (M : Int) := h14_3
  simp only [h14_0, h14_1, h14_2, h14_3]
  replace h14_4 : Nw W14 (vs 4) M := h14_4
  generalize vs 4 = u14_4 at h14_4 ⊢
  replace h14_5 : Nw W14 (vs 5) M := h14_5
  generalize vs 5 = u14_5 at h14_5 ⊢
  clear h14_0 h14_1 h14_2 h14_3
  obtain ⟨kp2_0, kp2_1, kp2_2, kp2_3, kp2_4, kp2_5, kp2_6, kp2_7⟩ := p2.cells8
  go_upto_region 3 with (fail)
  clear kp2_0 kp2_1 kp2_2 kp2_3 kp2_4 kp2_5 kp2_6 kp2_7
  have szw15 := Ext.size E0
  refine region_go [.one fun v _ => v = u13_4,
      .one fun v _ => v = u13_4,
      .one fun v W => Nw W v (B * B),
      .one fun v _ => v = u14_5,
      .one fun v W => Nw W v N,
      .one fun v _ => v = .int .i64 (t : Int),
      .one fun v _ => v = .int .u64 (t : Int),
      .one fun v W => Nw W v t,
      .one fun v W => ∃ v' v'', v = .tuple #[v', v'', .int .i64 0] ∧ (fun v W => Nw W v (N / t)) v' W ∧ (fun v W => Nw W v (N % t)) v'' W,
      .one fun v W => ∃ v' v'', v = .tuple #[v', v'', .int .i64 0] ∧ (fun v W => Nw W v (N / t)) v' W ∧ (fun v W => Nw W v (N % t)) v'' W,
      .one fun v W => Nw W v (N / t),
      .one fun v W => Nw W v (N % t),
      .one fun v _ => v = .int .i64 0,
      .one fun v W => Nw W v (N / t),
      .one fun v W => Nw W v (N % t),
      .one fun v _ => v = .int .i64 0]
    (fun W => Ext w W ∧ BxA W w.heap.size 23 #[.int .i64 kd, .int .i64 (B : Int), .int .i64 rr, .int .i64 ee, .int .i64 (Wm : Int), .int .i64 vv, .int .i64 ll, .int .i64 pp] ∧ Nw W u13_3 B ∧ Nw W u13_4 B ∧ Nw W u14_4 M ∧ Nw W u14_5 M ∧ W14.heap.size ≤ W.heap.size) ⟨Good.is _, Good.is _, Good.num _, Good.is _, Good.num _, Good.is _, Good.is _, Good.num _, (Good.num _).tup3 (Good.num _) _, (Good.num _).tup3 (Good.num _) _, Good.num _, Good.num _, Good.is _, Good.num _, Good.num _, Good.is _, trivial⟩
    (fun W W1 hS hE => ⟨(Ext.trans hS.1 hE), (hS.2.1.ext hE), (hS.2.2.1.ext hE), (hS.2.2.2.1.ext hE), (hS.2.2.2.2.1.ext hE), (hS.2.2.2.2.2.1.ext hE), (Nat.le_trans hS.2.2.2.2.2.2 (Ext.size hE))⟩) ⟨E0, p2, h13_3, h13_4, h14_4, h14_5, Nat.le_refl _⟩ (by kernel_rfl) (by kernel_rfl) (by kernel_rfl) (by kernel_rfl) (A := ?A15) ?hA15 ?howe15 ?hfin15
  case hA15 =>
    intro vs
    simp only [putAll, Act.put, List.setIfInBounds_toArray, List.set_cons_zero, List.set_cons_succ, Nat.zero_add, Nat.reduceAdd]
    exact rfl
  case howe15 =>
    clear E0 p2 h13_3 h13_4 h14_4 h14_5
    intro hf
    refine ⟨owesE 0 [] hf rfl (by kernel_rfl) ?_, owesE 1 [] hf rfl (by kernel_rfl) ?_, owesE 2 [0, 1] hf rfl (by kernel_rfl) ?_, owesE 3 [] hf rfl (by kernel_rfl) ?_, owesE 4 [2, 3] hf rfl (by kernel_rfl) ?_, owesE 5 [] hf rfl (by kernel_rfl) ?_, owesE 6 [5] hf rfl (by kernel_rfl) ?_, owesE 7 [6] hf rfl (by kernel_rfl) ?_, owesE 8 [4, 7] hf rfl (by kernel_rfl) ?_, owesE 9 [8] hf rfl (by kernel_rfl) ?_, owesE 10 [9] hf rfl (by kernel_rfl) ?_, owesE 11 [9] hf rfl (by kernel_rfl) ?_, owesE 12 [9] hf rfl (by kernel_rfl) ?_, owesE 13 [10] hf rfl (by kernel_rfl) ?_, owesE 14 [11] hf rfl (by kernel_rfl) ?_, owesE 15 [12] hf rfl (by kernel_rfl) ?_, trivial⟩
    all_goals intro vs W hS hp hx KO hKO
    all_goals simp only [Act.put, List.setIfInBounds_toArray, List.set_cons_zero, List.set_cons_succ] at hKO
    · go_simp
      exact hKO _ W (Ext.refl W) rfl
    · go_simp
      exact hKO _ W (Ext.refl W) rfl
    · have e0 := isOf hp.1
      have e1 := isOf hp.2.1
      simp only [e0, e1] at hKO
      go_simp
      refine (Tryz.refMul (hS.2.2.2.1) (hS.2.2.2.1) SB.out SB.out (by omega)).mono ?_
      rintro e W1 ⟨v, rfl, hv, hE, -⟩
      exact hKO _ W1 hE hv
    · go_simp
      exact hKO _ W (Ext.refl W) rfl
    · have q2 := hp.1
      have e3 := isOf hp.2.1
      simp only [e3] at hKO
      go_simp
      refine (Tryz.refMul q2 (hS.2.2.2.2.2.1) SBB.out SM.out (by omega)).mono ?_
      rintro e W1 ⟨v, rfl, hv, hE, -⟩
      rw [← HN.out] at hv
      exact hKO _ W1 hE hv
    · go_simp
      exact hKO _ W (Ext.refl W) rfl
    · have e5 := isOf hp.1
      simp only [e5] at hKO
      go_simp
      exact hKO _ W (Ext.refl W) rfl
    · have e6 := isOf hp.1
      simp only [e6] at hKO
      go_simp
      refine (Tryz.refOf t _ BT.out).mono ?_
      rintro e W1 ⟨v, rfl, hv, hE, -⟩
      exact hKO _ W1 hE hv
    · have q4 := hp.1
      have q7 := hp.2.1
      go_simp
      refine (Tryz.refDivModK q4 q7 SN.out ST.out (by omega) HT0.out).mono ?_
      rintro e W1 ⟨v, v2, rfl, hv, hv2, hE⟩
      exact hKO _ W1 hE ⟨_, _, rfl, hv, hv2⟩
    · have q8 := hp.1
      obtain ⟨u, u2, ev, hu, hu2⟩ := q8
      replace ev : vs 8 = _ := ev
      simp only [ev] at hKO
      go_simp
      exact hKO _ W (Ext.refl W) ⟨u, u2, rfl, hu, hu2⟩
    · have q9 := hp.1
      obtain ⟨u, u2, ev, hu, hu2⟩ := q9
      replace ev : vs 9 = _ := ev
      simp only [ev] at hKO
      go_simp
      exact hKO _ W (Ext.refl W) hu
    · have q9 := hp.1
      obtain ⟨u, u2, ev, hu, hu2⟩ := q9
      replace ev : vs 9 = _ := ev
      simp only [ev] at hKO
      go_simp
      exact hKO _ W (Ext.refl W) hu2
    · have q9 := hp.1
      obtain ⟨u, u2, ev, hu, hu2⟩ := q9
      replace ev : vs 9 = _ := ev
      simp only [ev] at hKO
      go_simp
      exact hKO _ W (Ext.refl W) rfl
    · have q10 := hp.1
      go_simp
      exact hKO _ W (Ext.refl W) q10
    · have q11 := hp.1
      go_simp
      exact hKO _ W (Ext.refl W) q11
    · have e12 := isOf hp.1
      simp only [e12] at hKO
      go_simp
      exact hKO _ W (Ext.refl W) rfl
  intro vs W15 hS hp
  clear szw15 E0 p2 h13_3 h13_4 h14_4 h14_5
  obtain ⟨E0, p2, h13_3, h13_4, h14_4, h14_5, sz15⟩ := hS
  obtain ⟨h15_0, h15_1, h15_2, h15_3, h15_4, h15_5, h15_6, h15_7, h15_8, h15_9, h15_10, h15_11, h15_12, h15_13, h15_14, h15_15, -⟩ := hp
  replace h15_0 : vs 0 = u13_4 := h15_0
  replace h15_1 : vs 1 = u13_4 := h15_1
  replace h15_3 : vs 3 = u14_5 := h15_3
  replace h15_5 : vs 5 = .int .i64 (t : Int) := h15_5
  replace h15_6 : vs 6 = .int .u64 (t : Int) := h15_6
  replace h15_12 : vs 12 = .int .i64 0 := h15_12
  replace h15_15 : vs 15 = .int .i64 0 := h15_15
  simp only [h15_0, h15_1, h15_3, h15_5, h15_6, h15_12, h15_15]
  replace h15_2 : Nw W15 (vs 2) (B * B) := h15_2
  generalize vs 2 = u15_2 at h15_2 ⊢
  replace h15_4 : Nw W15 (vs 4) N := h15_4
  generalize vs 4 = u15_4 at h15_4 ⊢
  replace h15_7 : Nw W15 (vs 7) t := h15_7
  generalize vs 7 = u15_7 at h15_7 ⊢
  replace h15_10 : Nw W15 (vs 10) (N / t) := h15_10
  generalize vs 10 = u15_10 at h15_10 ⊢
  replace h15_11 : Nw W15 (vs 11) (N % t) := h15_11
  generalize vs 11 = u15_11 at h15_11 ⊢
  replace h15_13 : Nw W15 (vs 13) (N / t) := h15_13
  generalize vs 13 = u15_13 at h15_13 ⊢
  replace h15_14 : Nw W15 (vs 14) (N % t) := h15_14
  generalize vs 14 = u15_14 at h15_14 ⊢
  clear h15_0 h15_1 h15_3 h15_5 h15_6 h15_12 h15_15 h15_8 h15_9
  obtain ⟨kp2_0, kp2_1, kp2_2, kp2_3, kp2_4, kp2_5, kp2_6, kp2_7⟩ := p2.cells8
  go_upto_region 4 with (fail)
  clear kp2_0 kp2_1 kp2_2 kp2_3 kp2_4 kp2_5 kp2_6 kp2_7
  have szw16 := Ext.size E0
  refine region_go [.one fun v _ => v = u15_13,
      .one fun v W => ∃ v', v = .tuple #[v', .int .i64 0] ∧ (fun v W => Nw W v r) v' W,
      .one fun v W => ∃ v', v = .tuple #[v', .int .i64 0] ∧ (fun v W => Nw W v r) v' W,
      .one fun v W => Nw W v r,
      .one fun v _ => v = .int .i64 0,
      .one fun v W => Nw W v r,
      .one fun v _ => v = .int .i64 0]
    (fun W => Ext w W ∧ BxA W w.heap.size 23 #[.int .i64 kd, .int .i64 (B : Int), .int .i64 rr, .int .i64 ee, .int .i64 (Wm : Int), .int .i64 vv, .int .i64 ll, .int .i64 pp] ∧ Nw W u13_3 B ∧ Nw W u13_4 B ∧ Nw W u14_4 M ∧ Nw W u14_5 M ∧ Nw W u15_2 (B * B) ∧ Nw W u15_4 N ∧ Nw W u15_7 t ∧ Nw W u15_10 (N / t) ∧ Nw W u15_11 (N % t) ∧ Nw W u15_13 (N / t) ∧ Nw W u15_14 (N % t) ∧ W15.heap.size ≤ W.heap.size) ⟨Good.is _, (Good.num _).tup _, (Good.num _).tup _, Good.num _, Good.is _, Good.num _, Good.is _, trivial⟩
    (fun W W1 hS hE => ⟨(Ext.trans hS.1 hE), (hS.2.1.ext hE), (hS.2.2.1.ext hE), (hS.2.2.2.1.ext hE), (hS.2.2.2.2.1.ext hE), (hS.2.2.2.2.2.1.ext hE), (hS.2.2.2.2.2.2.1.ext hE), (hS.2.2.2.2.2.2.2.1.ext hE), (hS.2.2.2.2.2.2.2.2.1.ext hE), (hS.2.2.2.2.2.2.2.2.2.1.ext hE), (hS.2.2.2.2.2.2.2.2.2.2.1.ext hE), (hS.2.2.2.2.2.2.2.2.2.2.2.1.ext hE), (hS.2.2.2.2.2.2.2.2.2.2.2.2.1.ext hE), (Nat.le_trans hS.2.2.2.2.2.2.2.2.2.2.2.2.2 (Ext.size hE))⟩) ⟨E0, p2, h13_3, h13_4, h14_4, h14_5, h15_2, h15_4, h15_7, h15_10, h15_11, h15_13, h15_14, Nat.le_refl _⟩ (by kernel_rfl) (by kernel_rfl) (by kernel_rfl) (by kernel_rfl) (A := ?A16) ?hA16 ?howe16 ?hfin16
  case hA16 =>
    intro vs
    simp only [putAll, Act.put, List.setIfInBounds_toArray, List.set_cons_zero, List.set_cons_succ, Nat.zero_add, Nat.reduceAdd]
    exact rfl
  case howe16 =>
    clear E0 p2 h13_3 h13_4 h14_4 h14_5 h15_2 h15_4 h15_7 h15_10 h15_11 h15_13 h15_14
    intro hf
    refine ⟨owesE 0 [] hf rfl (by kernel_rfl) ?_, owesE 1 [0] hf rfl (by kernel_rfl) ?_, owesE 2 [1] hf rfl (by kernel_rfl) ?_, owesE 3 [2] hf rfl (by kernel_rfl) ?_, owesE 4 [2] hf rfl (by kernel_rfl) ?_, owesE 5 [3] hf rfl (by kernel_rfl) ?_, owesE 6 [4] hf rfl (by kernel_rfl) ?_, trivial⟩
    all_goals intro vs W hS hp hx KO hKO
    all_goals simp only [Act.put, List.setIfInBounds_toArray, List.set_cons_zero, List.set_cons_succ] at hKO
    · go_simp
      exact hKO _ W (Ext.refl W) rfl
    · have e0 := isOf hp.1
      simp only [e0] at hKO
      go_simp
      refine (Tryz.refRoot (hS.2.2.2.2.2.2.2.2.2.2.2.1) SQ.out (by omega) 2).mono ?_
      rintro e W1 ⟨v, rfl, hv, hE⟩
      rw [HRV.out] at hv; rw [HRE.out]
      exact hKO _ W1 hE ⟨_, rfl, hv⟩
    · have q1 := hp.1
      obtain ⟨u, ev, hu⟩ := q1
      replace ev : vs 1 = _ := ev
      simp only [ev] at hKO
      go_simp
      exact hKO _ W (Ext.refl W) ⟨u, rfl, hu⟩
    · have q2 := hp.1
      obtain ⟨u, ev, hu⟩ := q2
      replace ev : vs 2 = _ := ev
      simp only [ev] at hKO
      go_simp
      exact hKO _ W (Ext.refl W) hu
    · have q2 := hp.1
      obtain ⟨u, ev, hu⟩ := q2
      replace ev : vs 2 = _ := ev
      simp only [ev] at hKO
      go_simp
      exact hKO _ W (Ext.refl W) rfl
    · have q3 := hp.1
      go_simp
      exact hKO _ W (Ext.refl W) q3
    · have e4 := isOf hp.1
      simp only [e4] at hKO
      go_simp
      exact hKO _ W (Ext.refl W) rfl
  intro vs W16 hS hp
  clear szw16 E0 p2 h13_3 h13_4 h14_4 h14_5 h15_2 h15_4 h15_7 h15_10 h15_11 h15_13 h15_14
  obtain ⟨E0, p2, h13_3, h13_4, h14_4, h14_5, h15_2, h15_4, h15_7, h15_10, h15_11, h15_13, h15_14, sz16⟩ := hS
  obtain ⟨h16_0, h16_1, h16_2, h16_3, h16_4, h16_5, h16_6, -⟩ := hp
  replace h16_0 : vs 0 = u15_13 := h16_0
  replace h16_4 : vs 4 = .int .i64 0 := h16_4
  replace h16_6 : vs 6 = .int .i64 0 := h16_6
  simp only [h16_0, h16_4, h16_6]
  replace h16_3 : Nw W16 (vs 3) r := h16_3
  generalize vs 3 = u16_3 at h16_3 ⊢
  replace h16_5 : Nw W16 (vs 5) r := h16_5
  generalize vs 5 = u16_5 at h16_5 ⊢
  clear h16_0 h16_4 h16_6 h16_1 h16_2
  obtain ⟨ar, nr, cr, ezr, zr, -⟩ := h16_5.len
  rw [ezr] at h16_5 ⊢
  clear ezr
  have hz := h16_5.zedOf
  obtain ⟨kp2_0, kp2_1, kp2_2, kp2_3, kp2_4, kp2_5, kp2_6, kp2_7⟩ := p2.cells8
  go_upto_region 5 with (fail)
  clear kp2_0 kp2_1 kp2_2 kp2_3 kp2_4 kp2_5 kp2_6 kp2_7
  have szw17 := Ext.size E0
  refine region_go [.one fun v _ => v = .slice ar nr cr,
      .one fun v _ => v = .agg #[.bool false, .slice ar nr cr],
      .one fun v _ => v = .tuple #[.int .i64 (r : Int), .bool true],
      .one fun v _ => v = .tuple #[.int .i64 (r : Int), .bool true],
      .one fun v _ => v = .int .i64 (r : Int),
      .one fun v _ => v = .bool true,
      .one fun v _ => v = .int .i64 (r : Int),
      .one fun v _ => v = .bool true]
    (fun W => Ext w W ∧ BxA W w.heap.size 23 #[.int .i64 kd, .int .i64 (B : Int), .int .i64 rr, .int .i64 ee, .int .i64 (Wm : Int), .int .i64 vv, .int .i64 ll, .int .i64 pp] ∧ Nw W u13_3 B ∧ Nw W u13_4 B ∧ Nw W u14_4 M ∧ Nw W u14_5 M ∧ Nw W u15_2 (B * B) ∧ Nw W u15_4 N ∧ Nw W u15_7 t ∧ Nw W u15_10 (N / t) ∧ Nw W u15_11 (N % t) ∧ Nw W u15_13 (N / t) ∧ Nw W u15_14 (N % t) ∧ Nw W u16_3 r ∧ Nw W (.slice ar nr cr) r ∧ Zw W (.agg #[.bool false, .slice ar nr cr]) ((r : Int)) ∧ W16.heap.size ≤ W.heap.size) ⟨Good.is _, Good.is _, Good.is _, Good.is _, Good.is _, Good.is _, Good.is _, Good.is _, trivial⟩
    (fun W W1 hS hE => ⟨(Ext.trans hS.1 hE), (hS.2.1.ext hE), (hS.2.2.1.ext hE), (hS.2.2.2.1.ext hE), (hS.2.2.2.2.1.ext hE), (hS.2.2.2.2.2.1.ext hE), (hS.2.2.2.2.2.2.1.ext hE), (hS.2.2.2.2.2.2.2.1.ext hE), (hS.2.2.2.2.2.2.2.2.1.ext hE), (hS.2.2.2.2.2.2.2.2.2.1.ext hE), (hS.2.2.2.2.2.2.2.2.2.2.1.ext hE), (hS.2.2.2.2.2.2.2.2.2.2.2.1.ext hE), (hS.2.2.2.2.2.2.2.2.2.2.2.2.1.ext hE), (hS.2.2.2.2.2.2.2.2.2.2.2.2.2.1.ext hE), (hS.2.2.2.2.2.2.2.2.2.2.2.2.2.2.1.ext hE), (hS.2.2.2.2.2.2.2.2.2.2.2.2.2.2.2.1.ext hE), (Nat.le_trans hS.2.2.2.2.2.2.2.2.2.2.2.2.2.2.2.2 (Ext.size hE))⟩) ⟨E0, p2, h13_3, h13_4, h14_4, h14_5, h15_2, h15_4, h15_7, h15_10, h15_11, h15_13, h15_14, h16_3, h16_5, hz, Nat.le_refl _⟩ (by kernel_rfl) (by kernel_rfl) (by kernel_rfl) (by kernel_rfl) (A := ?A17) ?hA17 ?howe17 ?hfin17
  case hA17 =>
    intro vs
    simp only [putAll, Act.put, List.setIfInBounds_toArray, List.set_cons_zero, List.set_cons_succ, Nat.zero_add, Nat.reduceAdd]
    exact rfl
  case howe17 =>
    clear E0 p2 h13_3 h13_4 h14_4 h14_5 h15_2 h15_4 h15_7 h15_10 h15_11 h15_13 h15_14 h16_3 h16_5 hz
    intro hf
    refine ⟨owesE 0 [] hf rfl (by kernel_rfl) ?_, owesE 1 [0] hf rfl (by kernel_rfl) ?_, owesE 2 [1] hf rfl (by kernel_rfl) ?_, owesE 3 [2] hf rfl (by kernel_rfl) ?_, owesE 4 [3] hf rfl (by kernel_rfl) ?_, owesE 5 [3] hf rfl (by kernel_rfl) ?_, owesE 6 [4] hf rfl (by kernel_rfl) ?_, owesE 7 [5] hf rfl (by kernel_rfl) ?_, trivial⟩
    all_goals intro vs W hS hp hx KO hKO
    all_goals simp only [Act.put, List.setIfInBounds_toArray, List.set_cons_zero, List.set_cons_succ] at hKO
    · go_simp
      exact hKO _ W (Ext.refl W) rfl
    · have e0 := isOf hp.1
      simp only [e0] at hKO
      go_simp
      exact hKO _ W (Ext.refl W) rfl
    · have e1 := isOf hp.1
      simp only [e1] at hKO
      go_simp
      refine (Tryz.refZInt (hS.2.2.2.2.2.2.2.2.2.2.2.2.2.2.2.1)).mono ?_
      rintro e W1 ⟨rfl, hE⟩
      rw [HV.out, HF.out]
      exact hKO _ W1 hE rfl
    · have e2 := isOf hp.1
      simp only [e2] at hKO
      go_simp
      exact hKO _ W (Ext.refl W) rfl
    · have e3 := isOf hp.1
      simp only [e3] at hKO
      go_simp
      exact hKO _ W (Ext.refl W) rfl
    · have e3 := isOf hp.1
      simp only [e3] at hKO
      go_simp
      exact hKO _ W (Ext.refl W) rfl
    · have e4 := isOf hp.1
      simp only [e4] at hKO
      go_simp
      exact hKO _ W (Ext.refl W) rfl
    · have e5 := isOf hp.1
      simp only [e5] at hKO
      go_simp
      exact hKO _ W (Ext.refl W) rfl
  intro vs W17 hS hp
  clear szw17 E0 p2 h13_3 h13_4 h14_4 h14_5 h15_2 h15_4 h15_7 h15_10 h15_11 h15_13 h15_14 h16_3 h16_5 hz
  obtain ⟨E0, p2, h13_3, h13_4, h14_4, h14_5, h15_2, h15_4, h15_7, h15_10, h15_11, h15_13, h15_14, h16_3, h16_5, hz, sz17⟩ := hS
  obtain ⟨h17_0, h17_1, h17_2, h17_3, h17_4, h17_5, h17_6, h17_7, -⟩ := hp
  replace h17_0 : vs 0 = .slice ar nr cr := h17_0
  replace h17_1 : vs 1 = .agg #[.bool false, .slice ar nr cr] := h17_1
  replace h17_2 : vs 2 = .tuple #[.int .i64 (r : Int), .bool true] := h17_2
  replace h17_3 : vs 3 = .tuple #[.int .i64 (r : Int), .bool true] := h17_3
  replace h17_4 : vs 4 = .int .i64 (r : Int) := h17_4
  replace h17_5 : vs 5 = .bool true := h17_5
  replace h17_6 : vs 6 = .int .i64 (r : Int) := h17_6
  replace h17_7 : vs 7 = .bool true := h17_7
  simp only [h17_0, h17_1, h17_2, h17_3, h17_4, h17_5, h17_6, h17_7]
  clear h17_0 h17_1 h17_2 h17_3 h17_4 h17_5 h17_6 h17_7
  obtain ⟨kp2_0, kp2_1, kp2_2, kp2_3, kp2_4, kp2_5, kp2_6, kp2_7⟩ := p2.cells8
  go_wp2
  go_ret
  exact ⟨rfl, E0⟩

set_option maxRecDepth 100000 in
set_option maxHeartbeats 8000000 in
theorem Tryz.refPoly (B E L P t : Nat) (kd rr ww vv : Int) (w : World) (hB : B < 9223372036854775808) (hE : E ≤ B) (hL1 : 1 ≤ L) (hL2 : L ≤ 1000000) (hP1 : 1 ≤ P) (hP2 : P ≤ 8) (ht1 : 1 ≤ t) (ht2 : t ≤ 1000000) :
    Calls Tryz.prog 18 #[.agg #[.int .i64 kd, .int .i64 (B : Int), .int .i64 rr, .int .i64 (E : Int), .int .i64 ww, .int .i64 vv, .int .i64 (L : Int), .int .i64 (P : Int)], .int .i64 (t : Int)] w fun e w' => e = .returned (.int .i64 ((E : Int) + shareV ((B : Int) - (E : Int)) L P (L - t))) ∧ Ext w w' := by
  by_cases hge : L ≤ t
  · have HV : Hid ((E : Int) + shareV ((B : Int) - (E : Int)) L P (L - t) = (E : Int)) := Lib.hid (by rw [show L - t = 0 by omega, share_none (by omega) (by omega)]; omega)
    have hgeI : (L : Int) ≤ (t : Int) := by omega
    rw [HV.out]
    clear hB hE hL1 hL2 hP1 hP2 ht1 ht2
    obtain ⟨W0, hW0⟩ : ∃ W0, W0 = (w.alloc (.cells #[.int .i64 kd, .int .i64 (B : Int), .int .i64 rr, .int .i64 (E : Int), .int .i64 ww, .int .i64 vv, .int .i64 (L : Int), .int .i64 (P : Int)] 23)) := ⟨_, rfl⟩
    have E0 : Ext w W0 := by rw [hW0]; exact (Ext.alloc1 w (.cells #[.int .i64 kd, .int .i64 (B : Int), .int .i64 rr, .int .i64 (E : Int), .int .i64 ww, .int .i64 vv, .int .i64 (L : Int), .int .i64 (P : Int)] 23))
    have p2 : BxA W0 w.heap.size 23 #[.int .i64 kd, .int .i64 (B : Int), .int .i64 rr, .int .i64 (E : Int), .int .i64 ww, .int .i64 vv, .int .i64 (L : Int), .int .i64 (P : Int)] := by rw [hW0]; exact (BxA.new w 23 #[.int .i64 kd, .int .i64 (B : Int), .int .i64 rr, .int .i64 (E : Int), .int .i64 ww, .int .i64 vv, .int .i64 (L : Int), .int .i64 (P : Int)])
    go_enter Tryz.func18, Tryz.ntmps18
    obtain ⟨kp2_0, kp2_1, kp2_2, kp2_3, kp2_4, kp2_5, kp2_6, kp2_7⟩ := p2.cells8
    go_wp2
    go_ret
    rw [hW0] at E0
    exact ⟨rfl, E0⟩
  · obtain ⟨l, hl⟩ : ∃ l, l = L - t := ⟨_, rfl⟩
    obtain ⟨D, hD⟩ : ∃ D : Int, D = (B : Int) - (E : Int) := ⟨_, rfl⟩
    rw [← hl, ← hD]
    have hbd := share_bounds (D := D) (L := L) (P := P) (l := l) (by omega) (by omega) (by omega)
    obtain ⟨V, hV⟩ : ∃ V, V = shareV D L P l := ⟨_, rfl⟩
    rw [← hV] at hbd ⊢
    have hgeI : ¬ (L : Int) ≤ (t : Int) := by omega
    have hw1 : IntKind.i64.wrap ((B : Int) - (E : Int)) = D := by rw [IntKind.wrap_i64]; omega
    have hw2 : IntKind.i64.wrap ((L : Int) - (t : Int)) = (l : Int) := by rw [IntKind.wrap_i64]; omega
    have hw3 : IntKind.i64.wrap ((E : Int) + V) = (E : Int) + V := by rw [IntKind.wrap_i64]; omega
    have HI := Lib.hid (show 0 ≤ D ∧ D < 9223372036854775808 ∧ 0 < l ∧ l ≤ 1000000 ∧ 0 < L ∧ L ≤ 1000000 ∧ P ≤ 8 by omega)
    have SD : Hid (Sm 1 D.natAbs) := Lib.hid (Sm.small (by omega))
    have SP : Hid (∀ k, k ≤ 8 → SmR 10 (partR D l L k)) := Lib.hid (fun k hk => partR_sm SD.out (by omega) (by omega) (by omega) hk)
    have SF : Hid (SmR 10 (mkRat (l : Int) L)) := Lib.hid ((SmR.mk (L := 1) (Sm.small (by omega)) (Sm.small (by omega)) (by omega)).mono (by omega))
    have hfit : fits V = true := fits_iff.2 (by omega)
    have HV : Hid (fitV (nearR (partR D l L P * P2 0)) = V) := Lib.hid (by rw [partR_near, ← hV]; exact fitV_in hfit)
    have HE2 : Hid (fitE (nearR (partR D l L P * P2 0)) = 0) := Lib.hid (by rw [partR_near, ← hV]; exact fitE_in hfit)
    clear hl hD hV hbd hfit hge hB hE hL1 hL2 hP1 hP2 ht1 ht2
    obtain ⟨W0, hW0⟩ : ∃ W0, W0 = (w.alloc (.cells #[.int .i64 kd, .int .i64 (B : Int), .int .i64 rr, .int .i64 (E : Int), .int .i64 ww, .int .i64 vv, .int .i64 (L : Int), .int .i64 (P : Int)] 23)) := ⟨_, rfl⟩
    have E0 : Ext w W0 := by rw [hW0]; exact (Ext.alloc1 w (.cells #[.int .i64 kd, .int .i64 (B : Int), .int .i64 rr, .int .i64 (E : Int), .int .i64 ww, .int .i64 vv, .int .i64 (L : Int), .int .i64 (P : Int)] 23))
    have p2 : BxA W0 w.heap.size 23 #[.int .i64 kd, .int .i64 (B : Int), .int .i64 rr, .int .i64 (E : Int), .int .i64 ww, .int .i64 vv, .int .i64 (L : Int), .int .i64 (P : Int)] := by rw [hW0]; exact (BxA.new w 23 #[.int .i64 kd, .int .i64 (B : Int), .int .i64 rr, .int .i64 (E : Int), .int .i64 ww, .int .i64 vv, .int .i64 (L : Int), .int .i64 (P : Int)])
    go_enter Tryz.func18, Tryz.ntmps18
    obtain ⟨kp2_0, kp2_1, kp2_2, kp2_3, kp2_4, kp2_5, kp2_6, kp2_7⟩ := p2.cells8
    go_upto_region 3 with (fail)
    rw [← hW0]
    clear hW0
    clear kp2_0 kp2_1 kp2_2 kp2_3 kp2_4 kp2_5 kp2_6 kp2_7
    have ltp2 := p2.lt
    have szw18 := Ext.size E0
    refine region_go [.one fun v _ => v = .pointer (some ⟨w.heap.size, 1, none⟩),
        .one fun v _ => v = .int .i64 (B : Int),
        .one fun v _ => v = .pointer (some ⟨w.heap.size, 3, none⟩),
        .one fun v _ => v = .int .i64 (E : Int),
        .one fun v _ => v = .int .i64 D,
        .one fun v W => Rw W v ((D : Rat)),
        .one fun v W => ∃ g, v = .pointer (some ⟨g, 0, none⟩) ∧ W0.heap.size ≤ g ∧ Form W g 56 3,
        .three 6 5 (fun p r _ W => Put3 W0.heap.size 56 p r W)]
      (fun W => Ext w W ∧ BxA W w.heap.size 23 #[.int .i64 kd, .int .i64 (B : Int), .int .i64 rr, .int .i64 (E : Int), .int .i64 ww, .int .i64 vv, .int .i64 (L : Int), .int .i64 (P : Int)] ∧ W0.heap.size ≤ W.heap.size) ⟨Good.is _, Good.is _, Good.is _, Good.is _, Good.is _, Good.rat _, Good.box _ _ _, cert_put3, trivial⟩
      (fun W W1 hS hE => ⟨(Ext.trans hS.1 hE), (hS.2.1.ext hE), (Nat.le_trans hS.2.2 (Ext.size hE))⟩) ⟨E0, p2, Nat.le_refl _⟩ (by kernel_rfl) (by kernel_rfl) (by kernel_rfl) (by kernel_rfl) (A := ?A18) ?hA18 ?howe18 ?hfin18
    case hA18 =>
      intro vs
      simp only [putAll, Act.put, List.setIfInBounds_toArray, List.set_cons_zero, List.set_cons_succ, Nat.zero_add, Nat.reduceAdd]
      exact rfl
    case howe18 =>
      clear E0 p2
      intro hf
      refine ⟨owesE 0 [] hf rfl (by kernel_rfl) ?_, owesE 1 [0] hf rfl (by kernel_rfl) ?_, owesE 2 [] hf rfl (by kernel_rfl) ?_, owesE 3 [2] hf rfl (by kernel_rfl) ?_, owesE 4 [1, 3] hf rfl (by kernel_rfl) ?_, owesE 5 [4] hf rfl (by kernel_rfl) ?_, owesE 6 [] hf rfl (by kernel_rfl) ?_, owesW 7 [6, 5] hf rfl (by kernel_rfl) (by kernel_rfl) ?_, trivial⟩
      all_goals intro vs W hS hp hx KO hKO
      all_goals simp only [Act.put, List.setIfInBounds_toArray, List.set_cons_zero, List.set_cons_succ] at hKO
      · go_simp
        exact hKO _ W (Ext.refl W) rfl
      · have e0 := isOf hp.1
        simp only [e0] at hKO
        have fc1 := BxA.cell (hS.2.1) 1 (v := .int .i64 (B : Int)) rfl
        go_simp
        exact hKO _ W (Ext.refl W) rfl
      · go_simp
        exact hKO _ W (Ext.refl W) rfl
      · have e2 := isOf hp.1
        simp only [e2] at hKO
        have fc3 := BxA.cell (hS.2.1) 3 (v := .int .i64 (E : Int)) rfl
        go_simp
        exact hKO _ W (Ext.refl W) rfl
      · have e1 := isOf hp.1
        have e3 := isOf hp.2.1
        simp only [e1, e3] at hKO
        go_simp
        exact hKO _ W (Ext.refl W) rfl
      · have e4 := isOf hp.1
        simp only [e4] at hKO
        go_simp
        refine (Tryz.refROf D _ (by have := HI.out; omega) (by have := HI.out; omega)).mono ?_
        rintro e W1 ⟨v, rfl, hv, hE⟩
        exact hKO _ W1 hE hv
      · have hn := Bx3.new W 56 (.bool false) (.slice none 0 0) (.slice none 0 0)
        have hE := Ext.alloc1 W (.cells #[.bool false, .slice none 0 0, .slice none 0 0] 56)
        have hsz := hS.2.2
        go_simp
        exact hKO _ _ hE ⟨_, rfl, hsz, hn.form⟩
      · have q6 := hp.1
        have q5 := hp.2.1
        obtain ⟨g, ev, hg, hf⟩ := q6
        replace ev : vs 6 = _ := ev
        obtain ⟨x0_0, x0_1, x0_2, hx, hno⟩ := hf.bx3
        have qr := q5
        obtain ⟨b3, a3, n3, c3, d3, m3, o3, er, -, -, -⟩ := qr
        replace er : vs 5 = _ := er
        have r0 := hx.froz0
        have t0 := hx.cell0
        have r1 := hx.froz1
        have t1 := hx.cell1
        have r2 := hx.froz2
        have t2 := hx.cell2
        have hw := Wr.set3 hx hno b3 a3 n3 c3 d3 m3 o3
        have hq := hx.set (.bool b3) (.slice a3 n3 c3) (.slice d3 m3 o3)
        simp only [ev, er] at hKO
        go_simp
        exact hKO _ _ hw ⟨(Ext.wr hS.1 hw (by omega)), (hS.2.1.wr hw (by omega)), (Nat.le_trans hS.2.2 hw.apart.size)⟩ ⟨g, b3, a3, n3, c3, d3, m3, o3, ev, er, hg, hq⟩
    intro vs W18 hS hp
    clear szw18 E0 p2
    obtain ⟨E0, p2, sz18⟩ := hS
    obtain ⟨h18_0, h18_1, h18_2, h18_3, h18_4, h18_5, h18_6, h18_7, -⟩ := hp
    obtain ⟨g18_7, b18_7, a18_7, n18_7, c18_7, d18_7, m18_7, o18_7, ev18_7, er18_7, hg18_7, p18_7⟩ := h18_7
    replace ev18_7 : vs 6 = _ := ev18_7
    replace er18_7 : vs 5 = _ := er18_7
    replace h18_5 := (show Rw W18 (vs 5) ((D : Rat)) from h18_5)
    rw [er18_7] at h18_5
    replace h18_0 : vs 0 = .pointer (some ⟨w.heap.size, 1, none⟩) := h18_0
    replace h18_1 : vs 1 = .int .i64 (B : Int) := h18_1
    replace h18_2 : vs 2 = .pointer (some ⟨w.heap.size, 3, none⟩) := h18_2
    replace h18_3 : vs 3 = .int .i64 (E : Int) := h18_3
    replace h18_4 : vs 4 = .int .i64 D := h18_4
    simp only [ev18_7, er18_7, h18_0, h18_1, h18_2, h18_3, h18_4]
    clear ev18_7 er18_7 h18_0 h18_1 h18_2 h18_3 h18_4 h18_6
    obtain ⟨kp2_0, kp2_1, kp2_2, kp2_3, kp2_4, kp2_5, kp2_6, kp2_7⟩ := p2.cells8
    have kp18_7_0 := p18_7.cell0
    have kp18_7_1 := p18_7.cell1
    have kp18_7_2 := p18_7.cell2
    go_upto_region 4 with (fail)
    clear kp2_0 kp2_1 kp2_2 kp2_3 kp2_4 kp2_5 kp2_6 kp2_7 kp18_7_0 kp18_7_1 kp18_7_2
    have ltp18_7 := p18_7.lt
    have szw19 := Ext.size E0
    refine region_go [.one fun v _ => v = .pointer (some ⟨w.heap.size, 6, none⟩),
        .one fun v _ => v = .int .i64 (L : Int),
        .one fun v _ => v = .int .i64 (t : Int),
        .one fun v _ => v = .int .i64 (l : Int),
        .one fun v _ => v = .pointer (some ⟨w.heap.size, 6, none⟩),
        .one fun v _ => v = .int .i64 (L : Int),
        .one fun v W => Rw W v (mkRat (l : Int) L),
        .one fun v W => ∃ g, v = .pointer (some ⟨g, 0, none⟩) ∧ W18.heap.size ≤ g ∧ Form W g 56 3,
        .three 7 6 (fun p r _ W => Put3 W18.heap.size 56 p r W)]
      (fun W => Ext w W ∧ BxA W w.heap.size 23 #[.int .i64 kd, .int .i64 (B : Int), .int .i64 rr, .int .i64 (E : Int), .int .i64 ww, .int .i64 vv, .int .i64 (L : Int), .int .i64 (P : Int)] ∧ Rw W (.agg #[.bool b18_7, .slice a18_7 n18_7 c18_7, .slice d18_7 m18_7 o18_7]) ((D : Rat)) ∧ Bx3 W g18_7 56 (.bool b18_7) (.slice a18_7 n18_7 c18_7) (.slice d18_7 m18_7 o18_7) ∧ W18.heap.size ≤ W.heap.size) ⟨Good.is _, Good.is _, Good.is _, Good.is _, Good.is _, Good.is _, Good.rat _, Good.box _ _ _, cert_put3, trivial⟩
      (fun W W1 hS hE => ⟨(Ext.trans hS.1 hE), (hS.2.1.ext hE), (hS.2.2.1.ext hE), (hS.2.2.2.1.ext hE), (Nat.le_trans hS.2.2.2.2 (Ext.size hE))⟩) ⟨E0, p2, h18_5, p18_7, Nat.le_refl _⟩ (by kernel_rfl) (by kernel_rfl) (by kernel_rfl) (by kernel_rfl) (A := ?A19) ?hA19 ?howe19 ?hfin19
    case hA19 =>
      intro vs
      simp only [putAll, Act.put, List.setIfInBounds_toArray, List.set_cons_zero, List.set_cons_succ, Nat.zero_add, Nat.reduceAdd]
      exact rfl
    case howe19 =>
      clear E0 p2 h18_5 p18_7
      intro hf
      refine ⟨owesE 0 [] hf rfl (by kernel_rfl) ?_, owesE 1 [0] hf rfl (by kernel_rfl) ?_, owesE 2 [] hf rfl (by kernel_rfl) ?_, owesE 3 [1, 2] hf rfl (by kernel_rfl) ?_, owesE 4 [] hf rfl (by kernel_rfl) ?_, owesE 5 [4] hf rfl (by kernel_rfl) ?_, owesE 6 [3, 5] hf rfl (by kernel_rfl) ?_, owesE 7 [] hf rfl (by kernel_rfl) ?_, owesW 8 [7, 6] hf rfl (by kernel_rfl) (by kernel_rfl) ?_, trivial⟩
      all_goals intro vs W hS hp hx KO hKO
      all_goals simp only [Act.put, List.setIfInBounds_toArray, List.set_cons_zero, List.set_cons_succ] at hKO
      · go_simp
        exact hKO _ W (Ext.refl W) rfl
      · have e0 := isOf hp.1
        simp only [e0] at hKO
        have fc6 := BxA.cell (hS.2.1) 6 (v := .int .i64 (L : Int)) rfl
        go_simp
        exact hKO _ W (Ext.refl W) rfl
      · go_simp
        exact hKO _ W (Ext.refl W) rfl
      · have e1 := isOf hp.1
        have e2 := isOf hp.2.1
        simp only [e1, e2] at hKO
        go_simp
        exact hKO _ W (Ext.refl W) rfl
      · go_simp
        exact hKO _ W (Ext.refl W) rfl
      · have e4 := isOf hp.1
        simp only [e4] at hKO
        have fc6 := BxA.cell (hS.2.1) 6 (v := .int .i64 (L : Int)) rfl
        go_simp
        exact hKO _ W (Ext.refl W) rfl
      · have e3 := isOf hp.1
        have e5 := isOf hp.2.1
        simp only [e3, e5] at hKO
        go_simp
        refine (Tryz.refRFrac (l : Int) (L : Int) _ (by have := HI.out; omega) (by have := HI.out; omega) (by have := HI.out; omega) (by have := HI.out; omega)).mono ?_
        rintro e W1 ⟨v, rfl, hv, hE⟩
        rw [Int.natAbs_natCast] at hv
        exact hKO _ W1 hE hv
      · have hn := Bx3.new W 56 (.bool false) (.slice none 0 0) (.slice none 0 0)
        have hE := Ext.alloc1 W (.cells #[.bool false, .slice none 0 0, .slice none 0 0] 56)
        have hsz := hS.2.2.2.2
        go_simp
        exact hKO _ _ hE ⟨_, rfl, hsz, hn.form⟩
      · have q7 := hp.1
        have q6 := hp.2.1
        obtain ⟨g, ev, hg, hf⟩ := q7
        replace ev : vs 7 = _ := ev
        obtain ⟨x0_0, x0_1, x0_2, hx, hno⟩ := hf.bx3
        have qr := q6
        obtain ⟨b3, a3, n3, c3, d3, m3, o3, er, -, -, -⟩ := qr
        replace er : vs 6 = _ := er
        have r0 := hx.froz0
        have t0 := hx.cell0
        have r1 := hx.froz1
        have t1 := hx.cell1
        have r2 := hx.froz2
        have t2 := hx.cell2
        have hw := Wr.set3 hx hno b3 a3 n3 c3 d3 m3 o3
        have hq := hx.set (.bool b3) (.slice a3 n3 c3) (.slice d3 m3 o3)
        simp only [ev, er] at hKO
        go_simp
        exact hKO _ _ hw ⟨(Ext.wr hS.1 hw (by omega)), (hS.2.1.wr hw (by omega)), (hS.2.2.1.wr hw), (hS.2.2.2.1.wr hw (by omega)), (Nat.le_trans hS.2.2.2.2 hw.apart.size)⟩ ⟨g, b3, a3, n3, c3, d3, m3, o3, ev, er, hg, hq⟩
    intro vs W19 hS hp
    clear szw19 E0 p2 h18_5 p18_7
    obtain ⟨E0, p2, h18_5, p18_7, sz19⟩ := hS
    obtain ⟨h19_0, h19_1, h19_2, h19_3, h19_4, h19_5, h19_6, h19_7, h19_8, -⟩ := hp
    obtain ⟨g19_8, b19_8, a19_8, n19_8, c19_8, d19_8, m19_8, o19_8, ev19_8, er19_8, hg19_8, p19_8⟩ := h19_8
    replace ev19_8 : vs 7 = _ := ev19_8
    replace er19_8 : vs 6 = _ := er19_8
    replace h19_6 := (show Rw W19 (vs 6) (mkRat (l : Int) L) from h19_6)
    rw [er19_8] at h19_6
    replace h19_0 : vs 0 = .pointer (some ⟨w.heap.size, 6, none⟩) := h19_0
    replace h19_1 : vs 1 = .int .i64 (L : Int) := h19_1
    replace h19_2 : vs 2 = .int .i64 (t : Int) := h19_2
    replace h19_3 : vs 3 = .int .i64 (l : Int) := h19_3
    replace h19_4 : vs 4 = .pointer (some ⟨w.heap.size, 6, none⟩) := h19_4
    replace h19_5 : vs 5 = .int .i64 (L : Int) := h19_5
    simp only [ev19_8, er19_8, h19_0, h19_1, h19_2, h19_3, h19_4, h19_5]
    clear ev19_8 er19_8 h19_0 h19_1 h19_2 h19_3 h19_4 h19_5 h19_7
    have hs0 := h18_5
    rw [← partR_zero D l L] at hs0
    obtain ⟨kp2_0, kp2_1, kp2_2, kp2_3, kp2_4, kp2_5, kp2_6, kp2_7⟩ := p2.cells8
    have kp18_7_0 := p18_7.cell0
    have kp18_7_1 := p18_7.cell1
    have kp18_7_2 := p18_7.cell2
    have kp19_8_0 := p19_8.cell0
    have kp19_8_1 := p19_8.cell1
    have kp19_8_2 := p19_8.cell2
    go_wp2_with fail
    clear kp2_0 kp2_1 kp2_2 kp2_3 kp2_4 kp2_5 kp2_6 kp2_7 kp18_7_0 kp18_7_1 kp18_7_2 kp19_8_0 kp19_8_1 kp19_8_2
    go_loopw [7] (fun i wr => ∃ (kq : Nat) (bq : Bool) (aq : Option Addr) (nq : Nat) (cq : Nat) (dq : Option Addr) (mq : Nat) (oq : Nat), i = .int .i64 (kq : Int) ∧ kq ≤ P ∧ Ext w wr ∧ BxA wr w.heap.size 23 #[.int .i64 kd, .int .i64 (B : Int), .int .i64 rr, .int .i64 (E : Int), .int .i64 ww, .int .i64 vv, .int .i64 (L : Int), .int .i64 (P : Int)] ∧ Rw wr (.agg #[.bool b19_8, .slice a19_8 n19_8 c19_8, .slice d19_8 m19_8 o19_8]) (mkRat (l : Int) L) ∧ Bx3 wr g19_8 56 (.bool b19_8) (.slice a19_8 n19_8 c19_8) (.slice d19_8 m19_8 o19_8) ∧ Bx3 wr g18_7 56 (.bool bq) (.slice aq nq cq) (.slice dq mq oq) ∧ Rw wr (.agg #[.bool bq, .slice aq nq cq, .slice dq mq oq]) (partR D l L kq)) (fun i _ => P - (intOf i).toNat)
    case atStart => exact ⟨0, b18_7, a18_7, n18_7, c18_7, d18_7, m18_7, o18_7, rfl, by omega, E0, p2, h19_6, p19_8, p18_7, hs0⟩
    case round =>
      clear hs0 E0 p2 h18_5 p18_7 h19_6 p19_8
      obtain ⟨kq, bq, aq, nq, cq, dq, mq, oq, rfl, hk, E0, p2, h19_6, p19_8, xq, rq⟩ := hrel
      by_cases hlt : kq < P
      · have hltI : (kq : Int) < (P : Int) := by omega
        have hk63 : (kq : Int) < 9223372036854775807 := by have := HI.out; omega
        obtain ⟨kp2_0, kp2_1, kp2_2, kp2_3, kp2_4, kp2_5, kp2_6, kp2_7⟩ := p2.cells8
        have kp19_8_0 := p19_8.cell0
        have kp19_8_1 := p19_8.cell1
        have kp19_8_2 := p19_8.cell2
        have kxq_0 := xq.cell0
        have kxq_1 := xq.cell1
        have kxq_2 := xq.cell2
        go_wp2_with fail
        clear kp2_0 kp2_1 kp2_2 kp2_3 kp2_4 kp2_5 kp2_6 kp2_7 kp19_8_0 kp19_8_1 kp19_8_2 kxq_0 kxq_1 kxq_2
        refine (Tryz.refRMul rq h19_6 (SP.out kq (by have := HI.out; omega)) SF.out (by omega)).mono ?_
        rintro e Wc ⟨v9, rfl, hv9, hE⟩
        rw [partR_step] at hv9
        replace E0 := (Ext.trans E0 hE)
        replace p2 := (p2.ext hE)
        replace h19_6 := (h19_6.ext hE)
        replace p19_8 := (p19_8.ext hE)
        replace xq := (xq.ext hE)
        replace rq := (rq.ext hE)
        clear hE
        obtain ⟨b9, a9, n9, c9, d9, m9, o9, rfl, q9⟩ : ∃ b a n c d m o, v9 = .agg #[.bool b, .slice a n c, .slice d m o] ∧ True := let ⟨b, a, n, c, d, m, o, e, _⟩ := hv9; ⟨b, a, n, c, d, m, o, e, trivial⟩
        clear q9
        have z0 := xq.froz0
        have z1 := xq.froz1
        have z2 := xq.froz2
        obtain ⟨kp2_0, kp2_1, kp2_2, kp2_3, kp2_4, kp2_5, kp2_6, kp2_7⟩ := p2.cells8
        have kp19_8_0 := p19_8.cell0
        have kp19_8_1 := p19_8.cell1
        have kp19_8_2 := p19_8.cell2
        have kxq_0 := xq.cell0
        have kxq_1 := xq.cell1
        have kxq_2 := xq.cell2
        go_wp2
        go_roundw
        case rel =>
          have hw := Wr.set3 xq (noU3 _ _ _ _ _ _ _) b9 a9 n9 c9 d9 m9 o9
          have hq := xq.set (.bool b9) (.slice a9 n9 c9) (.slice d9 m9 o9)
          have hP8 := HI.out
          exact ⟨kq + 1, b9, a9, n9, c9, d9, m9, o9, by go_num, by omega, (Ext.wr E0 hw (by omega)), (p2.wr hw (by omega)), (h19_6.wr hw), (p19_8.wr hw (by omega)), hq, (hv9.wr hw)⟩
        case measure => have hP8 := HI.out; simp [intOf]; omega
      · have hkP : kq = P := by omega
        have hgeP : ¬ (kq : Int) < (P : Int) := by omega
        rw [hkP] at rq
        have HKP := Lib.hid hkP
        clear hkP
        obtain ⟨kp2_0, kp2_1, kp2_2, kp2_3, kp2_4, kp2_5, kp2_6, kp2_7⟩ := p2.cells8
        have kp19_8_0 := p19_8.cell0
        have kp19_8_1 := p19_8.cell1
        have kp19_8_2 := p19_8.cell2
        have kxq_0 := xq.cell0
        have kxq_1 := xq.cell1
        have kxq_2 := xq.cell2
        go_upto_region 9 with (fail)
        clear kp2_0 kp2_1 kp2_2 kp2_3 kp2_4 kp2_5 kp2_6 kp2_7 kp19_8_0 kp19_8_1 kp19_8_2 kxq_0 kxq_1 kxq_2
        have ltp19_8 := p19_8.lt
        have szw20 := Ext.size E0
        refine region_go [.one fun v _ => v = .agg #[.bool bq, .slice aq nq cq, .slice dq mq oq],
            .one fun v _ => v = .tuple #[.int .i64 V, .int .i64 0],
            .one fun v _ => v = .tuple #[.int .i64 V, .int .i64 0],
            .one fun v _ => v = .int .i64 V,
            .one fun v _ => v = .int .i64 0,
            .one fun v _ => v = .int .i64 V,
            .one fun v _ => v = .int .i64 0]
          (fun W => Ext w W ∧ BxA W w.heap.size 23 #[.int .i64 kd, .int .i64 (B : Int), .int .i64 rr, .int .i64 (E : Int), .int .i64 ww, .int .i64 vv, .int .i64 (L : Int), .int .i64 (P : Int)] ∧ Rw W (.agg #[.bool b19_8, .slice a19_8 n19_8 c19_8, .slice d19_8 m19_8 o19_8]) (mkRat (l : Int) L) ∧ Bx3 W g19_8 56 (.bool b19_8) (.slice a19_8 n19_8 c19_8) (.slice d19_8 m19_8 o19_8) ∧ Bx3 W g18_7 56 (.bool bq) (.slice aq nq cq) (.slice dq mq oq) ∧ Rw W (.agg #[.bool bq, .slice aq nq cq, .slice dq mq oq]) (partR D l L P) ∧ wr.heap.size ≤ W.heap.size) ⟨Good.is _, Good.is _, Good.is _, Good.is _, Good.is _, Good.is _, Good.is _, trivial⟩
          (fun W W1 hS hE => ⟨(Ext.trans hS.1 hE), (hS.2.1.ext hE), (hS.2.2.1.ext hE), (hS.2.2.2.1.ext hE), (hS.2.2.2.2.1.ext hE), (hS.2.2.2.2.2.1.ext hE), (Nat.le_trans hS.2.2.2.2.2.2 (Ext.size hE))⟩) ⟨E0, p2, h19_6, p19_8, xq, rq, Nat.le_refl _⟩ (by kernel_rfl) (by kernel_rfl) (by kernel_rfl) (by kernel_rfl) (A := ?A20) ?hA20 ?howe20 ?hfin20
        case hA20 =>
          intro vs
          simp only [putAll, Act.put, List.setIfInBounds_toArray, List.set_cons_zero, List.set_cons_succ, Nat.zero_add, Nat.reduceAdd]
          exact rfl
        case howe20 =>
          clear E0 p2 h19_6 p19_8 xq rq
          intro hf
          refine ⟨owesE 0 [] hf rfl (by kernel_rfl) ?_, owesE 1 [0] hf rfl (by kernel_rfl) ?_, owesE 2 [1] hf rfl (by kernel_rfl) ?_, owesE 3 [2] hf rfl (by kernel_rfl) ?_, owesE 4 [2] hf rfl (by kernel_rfl) ?_, owesE 5 [3] hf rfl (by kernel_rfl) ?_, owesE 6 [4] hf rfl (by kernel_rfl) ?_, trivial⟩
          all_goals intro vs W hS hp hx KO hKO
          all_goals simp only [Act.put, List.setIfInBounds_toArray, List.set_cons_zero, List.set_cons_succ] at hKO
          · have fc0 := hS.2.2.2.2.1.cell0
            have fc1 := hS.2.2.2.2.1.cell1
            have fc2 := hS.2.2.2.2.1.cell2
            go_simp
            exact hKO _ W (Ext.refl W) rfl
          · have e0 := isOf hp.1
            simp only [e0] at hKO
            go_simp
            refine (Tryz.ref08Of (hS.2.2.2.2.2.1) (SP.out P HI.out.2.2.2.2.2.2) (by omega) 0 (by omega) HV.out HE2.out).mono ?_
            rintro e W1 ⟨rfl, hE⟩
            exact hKO _ W1 hE rfl
          · have e1 := isOf hp.1
            simp only [e1] at hKO
            go_simp
            exact hKO _ W (Ext.refl W) rfl
          · have e2 := isOf hp.1
            simp only [e2] at hKO
            go_simp
            exact hKO _ W (Ext.refl W) rfl
          · have e2 := isOf hp.1
            simp only [e2] at hKO
            go_simp
            exact hKO _ W (Ext.refl W) rfl
          · have e3 := isOf hp.1
            simp only [e3] at hKO
            go_simp
            exact hKO _ W (Ext.refl W) rfl
          · have e4 := isOf hp.1
            simp only [e4] at hKO
            go_simp
            exact hKO _ W (Ext.refl W) rfl
        intro vs W20 hS hp
        clear szw20 E0 p2 h19_6 p19_8 xq rq
        obtain ⟨E0, p2, h19_6, p19_8, xq, rq, sz20⟩ := hS
        obtain ⟨h20_0, h20_1, h20_2, h20_3, h20_4, h20_5, h20_6, -⟩ := hp
        replace h20_0 : vs 0 = .agg #[.bool bq, .slice aq nq cq, .slice dq mq oq] := h20_0
        replace h20_1 : vs 1 = .tuple #[.int .i64 V, .int .i64 0] := h20_1
        replace h20_2 : vs 2 = .tuple #[.int .i64 V, .int .i64 0] := h20_2
        replace h20_3 : vs 3 = .int .i64 V := h20_3
        replace h20_4 : vs 4 = .int .i64 0 := h20_4
        replace h20_5 : vs 5 = .int .i64 V := h20_5
        replace h20_6 : vs 6 = .int .i64 0 := h20_6
        simp only [h20_0, h20_1, h20_2, h20_3, h20_4, h20_5, h20_6]
        clear h20_0 h20_1 h20_2 h20_3 h20_4 h20_5 h20_6
        obtain ⟨kp2_0, kp2_1, kp2_2, kp2_3, kp2_4, kp2_5, kp2_6, kp2_7⟩ := p2.cells8
        have kp19_8_0 := p19_8.cell0
        have kp19_8_1 := p19_8.cell1
        have kp19_8_2 := p19_8.cell2
        have kxq_0 := xq.cell0
        have kxq_1 := xq.cell1
        have kxq_2 := xq.cell2
        go_wp2
        go_ret
        exact ⟨rfl, E0⟩


end Go.Rt
