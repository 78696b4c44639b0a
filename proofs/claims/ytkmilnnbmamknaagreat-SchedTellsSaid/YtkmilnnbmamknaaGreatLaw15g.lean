/-
  The laws of chapter 15 (schedules): Tells: its walk.
-/
import Derived.Test.YtkmilnnbmamknaaGreatSchedF
namespace Go.Rt
open Go Go.RowKit Go.Proofs

set_option maxRecDepth 100000 in
set_option maxHeartbeats 16000000 in
theorem Tryz.lawSchedTells (kd bb rr ee ww vv ll pp t f : Int) (w : World) (hbb : bb < 9223372036854775808) :
    Calls Tryz.prog 3 #[.agg #[.int .i64 kd, .int .i64 bb, .int .i64 rr, .int .i64 ee, .int .i64 ww, .int .i64 vv, .int .i64 ll, .int .i64 pp], .int .i64 t, .int .i64 f] w fun e w' => e = .returned (.bool true) ∧ Ext w w' := by
  by_cases hok : rightS kd bb rr ee ww vv ll pp f = true ∧ 1 ≤ t ∧ t ≤ 1000000
  · obtain ⟨hR, ht1, ht2⟩ := hok
    have hf := (rightS_iff.1 hR).1
    obtain ⟨K, rfl⟩ := Int.eq_ofNat_of_zero_le hf
    obtain ⟨T, rfl⟩ := Int.eq_ofNat_of_zero_le (show 0 ≤ t by omega)
    obtain ⟨X, hX⟩ : ∃ X, rateV kd bb rr ee ww vv ll pp T K = X := ⟨_, rfl⟩
    have HR := Lib.hid hR
    have HX := Lib.hid hX
    have HB := Lib.hid (show bb < 9223372036854775808 ∧ 1 ≤ T ∧ T ≤ 1000000 by omega)
    clear hR ht1 ht2 hf hX hbb
    obtain ⟨Q, hQ⟩ : ∃ Q, Q = rightS kd bb rr ee ww vv ll pp (K : Int) := ⟨_, rfl⟩
    have HQ := Lib.hid hQ
    clear hQ
    obtain ⟨W0, hW0⟩ : ∃ W0, W0 = (w.alloc (.cells #[.int .i64 kd, .int .i64 bb, .int .i64 rr, .int .i64 ee, .int .i64 ww, .int .i64 vv, .int .i64 ll, .int .i64 pp] 23)) := ⟨_, rfl⟩
    have E0 : Ext w W0 := by rw [hW0]; exact (Ext.alloc1 w (.cells #[.int .i64 kd, .int .i64 bb, .int .i64 rr, .int .i64 ee, .int .i64 ww, .int .i64 vv, .int .i64 ll, .int .i64 pp] 23))
    have p3 : BxA W0 w.heap.size 23 #[.int .i64 kd, .int .i64 bb, .int .i64 rr, .int .i64 ee, .int .i64 ww, .int .i64 vv, .int .i64 ll, .int .i64 pp] := by rw [hW0]; exact (BxA.new w 23 #[.int .i64 kd, .int .i64 bb, .int .i64 rr, .int .i64 ee, .int .i64 ww, .int .i64 vv, .int .i64 ll, .int .i64 pp])
    go_enter Tryz.func3, Tryz.ntmps3
    obtain ⟨kp3_0, kp3_1, kp3_2, kp3_3, kp3_4, kp3_5, kp3_6, kp3_7⟩ := p3.cells8
    go_wp2_with fail
    rw [← hW0]
    clear hW0
    clear kp3_0 kp3_1 kp3_2 kp3_3 kp3_4 kp3_5 kp3_6 kp3_7
    refine (Tryz.schedRate kd bb rr ee ww vv ll pp T K _ HR.out HB.out.1 HB.out.2.1 HB.out.2.2 HX.out).mono ?_
    rintro e V1 ⟨rfl, hE⟩
    replace E0 := (Ext.trans E0 hE)
    replace p3 := (p3.ext hE)
    clear hE
    obtain ⟨kp3_0, kp3_1, kp3_2, kp3_3, kp3_4, kp3_5, kp3_6, kp3_7⟩ := p3.cells8
    go_wp2_with fail
    clear kp3_0 kp3_1 kp3_2 kp3_3 kp3_4 kp3_5 kp3_6 kp3_7
    refine (Tryz.refRate15 kd bb rr ee ww vv ll pp T K _ HR.out HB.out.1 HB.out.2.1 HB.out.2.2 HX.out).mono ?_
    rintro e V2 ⟨rfl, hE⟩
    replace E0 := (Ext.trans E0 hE)
    replace p3 := (p3.ext hE)
    clear hE
    obtain ⟨kp3_0, kp3_1, kp3_2, kp3_3, kp3_4, kp3_5, kp3_6, kp3_7⟩ := p3.cells8
    go_upto_region 3 with (fail)
    clear kp3_0 kp3_1 kp3_2 kp3_3 kp3_4 kp3_5 kp3_6 kp3_7
    have ltp3 := p3.lt
    have szw13 := Ext.size E0
    refine region_go [.one fun v _ => v = .bool true,
        .one fun v _ => v = .bool true,
        .one fun v _ => v = .agg #[.int .i64 kd, .int .i64 bb, .int .i64 rr, .int .i64 ee, .int .i64 ww, .int .i64 vv, .int .i64 ll, .int .i64 pp],
        .one fun v _ => v = .int .i64 (K : Int),
        .one fun v _ => v = .bool Q,
        .one fun v _ => v = .agg #[.int .i64 kd, .int .i64 bb, .int .i64 rr, .int .i64 ee, .int .i64 ww, .int .i64 vv, .int .i64 ll, .int .i64 pp],
        .one fun v _ => v = .int .i64 (K : Int),
        .one fun v _ => v = .bool Q,
        .one fun v _ => v = .bool true,
        .one fun v _ => v = .bool true,
        .one fun v _ => v = .bool true,
        .one fun v _ => v = .int .i64 X,
        .one fun v _ => v = .int .i64 X,
        .one fun v _ => v = .bool true,
        .one fun v _ => v = .bool true,
        .one fun v _ => v = .bool true,
        .one fun v _ => v = .int .i64 0,
        .one fun v _ => v = .int .i64 0,
        .one fun v _ => v = .bool true,
        .one fun v _ => v = .bool true,
        .one fun v _ => v = .bool true]
      (fun W => Ext w W ∧ BxA W w.heap.size 23 #[.int .i64 kd, .int .i64 bb, .int .i64 rr, .int .i64 ee, .int .i64 ww, .int .i64 vv, .int .i64 ll, .int .i64 pp] ∧ V2.heap.size ≤ W.heap.size) ⟨Good.is _, Good.is _, Good.is _, Good.is _, Good.is _, Good.is _, Good.is _, Good.is _, Good.is _, Good.is _, Good.is _, Good.is _, Good.is _, Good.is _, Good.is _, Good.is _, Good.is _, Good.is _, Good.is _, Good.is _, Good.is _, trivial⟩
      (fun W W1 hS hE => ⟨(Ext.trans hS.1 hE), (hS.2.1.ext hE), (Nat.le_trans hS.2.2 (Ext.size hE))⟩) ⟨E0, p3, Nat.le_refl _⟩ (by kernel_rfl) (by kernel_rfl) (by kernel_rfl) (by kernel_rfl) (A := ?A13) ?hA13 ?howe13 ?hfin13
    case hA13 =>
      intro vs
      simp only [putAll, Act.put, List.setIfInBounds_toArray, List.set_cons_zero, List.set_cons_succ, Nat.zero_add, Nat.reduceAdd]
      exact rfl
    case howe13 =>
      clear E0 p3
      intro hf
      refine ⟨owesE 0 [] hf rfl (by kernel_rfl) ?_, owesE 1 [0] hf rfl (by kernel_rfl) ?_, owesE 2 [1] hf rfl (by kernel_rfl) ?_, owesE 3 [1] hf rfl (by kernel_rfl) ?_, owesE 4 [1, 2, 3] hf rfl (by kernel_rfl) ?_, owesE 5 [1] hf rfl (by kernel_rfl) ?_, owesE 6 [1] hf rfl (by kernel_rfl) ?_, owesE 7 [1, 5, 6] hf rfl (by kernel_rfl) ?_, owesE 8 [1, 4, 7] hf rfl (by kernel_rfl) ?_, owesE 9 [1, 8] hf rfl (by kernel_rfl) ?_, owesE 10 [9] hf rfl (by kernel_rfl) ?_, owesE 11 [10] hf rfl (by kernel_rfl) ?_, owesE 12 [10] hf rfl (by kernel_rfl) ?_, owesE 13 [10, 11, 12] hf rfl (by kernel_rfl) ?_, owesE 14 [10, 13] hf rfl (by kernel_rfl) ?_, owesE 15 [14] hf rfl (by kernel_rfl) ?_, owesE 16 [15] hf rfl (by kernel_rfl) ?_, owesE 17 [15] hf rfl (by kernel_rfl) ?_, owesE 18 [15, 16, 17] hf rfl (by kernel_rfl) ?_, owesE 19 [15, 18] hf rfl (by kernel_rfl) ?_, owesE 20 [19] hf rfl (by kernel_rfl) ?_, trivial⟩
      all_goals intro vs W hS hp hx KO hKO
      all_goals simp only [Act.put, List.setIfInBounds_toArray, List.set_cons_zero, List.set_cons_succ] at hKO
      · go_simp
        refine (Tryz.alive15 _).mono ?_
        rintro e W1 ⟨rfl, hE⟩
        exact hKO _ W1 hE rfl
      · have e0 := isOf hp.1
        simp only [e0] at hKO
        go_simp
        exact hKO _ W (Ext.refl W) rfl
      · have e1 := isOf hp.1
        simp only [e1] at hKO
        have fc0 := BxA.cell (hS.2.1) 0 (v := .int .i64 kd) rfl
        have fc1 := BxA.cell (hS.2.1) 1 (v := .int .i64 bb) rfl
        have fc2 := BxA.cell (hS.2.1) 2 (v := .int .i64 rr) rfl
        have fc3 := BxA.cell (hS.2.1) 3 (v := .int .i64 ee) rfl
        have fc4 := BxA.cell (hS.2.1) 4 (v := .int .i64 ww) rfl
        have fc5 := BxA.cell (hS.2.1) 5 (v := .int .i64 vv) rfl
        have fc6 := BxA.cell (hS.2.1) 6 (v := .int .i64 ll) rfl
        have fc7 := BxA.cell (hS.2.1) 7 (v := .int .i64 pp) rfl
        go_simp
        exact hKO _ W (Ext.refl W) rfl
      · have e1 := isOf hp.1
        simp only [e1] at hKO
        go_simp
        exact hKO _ W (Ext.refl W) rfl
      · have e1 := isOf hp.1
        have e2 := isOf hp.2.1
        have e3 := isOf hp.2.2.1
        simp only [e1, e2, e3] at hKO
        go_simp
        refine (Tryz.schedRight kd bb rr ee ww vv ll pp (K : Int) _).mono ?_
        rintro e W1 ⟨rfl, hE⟩
        rw [← HQ.out]
        exact hKO _ W1 hE rfl
      · have e1 := isOf hp.1
        simp only [e1] at hKO
        have fc0 := BxA.cell (hS.2.1) 0 (v := .int .i64 kd) rfl
        have fc1 := BxA.cell (hS.2.1) 1 (v := .int .i64 bb) rfl
        have fc2 := BxA.cell (hS.2.1) 2 (v := .int .i64 rr) rfl
        have fc3 := BxA.cell (hS.2.1) 3 (v := .int .i64 ee) rfl
        have fc4 := BxA.cell (hS.2.1) 4 (v := .int .i64 ww) rfl
        have fc5 := BxA.cell (hS.2.1) 5 (v := .int .i64 vv) rfl
        have fc6 := BxA.cell (hS.2.1) 6 (v := .int .i64 ll) rfl
        have fc7 := BxA.cell (hS.2.1) 7 (v := .int .i64 pp) rfl
        go_simp
        exact hKO _ W (Ext.refl W) rfl
      · have e1 := isOf hp.1
        simp only [e1] at hKO
        go_simp
        exact hKO _ W (Ext.refl W) rfl
      · have e1 := isOf hp.1
        have e5 := isOf hp.2.1
        have e6 := isOf hp.2.2.1
        simp only [e1, e5, e6] at hKO
        go_simp
        refine (Tryz.refRight15 kd bb rr ee ww vv ll pp (K : Int) _).mono ?_
        rintro e W1 ⟨rfl, hE⟩
        rw [← HQ.out]
        exact hKO _ W1 hE rfl
      · have e1 := isOf hp.1
        have e4 := isOf hp.2.1
        have e7 := isOf hp.2.2.1
        simp only [e1, e4, e7] at hKO
        go_simp
        exact hKO _ W (Ext.refl W) rfl
      · have e1 := isOf hp.1
        have e8 := isOf hp.2.1
        simp only [e1, e8] at hKO
        go_simp
        exact hKO _ W (Ext.refl W) rfl
      · have e9 := isOf hp.1
        simp only [e9] at hKO
        go_simp
        exact hKO _ W (Ext.refl W) rfl
      · have e10 := isOf hp.1
        simp only [e10] at hKO
        go_simp
        exact hKO _ W (Ext.refl W) rfl
      · have e10 := isOf hp.1
        simp only [e10] at hKO
        go_simp
        exact hKO _ W (Ext.refl W) rfl
      · have e10 := isOf hp.1
        have e11 := isOf hp.2.1
        have e12 := isOf hp.2.2.1
        simp only [e10, e11, e12] at hKO
        go_simp
        exact hKO _ W (Ext.refl W) rfl
      · have e10 := isOf hp.1
        have e13 := isOf hp.2.1
        simp only [e10, e13] at hKO
        go_simp
        exact hKO _ W (Ext.refl W) rfl
      · have e14 := isOf hp.1
        simp only [e14] at hKO
        go_simp
        exact hKO _ W (Ext.refl W) rfl
      · have e15 := isOf hp.1
        simp only [e15] at hKO
        go_simp
        exact hKO _ W (Ext.refl W) rfl
      · have e15 := isOf hp.1
        simp only [e15] at hKO
        go_simp
        exact hKO _ W (Ext.refl W) rfl
      · have e15 := isOf hp.1
        have e16 := isOf hp.2.1
        have e17 := isOf hp.2.2.1
        simp only [e15, e16, e17] at hKO
        go_simp
        exact hKO _ W (Ext.refl W) rfl
      · have e15 := isOf hp.1
        have e18 := isOf hp.2.1
        simp only [e15, e18] at hKO
        go_simp
        exact hKO _ W (Ext.refl W) rfl
      · have e19 := isOf hp.1
        simp only [e19] at hKO
        go_simp
        exact hKO _ W (Ext.refl W) rfl
    intro vs W13 hS hp
    clear szw13 E0 p3
    obtain ⟨E0, p3, sz13⟩ := hS
    obtain ⟨h13_0, h13_1, h13_2, h13_3, h13_4, h13_5, h13_6, h13_7, h13_8, h13_9, h13_10, h13_11, h13_12, h13_13, h13_14, h13_15, h13_16, h13_17, h13_18, h13_19, h13_20, -⟩ := hp
    replace h13_0 : vs 0 = .bool true := h13_0
    replace h13_1 : vs 1 = .bool true := h13_1
    replace h13_2 : vs 2 = .agg #[.int .i64 kd, .int .i64 bb, .int .i64 rr, .int .i64 ee, .int .i64 ww, .int .i64 vv, .int .i64 ll, .int .i64 pp] := h13_2
    replace h13_3 : vs 3 = .int .i64 (K : Int) := h13_3
    replace h13_4 : vs 4 = .bool Q := h13_4
    replace h13_5 : vs 5 = .agg #[.int .i64 kd, .int .i64 bb, .int .i64 rr, .int .i64 ee, .int .i64 ww, .int .i64 vv, .int .i64 ll, .int .i64 pp] := h13_5
    replace h13_6 : vs 6 = .int .i64 (K : Int) := h13_6
    replace h13_7 : vs 7 = .bool Q := h13_7
    replace h13_8 : vs 8 = .bool true := h13_8
    replace h13_9 : vs 9 = .bool true := h13_9
    replace h13_10 : vs 10 = .bool true := h13_10
    replace h13_11 : vs 11 = .int .i64 X := h13_11
    replace h13_12 : vs 12 = .int .i64 X := h13_12
    replace h13_13 : vs 13 = .bool true := h13_13
    replace h13_14 : vs 14 = .bool true := h13_14
    replace h13_15 : vs 15 = .bool true := h13_15
    replace h13_16 : vs 16 = .int .i64 0 := h13_16
    replace h13_17 : vs 17 = .int .i64 0 := h13_17
    replace h13_18 : vs 18 = .bool true := h13_18
    replace h13_19 : vs 19 = .bool true := h13_19
    replace h13_20 : vs 20 = .bool true := h13_20
    simp only [h13_0, h13_1, h13_2, h13_3, h13_4, h13_5, h13_6, h13_7, h13_8, h13_9, h13_10, h13_11, h13_12, h13_13, h13_14, h13_15, h13_16, h13_17, h13_18, h13_19, h13_20]
    clear h13_0 h13_1 h13_2 h13_3 h13_4 h13_5 h13_6 h13_7 h13_8 h13_9 h13_10 h13_11 h13_12 h13_13 h13_14 h13_15 h13_16 h13_17 h13_18 h13_19 h13_20
    obtain ⟨kp3_0, kp3_1, kp3_2, kp3_3, kp3_4, kp3_5, kp3_6, kp3_7⟩ := p3.cells8
    go_wp2
    go_ret
    exact ⟨rfl, E0⟩
  · have HN : Hid (rightS kd bb rr ee ww vv ll pp f = false ∨ ¬ (1 ≤ t ∧ t ≤ 1000000)) := Lib.hid ((Bool.eq_false_or_eq_true (rightS kd bb rr ee ww vv ll pp f)).elim (fun h => .inr fun g => hok ⟨h, g⟩) .inl)
    clear hok hbb
    obtain ⟨Q, hQ⟩ : ∃ Q, Q = rightS kd bb rr ee ww vv ll pp f := ⟨_, rfl⟩
    have HQ := Lib.hid hQ
    clear hQ
    obtain ⟨W0, hW0⟩ : ∃ W0, W0 = (w.alloc (.cells #[.int .i64 kd, .int .i64 bb, .int .i64 rr, .int .i64 ee, .int .i64 ww, .int .i64 vv, .int .i64 ll, .int .i64 pp] 23)) := ⟨_, rfl⟩
    have E0 : Ext w W0 := by rw [hW0]; exact (Ext.alloc1 w (.cells #[.int .i64 kd, .int .i64 bb, .int .i64 rr, .int .i64 ee, .int .i64 ww, .int .i64 vv, .int .i64 ll, .int .i64 pp] 23))
    have p3 : BxA W0 w.heap.size 23 #[.int .i64 kd, .int .i64 bb, .int .i64 rr, .int .i64 ee, .int .i64 ww, .int .i64 vv, .int .i64 ll, .int .i64 pp] := by rw [hW0]; exact (BxA.new w 23 #[.int .i64 kd, .int .i64 bb, .int .i64 rr, .int .i64 ee, .int .i64 ww, .int .i64 vv, .int .i64 ll, .int .i64 pp])
    go_enter Tryz.func3, Tryz.ntmps3
    obtain ⟨kp3_0, kp3_1, kp3_2, kp3_3, kp3_4, kp3_5, kp3_6, kp3_7⟩ := p3.cells8
    go_wp2_with fail
    rw [← hW0]
    clear hW0
    clear kp3_0 kp3_1 kp3_2 kp3_3 kp3_4 kp3_5 kp3_6 kp3_7
    refine (Tryz.schedRateBad kd bb rr ee ww vv ll pp t f _ HN.out).mono ?_
    rintro e V3 ⟨rfl, hE⟩
    replace E0 := (Ext.trans E0 hE)
    replace p3 := (p3.ext hE)
    clear hE
    obtain ⟨kp3_0, kp3_1, kp3_2, kp3_3, kp3_4, kp3_5, kp3_6, kp3_7⟩ := p3.cells8
    go_wp2_with fail
    clear kp3_0 kp3_1 kp3_2 kp3_3 kp3_4 kp3_5 kp3_6 kp3_7
    refine (Tryz.refRateBad kd bb rr ee ww vv ll pp t f _ HN.out).mono ?_
    rintro e V4 ⟨rfl, hE⟩
    replace E0 := (Ext.trans E0 hE)
    replace p3 := (p3.ext hE)
    clear hE
    obtain ⟨kp3_0, kp3_1, kp3_2, kp3_3, kp3_4, kp3_5, kp3_6, kp3_7⟩ := p3.cells8
    go_upto_region 3 with (fail)
    clear kp3_0 kp3_1 kp3_2 kp3_3 kp3_4 kp3_5 kp3_6 kp3_7
    have ltp3 := p3.lt
    have szw14 := Ext.size E0
    refine region_go [.one fun v _ => v = .bool true,
        .one fun v _ => v = .bool true,
        .one fun v _ => v = .agg #[.int .i64 kd, .int .i64 bb, .int .i64 rr, .int .i64 ee, .int .i64 ww, .int .i64 vv, .int .i64 ll, .int .i64 pp],
        .one fun v _ => v = .int .i64 f,
        .one fun v _ => v = .bool Q,
        .one fun v _ => v = .agg #[.int .i64 kd, .int .i64 bb, .int .i64 rr, .int .i64 ee, .int .i64 ww, .int .i64 vv, .int .i64 ll, .int .i64 pp],
        .one fun v _ => v = .int .i64 f,
        .one fun v _ => v = .bool Q,
        .one fun v _ => v = .bool true,
        .one fun v _ => v = .bool true,
        .one fun v _ => v = .bool true,
        .one fun v _ => v = .int .i64 0,
        .one fun v _ => v = .int .i64 0,
        .one fun v _ => v = .bool true,
        .one fun v _ => v = .bool true,
        .one fun v _ => v = .bool true,
        .one fun v _ => v = .int .i64 1,
        .one fun v _ => v = .int .i64 1,
        .one fun v _ => v = .bool true,
        .one fun v _ => v = .bool true,
        .one fun v _ => v = .bool true]
      (fun W => Ext w W ∧ BxA W w.heap.size 23 #[.int .i64 kd, .int .i64 bb, .int .i64 rr, .int .i64 ee, .int .i64 ww, .int .i64 vv, .int .i64 ll, .int .i64 pp] ∧ V4.heap.size ≤ W.heap.size) ⟨Good.is _, Good.is _, Good.is _, Good.is _, Good.is _, Good.is _, Good.is _, Good.is _, Good.is _, Good.is _, Good.is _, Good.is _, Good.is _, Good.is _, Good.is _, Good.is _, Good.is _, Good.is _, Good.is _, Good.is _, Good.is _, trivial⟩
      (fun W W1 hS hE => ⟨(Ext.trans hS.1 hE), (hS.2.1.ext hE), (Nat.le_trans hS.2.2 (Ext.size hE))⟩) ⟨E0, p3, Nat.le_refl _⟩ (by kernel_rfl) (by kernel_rfl) (by kernel_rfl) (by kernel_rfl) (A := ?A14) ?hA14 ?howe14 ?hfin14
    case hA14 =>
      intro vs
      simp only [putAll, Act.put, List.setIfInBounds_toArray, List.set_cons_zero, List.set_cons_succ, Nat.zero_add, Nat.reduceAdd]
      exact rfl
    case howe14 =>
      clear E0 p3
      intro hf
      refine ⟨owesE 0 [] hf rfl (by kernel_rfl) ?_, owesE 1 [0] hf rfl (by kernel_rfl) ?_, owesE 2 [1] hf rfl (by kernel_rfl) ?_, owesE 3 [1] hf rfl (by kernel_rfl) ?_, owesE 4 [1, 2, 3] hf rfl (by kernel_rfl) ?_, owesE 5 [1] hf rfl (by kernel_rfl) ?_, owesE 6 [1] hf rfl (by kernel_rfl) ?_, owesE 7 [1, 5, 6] hf rfl (by kernel_rfl) ?_, owesE 8 [1, 4, 7] hf rfl (by kernel_rfl) ?_, owesE 9 [1, 8] hf rfl (by kernel_rfl) ?_, owesE 10 [9] hf rfl (by kernel_rfl) ?_, owesE 11 [10] hf rfl (by kernel_rfl) ?_, owesE 12 [10] hf rfl (by kernel_rfl) ?_, owesE 13 [10, 11, 12] hf rfl (by kernel_rfl) ?_, owesE 14 [10, 13] hf rfl (by kernel_rfl) ?_, owesE 15 [14] hf rfl (by kernel_rfl) ?_, owesE 16 [15] hf rfl (by kernel_rfl) ?_, owesE 17 [15] hf rfl (by kernel_rfl) ?_, owesE 18 [15, 16, 17] hf rfl (by kernel_rfl) ?_, owesE 19 [15, 18] hf rfl (by kernel_rfl) ?_, owesE 20 [19] hf rfl (by kernel_rfl) ?_, trivial⟩
      all_goals intro vs W hS hp hx KO hKO
      all_goals simp only [Act.put, List.setIfInBounds_toArray, List.set_cons_zero, List.set_cons_succ] at hKO
      · go_simp
        refine (Tryz.alive15 _).mono ?_
        rintro e W1 ⟨rfl, hE⟩
        exact hKO _ W1 hE rfl
      · have e0 := isOf hp.1
        simp only [e0] at hKO
        go_simp
        exact hKO _ W (Ext.refl W) rfl
      · have e1 := isOf hp.1
        simp only [e1] at hKO
        have fc0 := BxA.cell (hS.2.1) 0 (v := .int .i64 kd) rfl
        have fc1 := BxA.cell (hS.2.1) 1 (v := .int .i64 bb) rfl
        have fc2 := BxA.cell (hS.2.1) 2 (v := .int .i64 rr) rfl
        have fc3 := BxA.cell (hS.2.1) 3 (v := .int .i64 ee) rfl
        have fc4 := BxA.cell (hS.2.1) 4 (v := .int .i64 ww) rfl
        have fc5 := BxA.cell (hS.2.1) 5 (v := .int .i64 vv) rfl
        have fc6 := BxA.cell (hS.2.1) 6 (v := .int .i64 ll) rfl
        have fc7 := BxA.cell (hS.2.1) 7 (v := .int .i64 pp) rfl
        go_simp
        exact hKO _ W (Ext.refl W) rfl
      · have e1 := isOf hp.1
        simp only [e1] at hKO
        go_simp
        exact hKO _ W (Ext.refl W) rfl
      · have e1 := isOf hp.1
        have e2 := isOf hp.2.1
        have e3 := isOf hp.2.2.1
        simp only [e1, e2, e3] at hKO
        go_simp
        refine (Tryz.schedRight kd bb rr ee ww vv ll pp f _).mono ?_
        rintro e W1 ⟨rfl, hE⟩
        rw [← HQ.out]
        exact hKO _ W1 hE rfl
      · have e1 := isOf hp.1
        simp only [e1] at hKO
        have fc0 := BxA.cell (hS.2.1) 0 (v := .int .i64 kd) rfl
        have fc1 := BxA.cell (hS.2.1) 1 (v := .int .i64 bb) rfl
        have fc2 := BxA.cell (hS.2.1) 2 (v := .int .i64 rr) rfl
        have fc3 := BxA.cell (hS.2.1) 3 (v := .int .i64 ee) rfl
        have fc4 := BxA.cell (hS.2.1) 4 (v := .int .i64 ww) rfl
        have fc5 := BxA.cell (hS.2.1) 5 (v := .int .i64 vv) rfl
        have fc6 := BxA.cell (hS.2.1) 6 (v := .int .i64 ll) rfl
        have fc7 := BxA.cell (hS.2.1) 7 (v := .int .i64 pp) rfl
        go_simp
        exact hKO _ W (Ext.refl W) rfl
      · have e1 := isOf hp.1
        simp only [e1] at hKO
        go_simp
        exact hKO _ W (Ext.refl W) rfl
      · have e1 := isOf hp.1
        have e5 := isOf hp.2.1
        have e6 := isOf hp.2.2.1
        simp only [e1, e5, e6] at hKO
        go_simp
        refine (Tryz.refRight15 kd bb rr ee ww vv ll pp f _).mono ?_
        rintro e W1 ⟨rfl, hE⟩
        rw [← HQ.out]
        exact hKO _ W1 hE rfl
      · have e1 := isOf hp.1
        have e4 := isOf hp.2.1
        have e7 := isOf hp.2.2.1
        simp only [e1, e4, e7] at hKO
        go_simp
        exact hKO _ W (Ext.refl W) rfl
      · have e1 := isOf hp.1
        have e8 := isOf hp.2.1
        simp only [e1, e8] at hKO
        go_simp
        exact hKO _ W (Ext.refl W) rfl
      · have e9 := isOf hp.1
        simp only [e9] at hKO
        go_simp
        exact hKO _ W (Ext.refl W) rfl
      · have e10 := isOf hp.1
        simp only [e10] at hKO
        go_simp
        exact hKO _ W (Ext.refl W) rfl
      · have e10 := isOf hp.1
        simp only [e10] at hKO
        go_simp
        exact hKO _ W (Ext.refl W) rfl
      · have e10 := isOf hp.1
        have e11 := isOf hp.2.1
        have e12 := isOf hp.2.2.1
        simp only [e10, e11, e12] at hKO
        go_simp
        exact hKO _ W (Ext.refl W) rfl
      · have e10 := isOf hp.1
        have e13 := isOf hp.2.1
        simp only [e10, e13] at hKO
        go_simp
        exact hKO _ W (Ext.refl W) rfl
      · have e14 := isOf hp.1
        simp only [e14] at hKO
        go_simp
        exact hKO _ W (Ext.refl W) rfl
      · have e15 := isOf hp.1
        simp only [e15] at hKO
        go_simp
        exact hKO _ W (Ext.refl W) rfl
      · have e15 := isOf hp.1
        simp only [e15] at hKO
        go_simp
        exact hKO _ W (Ext.refl W) rfl
      · have e15 := isOf hp.1
        have e16 := isOf hp.2.1
        have e17 := isOf hp.2.2.1
        simp only [e15, e16, e17] at hKO
        go_simp
        exact hKO _ W (Ext.refl W) rfl
      · have e15 := isOf hp.1
        have e18 := isOf hp.2.1
        simp only [e15, e18] at hKO
        go_simp
        exact hKO _ W (Ext.refl W) rfl
      · have e19 := isOf hp.1
        simp only [e19] at hKO
        go_simp
        exact hKO _ W (Ext.refl W) rfl
    intro vs W14 hS hp
    clear szw14 E0 p3
    obtain ⟨E0, p3, sz14⟩ := hS
    obtain ⟨h14_0, h14_1, h14_2, h14_3, h14_4, h14_5, h14_6, h14_7, h14_8, h14_9, h14_10, h14_11, h14_12, h14_13, h14_14, h14_15, h14_16, h14_17, h14_18, h14_19, h14_20, -⟩ := hp
    replace h14_0 : vs 0 = .bool true := h14_0
    replace h14_1 : vs 1 = .bool true := h14_1
    replace h14_2 : vs 2 = .agg #[.int .i64 kd, .int .i64 bb, .int .i64 rr, .int .i64 ee, .int .i64 ww, .int .i64 vv, .int .i64 ll, .int .i64 pp] := h14_2
    replace h14_3 : vs 3 = .int .i64 f := h14_3
    replace h14_4 : vs 4 = .bool Q := h14_4
    replace h14_5 : vs 5 = .agg #[.int .i64 kd, .int .i64 bb, .int .i64 rr, .int .i64 ee, .int .i64 ww, .int .i64 vv, .int .i64 ll, .int .i64 pp] := h14_5
    replace h14_6 : vs 6 = .int .i64 f := h14_6
    replace h14_7 : vs 7 = .bool Q := h14_7
    replace h14_8 : vs 8 = .bool true := h14_8
    replace h14_9 : vs 9 = .bool true := h14_9
    replace h14_10 : vs 10 = .bool true := h14_10
    replace h14_11 : vs 11 = .int .i64 0 := h14_11
    replace h14_12 : vs 12 = .int .i64 0 := h14_12
    replace h14_13 : vs 13 = .bool true := h14_13
    replace h14_14 : vs 14 = .bool true := h14_14
    replace h14_15 : vs 15 = .bool true := h14_15
    replace h14_16 : vs 16 = .int .i64 1 := h14_16
    replace h14_17 : vs 17 = .int .i64 1 := h14_17
    replace h14_18 : vs 18 = .bool true := h14_18
    replace h14_19 : vs 19 = .bool true := h14_19
    replace h14_20 : vs 20 = .bool true := h14_20
    simp only [h14_0, h14_1, h14_2, h14_3, h14_4, h14_5, h14_6, h14_7, h14_8, h14_9, h14_10, h14_11, h14_12, h14_13, h14_14, h14_15, h14_16, h14_17, h14_18, h14_19, h14_20]
    clear h14_0 h14_1 h14_2 h14_3 h14_4 h14_5 h14_6 h14_7 h14_8 h14_9 h14_10 h14_11 h14_12 h14_13 h14_14 h14_15 h14_16 h14_17 h14_18 h14_19 h14_20
    obtain ⟨kp3_0, kp3_1, kp3_2, kp3_3, kp3_4, kp3_5, kp3_6, kp3_7⟩ := p3.cells8
    go_wp2
    go_ret
    exact ⟨rfl, E0⟩


end Go.Rt
