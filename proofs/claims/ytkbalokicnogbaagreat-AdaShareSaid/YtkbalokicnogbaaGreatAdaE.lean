/-
  Adafactor: a step of one number, a step that is refused; the live question.
-/
import Derived.Test.YtkbalokicnogbaaGreatAdaD
namespace Go.Rt
open Go Go.RowKit Go.Proofs

theorem adaN0 : negB [] = false := rfl

theorem adaN9 : negB [9] = false := by decide

theorem Tryz.adaShare18 (w : World) : Calls Tryz.prog 16 #[.int .i64 1, .int .i64 8] w fun e w' => e = .returned (.tuple #[.int .i64 256, .int .i64 0]) ∧ Ext w w' := by
  have h := Tryz.adaShare 1 8 w (by omega) (by omega) (by omega)
  rw [show shareN 1 8 = 256 from share_one 8] at h
  exact h

theorem Tryz.adaShare324 (w : World) : Calls Tryz.prog 16 #[.int .i64 32, .int .i64 4] w fun e w' => e = .returned (.tuple #[.int .i64 1, .int .i64 0]) ∧ Ext w w' := by
  have h := Tryz.adaShare 32 4 w (by omega) (by omega) (by omega)
  rw [show shareN 32 4 = 1 from rt_eq (by decide) ⟨by decide, by decide⟩] at h
  exact h

set_option maxRecDepth 100000 in
set_option maxHeartbeats 4000000 in
theorem Tryz.adaBelow (p : Int) (w : World) : Calls Tryz.prog 56 #[.int .i64 p] w fun e w' => e = .returned (.bool (decide (p < 0))) ∧ Ext w w' := by
 go_enter Tryz.func56, Tryz.ntmps56
 go_wp2
 all_goals go_ret
 all_goals exact ⟨rfl, Ext.refl _⟩

set_option maxRecDepth 100000 in
set_option maxHeartbeats 4000000 in
theorem Tryz.adaNegAt {lo hi : Nat} {a : Option Addr} {n c : Nat} {l : List Int} {w : World} (h : Iw lo hi w a n c l) :
  Calls Tryz.prog 67 #[.slice a n c, .func (.func 56) #[] #[]] w fun e w' => ∃ r : Int, e = .returned (.int .i64 r) ∧ decide (0 ≤ r) = negB l ∧ Ext w w' := by
 have hcap := h.cap
 have hlen := h.len
 have hn : n ≤ 9223372036854775807 := by omega
 have HL := Lib.hid hlen
 clear hcap hlen
 go_enter Tryz.func67, Tryz.ntmps67
 go_wp2_with fail
 go_loopw [8] (fun i wr => ∃ k : Nat, i = .int .i64 (k : Int) ∧ k ≤ n ∧ Hid (∀ j, j < k → ¬ atL l j < 0) ∧ Ext w wr) (fun i _ => n - (intOf i).toNat)
 case atStart => exact ⟨0, rfl, by omega, Lib.hid (fun j hj => absurd hj (by omega)), Ext.refl w⟩
 case round =>
  obtain ⟨k, rfl, hk, HA, hX⟩ := hrel
  by_cases hlt : k < n
  ·have hltI : (k : Int) < (n : Int) := by omega
   have h2 := h.ext hX
   obtain ⟨b, o, rfl, -, -⟩ := h2.some (by omega)
   have hc := h2.cell hlt
   have hk63 : (k : Int) < 9223372036854775807 := by omega
   clear h h2
   by_cases hneg : atL l k < 0
   ·have HX : Hid (decide (atL l k < 0) = true) := Lib.hid (decide_eq_true hneg)
    have HR : Hid (decide (0 ≤ (k : Int)) = negB l) := Lib.hid (by rw [negB_true (by rw [HL.out]; exact hlt) hneg]; exact decide_eq_true (by omega))
    clear hneg
    go_wp2_with fail
    refine (Tryz.adaBelow _ _).mono ?_
    rintro e W ⟨rfl, hE⟩
    rw [HX.out]; go_wp2; go_ret
    exact ⟨_, rfl, HR.out, hX.trans hE⟩
   ·have HX : Hid (decide (atL l k < 0) = false) := Lib.hid (decide_eq_false hneg)
    have HN := Lib.hid hneg
    clear hneg
    go_wp2_with fail
    refine (Tryz.adaBelow _ _).mono ?_
    rintro e W ⟨rfl, hE⟩
    rw [HX.out]; go_wp2
    go_roundw
    case rel => exact ⟨k + 1, by go_num, by omega, Lib.hid (grow_all (p := fun j => ¬ atL l j < 0) (fun j hj => by have := HA.out j hj; omega) (by have := HN.out; omega)), hX.trans hE⟩
    case measure => simp [intOf]; omega
  ·have hge : ¬ (k : Int) < (n : Int) := by omega
   have HR : Hid (decide (0 ≤ (-1 : Int)) = negB l) := Lib.hid (by rw [negB_false (fun i hi => HA.out i (by have := HL.out; omega))]; rfl)
   clear h; go_wp2; go_ret
   exact ⟨_, rfl, HR.out, hX⟩

set_option maxRecDepth 100000 in
set_option maxHeartbeats 4000000 in
theorem Tryz.adaNeg {lo hi : Nat} {a : Option Addr} {n c : Nat} {l : List Int} {w : World} (h : Iw lo hi w a n c l) :
  Calls Tryz.prog 32 #[.slice a n c, .func (.func 56) #[] #[]] w fun e w' => e = .returned (.bool (negB l)) ∧ Ext w w' := by
 go_enter Tryz.func32, Tryz.ntmps32
 go_wp2_with fail
 refine (Tryz.adaNegAt h).mono ?_
 rintro e W ⟨r, rfl, hr, hE⟩
 have HR := Lib.hid hr
 clear hr h; go_wp2
 all_goals go_ret
 all_goals exact ⟨by rw [← HR.out]; simp_all, hE⟩

set_option maxRecDepth 100000 in
set_option maxHeartbeats 8000000 in
theorem Tryz.adaStepOne {lo hi bw ow cw bv ov cv bg og cg : Nat} {w : World} (hhi : hi ≤ w.heap.size) (hw : Iw lo hi w (some ⟨bw, ow, none⟩) 1 cw [256]) (hv : Iw lo hi w (some ⟨bv, ov, none⟩) 1 cv [9]) (hg : Iw lo hi w (some ⟨bg, og, none⟩) 1 cg [512]) :
    Calls Tryz.prog 24 #[.agg #[.int .i64 16, .int .i64 1, .int .i64 256], .int .i64 8, .agg #[.int .i64 1, .int .i64 1], .agg #[.slice (some ⟨bw, ow, none⟩) 1 cw, .slice none 0 0, .slice (some ⟨bv, ov, none⟩) 1 cv, .slice (some ⟨bg, og, none⟩) 1 cg]] w fun e w' => ∃ v1 v2, e = .returned (.tuple #[.agg #[v1, .slice none 0 0, v2, .slice none 0 0], .int .i64 0]) ∧ RowY w.heap.size w' v1 240 ∧ RowY w.heap.size w' v2 1025 ∧ Ext w w' := by
  have HHI := Lib.hid hhi
  have hww := hw
  have hvv := hv
  have hgg := hg
  clear hv hg hw hhi
  obtain ⟨W0, hW0⟩ : ∃ W0, W0 = ((((w.alloc (.cells #[.int .i64 16, .int .i64 1, .int .i64 256] 52)).alloc (.cells #[.int .i64 1, .int .i64 1] 53)).alloc (.cells #[.slice (some ⟨bw, ow, none⟩) 1 cw, .slice none 0 0, .slice (some ⟨bv, ov, none⟩) 1 cv, .slice (some ⟨bg, og, none⟩) 1 cg] 27)).alloc (.cells #[.slice none 0 0, .slice none 0 0, .slice none 0 0, .slice none 0 0] 27)) := ⟨_, rfl⟩
  have E0 : Ext w W0 := by rw [hW0]; exact ((((Ext.alloc1 w (.cells #[.int .i64 16, .int .i64 1, .int .i64 256] 52)).alloc (.cells #[.int .i64 1, .int .i64 1] 53)).alloc (.cells #[.slice (some ⟨bw, ow, none⟩) 1 cw, .slice none 0 0, .slice (some ⟨bv, ov, none⟩) 1 cv, .slice (some ⟨bg, og, none⟩) 1 cg] 27)).alloc (.cells #[.slice none 0 0, .slice none 0 0, .slice none 0 0, .slice none 0 0] 27))
  replace hww : Iw lo hi W0 (some ⟨bw, ow, none⟩) 1 cw [256] := hww.ext E0
  replace hvv : Iw lo hi W0 (some ⟨bv, ov, none⟩) 1 cv [9] := hvv.ext E0
  replace hgg : Iw lo hi W0 (some ⟨bg, og, none⟩) 1 cg [512] := hgg.ext E0
  have p4 : Bx3 W0 w.heap.size 52 (.int .i64 16) (.int .i64 1) (.int .i64 256) := by rw [hW0]; exact (Bx3.new w 52 (.int .i64 16) (.int .i64 1) (.int .i64 256)).ext (((Ext.alloc1 (w.alloc (.cells #[.int .i64 16, .int .i64 1, .int .i64 256] 52)) (.cells #[.int .i64 1, .int .i64 1] 53)).alloc (.cells #[.slice (some ⟨bw, ow, none⟩) 1 cw, .slice none 0 0, .slice (some ⟨bv, ov, none⟩) 1 cv, .slice (some ⟨bg, og, none⟩) 1 cg] 27)).alloc (.cells #[.slice none 0 0, .slice none 0 0, .slice none 0 0, .slice none 0 0] 27))
  have p6 : Bx2 W0 (w.heap.size + 1) 53 (.int .i64 1) (.int .i64 1) := by rw [hW0]; simpa using (Bx2.new (w.alloc (.cells #[.int .i64 16, .int .i64 1, .int .i64 256] 52)) 53 (.int .i64 1) (.int .i64 1)).ext ((Ext.alloc1 ((w.alloc (.cells #[.int .i64 16, .int .i64 1, .int .i64 256] 52)).alloc (.cells #[.int .i64 1, .int .i64 1] 53)) (.cells #[.slice (some ⟨bw, ow, none⟩) 1 cw, .slice none 0 0, .slice (some ⟨bv, ov, none⟩) 1 cv, .slice (some ⟨bg, og, none⟩) 1 cg] 27)).alloc (.cells #[.slice none 0 0, .slice none 0 0, .slice none 0 0, .slice none 0 0] 27))
  have p7 : BxA W0 (w.heap.size + 1 + 1) 27 #[.slice (some ⟨bw, ow, none⟩) 1 cw, .slice none 0 0, .slice (some ⟨bv, ov, none⟩) 1 cv, .slice (some ⟨bg, og, none⟩) 1 cg] := by rw [hW0]; simpa using (BxA.new ((w.alloc (.cells #[.int .i64 16, .int .i64 1, .int .i64 256] 52)).alloc (.cells #[.int .i64 1, .int .i64 1] 53)) 27 #[.slice (some ⟨bw, ow, none⟩) 1 cw, .slice none 0 0, .slice (some ⟨bv, ov, none⟩) 1 cv, .slice (some ⟨bg, og, none⟩) 1 cg]).ext (Ext.alloc1 (((w.alloc (.cells #[.int .i64 16, .int .i64 1, .int .i64 256] 52)).alloc (.cells #[.int .i64 1, .int .i64 1] 53)).alloc (.cells #[.slice (some ⟨bw, ow, none⟩) 1 cw, .slice none 0 0, .slice (some ⟨bv, ov, none⟩) 1 cv, .slice (some ⟨bg, og, none⟩) 1 cg] 27)) (.cells #[.slice none 0 0, .slice none 0 0, .slice none 0 0, .slice none 0 0] 27))
  have p8 : BxA W0 (w.heap.size + 1 + 1 + 1) 27 #[.slice none 0 0, .slice none 0 0, .slice none 0 0, .slice none 0 0] := by rw [hW0]; simpa using (BxA.new (((w.alloc (.cells #[.int .i64 16, .int .i64 1, .int .i64 256] 52)).alloc (.cells #[.int .i64 1, .int .i64 1] 53)).alloc (.cells #[.slice (some ⟨bw, ow, none⟩) 1 cw, .slice none 0 0, .slice (some ⟨bv, ov, none⟩) 1 cv, .slice (some ⟨bg, og, none⟩) 1 cg] 27)) 27 #[.slice none 0 0, .slice none 0 0, .slice none 0 0, .slice none 0 0])
  have lt8 : w.heap.size + 1 + 1 + 1 < W0.heap.size := BxA.lt p8
  go_enter Tryz.func24, Tryz.ntmps24
  have kp4_0 := p4.cell0
  have kp4_1 := p4.cell1
  have kp4_2 := p4.cell2
  have kp6_0 := p6.cell0
  have kp6_1 := p6.cell1
  obtain ⟨kp7_0, kp7_1, kp7_2, kp7_3⟩ := p7.c4
  obtain ⟨kp8_0, kp8_1, kp8_2, kp8_3⟩ := p8.c4
  go_wp2_with fail
  rw [← hW0]
  clear hW0
  clear kp4_0 kp4_1 kp4_2 kp6_0 kp6_1 kp7_0 kp7_1 kp7_2 kp7_3 kp8_0 kp8_1 kp8_2 kp8_3
  refine (Tryz.adaShare18 _).mono ?_
  rintro e V1 ⟨rfl, hE⟩
  replace E0 := (Ext.trans E0 hE)
  replace hww := (hww.ext hE)
  replace hvv := (hvv.ext hE)
  replace hgg := (hgg.ext hE)
  replace p4 := (p4.ext hE)
  replace p6 := (p6.ext hE)
  replace p7 := (p7.ext hE)
  replace p8 := (p8.ext hE)
  clear hE
  have kp4_0 := p4.cell0
  have kp4_1 := p4.cell1
  have kp4_2 := p4.cell2
  have kp6_0 := p6.cell0
  have kp6_1 := p6.cell1
  obtain ⟨kp7_0, kp7_1, kp7_2, kp7_3⟩ := p7.c4
  obtain ⟨kp8_0, kp8_1, kp8_2, kp8_3⟩ := p8.c4
  go_wp2_with fail
  clear kp4_0 kp4_1 kp4_2 kp6_0 kp6_1 kp7_0 kp7_1 kp7_2 kp7_3 kp8_0 kp8_1 kp8_2 kp8_3
  refine (Tryz.adaRight8 _).mono ?_
  rintro e V2 ⟨rfl, hE⟩
  replace E0 := (Ext.trans E0 hE)
  replace hww := (hww.ext hE)
  replace hvv := (hvv.ext hE)
  replace hgg := (hgg.ext hE)
  replace p4 := (p4.ext hE)
  replace p6 := (p6.ext hE)
  replace p7 := (p7.ext hE)
  replace p8 := (p8.ext hE)
  clear hE
  have kp4_0 := p4.cell0
  have kp4_1 := p4.cell1
  have kp4_2 := p4.cell2
  have kp6_0 := p6.cell0
  have kp6_1 := p6.cell1
  obtain ⟨kp7_0, kp7_1, kp7_2, kp7_3⟩ := p7.c4
  obtain ⟨kp8_0, kp8_1, kp8_2, kp8_3⟩ := p8.c4
  go_wp2_with fail
  clear kp4_0 kp4_1 kp4_2 kp6_0 kp6_1 kp7_0 kp7_1 kp7_2 kp7_3 kp8_0 kp8_1 kp8_2 kp8_3
  refine (Tryz.adaNeg (Iw.nil 0 0 _)).mono ?_
  rintro e V3 ⟨rfl, hE⟩
  rw [adaN0]
  replace E0 := (Ext.trans E0 hE)
  replace hww := (hww.ext hE)
  replace hvv := (hvv.ext hE)
  replace hgg := (hgg.ext hE)
  replace p4 := (p4.ext hE)
  replace p6 := (p6.ext hE)
  replace p7 := (p7.ext hE)
  replace p8 := (p8.ext hE)
  clear hE
  have kp4_0 := p4.cell0
  have kp4_1 := p4.cell1
  have kp4_2 := p4.cell2
  have kp6_0 := p6.cell0
  have kp6_1 := p6.cell1
  obtain ⟨kp7_0, kp7_1, kp7_2, kp7_3⟩ := p7.c4
  obtain ⟨kp8_0, kp8_1, kp8_2, kp8_3⟩ := p8.c4
  go_wp2_with fail
  clear kp4_0 kp4_1 kp4_2 kp6_0 kp6_1 kp7_0 kp7_1 kp7_2 kp7_3 kp8_0 kp8_1 kp8_2 kp8_3
  refine (Tryz.adaNeg hvv).mono ?_
  rintro e V4 ⟨rfl, hE⟩
  rw [adaN9]
  replace E0 := (Ext.trans E0 hE)
  replace hww := (hww.ext hE)
  replace hvv := (hvv.ext hE)
  replace hgg := (hgg.ext hE)
  replace p4 := (p4.ext hE)
  replace p6 := (p6.ext hE)
  replace p7 := (p7.ext hE)
  replace p8 := (p8.ext hE)
  clear hE
  have kp4_0 := p4.cell0
  have kp4_1 := p4.cell1
  have kp4_2 := p4.cell2
  have kp6_0 := p6.cell0
  have kp6_1 := p6.cell1
  obtain ⟨kp7_0, kp7_1, kp7_2, kp7_3⟩ := p7.c4
  obtain ⟨kp8_0, kp8_1, kp8_2, kp8_3⟩ := p8.c4
  go_upto_region 6 with (fail)
  clear kp4_0 kp4_1 kp4_2 kp6_0 kp6_1 kp7_0 kp7_1 kp7_2 kp7_3 kp8_0 kp8_1 kp8_2 kp8_3
  have p13 := BxA.new V4 94 #[.int .i64 16, .int .i64 1, .int .i64 256, .int .i64 8, .int .i64 1, .int .i64 256]
  have hE := Ext.alloc1 V4 (.cells #[.int .i64 16, .int .i64 1, .int .i64 256, .int .i64 8, .int .i64 1, .int .i64 256] 94)
  obtain ⟨N13, hN13⟩ : ∃ V, V = V4.alloc (.cells #[.int .i64 16, .int .i64 1, .int .i64 256, .int .i64 8, .int .i64 1, .int .i64 256] 94) := ⟨_, rfl⟩
  rw [← hN13] at p13 hE ⊢
  clear hN13
  obtain ⟨g13, hg13⟩ : ∃ g, g = V4.heap.size := ⟨_, rfl⟩
  rw [← hg13] at p13 ⊢
  clear hg13
  replace E0 : Ext w N13 := (Ext.trans E0 hE)
  replace hww : Iw lo hi N13 (some ⟨bw, ow, none⟩) 1 cw [256] := (hww.ext hE)
  replace hvv : Iw lo hi N13 (some ⟨bv, ov, none⟩) 1 cv [9] := (hvv.ext hE)
  replace hgg : Iw lo hi N13 (some ⟨bg, og, none⟩) 1 cg [512] := (hgg.ext hE)
  replace p4 : Bx3 N13 w.heap.size 52 (.int .i64 16) (.int .i64 1) (.int .i64 256) := (p4.ext hE)
  replace p6 : Bx2 N13 (w.heap.size + 1) 53 (.int .i64 1) (.int .i64 1) := (p6.ext hE)
  replace p7 : BxA N13 (w.heap.size + 1 + 1) 27 #[.slice (some ⟨bw, ow, none⟩) 1 cw, .slice none 0 0, .slice (some ⟨bv, ov, none⟩) 1 cv, .slice (some ⟨bg, og, none⟩) 1 cg] := (p7.ext hE)
  replace p8 : BxA N13 (w.heap.size + 1 + 1 + 1) 27 #[.slice none 0 0, .slice none 0 0, .slice none 0 0, .slice none 0 0] := (p8.ext hE)
  clear hE
  have kp4_0 := p4.cell0
  have kp4_1 := p4.cell1
  have kp4_2 := p4.cell2
  have kp6_0 := p6.cell0
  have kp6_1 := p6.cell1
  obtain ⟨kp7_0, kp7_1, kp7_2, kp7_3⟩ := p7.c4
  obtain ⟨kp8_0, kp8_1, kp8_2, kp8_3⟩ := p8.c4
  obtain ⟨kp13_0, kp13_1, kp13_2, kp13_3, kp13_4, kp13_5⟩ := p13.c6
  go_wp2_with fail
  clear kp4_0 kp4_1 kp4_2 kp6_0 kp6_1 kp7_0 kp7_1 kp7_2 kp7_3 kp8_0 kp8_1 kp8_2 kp8_3 kp13_0 kp13_1 kp13_2 kp13_3 kp13_4 kp13_5
  refine (Tryz.adaWhole 16 1 256 256 1 8 _).mono ?_
  rintro e V5 ⟨rfl, hE⟩
  replace E0 := (Ext.trans E0 hE)
  replace hww := (hww.ext hE)
  replace hvv := (hvv.ext hE)
  replace hgg := (hgg.ext hE)
  replace p4 := (p4.ext hE)
  replace p6 := (p6.ext hE)
  replace p7 := (p7.ext hE)
  replace p8 := (p8.ext hE)
  replace p13 := (p13.ext hE)
  clear hE
  have szB := Ext.size E0
  have lt8 : w.heap.size + 1 + 1 + 1 < V5.heap.size := BxA.lt p8
  have hh2 := Nat.le_trans HHI.out szB
  have kp4_0 := p4.cell0
  have kp4_1 := p4.cell1
  have kp4_2 := p4.cell2
  have kp6_0 := p6.cell0
  have kp6_1 := p6.cell1
  obtain ⟨kp7_0, kp7_1, kp7_2, kp7_3⟩ := p7.c4
  obtain ⟨kp8_0, kp8_1, kp8_2, kp8_3⟩ := p8.c4
  obtain ⟨kp13_0, kp13_1, kp13_2, kp13_3, kp13_4, kp13_5⟩ := p13.c6
  go_wp2_with fail
  clear kp4_0 kp4_1 kp4_2 kp6_0 kp6_1 kp7_0 kp7_1 kp7_2 kp7_3 kp8_0 kp8_1 kp8_2 kp8_3 kp13_0 kp13_1 kp13_2 kp13_3 kp13_4 kp13_5
  refine (Tryz.adaStep1 hh2 hww hvv hgg).mono ?_
  rintro e V6 ⟨v1, v2, rfl, y1, y2, hE⟩
  replace E0 := (Ext.trans E0 hE)
  replace hww := (hww.ext hE)
  replace hvv := (hvv.ext hE)
  replace hgg := (hgg.ext hE)
  replace p4 := (p4.ext hE)
  replace p6 := (p6.ext hE)
  replace p7 := (p7.ext hE)
  replace p8 := (p8.ext hE)
  replace p13 := (p13.ext hE)
  clear hE
  obtain ⟨g1, c1, rfl, q1⟩ := y1
  obtain ⟨g2, c2, rfl, q2⟩ := y2
  have y1 : RowY V5.heap.size V6 (.slice (some ⟨g1, 0, none⟩) 1 c1) 240 := ⟨g1, c1, rfl, q1⟩
  have y2 : RowY V5.heap.size V6 (.slice (some ⟨g2, 0, none⟩) 1 c2) 1025 := ⟨g2, c2, rfl, q2⟩
  clear q1 q2 hww hvv hgg
  have z80 := p8.frozN 0
  have z81 := p8.frozN 1
  have z82 := p8.frozN 2
  have z83 := p8.frozN 3
  skip
  have kp4_0 := p4.cell0
  have kp4_1 := p4.cell1
  have kp4_2 := p4.cell2
  have kp6_0 := p6.cell0
  have kp6_1 := p6.cell1
  obtain ⟨kp7_0, kp7_1, kp7_2, kp7_3⟩ := p7.c4
  obtain ⟨kp8_0, kp8_1, kp8_2, kp8_3⟩ := p8.c4
  obtain ⟨kp13_0, kp13_1, kp13_2, kp13_3, kp13_4, kp13_5⟩ := p13.c6
  go_wp2
  clear kp4_0 kp4_1 kp4_2 kp6_0 kp6_1 kp7_0 kp7_1 kp7_2 kp7_3 kp8_0 kp8_1 kp8_2 kp8_3 kp13_0 kp13_1 kp13_2 kp13_3 kp13_4 kp13_5
  obtain ⟨V8, hV8, hw8, hq⟩ := (Form4.of p8).put (some ⟨g1, 0, none⟩) 1 c1 none 0 0 (some ⟨g2, 0, none⟩) 1 c2 none 0 0
  rw [← hV8]
  clear hV8
  have k80 := hq.cell 0 (v := .slice (some ⟨g1, 0, none⟩) 1 c1) rfl
  have k81 := hq.cell 1 (v := .slice none 0 0) rfl
  have k82 := hq.cell 2 (v := .slice (some ⟨g2, 0, none⟩) 1 c2) rfl
  have k83 := hq.cell 3 (v := .slice none 0 0) rfl
  exact bodyPost_ret (v := .tuple #[.agg #[.slice (some ⟨g1, 0, none⟩) 1 c1, .slice none 0 0, .slice (some ⟨g2, 0, none⟩) 1 c2, .slice none 0 0], .int .i64 0]) (by simp [results, Tryz.results24, go_sem, k80, k81, k82, k83]) rfl ⟨_, _, rfl, (y1.wr hw8 (by omega)).mono (by omega), (y2.wr hw8 (by omega)).mono (by omega), Ext.wr E0 hw8 (by omega)⟩

set_option maxRecDepth 100000 in
set_option maxHeartbeats 8000000 in
theorem Tryz.adaStepBad (w : World) :
    Calls Tryz.prog 24 #[.agg #[.int .i64 16, .int .i64 1, .int .i64 256], .int .i64 8, .agg #[.int .i64 0, .int .i64 1], .agg #[.slice none 0 0, .slice none 0 0, .slice none 0 0, .slice none 0 0]] w fun e w' => e = .returned (.tuple #[.agg #[.slice none 0 0, .slice none 0 0, .slice none 0 0, .slice none 0 0], .int .i64 1]) ∧ Ext w w' := by
  obtain ⟨W0, hW0⟩ : ∃ W0, W0 = ((((w.alloc (.cells #[.int .i64 16, .int .i64 1, .int .i64 256] 52)).alloc (.cells #[.int .i64 0, .int .i64 1] 53)).alloc (.cells #[.slice none 0 0, .slice none 0 0, .slice none 0 0, .slice none 0 0] 27)).alloc (.cells #[.slice none 0 0, .slice none 0 0, .slice none 0 0, .slice none 0 0] 27)) := ⟨_, rfl⟩
  have E0 : Ext w W0 := by rw [hW0]; exact ((((Ext.alloc1 w (.cells #[.int .i64 16, .int .i64 1, .int .i64 256] 52)).alloc (.cells #[.int .i64 0, .int .i64 1] 53)).alloc (.cells #[.slice none 0 0, .slice none 0 0, .slice none 0 0, .slice none 0 0] 27)).alloc (.cells #[.slice none 0 0, .slice none 0 0, .slice none 0 0, .slice none 0 0] 27))
  have p4 : Bx3 W0 w.heap.size 52 (.int .i64 16) (.int .i64 1) (.int .i64 256) := by rw [hW0]; exact (Bx3.new w 52 (.int .i64 16) (.int .i64 1) (.int .i64 256)).ext (((Ext.alloc1 (w.alloc (.cells #[.int .i64 16, .int .i64 1, .int .i64 256] 52)) (.cells #[.int .i64 0, .int .i64 1] 53)).alloc (.cells #[.slice none 0 0, .slice none 0 0, .slice none 0 0, .slice none 0 0] 27)).alloc (.cells #[.slice none 0 0, .slice none 0 0, .slice none 0 0, .slice none 0 0] 27))
  have p6 : Bx2 W0 (w.heap.size + 1) 53 (.int .i64 0) (.int .i64 1) := by rw [hW0]; simpa using (Bx2.new (w.alloc (.cells #[.int .i64 16, .int .i64 1, .int .i64 256] 52)) 53 (.int .i64 0) (.int .i64 1)).ext ((Ext.alloc1 ((w.alloc (.cells #[.int .i64 16, .int .i64 1, .int .i64 256] 52)).alloc (.cells #[.int .i64 0, .int .i64 1] 53)) (.cells #[.slice none 0 0, .slice none 0 0, .slice none 0 0, .slice none 0 0] 27)).alloc (.cells #[.slice none 0 0, .slice none 0 0, .slice none 0 0, .slice none 0 0] 27))
  have p7 : BxA W0 (w.heap.size + 1 + 1) 27 #[.slice none 0 0, .slice none 0 0, .slice none 0 0, .slice none 0 0] := by rw [hW0]; simpa using (BxA.new ((w.alloc (.cells #[.int .i64 16, .int .i64 1, .int .i64 256] 52)).alloc (.cells #[.int .i64 0, .int .i64 1] 53)) 27 #[.slice none 0 0, .slice none 0 0, .slice none 0 0, .slice none 0 0]).ext (Ext.alloc1 (((w.alloc (.cells #[.int .i64 16, .int .i64 1, .int .i64 256] 52)).alloc (.cells #[.int .i64 0, .int .i64 1] 53)).alloc (.cells #[.slice none 0 0, .slice none 0 0, .slice none 0 0, .slice none 0 0] 27)) (.cells #[.slice none 0 0, .slice none 0 0, .slice none 0 0, .slice none 0 0] 27))
  have p8 : BxA W0 (w.heap.size + 1 + 1 + 1) 27 #[.slice none 0 0, .slice none 0 0, .slice none 0 0, .slice none 0 0] := by rw [hW0]; simpa using (BxA.new (((w.alloc (.cells #[.int .i64 16, .int .i64 1, .int .i64 256] 52)).alloc (.cells #[.int .i64 0, .int .i64 1] 53)).alloc (.cells #[.slice none 0 0, .slice none 0 0, .slice none 0 0, .slice none 0 0] 27)) 27 #[.slice none 0 0, .slice none 0 0, .slice none 0 0, .slice none 0 0])
  go_enter Tryz.func24, Tryz.ntmps24
  have kp4_0 := p4.cell0
  have kp4_1 := p4.cell1
  have kp4_2 := p4.cell2
  have kp6_0 := p6.cell0
  have kp6_1 := p6.cell1
  obtain ⟨kp7_0, kp7_1, kp7_2, kp7_3⟩ := p7.c4
  obtain ⟨kp8_0, kp8_1, kp8_2, kp8_3⟩ := p8.c4
  go_wp2_with fail
  rw [← hW0]
  clear hW0
  clear kp4_0 kp4_1 kp4_2 kp6_0 kp6_1 kp7_0 kp7_1 kp7_2 kp7_3 kp8_0 kp8_1 kp8_2 kp8_3
  refine (Tryz.adaShareNo 0 8 _ (.inl (by omega))).mono ?_
  rintro e V ⟨rfl, rfl⟩
  have kp4_0 := p4.cell0
  have kp4_1 := p4.cell1
  have kp4_2 := p4.cell2
  have kp6_0 := p6.cell0
  have kp6_1 := p6.cell1
  obtain ⟨kp7_0, kp7_1, kp7_2, kp7_3⟩ := p7.c4
  obtain ⟨kp8_0, kp8_1, kp8_2, kp8_3⟩ := p8.c4
  go_wp2_with fail
  clear kp4_0 kp4_1 kp4_2 kp6_0 kp6_1 kp7_0 kp7_1 kp7_2 kp7_3 kp8_0 kp8_1 kp8_2 kp8_3
  refine (Tryz.adaRight8 _).mono ?_
  rintro e V2 ⟨rfl, hE⟩
  replace E0 := (Ext.trans E0 hE)
  replace p4 := (p4.ext hE)
  replace p6 := (p6.ext hE)
  replace p7 := (p7.ext hE)
  replace p8 := (p8.ext hE)
  clear hE
  have z80 := p8.frozN 0
  have z81 := p8.frozN 1
  have z82 := p8.frozN 2
  have z83 := p8.frozN 3
  have szB := Ext.size E0
  have lt8 := BxA.lt p8
  have kp4_0 := p4.cell0
  have kp4_1 := p4.cell1
  have kp4_2 := p4.cell2
  have kp6_0 := p6.cell0
  have kp6_1 := p6.cell1
  obtain ⟨kp7_0, kp7_1, kp7_2, kp7_3⟩ := p7.c4
  obtain ⟨kp8_0, kp8_1, kp8_2, kp8_3⟩ := p8.c4
  go_wp2
  clear kp4_0 kp4_1 kp4_2 kp6_0 kp6_1 kp7_0 kp7_1 kp7_2 kp7_3 kp8_0 kp8_1 kp8_2 kp8_3
  obtain ⟨V8, hV8, hw8, hq⟩ := (Form4.of p8).put none 0 0 none 0 0 none 0 0 none 0 0
  rw [← hV8]
  clear hV8
  have k80 := hq.cell 0 (v := .slice none 0 0) rfl
  have k81 := hq.cell 1 (v := .slice none 0 0) rfl
  have k82 := hq.cell 2 (v := .slice none 0 0) rfl
  have k83 := hq.cell 3 (v := .slice none 0 0) rfl
  exact bodyPost_ret (v := .tuple #[.agg #[.slice none 0 0, .slice none 0 0, .slice none 0 0, .slice none 0 0], .int .i64 1]) (by simp [results, Tryz.results24, go_sem, k80, k81, k82, k83]) rfl ⟨rfl, Ext.wr E0 hw8 (by omega)⟩

set_option maxRecDepth 100000 in
set_option maxHeartbeats 8000000 in
theorem Tryz.alive19 (w : World) :
    Calls Tryz.prog 18 #[] w fun e w' => e = .returned (.bool true) ∧ Ext w w' := by
  have E0 := Ext.refl w
  go_enter Tryz.func18, Tryz.ntmps18
  go_upto_region 2 with (fail)
  have p1 := BxA.new w 52 #[.int .i64 16, .int .i64 1, .int .i64 256]
  have hE := Ext.alloc1 w (.cells #[.int .i64 16, .int .i64 1, .int .i64 256] 52)
  obtain ⟨N1, hN1⟩ : ∃ V, V = w.alloc (.cells #[.int .i64 16, .int .i64 1, .int .i64 256] 52) := ⟨_, rfl⟩
  rw [← hN1] at p1 hE ⊢
  clear hN1
  obtain ⟨g1, hg1⟩ : ∃ g, g = w.heap.size := ⟨_, rfl⟩
  rw [← hg1] at p1 ⊢
  clear hg1
  replace E0 : Ext w N1 := (Ext.trans E0 hE)
  clear hE
  replace p1 : Bx3 N1 g1 52 (.int .i64 16) (.int .i64 1) (.int .i64 256) := p1
  have kp1_0 := p1.cell0
  have kp1_1 := p1.cell1
  have kp1_2 := p1.cell2
  go_wp2_with fail
  clear kp1_0 kp1_1 kp1_2
  refine (Tryz.adaShare324 _).mono ?_
  rintro e V1 ⟨rfl, hE⟩
  replace E0 := (Ext.trans E0 hE)
  replace p1 := (p1.ext hE)
  clear hE
  obtain ⟨X1, hX1⟩ : ∃ X, X = V1.alloc (.cells #[.int .i64 256] 2) := ⟨_, rfl⟩
  obtain ⟨X2, hX2⟩ : ∃ X, X = X1.alloc (.cells #[.int .i64 9] 2) := ⟨_, rfl⟩
  obtain ⟨X3, hX3⟩ : ∃ X, X = X2.alloc (.cells #[.int .i64 512] 2) := ⟨_, rfl⟩
  have e1 : X1.heap.size = V1.heap.size + 1 := by rw [hX1]; simp
  have e2 : X2.heap.size = V1.heap.size + 1 + 1 := by rw [hX2]; simp [e1]
  have e3 : X3.heap.size = V1.heap.size + 1 + 1 + 1 := by rw [hX3]; simp [e2]
  have E1 : Ext V1 X1 := by rw [hX1]; exact Ext.alloc1 _ _
  have E2 : Ext X1 X2 := by rw [hX2]; exact Ext.alloc1 _ _
  have E3 : Ext X2 X3 := by rw [hX3]; exact Ext.alloc1 _ _
  have i1 : Iw 0 X3.heap.size X3 (some ⟨V1.heap.size, 0, none⟩) 1 1 [256] := by
    have h := iw_new (lo := 0) V1 2 (x := 256) (by unfold I64; omega) (Nat.zero_le _)
    rw [← hX1] at h
    exact ((h.ext E2).ext E3).mono (Nat.le_refl _) (by omega)
  have i2 : Iw 0 X3.heap.size X3 (some ⟨V1.heap.size + 1, 0, none⟩) 1 1 [9] := by
    have h := iw_new (lo := 0) X1 2 (x := 9) (by unfold I64; omega) (Nat.zero_le _)
    rw [← hX2, e1] at h
    exact (h.ext E3).mono (Nat.le_refl _) (by omega)
  have i3 : Iw 0 X3.heap.size X3 (some ⟨V1.heap.size + 1 + 1, 0, none⟩) 1 1 [512] := by
    have h := iw_new (lo := 0) X2 2 (x := 512) (by unfold I64; omega) (Nat.zero_le _)
    rw [← hX3, e2] at h
    exact h.mono (Nat.le_refl _) (by omega)
  have hE := (E1.trans E2).trans E3
  have kp1_0 := p1.cell0
  have kp1_1 := p1.cell1
  have kp1_2 := p1.cell2
  go_wp2_with fail
  clear kp1_0 kp1_1 kp1_2
  rw [← hX1, ← hX2, ← hX3]
  clear hX1 hX2 hX3 e1 e2 e3 E1 E2 E3
  replace E0 : Ext w X3 := (Ext.trans E0 hE)
  replace p1 : Bx3 X3 g1 52 (.int .i64 16) (.int .i64 1) (.int .i64 256) := (p1.ext hE)
  clear hE
  refine (Tryz.adaStepOne (Nat.le_refl _) i1 i2 i3).mono ?_
  rintro e V2 ⟨v1, v2, rfl, y1, y2, hE⟩
  clear i1 i2 i3
  replace E0 : Ext w V2 := (Ext.trans E0 hE)
  replace p1 : Bx3 V2 g1 52 (.int .i64 16) (.int .i64 1) (.int .i64 256) := (p1.ext hE)
  clear hE
  obtain ⟨gw, cw, rfl, -, -, -, -, kw⟩ := y1
  obtain ⟨gv, cv, rfl, -, -, -, -, kv⟩ := y2
  have kp1_0 := p1.cell0
  have kp1_1 := p1.cell1
  have kp1_2 := p1.cell2
  go_upto_region 4 with (fail)
  clear kp1_0 kp1_1 kp1_2
  have p4 := BxA.new V2 27 #[.slice (some ⟨gw, 0, none⟩) 1 cw, .slice none 0 0, .slice (some ⟨gv, 0, none⟩) 1 cv, .slice none 0 0]
  have hE := Ext.alloc1 V2 (.cells #[.slice (some ⟨gw, 0, none⟩) 1 cw, .slice none 0 0, .slice (some ⟨gv, 0, none⟩) 1 cv, .slice none 0 0] 27)
  obtain ⟨N4, hN4⟩ : ∃ V, V = V2.alloc (.cells #[.slice (some ⟨gw, 0, none⟩) 1 cw, .slice none 0 0, .slice (some ⟨gv, 0, none⟩) 1 cv, .slice none 0 0] 27) := ⟨_, rfl⟩
  rw [← hN4] at p4 hE ⊢
  clear hN4
  obtain ⟨g4, hg4⟩ : ∃ g, g = V2.heap.size := ⟨_, rfl⟩
  rw [← hg4] at p4 ⊢
  clear hg4
  replace E0 : Ext w N4 := (Ext.trans E0 hE)
  replace p1 : Bx3 N4 g1 52 (.int .i64 16) (.int .i64 1) (.int .i64 256) := (p1.ext hE)
  replace kw : World.cell? N4 ⟨gw, 0, none⟩ = some (.int .i64 240) := (Ext.cell hE kw)
  replace kv : World.cell? N4 ⟨gv, 0, none⟩ = some (.int .i64 1025) := (Ext.cell hE kv)
  clear hE
  have kp1_0 := p1.cell0
  have kp1_1 := p1.cell1
  have kp1_2 := p1.cell2
  obtain ⟨kp4_0, kp4_1, kp4_2, kp4_3⟩ := p4.c4
  go_wp2_with fail
  clear kp1_0 kp1_1 kp1_2 kp4_0 kp4_1 kp4_2 kp4_3
  refine (Tryz.adaStepBad _).mono ?_
  rintro e V3 ⟨rfl, hE⟩
  replace E0 := (Ext.trans E0 hE)
  replace p1 := (p1.ext hE)
  replace kw := (Ext.cell hE kw)
  replace kv := (Ext.cell hE kv)
  replace p4 := (p4.ext hE)
  clear hE
  have kp1_0 := p1.cell0
  have kp1_1 := p1.cell1
  have kp1_2 := p1.cell2
  obtain ⟨kp4_0, kp4_1, kp4_2, kp4_3⟩ := p4.c4
  go_upto_region 5 with (fail)
  clear kp1_0 kp1_1 kp1_2 kp4_0 kp4_1 kp4_2 kp4_3
  have p6 := BxA.new V3 27 #[.slice none 0 0, .slice none 0 0, .slice none 0 0, .slice none 0 0]
  have hE := Ext.alloc1 V3 (.cells #[.slice none 0 0, .slice none 0 0, .slice none 0 0, .slice none 0 0] 27)
  obtain ⟨N6, hN6⟩ : ∃ V, V = V3.alloc (.cells #[.slice none 0 0, .slice none 0 0, .slice none 0 0, .slice none 0 0] 27) := ⟨_, rfl⟩
  rw [← hN6] at p6 hE ⊢
  clear hN6
  obtain ⟨g6, hg6⟩ : ∃ g, g = V3.heap.size := ⟨_, rfl⟩
  rw [← hg6] at p6 ⊢
  clear hg6
  replace E0 : Ext w N6 := (Ext.trans E0 hE)
  replace p1 : Bx3 N6 g1 52 (.int .i64 16) (.int .i64 1) (.int .i64 256) := (p1.ext hE)
  replace kw : World.cell? N6 ⟨gw, 0, none⟩ = some (.int .i64 240) := (Ext.cell hE kw)
  replace kv : World.cell? N6 ⟨gv, 0, none⟩ = some (.int .i64 1025) := (Ext.cell hE kv)
  replace p4 : BxA N6 g4 27 #[.slice (some ⟨gw, 0, none⟩) 1 cw, .slice none 0 0, .slice (some ⟨gv, 0, none⟩) 1 cv, .slice none 0 0] := (p4.ext hE)
  clear hE
  have kp1_0 := p1.cell0
  have kp1_1 := p1.cell1
  have kp1_2 := p1.cell2
  obtain ⟨kp4_0, kp4_1, kp4_2, kp4_3⟩ := p4.c4
  obtain ⟨kp6_0, kp6_1, kp6_2, kp6_3⟩ := p6.c4
  go_wp2_with fail
  clear kp1_0 kp1_1 kp1_2 kp4_0 kp4_1 kp4_2 kp4_3 kp6_0 kp6_1 kp6_2 kp6_3
  refine (Tryz.adaRight8 _).mono ?_
  rintro e V4 ⟨rfl, hE⟩
  replace E0 := (Ext.trans E0 hE)
  replace p1 := (p1.ext hE)
  replace kw := (Ext.cell hE kw)
  replace kv := (Ext.cell hE kv)
  replace p4 := (p4.ext hE)
  replace p6 := (p6.ext hE)
  clear hE
  have kp1_0 := p1.cell0
  have kp1_1 := p1.cell1
  have kp1_2 := p1.cell2
  obtain ⟨kp4_0, kp4_1, kp4_2, kp4_3⟩ := p4.c4
  obtain ⟨kp6_0, kp6_1, kp6_2, kp6_3⟩ := p6.c4
  go_wp2
  go_ret
  exact ⟨rfl, E0⟩

end Go.Rt
