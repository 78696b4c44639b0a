/-
 Schedules: a step's rate; the laws' live question.
-/
import Derived.Test.YtkmilnnbmamknaaGreatSchedB
import Derived.Test.YtkmilnnbmamknaaGreatGG
import Derived.Test.YtkmilnnbmamknaaGreatLaw02b
namespace Go.Rt
open Go Go.RowKit Go.Proofs

set_option maxRecDepth 100000 in
set_option maxHeartbeats 8000000 in
theorem Tryz.schedSteady (kd bb rr ee ww vv ll pp t ff : Int) (w : World) :
  Calls Tryz.prog 11 #[.agg #[.int .i64 kd, .int .i64 bb, .int .i64 rr, .int .i64 ee, .int .i64 ww, .int .i64 vv, .int .i64 ll, .int .i64 pp], .int .i64 t, .int .i64 ff] w fun e w' => e = .returned (.int .i64 bb) ∧ Ext w w' := by
 obtain ⟨W0, hW0⟩ : ∃ W0, W0 = (w.alloc (.cells #[.int .i64 kd, .int .i64 bb, .int .i64 rr, .int .i64 ee, .int .i64 ww, .int .i64 vv, .int .i64 ll, .int .i64 pp] 23)) := ⟨_, rfl⟩
 have E0 : Ext w W0 := by rw [hW0]; exact (Ext.alloc1 w (.cells #[.int .i64 kd, .int .i64 bb, .int .i64 rr, .int .i64 ee, .int .i64 ww, .int .i64 vv, .int .i64 ll, .int .i64 pp] 23))
 have p3 : BxA W0 w.heap.size 23 #[.int .i64 kd, .int .i64 bb, .int .i64 rr, .int .i64 ee, .int .i64 ww, .int .i64 vv, .int .i64 ll, .int .i64 pp] := by rw [hW0]; exact (BxA.new w 23 #[.int .i64 kd, .int .i64 bb, .int .i64 rr, .int .i64 ee, .int .i64 ww, .int .i64 vv, .int .i64 ll, .int .i64 pp])
 go_enter Tryz.func11, Tryz.ntmps11
 obtain ⟨kp3_0, kp3_1, kp3_2, kp3_3, kp3_4, kp3_5, kp3_6, kp3_7⟩ := p3.cells8
 go_upto_region 1 with (fail)
 rw [← hW0]
 clear hW0
 clear kp3_0 kp3_1 kp3_2 kp3_3 kp3_4 kp3_5 kp3_6 kp3_7
 have ltp3 := p3.lt
 have szw13 := Ext.size E0
 refine region_go [.one fun v _ => v = .pointer (some ⟨w.heap.size, 1, none⟩),
   .one fun v _ => v = .int .i64 bb,
   .one fun v _ => v = .int .i64 bb]
  (fun W => Ext w W ∧ BxA W w.heap.size 23 #[.int .i64 kd, .int .i64 bb, .int .i64 rr, .int .i64 ee, .int .i64 ww, .int .i64 vv, .int .i64 ll, .int .i64 pp] ∧ W0.heap.size ≤ W.heap.size) ⟨Good.is _, Good.is _, Good.is _, trivial⟩
  (fun W W1 hS hE => ⟨(Ext.trans hS.1 hE), (hS.2.1.ext hE), (Nat.le_trans hS.2.2 (Ext.size hE))⟩) ⟨E0, p3, Nat.le_refl _⟩ (by kernel_rfl) (by kernel_rfl) (by kernel_rfl) (by kernel_rfl) (A := ?A13) ?hA13 ?howe13 ?hfin13
 case hA13 =>
  intro vs
  simp only [putAll, Act.put, List.setIfInBounds_toArray, List.set_cons_zero, List.set_cons_succ, Nat.zero_add, Nat.reduceAdd]
  exact rfl
 case howe13 =>
  clear E0 p3
  intro hf
  refine ⟨owesE 0 [] hf rfl (by kernel_rfl) ?_, owesE 1 [0] hf rfl (by kernel_rfl) ?_, owesE 2 [1] hf rfl (by kernel_rfl) ?_, trivial⟩
  all_goals intro vs W hS hp hx KO hKO
  all_goals simp only [Act.put, List.setIfInBounds_toArray, List.set_cons_zero, List.set_cons_succ] at hKO
  ·go_simp
   exact hKO _ W (Ext.refl W) rfl
  ·have e0 := isOf hp.1
   simp only [e0] at hKO
   have fc1 := BxA.cell (hS.2.1) 1 (v := .int .i64 bb) rfl
   go_simp
   exact hKO _ W (Ext.refl W) rfl
  ·have e1 := isOf hp.1
   simp only [e1] at hKO
   go_simp
   exact hKO _ W (Ext.refl W) rfl
 intro vs W13 hS hp
 clear szw13 E0 p3
 obtain ⟨E0, p3, sz13⟩ := hS
 obtain ⟨h13_0, h13_1, h13_2, -⟩ := hp
 replace h13_0 : vs 0 = .pointer (some ⟨w.heap.size, 1, none⟩) := h13_0
 replace h13_1 : vs 1 = .int .i64 bb := h13_1
 replace h13_2 : vs 2 = .int .i64 bb := h13_2
 simp only [h13_0, h13_1, h13_2]
 clear h13_0 h13_1 h13_2
 obtain ⟨kp3_0, kp3_1, kp3_2, kp3_3, kp3_4, kp3_5, kp3_6, kp3_7⟩ := p3.cells8
 go_wp2
 go_ret
 exact ⟨rfl, E0⟩

set_option maxRecDepth 100000 in
set_option maxHeartbeats 16000000 in
theorem Tryz.schedRate (kd bb rr ee ww vv ll pp : Int) (t K : Nat) (w : World) (hR : rightS kd bb rr ee ww vv ll pp (K : Int) = true) (hbb : bb < 9223372036854775808) (ht1 : 1 ≤ t) (ht2 : t ≤ 1000000) {V : Int} (hV : rateV kd bb rr ee ww vv ll pp t K = V) :
  Calls Tryz.prog 4 #[.agg #[.int .i64 kd, .int .i64 bb, .int .i64 rr, .int .i64 ee, .int .i64 ww, .int .i64 vv, .int .i64 ll, .int .i64 pp], .int .i64 (t : Int), .int .i64 (K : Int)] w fun e w' => e = .returned (.tuple #[.int .i64 V, .int .i64 0]) ∧ Ext w w' := by
 obtain ⟨hf0, hf40, hk0, hk3, hb0, hw0, hw1, hd2, hd3⟩ := rightS_iff.1 hR
 rw [Int.toNat_natCast] at hd2
 have hbnd := rate_bounds hR (t := t) (by omega)
 rw [hV] at hbnd
 have HR := Lib.hid hR
 have HT : Hid (inB (t : Int) 1 1000000 = true) := Lib.hid (inB_t (by omega) (by omega))
 have hK : K ≤ 40 := by omega
 clear hR hf0 hf40
 obtain ⟨Wm, rfl⟩ := Int.eq_ofNat_of_zero_le hw0
 obtain ⟨B, rfl⟩ := Int.eq_ofNat_of_zero_le hb0
 by_cases htw : (t : Int) ≤ (Wm : Int)
 ·have htwd : decide ((t : Int) ≤ (Wm : Int)) = true := decide_eq_true htw
  have htwn : t ≤ Wm := by omega
  rw [rate_warm htw, Int.toNat_natCast] at hV
  have hfit : fits V = true := fits_iff.2 (by omega)
  have HV : Hid (fitV (nearR ((((B : Int) * (t : Int) : Int) : Rat) / ((Wm : Nat) : Rat))) = V) := Lib.hid (by show fitV (ratioV ((B : Int) * (t : Int)) Wm) = V; rw [hV]; exact fitV_in hfit)
  have HE : Hid (fitE (nearR ((((B : Int) * (t : Int) : Int) : Rat) / ((Wm : Nat) : Rat))) = 0) := Lib.hid (by show fitE (ratioV ((B : Int) * (t : Int)) Wm) = 0; rw [hV]; exact fitE_in hfit)
  have HH := Lib.hid (show (B : Int) < 9223372036854775808 ∧ (t : Int) < 9223372036854775808 ∧ 0 < Wm ∧ Wm < 9223372036854775808 by omega)
  clear hV hbnd hfit hd2 hd3 hbb ht1 ht2 hw1 hK hk0 hk3 hb0 hw0
  obtain ⟨W0, hW0⟩ : ∃ W0, W0 = (w.alloc (.cells #[.int .i64 kd, .int .i64 (B : Int), .int .i64 rr, .int .i64 ee, .int .i64 (Wm : Int), .int .i64 vv, .int .i64 ll, .int .i64 pp] 23)) := ⟨_, rfl⟩
  have E0 : Ext w W0 := by rw [hW0]; exact (Ext.alloc1 w (.cells #[.int .i64 kd, .int .i64 (B : Int), .int .i64 rr, .int .i64 ee, .int .i64 (Wm : Int), .int .i64 vv, .int .i64 ll, .int .i64 pp] 23))
  have p3 : BxA W0 w.heap.size 23 #[.int .i64 kd, .int .i64 (B : Int), .int .i64 rr, .int .i64 ee, .int .i64 (Wm : Int), .int .i64 vv, .int .i64 ll, .int .i64 pp] := by rw [hW0]; exact (BxA.new w 23 #[.int .i64 kd, .int .i64 (B : Int), .int .i64 rr, .int .i64 ee, .int .i64 (Wm : Int), .int .i64 vv, .int .i64 ll, .int .i64 pp])
  go_enter Tryz.func4, Tryz.ntmps4
  obtain ⟨kp3_0, kp3_1, kp3_2, kp3_3, kp3_4, kp3_5, kp3_6, kp3_7⟩ := p3.cells8
  go_wp2_with fail
  rw [← hW0]
  clear hW0
  clear kp3_0 kp3_1 kp3_2 kp3_3 kp3_4 kp3_5 kp3_6 kp3_7
  refine (Tryz.schedRight kd (B : Int) rr ee (Wm : Int) vv ll pp (K : Int) _).mono ?_
  rintro e V1 ⟨rfl, hE⟩
  rw [HR.out]
  replace E0 := (Ext.trans E0 hE)
  replace p3 := (p3.ext hE)
  clear hE
  obtain ⟨kp3_0, kp3_1, kp3_2, kp3_3, kp3_4, kp3_5, kp3_6, kp3_7⟩ := p3.cells8
  go_wp2_with fail
  clear kp3_0 kp3_1 kp3_2 kp3_3 kp3_4 kp3_5 kp3_6 kp3_7
  refine (Tryz.schedIn (t : Int) 1 1000000 _).mono ?_
  rintro e V2 ⟨rfl, rfl⟩
  rw [HT.out]
  obtain ⟨kp3_0, kp3_1, kp3_2, kp3_3, kp3_4, kp3_5, kp3_6, kp3_7⟩ := p3.cells8
  go_wp2_with fail
  clear kp3_0 kp3_1 kp3_2 kp3_3 kp3_4 kp3_5 kp3_6 kp3_7
  refine (Tryz.fixScaleV (B : Int) (t : Int) Wm _ (by omega) HH.out.1 (by omega) HH.out.2.1 HH.out.2.2.1 HH.out.2.2.2 HV.out HE.out).mono ?_
  rintro e V3 ⟨rfl, hE⟩
  replace E0 := (Ext.trans E0 hE)
  replace p3 := (p3.ext hE)
  clear hE
  go_wp2
  go_ret2
  exact ⟨rfl, E0⟩
 ·have htwd : decide ((t : Int) ≤ (Wm : Int)) = false := decide_eq_false htw
  have htwn : ¬ t ≤ Wm := by omega
  have htlt : Wm < t := by omega
  have hkc : kd = 0 ∨ kd = 1 ∨ kd = 2 ∨ kd = 3 := by omega
  rcases hkc with rfl | rfl | rfl | rfl
  ·rw [rate_const htw rfl] at hV
   subst hV
   clear hbnd hd2 hd3 hbb ht1 ht2 hw1 hk0 hk3 hb0 hw0 hK htlt
   obtain ⟨W0, hW0⟩ : ∃ W0, W0 = (w.alloc (.cells #[.int .i64 0, .int .i64 (B : Int), .int .i64 rr, .int .i64 ee, .int .i64 (Wm : Int), .int .i64 vv, .int .i64 ll, .int .i64 pp] 23)) := ⟨_, rfl⟩
   have E0 : Ext w W0 := by rw [hW0]; exact (Ext.alloc1 w (.cells #[.int .i64 0, .int .i64 (B : Int), .int .i64 rr, .int .i64 ee, .int .i64 (Wm : Int), .int .i64 vv, .int .i64 ll, .int .i64 pp] 23))
   have p3 : BxA W0 w.heap.size 23 #[.int .i64 0, .int .i64 (B : Int), .int .i64 rr, .int .i64 ee, .int .i64 (Wm : Int), .int .i64 vv, .int .i64 ll, .int .i64 pp] := by rw [hW0]; exact (BxA.new w 23 #[.int .i64 0, .int .i64 (B : Int), .int .i64 rr, .int .i64 ee, .int .i64 (Wm : Int), .int .i64 vv, .int .i64 ll, .int .i64 pp])
   go_enter Tryz.func4, Tryz.ntmps4
   obtain ⟨kp3_0, kp3_1, kp3_2, kp3_3, kp3_4, kp3_5, kp3_6, kp3_7⟩ := p3.cells8
   go_wp2_with fail
   rw [← hW0]
   clear hW0
   clear kp3_0 kp3_1 kp3_2 kp3_3 kp3_4 kp3_5 kp3_6 kp3_7
   refine (Tryz.schedRight 0 (B : Int) rr ee (Wm : Int) vv ll pp (K : Int) _).mono ?_
   rintro e V4 ⟨rfl, hE⟩
   rw [HR.out]
   replace E0 := (Ext.trans E0 hE)
   replace p3 := (p3.ext hE)
   clear hE
   obtain ⟨kp3_0, kp3_1, kp3_2, kp3_3, kp3_4, kp3_5, kp3_6, kp3_7⟩ := p3.cells8
   go_wp2_with fail
   clear kp3_0 kp3_1 kp3_2 kp3_3 kp3_4 kp3_5 kp3_6 kp3_7
   refine (Tryz.schedIn (t : Int) 1 1000000 _).mono ?_
   rintro e V5 ⟨rfl, rfl⟩
   rw [HT.out]
   obtain ⟨kp3_0, kp3_1, kp3_2, kp3_3, kp3_4, kp3_5, kp3_6, kp3_7⟩ := p3.cells8
   go_upto_region 6 with (fail)
   clear kp3_0 kp3_1 kp3_2 kp3_3 kp3_4 kp3_5 kp3_6 kp3_7
   have p8 := BxA.new V4 33 #[.func (.func 11) #[] #[], .func (.func 12) #[] #[], .func (.func 13) #[] #[], .func (.func 14) #[] #[]]
   have hE := (Ext.alloc1 V4 (.cells #[.func (.func 11) #[] #[], .func (.func 12) #[] #[], .func (.func 13) #[] #[], .func (.func 14) #[] #[]] 33))
   obtain ⟨Wf, hWf⟩ : ∃ Wf, Wf = V4.alloc (.cells #[.func (.func 11) #[] #[], .func (.func 12) #[] #[], .func (.func 13) #[] #[], .func (.func 14) #[] #[]] 33) := ⟨_, rfl⟩
   rw [← hWf] at p8 hE ⊢
   clear hWf
   replace E0 : Ext w Wf := (Ext.trans E0 hE)
   replace p3 : BxA Wf w.heap.size 23 #[.int .i64 0, .int .i64 (B : Int), .int .i64 rr, .int .i64 ee, .int .i64 (Wm : Int), .int .i64 vv, .int .i64 ll, .int .i64 pp] := (p3.ext hE)
   clear hE
   obtain ⟨g8, hg8⟩ : ∃ g8, g8 = V4.heap.size := ⟨_, rfl⟩
   rw [← hg8] at p8 ⊢
   clear hg8
   have ltp3 := p3.lt
   have ltp8 := p8.lt
   have szw14 := Ext.size E0
   refine region_go [.one fun v _ => v = .pointer (some ⟨w.heap.size, 0, none⟩),
     .one fun v _ => v = .int .i64 0,
     .one fun v _ => v = .pointer (some ⟨g8, 0, none⟩),
     .one fun v _ => v = .func (.func 11) #[] #[],
     .one fun v _ => v = .agg #[.int .i64 0, .int .i64 (B : Int), .int .i64 rr, .int .i64 ee, .int .i64 (Wm : Int), .int .i64 vv, .int .i64 ll, .int .i64 pp],
     .one fun v _ => v = .int .i64 (t : Int),
     .one fun v _ => v = .int .i64 (K : Int),
     .one fun v _ => v = .int .i64 (B : Int),
     .one fun v _ => v = .int .i64 (B : Int),
     .one fun v _ => v = .int .i64 0]
    (fun W => Ext w W ∧ BxA W w.heap.size 23 #[.int .i64 0, .int .i64 (B : Int), .int .i64 rr, .int .i64 ee, .int .i64 (Wm : Int), .int .i64 vv, .int .i64 ll, .int .i64 pp] ∧ BxA W g8 33 #[.func (.func 11) #[] #[], .func (.func 12) #[] #[], .func (.func 13) #[] #[], .func (.func 14) #[] #[]] ∧ Wf.heap.size ≤ W.heap.size) ⟨Good.is _, Good.is _, Good.is _, Good.is _, Good.is _, Good.is _, Good.is _, Good.is _, Good.is _, Good.is _, trivial⟩
    (fun W W1 hS hE => ⟨(Ext.trans hS.1 hE), (hS.2.1.ext hE), (hS.2.2.1.ext hE), (Nat.le_trans hS.2.2.2 (Ext.size hE))⟩) ⟨E0, p3, p8, Nat.le_refl _⟩ (by kernel_rfl) (by kernel_rfl) (by kernel_rfl) (by kernel_rfl) (A := ?A14) ?hA14 ?howe14 ?hfin14
   case hA14 =>
    intro vs
    simp only [putAll, Act.put, List.setIfInBounds_toArray, List.set_cons_zero, List.set_cons_succ, Nat.zero_add, Nat.reduceAdd]
    exact rfl
   case howe14 =>
    clear E0 p3 p8
    intro hf
    refine ⟨owesE 0 [] hf rfl (by kernel_rfl) ?_, owesE 1 [0] hf rfl (by kernel_rfl) ?_, owesE 2 [1] hf rfl (by kernel_rfl) ?_, owesE 3 [2] hf rfl (by kernel_rfl) ?_, owesE 4 [] hf rfl (by kernel_rfl) ?_, owesE 5 [] hf rfl (by kernel_rfl) ?_, owesE 6 [] hf rfl (by kernel_rfl) ?_, owesE 7 [3, 4, 5, 6] hf rfl (by kernel_rfl) ?_, owesE 8 [7] hf rfl (by kernel_rfl) ?_, owesE 9 [] hf rfl (by kernel_rfl) ?_, trivial⟩
    all_goals intro vs W hS hp hx KO hKO
    all_goals simp only [Act.put, List.setIfInBounds_toArray, List.set_cons_zero, List.set_cons_succ] at hKO
    ·go_simp
     exact hKO _ W (Ext.refl W) rfl
    ·have e0 := isOf hp.1
     simp only [e0] at hKO
     have fc0 := BxA.cell (hS.2.1) 0 (v := .int .i64 0) rfl
     go_simp
     exact hKO _ W (Ext.refl W) rfl
    ·have e1 := isOf hp.1
     simp only [e1] at hKO
     go_simp
     exact hKO _ W (Ext.refl W) rfl
    ·have e2 := isOf hp.1
     simp only [e2] at hKO
     have fc0 := BxA.cell (hS.2.2.1) 0 (v := .func (.func 11) #[] #[]) rfl
     go_simp
     exact hKO _ W (Ext.refl W) rfl
    ·have fc0 := BxA.cell (hS.2.1) 0 (v := .int .i64 0) rfl
     have fc1 := BxA.cell (hS.2.1) 1 (v := .int .i64 (B : Int)) rfl
     have fc2 := BxA.cell (hS.2.1) 2 (v := .int .i64 rr) rfl
     have fc3 := BxA.cell (hS.2.1) 3 (v := .int .i64 ee) rfl
     have fc4 := BxA.cell (hS.2.1) 4 (v := .int .i64 (Wm : Int)) rfl
     have fc5 := BxA.cell (hS.2.1) 5 (v := .int .i64 vv) rfl
     have fc6 := BxA.cell (hS.2.1) 6 (v := .int .i64 ll) rfl
     have fc7 := BxA.cell (hS.2.1) 7 (v := .int .i64 pp) rfl
     go_simp
     exact hKO _ W (Ext.refl W) rfl
    ·go_simp
     exact hKO _ W (Ext.refl W) rfl
    ·go_simp
     exact hKO _ W (Ext.refl W) rfl
    ·have e3 := isOf hp.1
     have e4 := isOf hp.2.1
     have e5 := isOf hp.2.2.1
     have e6 := isOf hp.2.2.2.1
     simp only [e3, e4, e5, e6] at hKO
     go_simp
     refine (Tryz.schedSteady 0 (B : Int) rr ee (Wm : Int) vv ll pp (t : Int) (K : Int) _).mono ?_
     rintro e W1 ⟨rfl, hE⟩
     exact hKO _ W1 hE rfl
    ·have e7 := isOf hp.1
     simp only [e7] at hKO
     go_simp
     exact hKO _ W (Ext.refl W) rfl
    ·go_simp
     exact hKO _ W (Ext.refl W) rfl
   intro vs W14 hS hp
   clear szw14 E0 p3 p8
   obtain ⟨E0, p3, p8, sz14⟩ := hS
   obtain ⟨h14_0, h14_1, h14_2, h14_3, h14_4, h14_5, h14_6, h14_7, h14_8, h14_9, -⟩ := hp
   replace h14_0 : vs 0 = .pointer (some ⟨w.heap.size, 0, none⟩) := h14_0
   replace h14_1 : vs 1 = .int .i64 0 := h14_1
   replace h14_2 : vs 2 = .pointer (some ⟨g8, 0, none⟩) := h14_2
   replace h14_3 : vs 3 = .func (.func 11) #[] #[] := h14_3
   replace h14_4 : vs 4 = .agg #[.int .i64 0, .int .i64 (B : Int), .int .i64 rr, .int .i64 ee, .int .i64 (Wm : Int), .int .i64 vv, .int .i64 ll, .int .i64 pp] := h14_4
   replace h14_5 : vs 5 = .int .i64 (t : Int) := h14_5
   replace h14_6 : vs 6 = .int .i64 (K : Int) := h14_6
   replace h14_7 : vs 7 = .int .i64 (B : Int) := h14_7
   replace h14_8 : vs 8 = .int .i64 (B : Int) := h14_8
   replace h14_9 : vs 9 = .int .i64 0 := h14_9
   simp only [h14_0, h14_1, h14_2, h14_3, h14_4, h14_5, h14_6, h14_7, h14_8, h14_9]
   clear h14_0 h14_1 h14_2 h14_3 h14_4 h14_5 h14_6 h14_7 h14_8 h14_9
   obtain ⟨kp3_0, kp3_1, kp3_2, kp3_3, kp3_4, kp3_5, kp3_6, kp3_7⟩ := p3.cells8
   have kp8_0 := p8.cell 0 (v := .func (.func 11) #[] #[]) rfl
   have kp8_1 := p8.cell 1 (v := .func (.func 12) #[] #[]) rfl
   have kp8_2 := p8.cell 2 (v := .func (.func 13) #[] #[]) rfl
   have kp8_3 := p8.cell 3 (v := .func (.func 14) #[] #[]) rfl
   go_wp2
   go_ret2
   exact ⟨rfl, E0⟩
  ·rw [rate_slow htw rfl, Int.toNat_natCast, Int.toNat_natCast] at hV
   subst hV
   have HH := Lib.hid (show B < 9223372036854775808 ∧ Wm ≤ 1000000 ∧ 1 ≤ t ∧ t ≤ 1000000 ∧ Wm < t by omega)
   obtain ⟨Z, hZ⟩ : ∃ Z, Z = ((slowV B Wm t : Nat) : Int) := ⟨_, rfl⟩
   rw [← hZ]
   have HZ := Lib.hid hZ
   clear hZ
   clear hbnd hd2 hd3 hbb ht1 ht2 hw1 hk0 hk3 hb0 hw0 hK htlt
   obtain ⟨W0, hW0⟩ : ∃ W0, W0 = (w.alloc (.cells #[.int .i64 1, .int .i64 (B : Int), .int .i64 rr, .int .i64 ee, .int .i64 (Wm : Int), .int .i64 vv, .int .i64 ll, .int .i64 pp] 23)) := ⟨_, rfl⟩
   have E0 : Ext w W0 := by rw [hW0]; exact (Ext.alloc1 w (.cells #[.int .i64 1, .int .i64 (B : Int), .int .i64 rr, .int .i64 ee, .int .i64 (Wm : Int), .int .i64 vv, .int .i64 ll, .int .i64 pp] 23))
   have p3 : BxA W0 w.heap.size 23 #[.int .i64 1, .int .i64 (B : Int), .int .i64 rr, .int .i64 ee, .int .i64 (Wm : Int), .int .i64 vv, .int .i64 ll, .int .i64 pp] := by rw [hW0]; exact (BxA.new w 23 #[.int .i64 1, .int .i64 (B : Int), .int .i64 rr, .int .i64 ee, .int .i64 (Wm : Int), .int .i64 vv, .int .i64 ll, .int .i64 pp])
   go_enter Tryz.func4, Tryz.ntmps4
   obtain ⟨kp3_0, kp3_1, kp3_2, kp3_3, kp3_4, kp3_5, kp3_6, kp3_7⟩ := p3.cells8
   go_wp2_with fail
   rw [← hW0]
   clear hW0
   clear kp3_0 kp3_1 kp3_2 kp3_3 kp3_4 kp3_5 kp3_6 kp3_7
   refine (Tryz.schedRight 1 (B : Int) rr ee (Wm : Int) vv ll pp (K : Int) _).mono ?_
   rintro e V6 ⟨rfl, hE⟩
   rw [HR.out]
   replace E0 := (Ext.trans E0 hE)
   replace p3 := (p3.ext hE)
   clear hE
   obtain ⟨kp3_0, kp3_1, kp3_2, kp3_3, kp3_4, kp3_5, kp3_6, kp3_7⟩ := p3.cells8
   go_wp2_with fail
   clear kp3_0 kp3_1 kp3_2 kp3_3 kp3_4 kp3_5 kp3_6 kp3_7
   refine (Tryz.schedIn (t : Int) 1 1000000 _).mono ?_
   rintro e V7 ⟨rfl, rfl⟩
   rw [HT.out]
   obtain ⟨kp3_0, kp3_1, kp3_2, kp3_3, kp3_4, kp3_5, kp3_6, kp3_7⟩ := p3.cells8
   go_upto_region 6 with (fail)
   clear kp3_0 kp3_1 kp3_2 kp3_3 kp3_4 kp3_5 kp3_6 kp3_7
   have p8 := BxA.new V6 33 #[.func (.func 11) #[] #[], .func (.func 12) #[] #[], .func (.func 13) #[] #[], .func (.func 14) #[] #[]]
   have hE := (Ext.alloc1 V6 (.cells #[.func (.func 11) #[] #[], .func (.func 12) #[] #[], .func (.func 13) #[] #[], .func (.func 14) #[] #[]] 33))
   obtain ⟨Wf, hWf⟩ : ∃ Wf, Wf = V6.alloc (.cells #[.func (.func 11) #[] #[], .func (.func 12) #[] #[], .func (.func 13) #[] #[], .func (.func 14) #[] #[]] 33) := ⟨_, rfl⟩
   rw [← hWf] at p8 hE ⊢
   clear hWf
   replace E0 : Ext w Wf := (Ext.trans E0 hE)
   replace p3 : BxA Wf w.heap.size 23 #[.int .i64 1, .int .i64 (B : Int), .int .i64 rr, .int .i64 ee, .int .i64 (Wm : Int), .int .i64 vv, .int .i64 ll, .int .i64 pp] := (p3.ext hE)
   clear hE
   obtain ⟨g8, hg8⟩ : ∃ g8, g8 = V6.heap.size := ⟨_, rfl⟩
   rw [← hg8] at p8 ⊢
   clear hg8
   have ltp3 := p3.lt
   have ltp8 := p8.lt
   have szw15 := Ext.size E0
   refine region_go [.one fun v _ => v = .pointer (some ⟨w.heap.size, 0, none⟩),
     .one fun v _ => v = .int .i64 1,
     .one fun v _ => v = .pointer (some ⟨g8, 1, none⟩),
     .one fun v _ => v = .func (.func 12) #[] #[],
     .one fun v _ => v = .agg #[.int .i64 1, .int .i64 (B : Int), .int .i64 rr, .int .i64 ee, .int .i64 (Wm : Int), .int .i64 vv, .int .i64 ll, .int .i64 pp],
     .one fun v _ => v = .int .i64 (t : Int),
     .one fun v _ => v = .int .i64 (K : Int),
     .one fun v _ => v = .int .i64 Z,
     .one fun v _ => v = .int .i64 Z,
     .one fun v _ => v = .int .i64 0]
    (fun W => Ext w W ∧ BxA W w.heap.size 23 #[.int .i64 1, .int .i64 (B : Int), .int .i64 rr, .int .i64 ee, .int .i64 (Wm : Int), .int .i64 vv, .int .i64 ll, .int .i64 pp] ∧ BxA W g8 33 #[.func (.func 11) #[] #[], .func (.func 12) #[] #[], .func (.func 13) #[] #[], .func (.func 14) #[] #[]] ∧ Wf.heap.size ≤ W.heap.size) ⟨Good.is _, Good.is _, Good.is _, Good.is _, Good.is _, Good.is _, Good.is _, Good.is _, Good.is _, Good.is _, trivial⟩
    (fun W W1 hS hE => ⟨(Ext.trans hS.1 hE), (hS.2.1.ext hE), (hS.2.2.1.ext hE), (Nat.le_trans hS.2.2.2 (Ext.size hE))⟩) ⟨E0, p3, p8, Nat.le_refl _⟩ (by kernel_rfl) (by kernel_rfl) (by kernel_rfl) (by kernel_rfl) (A := ?A15) ?hA15 ?howe15 ?hfin15
   case hA15 =>
    intro vs
    simp only [putAll, Act.put, List.setIfInBounds_toArray, List.set_cons_zero, List.set_cons_succ, Nat.zero_add, Nat.reduceAdd]
    exact rfl
   case howe15 =>
    clear E0 p3 p8
    intro hf
    refine ⟨owesE 0 [] hf rfl (by kernel_rfl) ?_, owesE 1 [0] hf rfl (by kernel_rfl) ?_, owesE 2 [1] hf rfl (by kernel_rfl) ?_, owesE 3 [2] hf rfl (by kernel_rfl) ?_, owesE 4 [] hf rfl (by kernel_rfl) ?_, owesE 5 [] hf rfl (by kernel_rfl) ?_, owesE 6 [] hf rfl (by kernel_rfl) ?_, owesE 7 [3, 4, 5, 6] hf rfl (by kernel_rfl) ?_, owesE 8 [7] hf rfl (by kernel_rfl) ?_, owesE 9 [] hf rfl (by kernel_rfl) ?_, trivial⟩
    all_goals intro vs W hS hp hx KO hKO
    all_goals simp only [Act.put, List.setIfInBounds_toArray, List.set_cons_zero, List.set_cons_succ] at hKO
    ·go_simp
     exact hKO _ W (Ext.refl W) rfl
    ·have e0 := isOf hp.1
     simp only [e0] at hKO
     have fc0 := BxA.cell (hS.2.1) 0 (v := .int .i64 1) rfl
     go_simp
     exact hKO _ W (Ext.refl W) rfl
    ·have e1 := isOf hp.1
     simp only [e1] at hKO
     go_simp
     exact hKO _ W (Ext.refl W) rfl
    ·have e2 := isOf hp.1
     simp only [e2] at hKO
     have fc1 := BxA.cell (hS.2.2.1) 1 (v := .func (.func 12) #[] #[]) rfl
     go_simp
     exact hKO _ W (Ext.refl W) rfl
    ·have fc0 := BxA.cell (hS.2.1) 0 (v := .int .i64 1) rfl
     have fc1 := BxA.cell (hS.2.1) 1 (v := .int .i64 (B : Int)) rfl
     have fc2 := BxA.cell (hS.2.1) 2 (v := .int .i64 rr) rfl
     have fc3 := BxA.cell (hS.2.1) 3 (v := .int .i64 ee) rfl
     have fc4 := BxA.cell (hS.2.1) 4 (v := .int .i64 (Wm : Int)) rfl
     have fc5 := BxA.cell (hS.2.1) 5 (v := .int .i64 vv) rfl
     have fc6 := BxA.cell (hS.2.1) 6 (v := .int .i64 ll) rfl
     have fc7 := BxA.cell (hS.2.1) 7 (v := .int .i64 pp) rfl
     go_simp
     exact hKO _ W (Ext.refl W) rfl
    ·go_simp
     exact hKO _ W (Ext.refl W) rfl
    ·go_simp
     exact hKO _ W (Ext.refl W) rfl
    ·have e3 := isOf hp.1
     have e4 := isOf hp.2.1
     have e5 := isOf hp.2.2.1
     have e6 := isOf hp.2.2.2.1
     simp only [e3, e4, e5, e6] at hKO
     go_simp
     refine (Tryz.schedSlowed B Wm t 1 rr ee vv ll pp (K : Int) _ HH.out.1 HH.out.2.1 HH.out.2.2.1 HH.out.2.2.2.1 HH.out.2.2.2.2).mono ?_
     rintro e W1 ⟨rfl, hE⟩
     rw [← HZ.out]
     exact hKO _ W1 hE rfl
    ·have e7 := isOf hp.1
     simp only [e7] at hKO
     go_simp
     exact hKO _ W (Ext.refl W) rfl
    ·go_simp
     exact hKO _ W (Ext.refl W) rfl
   intro vs W15 hS hp
   clear szw15 E0 p3 p8
   obtain ⟨E0, p3, p8, sz15⟩ := hS
   obtain ⟨h15_0, h15_1, h15_2, h15_3, h15_4, h15_5, h15_6, h15_7, h15_8, h15_9, -⟩ := hp
   replace h15_0 : vs 0 = .pointer (some ⟨w.heap.size, 0, none⟩) := h15_0
   replace h15_1 : vs 1 = .int .i64 1 := h15_1
   replace h15_2 : vs 2 = .pointer (some ⟨g8, 1, none⟩) := h15_2
   replace h15_3 : vs 3 = .func (.func 12) #[] #[] := h15_3
   replace h15_4 : vs 4 = .agg #[.int .i64 1, .int .i64 (B : Int), .int .i64 rr, .int .i64 ee, .int .i64 (Wm : Int), .int .i64 vv, .int .i64 ll, .int .i64 pp] := h15_4
   replace h15_5 : vs 5 = .int .i64 (t : Int) := h15_5
   replace h15_6 : vs 6 = .int .i64 (K : Int) := h15_6
   replace h15_7 : vs 7 = .int .i64 Z := h15_7
   replace h15_8 : vs 8 = .int .i64 Z := h15_8
   replace h15_9 : vs 9 = .int .i64 0 := h15_9
   simp only [h15_0, h15_1, h15_2, h15_3, h15_4, h15_5, h15_6, h15_7, h15_8, h15_9]
   clear h15_0 h15_1 h15_2 h15_3 h15_4 h15_5 h15_6 h15_7 h15_8 h15_9
   obtain ⟨kp3_0, kp3_1, kp3_2, kp3_3, kp3_4, kp3_5, kp3_6, kp3_7⟩ := p3.cells8
   have kp8_0 := p8.cell 0 (v := .func (.func 11) #[] #[]) rfl
   have kp8_1 := p8.cell 1 (v := .func (.func 12) #[] #[]) rfl
   have kp8_2 := p8.cell 2 (v := .func (.func 13) #[] #[]) rfl
   have kp8_3 := p8.cell 3 (v := .func (.func 14) #[] #[]) rfl
   go_wp2
   go_ret2
   exact ⟨rfl, E0⟩
  ·obtain ⟨hv1, hv2, hr1, hr2⟩ := hd2 rfl
   obtain ⟨V1, rfl⟩ := Int.eq_ofNat_of_zero_le (show 0 ≤ vv by omega)
   obtain ⟨R, rfl⟩ := Int.eq_ofNat_of_zero_le hr1
   rw [rate_drop htw rfl, Int.toNat_natCast, Int.toNat_natCast, Int.toNat_natCast] at hV
   subst hV
   have HH := Lib.hid (show B < 9223372036854775808 ∧ R ≤ 2 ^ K ∧ K ≤ 40 ∧ Wm ≤ 1000000 ∧ 1 ≤ V1 ∧ V1 ≤ 1000000 ∧ t ≤ 1000000 ∧ Wm < t from ⟨by omega, by exact_mod_cast hr2, by omega, by omega, by omega, by omega, by omega, by omega⟩)
   clear hv1 hv2 hr1 hr2
   obtain ⟨Z, hZ⟩ : ∃ Z, Z = dropV R K (B : Int) (min ((t - Wm) / V1) 200) := ⟨_, rfl⟩
   rw [← hZ]
   have HZ := Lib.hid hZ
   clear hZ
   clear hbnd hd2 hd3 hbb ht1 ht2 hw1 hk0 hk3 hb0 hw0 hK htlt
   obtain ⟨W0, hW0⟩ : ∃ W0, W0 = (w.alloc (.cells #[.int .i64 2, .int .i64 (B : Int), .int .i64 (R : Int), .int .i64 ee, .int .i64 (Wm : Int), .int .i64 (V1 : Int), .int .i64 ll, .int .i64 pp] 23)) := ⟨_, rfl⟩
   have E0 : Ext w W0 := by rw [hW0]; exact (Ext.alloc1 w (.cells #[.int .i64 2, .int .i64 (B : Int), .int .i64 (R : Int), .int .i64 ee, .int .i64 (Wm : Int), .int .i64 (V1 : Int), .int .i64 ll, .int .i64 pp] 23))
   have p3 : BxA W0 w.heap.size 23 #[.int .i64 2, .int .i64 (B : Int), .int .i64 (R : Int), .int .i64 ee, .int .i64 (Wm : Int), .int .i64 (V1 : Int), .int .i64 ll, .int .i64 pp] := by rw [hW0]; exact (BxA.new w 23 #[.int .i64 2, .int .i64 (B : Int), .int .i64 (R : Int), .int .i64 ee, .int .i64 (Wm : Int), .int .i64 (V1 : Int), .int .i64 ll, .int .i64 pp])
   go_enter Tryz.func4, Tryz.ntmps4
   obtain ⟨kp3_0, kp3_1, kp3_2, kp3_3, kp3_4, kp3_5, kp3_6, kp3_7⟩ := p3.cells8
   go_wp2_with fail
   rw [← hW0]
   clear hW0
   clear kp3_0 kp3_1 kp3_2 kp3_3 kp3_4 kp3_5 kp3_6 kp3_7
   refine (Tryz.schedRight 2 (B : Int) (R : Int) ee (Wm : Int) (V1 : Int) ll pp (K : Int) _).mono ?_
   rintro e V8 ⟨rfl, hE⟩
   rw [HR.out]
   replace E0 := (Ext.trans E0 hE)
   replace p3 := (p3.ext hE)
   clear hE
   obtain ⟨kp3_0, kp3_1, kp3_2, kp3_3, kp3_4, kp3_5, kp3_6, kp3_7⟩ := p3.cells8
   go_wp2_with fail
   clear kp3_0 kp3_1 kp3_2 kp3_3 kp3_4 kp3_5 kp3_6 kp3_7
   refine (Tryz.schedIn (t : Int) 1 1000000 _).mono ?_
   rintro e V9 ⟨rfl, rfl⟩
   rw [HT.out]
   obtain ⟨kp3_0, kp3_1, kp3_2, kp3_3, kp3_4, kp3_5, kp3_6, kp3_7⟩ := p3.cells8
   go_upto_region 6 with (fail)
   clear kp3_0 kp3_1 kp3_2 kp3_3 kp3_4 kp3_5 kp3_6 kp3_7
   have p8 := BxA.new V8 33 #[.func (.func 11) #[] #[], .func (.func 12) #[] #[], .func (.func 13) #[] #[], .func (.func 14) #[] #[]]
   have hE := (Ext.alloc1 V8 (.cells #[.func (.func 11) #[] #[], .func (.func 12) #[] #[], .func (.func 13) #[] #[], .func (.func 14) #[] #[]] 33))
   obtain ⟨Wf, hWf⟩ : ∃ Wf, Wf = V8.alloc (.cells #[.func (.func 11) #[] #[], .func (.func 12) #[] #[], .func (.func 13) #[] #[], .func (.func 14) #[] #[]] 33) := ⟨_, rfl⟩
   rw [← hWf] at p8 hE ⊢
   clear hWf
   replace E0 : Ext w Wf := (Ext.trans E0 hE)
   replace p3 : BxA Wf w.heap.size 23 #[.int .i64 2, .int .i64 (B : Int), .int .i64 (R : Int), .int .i64 ee, .int .i64 (Wm : Int), .int .i64 (V1 : Int), .int .i64 ll, .int .i64 pp] := (p3.ext hE)
   clear hE
   obtain ⟨g8, hg8⟩ : ∃ g8, g8 = V8.heap.size := ⟨_, rfl⟩
   rw [← hg8] at p8 ⊢
   clear hg8
   have ltp3 := p3.lt
   have ltp8 := p8.lt
   have szw16 := Ext.size E0
   refine region_go [.one fun v _ => v = .pointer (some ⟨w.heap.size, 0, none⟩),
     .one fun v _ => v = .int .i64 2,
     .one fun v _ => v = .pointer (some ⟨g8, 2, none⟩),
     .one fun v _ => v = .func (.func 13) #[] #[],
     .one fun v _ => v = .agg #[.int .i64 2, .int .i64 (B : Int), .int .i64 (R : Int), .int .i64 ee, .int .i64 (Wm : Int), .int .i64 (V1 : Int), .int .i64 ll, .int .i64 pp],
     .one fun v _ => v = .int .i64 (t : Int),
     .one fun v _ => v = .int .i64 (K : Int),
     .one fun v _ => v = .int .i64 Z,
     .one fun v _ => v = .int .i64 Z,
     .one fun v _ => v = .int .i64 0]
    (fun W => Ext w W ∧ BxA W w.heap.size 23 #[.int .i64 2, .int .i64 (B : Int), .int .i64 (R : Int), .int .i64 ee, .int .i64 (Wm : Int), .int .i64 (V1 : Int), .int .i64 ll, .int .i64 pp] ∧ BxA W g8 33 #[.func (.func 11) #[] #[], .func (.func 12) #[] #[], .func (.func 13) #[] #[], .func (.func 14) #[] #[]] ∧ Wf.heap.size ≤ W.heap.size) ⟨Good.is _, Good.is _, Good.is _, Good.is _, Good.is _, Good.is _, Good.is _, Good.is _, Good.is _, Good.is _, trivial⟩
    (fun W W1 hS hE => ⟨(Ext.trans hS.1 hE), (hS.2.1.ext hE), (hS.2.2.1.ext hE), (Nat.le_trans hS.2.2.2 (Ext.size hE))⟩) ⟨E0, p3, p8, Nat.le_refl _⟩ (by kernel_rfl) (by kernel_rfl) (by kernel_rfl) (by kernel_rfl) (A := ?A16) ?hA16 ?howe16 ?hfin16
   case hA16 =>
    intro vs
    simp only [putAll, Act.put, List.setIfInBounds_toArray, List.set_cons_zero, List.set_cons_succ, Nat.zero_add, Nat.reduceAdd]
    exact rfl
   case howe16 =>
    clear E0 p3 p8
    intro hf
    refine ⟨owesE 0 [] hf rfl (by kernel_rfl) ?_, owesE 1 [0] hf rfl (by kernel_rfl) ?_, owesE 2 [1] hf rfl (by kernel_rfl) ?_, owesE 3 [2] hf rfl (by kernel_rfl) ?_, owesE 4 [] hf rfl (by kernel_rfl) ?_, owesE 5 [] hf rfl (by kernel_rfl) ?_, owesE 6 [] hf rfl (by kernel_rfl) ?_, owesE 7 [3, 4, 5, 6] hf rfl (by kernel_rfl) ?_, owesE 8 [7] hf rfl (by kernel_rfl) ?_, owesE 9 [] hf rfl (by kernel_rfl) ?_, trivial⟩
    all_goals intro vs W hS hp hx KO hKO
    all_goals simp only [Act.put, List.setIfInBounds_toArray, List.set_cons_zero, List.set_cons_succ] at hKO
    ·go_simp
     exact hKO _ W (Ext.refl W) rfl
    ·have e0 := isOf hp.1
     simp only [e0] at hKO
     have fc0 := BxA.cell (hS.2.1) 0 (v := .int .i64 2) rfl
     go_simp
     exact hKO _ W (Ext.refl W) rfl
    ·have e1 := isOf hp.1
     simp only [e1] at hKO
     go_simp
     exact hKO _ W (Ext.refl W) rfl
    ·have e2 := isOf hp.1
     simp only [e2] at hKO
     have fc2 := BxA.cell (hS.2.2.1) 2 (v := .func (.func 13) #[] #[]) rfl
     go_simp
     exact hKO _ W (Ext.refl W) rfl
    ·have fc0 := BxA.cell (hS.2.1) 0 (v := .int .i64 2) rfl
     have fc1 := BxA.cell (hS.2.1) 1 (v := .int .i64 (B : Int)) rfl
     have fc2 := BxA.cell (hS.2.1) 2 (v := .int .i64 (R : Int)) rfl
     have fc3 := BxA.cell (hS.2.1) 3 (v := .int .i64 ee) rfl
     have fc4 := BxA.cell (hS.2.1) 4 (v := .int .i64 (Wm : Int)) rfl
     have fc5 := BxA.cell (hS.2.1) 5 (v := .int .i64 (V1 : Int)) rfl
     have fc6 := BxA.cell (hS.2.1) 6 (v := .int .i64 ll) rfl
     have fc7 := BxA.cell (hS.2.1) 7 (v := .int .i64 pp) rfl
     go_simp
     exact hKO _ W (Ext.refl W) rfl
    ·go_simp
     exact hKO _ W (Ext.refl W) rfl
    ·go_simp
     exact hKO _ W (Ext.refl W) rfl
    ·have e3 := isOf hp.1
     have e4 := isOf hp.2.1
     have e5 := isOf hp.2.2.1
     have e6 := isOf hp.2.2.2.1
     simp only [e3, e4, e5, e6] at hKO
     go_simp
     refine (Tryz.schedDropped B R Wm V1 t K 2 ee ll pp _ HH.out.1 HH.out.2.1 HH.out.2.2.1 HH.out.2.2.2.1 HH.out.2.2.2.2.1 HH.out.2.2.2.2.2.1 HH.out.2.2.2.2.2.2.1 HH.out.2.2.2.2.2.2.2).mono ?_
     rintro e W1 ⟨rfl, hE⟩
     rw [← HZ.out]
     exact hKO _ W1 hE rfl
    ·have e7 := isOf hp.1
     simp only [e7] at hKO
     go_simp
     exact hKO _ W (Ext.refl W) rfl
    ·go_simp
     exact hKO _ W (Ext.refl W) rfl
   intro vs W16 hS hp
   clear szw16 E0 p3 p8
   obtain ⟨E0, p3, p8, sz16⟩ := hS
   obtain ⟨h16_0, h16_1, h16_2, h16_3, h16_4, h16_5, h16_6, h16_7, h16_8, h16_9, -⟩ := hp
   replace h16_0 : vs 0 = .pointer (some ⟨w.heap.size, 0, none⟩) := h16_0
   replace h16_1 : vs 1 = .int .i64 2 := h16_1
   replace h16_2 : vs 2 = .pointer (some ⟨g8, 2, none⟩) := h16_2
   replace h16_3 : vs 3 = .func (.func 13) #[] #[] := h16_3
   replace h16_4 : vs 4 = .agg #[.int .i64 2, .int .i64 (B : Int), .int .i64 (R : Int), .int .i64 ee, .int .i64 (Wm : Int), .int .i64 (V1 : Int), .int .i64 ll, .int .i64 pp] := h16_4
   replace h16_5 : vs 5 = .int .i64 (t : Int) := h16_5
   replace h16_6 : vs 6 = .int .i64 (K : Int) := h16_6
   replace h16_7 : vs 7 = .int .i64 Z := h16_7
   replace h16_8 : vs 8 = .int .i64 Z := h16_8
   replace h16_9 : vs 9 = .int .i64 0 := h16_9
   simp only [h16_0, h16_1, h16_2, h16_3, h16_4, h16_5, h16_6, h16_7, h16_8, h16_9]
   clear h16_0 h16_1 h16_2 h16_3 h16_4 h16_5 h16_6 h16_7 h16_8 h16_9
   obtain ⟨kp3_0, kp3_1, kp3_2, kp3_3, kp3_4, kp3_5, kp3_6, kp3_7⟩ := p3.cells8
   have kp8_0 := p8.cell 0 (v := .func (.func 11) #[] #[]) rfl
   have kp8_1 := p8.cell 1 (v := .func (.func 12) #[] #[]) rfl
   have kp8_2 := p8.cell 2 (v := .func (.func 13) #[] #[]) rfl
   have kp8_3 := p8.cell 3 (v := .func (.func 14) #[] #[]) rfl
   go_wp2
   go_ret2
   exact ⟨rfl, E0⟩
  ·obtain ⟨hl1, hl2, hp1, hp2, he1, he2⟩ := hd3 rfl
   obtain ⟨L, rfl⟩ := Int.eq_ofNat_of_zero_le (show 0 ≤ ll by omega)
   obtain ⟨P, rfl⟩ := Int.eq_ofNat_of_zero_le (show 0 ≤ pp by omega)
   obtain ⟨E, rfl⟩ := Int.eq_ofNat_of_zero_le he1
   rw [rate_poly htw rfl, Int.toNat_natCast, Int.toNat_natCast] at hV
   subst hV
   have HH := Lib.hid (show B < 9223372036854775808 ∧ E ≤ B ∧ 1 ≤ L ∧ L ≤ 1000000 ∧ 1 ≤ P ∧ P ≤ 8 ∧ 1 ≤ t ∧ t ≤ 1000000 by omega)
   clear hl1 hl2 hp1 hp2 he1 he2
   obtain ⟨Z, hZ⟩ : ∃ Z, Z = (E : Int) + shareV ((B : Int) - (E : Int)) L P (L - t) := ⟨_, rfl⟩
   rw [← hZ]
   have HZ := Lib.hid hZ
   clear hZ
   clear hbnd hd2 hd3 hbb ht1 ht2 hw1 hk0 hk3 hb0 hw0 hK htlt
   obtain ⟨W0, hW0⟩ : ∃ W0, W0 = (w.alloc (.cells #[.int .i64 3, .int .i64 (B : Int), .int .i64 rr, .int .i64 (E : Int), .int .i64 (Wm : Int), .int .i64 vv, .int .i64 (L : Int), .int .i64 (P : Int)] 23)) := ⟨_, rfl⟩
   have E0 : Ext w W0 := by rw [hW0]; exact (Ext.alloc1 w (.cells #[.int .i64 3, .int .i64 (B : Int), .int .i64 rr, .int .i64 (E : Int), .int .i64 (Wm : Int), .int .i64 vv, .int .i64 (L : Int), .int .i64 (P : Int)] 23))
   have p3 : BxA W0 w.heap.size 23 #[.int .i64 3, .int .i64 (B : Int), .int .i64 rr, .int .i64 (E : Int), .int .i64 (Wm : Int), .int .i64 vv, .int .i64 (L : Int), .int .i64 (P : Int)] := by rw [hW0]; exact (BxA.new w 23 #[.int .i64 3, .int .i64 (B : Int), .int .i64 rr, .int .i64 (E : Int), .int .i64 (Wm : Int), .int .i64 vv, .int .i64 (L : Int), .int .i64 (P : Int)])
   go_enter Tryz.func4, Tryz.ntmps4
   obtain ⟨kp3_0, kp3_1, kp3_2, kp3_3, kp3_4, kp3_5, kp3_6, kp3_7⟩ := p3.cells8
   go_wp2_with fail
   rw [← hW0]
   clear hW0
   clear kp3_0 kp3_1 kp3_2 kp3_3 kp3_4 kp3_5 kp3_6 kp3_7
   refine (Tryz.schedRight 3 (B : Int) rr (E : Int) (Wm : Int) vv (L : Int) (P : Int) (K : Int) _).mono ?_
   rintro e V10 ⟨rfl, hE⟩
   rw [HR.out]
   replace E0 := (Ext.trans E0 hE)
   replace p3 := (p3.ext hE)
   clear hE
   obtain ⟨kp3_0, kp3_1, kp3_2, kp3_3, kp3_4, kp3_5, kp3_6, kp3_7⟩ := p3.cells8
   go_wp2_with fail
   clear kp3_0 kp3_1 kp3_2 kp3_3 kp3_4 kp3_5 kp3_6 kp3_7
   refine (Tryz.schedIn (t : Int) 1 1000000 _).mono ?_
   rintro e V11 ⟨rfl, rfl⟩
   rw [HT.out]
   obtain ⟨kp3_0, kp3_1, kp3_2, kp3_3, kp3_4, kp3_5, kp3_6, kp3_7⟩ := p3.cells8
   go_upto_region 6 with (fail)
   clear kp3_0 kp3_1 kp3_2 kp3_3 kp3_4 kp3_5 kp3_6 kp3_7
   have p8 := BxA.new V10 33 #[.func (.func 11) #[] #[], .func (.func 12) #[] #[], .func (.func 13) #[] #[], .func (.func 14) #[] #[]]
   have hE := (Ext.alloc1 V10 (.cells #[.func (.func 11) #[] #[], .func (.func 12) #[] #[], .func (.func 13) #[] #[], .func (.func 14) #[] #[]] 33))
   obtain ⟨Wf, hWf⟩ : ∃ Wf, Wf = V10.alloc (.cells #[.func (.func 11) #[] #[], .func (.func 12) #[] #[], .func (.func 13) #[] #[], .func (.func 14) #[] #[]] 33) := ⟨_, rfl⟩
   rw [← hWf] at p8 hE ⊢
   clear hWf
   replace E0 : Ext w Wf := (Ext.trans E0 hE)
   replace p3 : BxA Wf w.heap.size 23 #[.int .i64 3, .int .i64 (B : Int), .int .i64 rr, .int .i64 (E : Int), .int .i64 (Wm : Int), .int .i64 vv, .int .i64 (L : Int), .int .i64 (P : Int)] := (p3.ext hE)
   clear hE
   obtain ⟨g8, hg8⟩ : ∃ g8, g8 = V10.heap.size := ⟨_, rfl⟩
   rw [← hg8] at p8 ⊢
   clear hg8
   have ltp3 := p3.lt
   have ltp8 := p8.lt
   have szw17 := Ext.size E0
   refine region_go [.one fun v _ => v = .pointer (some ⟨w.heap.size, 0, none⟩),
     .one fun v _ => v = .int .i64 3,
     .one fun v _ => v = .pointer (some ⟨g8, 3, none⟩),
     .one fun v _ => v = .func (.func 14) #[] #[],
     .one fun v _ => v = .agg #[.int .i64 3, .int .i64 (B : Int), .int .i64 rr, .int .i64 (E : Int), .int .i64 (Wm : Int), .int .i64 vv, .int .i64 (L : Int), .int .i64 (P : Int)],
     .one fun v _ => v = .int .i64 (t : Int),
     .one fun v _ => v = .int .i64 (K : Int),
     .one fun v _ => v = .int .i64 Z,
     .one fun v _ => v = .int .i64 Z,
     .one fun v _ => v = .int .i64 0]
    (fun W => Ext w W ∧ BxA W w.heap.size 23 #[.int .i64 3, .int .i64 (B : Int), .int .i64 rr, .int .i64 (E : Int), .int .i64 (Wm : Int), .int .i64 vv, .int .i64 (L : Int), .int .i64 (P : Int)] ∧ BxA W g8 33 #[.func (.func 11) #[] #[], .func (.func 12) #[] #[], .func (.func 13) #[] #[], .func (.func 14) #[] #[]] ∧ Wf.heap.size ≤ W.heap.size) ⟨Good.is _, Good.is _, Good.is _, Good.is _, Good.is _, Good.is _, Good.is _, Good.is _, Good.is _, Good.is _, trivial⟩
    (fun W W1 hS hE => ⟨(Ext.trans hS.1 hE), (hS.2.1.ext hE), (hS.2.2.1.ext hE), (Nat.le_trans hS.2.2.2 (Ext.size hE))⟩) ⟨E0, p3, p8, Nat.le_refl _⟩ (by kernel_rfl) (by kernel_rfl) (by kernel_rfl) (by kernel_rfl) (A := ?A17) ?hA17 ?howe17 ?hfin17
   case hA17 =>
    intro vs
    simp only [putAll, Act.put, List.setIfInBounds_toArray, List.set_cons_zero, List.set_cons_succ, Nat.zero_add, Nat.reduceAdd]
    exact rfl
   case howe17 =>
    clear E0 p3 p8
    intro hf
    refine ⟨owesE 0 [] hf rfl (by kernel_rfl) ?_, owesE 1 [0] hf rfl (by kernel_rfl) ?_, owesE 2 [1] hf rfl (by kernel_rfl) ?_, owesE 3 [2] hf rfl (by kernel_rfl) ?_, owesE 4 [] hf rfl (by kernel_rfl) ?_, owesE 5 [] hf rfl (by kernel_rfl) ?_, owesE 6 [] hf rfl (by kernel_rfl) ?_, owesE 7 [3, 4, 5, 6] hf rfl (by kernel_rfl) ?_, owesE 8 [7] hf rfl (by kernel_rfl) ?_, owesE 9 [] hf rfl (by kernel_rfl) ?_, trivial⟩
    all_goals intro vs W hS hp hx KO hKO
    all_goals simp only [Act.put, List.setIfInBounds_toArray, List.set_cons_zero, List.set_cons_succ] at hKO
    ·go_simp
     exact hKO _ W (Ext.refl W) rfl
    ·have e0 := isOf hp.1
     simp only [e0] at hKO
     have fc0 := BxA.cell (hS.2.1) 0 (v := .int .i64 3) rfl
     go_simp
     exact hKO _ W (Ext.refl W) rfl
    ·have e1 := isOf hp.1
     simp only [e1] at hKO
     go_simp
     exact hKO _ W (Ext.refl W) rfl
    ·have e2 := isOf hp.1
     simp only [e2] at hKO
     have fc3 := BxA.cell (hS.2.2.1) 3 (v := .func (.func 14) #[] #[]) rfl
     go_simp
     exact hKO _ W (Ext.refl W) rfl
    ·have fc0 := BxA.cell (hS.2.1) 0 (v := .int .i64 3) rfl
     have fc1 := BxA.cell (hS.2.1) 1 (v := .int .i64 (B : Int)) rfl
     have fc2 := BxA.cell (hS.2.1) 2 (v := .int .i64 rr) rfl
     have fc3 := BxA.cell (hS.2.1) 3 (v := .int .i64 (E : Int)) rfl
     have fc4 := BxA.cell (hS.2.1) 4 (v := .int .i64 (Wm : Int)) rfl
     have fc5 := BxA.cell (hS.2.1) 5 (v := .int .i64 vv) rfl
     have fc6 := BxA.cell (hS.2.1) 6 (v := .int .i64 (L : Int)) rfl
     have fc7 := BxA.cell (hS.2.1) 7 (v := .int .i64 (P : Int)) rfl
     go_simp
     exact hKO _ W (Ext.refl W) rfl
    ·go_simp
     exact hKO _ W (Ext.refl W) rfl
    ·go_simp
     exact hKO _ W (Ext.refl W) rfl
    ·have e3 := isOf hp.1
     have e4 := isOf hp.2.1
     have e5 := isOf hp.2.2.1
     have e6 := isOf hp.2.2.2.1
     simp only [e3, e4, e5, e6] at hKO
     go_simp
     refine (Tryz.schedPowered B E L P t 3 rr (Wm : Int) vv (K : Int) _ HH.out.1 HH.out.2.1 HH.out.2.2.1 HH.out.2.2.2.1 HH.out.2.2.2.2.1 HH.out.2.2.2.2.2.1 HH.out.2.2.2.2.2.2.1 HH.out.2.2.2.2.2.2.2).mono ?_
     rintro e W1 ⟨rfl, hE⟩
     rw [← HZ.out]
     exact hKO _ W1 hE rfl
    ·have e7 := isOf hp.1
     simp only [e7] at hKO
     go_simp
     exact hKO _ W (Ext.refl W) rfl
    ·go_simp
     exact hKO _ W (Ext.refl W) rfl
   intro vs W17 hS hp
   clear szw17 E0 p3 p8
   obtain ⟨E0, p3, p8, sz17⟩ := hS
   obtain ⟨h17_0, h17_1, h17_2, h17_3, h17_4, h17_5, h17_6, h17_7, h17_8, h17_9, -⟩ := hp
   replace h17_0 : vs 0 = .pointer (some ⟨w.heap.size, 0, none⟩) := h17_0
   replace h17_1 : vs 1 = .int .i64 3 := h17_1
   replace h17_2 : vs 2 = .pointer (some ⟨g8, 3, none⟩) := h17_2
   replace h17_3 : vs 3 = .func (.func 14) #[] #[] := h17_3
   replace h17_4 : vs 4 = .agg #[.int .i64 3, .int .i64 (B : Int), .int .i64 rr, .int .i64 (E : Int), .int .i64 (Wm : Int), .int .i64 vv, .int .i64 (L : Int), .int .i64 (P : Int)] := h17_4
   replace h17_5 : vs 5 = .int .i64 (t : Int) := h17_5
   replace h17_6 : vs 6 = .int .i64 (K : Int) := h17_6
   replace h17_7 : vs 7 = .int .i64 Z := h17_7
   replace h17_8 : vs 8 = .int .i64 Z := h17_8
   replace h17_9 : vs 9 = .int .i64 0 := h17_9
   simp only [h17_0, h17_1, h17_2, h17_3, h17_4, h17_5, h17_6, h17_7, h17_8, h17_9]
   clear h17_0 h17_1 h17_2 h17_3 h17_4 h17_5 h17_6 h17_7 h17_8 h17_9
   obtain ⟨kp3_0, kp3_1, kp3_2, kp3_3, kp3_4, kp3_5, kp3_6, kp3_7⟩ := p3.cells8
   have kp8_0 := p8.cell 0 (v := .func (.func 11) #[] #[]) rfl
   have kp8_1 := p8.cell 1 (v := .func (.func 12) #[] #[]) rfl
   have kp8_2 := p8.cell 2 (v := .func (.func 13) #[] #[]) rfl
   have kp8_3 := p8.cell 3 (v := .func (.func 14) #[] #[]) rfl
   go_wp2
   go_ret2
   exact ⟨rfl, E0⟩

set_option maxRecDepth 100000 in
set_option maxHeartbeats 8000000 in
theorem Tryz.schedRateNo (kd bb rr ee ww vv ll pp t : Int) (K : Nat) (w : World) (hR : rightS kd bb rr ee ww vv ll pp (K : Int) = true) (ht : t < 1) :
  Calls Tryz.prog 4 #[.agg #[.int .i64 kd, .int .i64 bb, .int .i64 rr, .int .i64 ee, .int .i64 ww, .int .i64 vv, .int .i64 ll, .int .i64 pp], .int .i64 t, .int .i64 (K : Int)] w fun e w' => e = .returned (.tuple #[.int .i64 0, .int .i64 1]) ∧ Ext w w' := by
 have HR := Lib.hid hR
 have HT : Hid (inB t 1 1000000 = false) := Lib.hid (inB_f (by omega))
 clear hR ht
 obtain ⟨W0, hW0⟩ : ∃ W0, W0 = (w.alloc (.cells #[.int .i64 kd, .int .i64 bb, .int .i64 rr, .int .i64 ee, .int .i64 ww, .int .i64 vv, .int .i64 ll, .int .i64 pp] 23)) := ⟨_, rfl⟩
 have E0 : Ext w W0 := by rw [hW0]; exact (Ext.alloc1 w (.cells #[.int .i64 kd, .int .i64 bb, .int .i64 rr, .int .i64 ee, .int .i64 ww, .int .i64 vv, .int .i64 ll, .int .i64 pp] 23))
 have p3 : BxA W0 w.heap.size 23 #[.int .i64 kd, .int .i64 bb, .int .i64 rr, .int .i64 ee, .int .i64 ww, .int .i64 vv, .int .i64 ll, .int .i64 pp] := by rw [hW0]; exact (BxA.new w 23 #[.int .i64 kd, .int .i64 bb, .int .i64 rr, .int .i64 ee, .int .i64 ww, .int .i64 vv, .int .i64 ll, .int .i64 pp])
 go_enter Tryz.func4, Tryz.ntmps4
 obtain ⟨kp3_0, kp3_1, kp3_2, kp3_3, kp3_4, kp3_5, kp3_6, kp3_7⟩ := p3.cells8
 go_wp2_with fail
 rw [← hW0]
 clear hW0
 clear kp3_0 kp3_1 kp3_2 kp3_3 kp3_4 kp3_5 kp3_6 kp3_7
 refine (Tryz.schedRight kd bb rr ee ww vv ll pp (K : Int) _).mono ?_
 rintro e V12 ⟨rfl, hE⟩
 rw [HR.out]
 replace E0 := (Ext.trans E0 hE)
 replace p3 := (p3.ext hE)
 clear hE
 obtain ⟨kp3_0, kp3_1, kp3_2, kp3_3, kp3_4, kp3_5, kp3_6, kp3_7⟩ := p3.cells8
 go_wp2_with fail
 clear kp3_0 kp3_1 kp3_2 kp3_3 kp3_4 kp3_5 kp3_6 kp3_7
 refine (Tryz.schedIn t 1 1000000 _).mono ?_
 rintro e V13 ⟨rfl, rfl⟩
 rw [HT.out]
 go_wp2
 go_ret2
 exact ⟨rfl, E0⟩

set_option maxRecDepth 100000 in
set_option maxHeartbeats 8000000 in
theorem Tryz.alive15 (w : World) : Calls Tryz.prog 6 #[] w fun e w' => e = .returned (.bool true) ∧ Ext w w' := by
 have HR : Hid (rightS 1 100 0 0 4 0 0 0 ((0 : Nat) : Int) = true) := Lib.hid (by rw [rightS_iff]; omega)
 have HR2 : Hid (rightS 1 100 0 0 4 0 0 0 41 = false) := Lib.hid (Bool.eq_false_iff.2 (fun h => by have := rightS_iff.1 h; omega))
 have H1 : Hid (rateV 1 100 0 0 4 0 0 0 16 0 = 50) := Lib.hid (by rw [rate_slow (by omega) rfl]; unfold slowV; rw [show rt (Int.toNat 100 * Int.toNat 100 * max (Int.toNat 4) 1 / 16) 2 = 50 from rt_eq (by omega) ⟨by decide, by decide⟩]; rfl)
 have H2 : Hid (rateV 1 100 0 0 4 0 0 0 1 0 = 25) := Lib.hid (by rw [rate_warm (by omega)]; exact ratio_whole 25 (d := 4) (by omega))
 obtain ⟨W0, hW0⟩ : ∃ W0, W0 = w := ⟨_, rfl⟩
 have E0 : Ext w W0 := by rw [hW0]; exact Ext.refl w
 go_enter Tryz.func6, Tryz.ntmps6
 go_wp2_with fail
 rw [← hW0]
 clear hW0
 obtain ⟨W1, hW1⟩ : ∃ W1, W1 = W0.alloc (.cells #[.int .i64 1, .int .i64 100, .int .i64 0, .int .i64 0, .int .i64 4, .int .i64 0, .int .i64 0, .int .i64 0] 23) := ⟨_, rfl⟩
 have p1 := BxA.new W0 23 #[.int .i64 1, .int .i64 100, .int .i64 0, .int .i64 0, .int .i64 4, .int .i64 0, .int .i64 0, .int .i64 0]
 have hE := Ext.alloc1 W0 (.cells #[.int .i64 1, .int .i64 100, .int .i64 0, .int .i64 0, .int .i64 4, .int .i64 0, .int .i64 0, .int .i64 0] 23)
 rw [← hW1] at p1 hE ⊢
 clear hW1
 replace E0 := E0.trans hE
 clear hE
 refine (Tryz.schedRate 1 100 0 0 4 0 0 0 16 0 _ HR.out (by omega) (by omega) (by omega) H1.out).mono ?_
 rintro e V14 ⟨rfl, hE⟩
 replace E0 : Ext w V14 := (Ext.trans E0 hE)
 replace p1 : BxA V14 W0.heap.size 23 #[.int .i64 1, .int .i64 100, .int .i64 0, .int .i64 0, .int .i64 4, .int .i64 0, .int .i64 0, .int .i64 0] := (p1.ext hE)
 clear hE
 obtain ⟨kp1_0, kp1_1, kp1_2, kp1_3, kp1_4, kp1_5, kp1_6, kp1_7⟩ := p1.cells8
 go_wp2_with fail
 clear kp1_0 kp1_1 kp1_2 kp1_3 kp1_4 kp1_5 kp1_6 kp1_7
 refine (Tryz.schedRate 1 100 0 0 4 0 0 0 1 0 _ HR.out (by omega) (by omega) (by omega) H2.out).mono ?_
 rintro e V15 ⟨rfl, hE⟩
 replace E0 := (Ext.trans E0 hE)
 replace p1 := (p1.ext hE)
 clear hE
 obtain ⟨kp1_0, kp1_1, kp1_2, kp1_3, kp1_4, kp1_5, kp1_6, kp1_7⟩ := p1.cells8
 go_wp2_with fail
 clear kp1_0 kp1_1 kp1_2 kp1_3 kp1_4 kp1_5 kp1_6 kp1_7
 refine (Tryz.schedRateNo 1 100 0 0 4 0 0 0 0 0 _ HR.out (by omega)).mono ?_
 rintro e V16 ⟨rfl, hE⟩
 replace E0 := (Ext.trans E0 hE)
 replace p1 := (p1.ext hE)
 clear hE
 obtain ⟨kp1_0, kp1_1, kp1_2, kp1_3, kp1_4, kp1_5, kp1_6, kp1_7⟩ := p1.cells8
 go_wp2_with fail
 clear kp1_0 kp1_1 kp1_2 kp1_3 kp1_4 kp1_5 kp1_6 kp1_7
 refine (Tryz.schedRight 1 100 0 0 4 0 0 0 0 _).mono ?_
 rintro e V17 ⟨rfl, hE⟩
 rw [show rightS 1 100 0 0 4 0 0 0 0 = true from HR.out]
 replace E0 := (Ext.trans E0 hE)
 replace p1 := (p1.ext hE)
 clear hE
 obtain ⟨kp1_0, kp1_1, kp1_2, kp1_3, kp1_4, kp1_5, kp1_6, kp1_7⟩ := p1.cells8
 go_wp2_with fail
 clear kp1_0 kp1_1 kp1_2 kp1_3 kp1_4 kp1_5 kp1_6 kp1_7
 refine (Tryz.schedRight 1 100 0 0 4 0 0 0 41 _).mono ?_
 rintro e V18 ⟨rfl, hE⟩
 rw [HR2.out]
 replace E0 := (Ext.trans E0 hE)
 replace p1 := (p1.ext hE)
 clear hE
 go_wp2
 go_ret
 exact ⟨rfl, E0⟩

end Go.Rt
