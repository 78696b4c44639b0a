/-
  Schedules: a step's rate by definition, and what both answer to a step that is none.
-/
import Derived.Test.YtkmilnnbmamknaaGreatSchedE
import Derived.Test.YtkmilnnbmamknaaGreatLaw08c
namespace Go.Rt
open Go Go.RowKit Go.Proofs

set_option maxRecDepth 100000 in
set_option maxHeartbeats 16000000 in
theorem Tryz.refRate15 (kd bb rr ee ww vv ll pp : Int) (t K : Nat) (w : World) (hR : rightS kd bb rr ee ww vv ll pp (K : Int) = true) (hbb : bb < 9223372036854775808) (ht1 : 1 ≤ t) (ht2 : t ≤ 1000000) {V : Int} (hV : rateV kd bb rr ee ww vv ll pp t K = V) :
    Calls Tryz.prog 5 #[.agg #[.int .i64 kd, .int .i64 bb, .int .i64 rr, .int .i64 ee, .int .i64 ww, .int .i64 vv, .int .i64 ll, .int .i64 pp], .int .i64 (t : Int), .int .i64 (K : Int)] w fun e w' => e = .returned (.tuple #[.int .i64 V, .int .i64 0]) ∧ Ext w w' := by
  obtain ⟨hf0, hf40, hk0, hk3, hb0, hw0, hw1, hd2, hd3⟩ := rightS_iff.1 hR
  rw [Int.toNat_natCast] at hd2
  have hbnd := rate_bounds hR (t := t) (by omega)
  rw [hV] at hbnd
  have HR := Lib.hid hR
  have HT : Hid (inB (t : Int) 1 1000000 = true) := Lib.hid (inB_t (by omega) (by omega))
  have hK : K ≤ 40 := by omega
  clear hR hf0 hf40
  obtain ⟨Wm, rfl⟩ := Int.eq_ofNat_of_zero_le hw0
  obtain ⟨B, rfl⟩ := Int.eq_ofNat_of_zero_le hb0
  by_cases htw : (t : Int) ≤ (Wm : Int)
  · have htwd : decide ((t : Int) ≤ (Wm : Int)) = true := decide_eq_true htw
    have htwn : t ≤ Wm := by omega
    rw [rate_warm htw, Int.toNat_natCast] at hV
    have hfit : fits V = true := fits_iff.2 (by omega)
    have HV : Hid (fitV (nearR ((((B : Int) * (t : Int) : Int) : Rat) / ((Wm : Nat) : Rat))) = V) := Lib.hid (by show fitV (ratioV ((B : Int) * (t : Int)) Wm) = V; rw [hV]; exact fitV_in hfit)
    have HE : Hid (fitE (nearR ((((B : Int) * (t : Int) : Int) : Rat) / ((Wm : Nat) : Rat))) = 0) := Lib.hid (by show fitE (ratioV ((B : Int) * (t : Int)) Wm) = 0; rw [hV]; exact fitE_in hfit)
    have HH := Lib.hid (show (B : Int) < 9223372036854775808 ∧ (t : Int) < 9223372036854775808 ∧ 0 < Wm ∧ Wm < 9223372036854775808 by omega)
    clear hV hbnd hfit hd2 hd3 hbb ht1 ht2 hw1 hK hk0 hk3 hb0 hw0
    obtain ⟨W0, hW0⟩ : ∃ W0, W0 = (w.alloc (.cells #[.int .i64 kd, .int .i64 (B : Int), .int .i64 rr, .int .i64 ee, .int .i64 (Wm : Int), .int .i64 vv, .int .i64 ll, .int .i64 pp] 23)) := ⟨_, rfl⟩
    have E0 : Ext w W0 := by rw [hW0]; exact (Ext.alloc1 w (.cells #[.int .i64 kd, .int .i64 (B : Int), .int .i64 rr, .int .i64 ee, .int .i64 (Wm : Int), .int .i64 vv, .int .i64 ll, .int .i64 pp] 23))
    have p3 : BxA W0 w.heap.size 23 #[.int .i64 kd, .int .i64 (B : Int), .int .i64 rr, .int .i64 ee, .int .i64 (Wm : Int), .int .i64 vv, .int .i64 ll, .int .i64 pp] := by rw [hW0]; exact (BxA.new w 23 #[.int .i64 kd, .int .i64 (B : Int), .int .i64 rr, .int .i64 ee, .int .i64 (Wm : Int), .int .i64 vv, .int .i64 ll, .int .i64 pp])
    go_enter Tryz.func5, Tryz.ntmps5
    obtain ⟨kp3_0, kp3_1, kp3_2, kp3_3, kp3_4, kp3_5, kp3_6, kp3_7⟩ := p3.cells8
    go_wp2_with fail
    rw [← hW0]
    clear hW0
    clear kp3_0 kp3_1 kp3_2 kp3_3 kp3_4 kp3_5 kp3_6 kp3_7
    refine (Tryz.refRight15 kd (B : Int) rr ee (Wm : Int) vv ll pp (K : Int) _).mono ?_
    rintro e V1 ⟨rfl, hE⟩
    rw [HR.out]
    replace E0 := (Ext.trans E0 hE)
    replace p3 := (p3.ext hE)
    clear hE
    obtain ⟨kp3_0, kp3_1, kp3_2, kp3_3, kp3_4, kp3_5, kp3_6, kp3_7⟩ := p3.cells8
    go_wp2_with fail
    clear kp3_0 kp3_1 kp3_2 kp3_3 kp3_4 kp3_5 kp3_6 kp3_7
    refine (Tryz.refIn15 (t : Int) 1 1000000 _).mono ?_
    rintro e V2 ⟨rfl, rfl⟩
    rw [HT.out]
    obtain ⟨kp3_0, kp3_1, kp3_2, kp3_3, kp3_4, kp3_5, kp3_6, kp3_7⟩ := p3.cells8
    go_wp2_with fail
    clear kp3_0 kp3_1 kp3_2 kp3_3 kp3_4 kp3_5 kp3_6 kp3_7
    refine (Tryz.ref08ScaleV (B : Int) (t : Int) Wm _ (by omega) HH.out.1 (by omega) HH.out.2.1 HH.out.2.2.1 HH.out.2.2.2 HV.out HE.out).mono ?_
    rintro e V3 ⟨rfl, hE⟩
    replace E0 := (Ext.trans E0 hE)
    replace p3 := (p3.ext hE)
    clear hE
    go_wp2
    go_ret2
    exact ⟨rfl, E0⟩
  · have htwd : decide ((t : Int) ≤ (Wm : Int)) = false := decide_eq_false htw
    have htwn : ¬ t ≤ Wm := by omega
    have htlt : Wm < t := by omega
    have hkc : kd = 0 ∨ kd = 1 ∨ kd = 2 ∨ kd = 3 := by omega
    rcases hkc with rfl | rfl | rfl | rfl
    · rw [rate_const htw rfl] at hV
      subst hV
      clear hbnd hd2 hd3 hbb ht1 ht2 hw1 hk0 hk3 hb0 hw0 hK htlt
      obtain ⟨W0, hW0⟩ : ∃ W0, W0 = (w.alloc (.cells #[.int .i64 0, .int .i64 (B : Int), .int .i64 rr, .int .i64 ee, .int .i64 (Wm : Int), .int .i64 vv, .int .i64 ll, .int .i64 pp] 23)) := ⟨_, rfl⟩
      have E0 : Ext w W0 := by rw [hW0]; exact (Ext.alloc1 w (.cells #[.int .i64 0, .int .i64 (B : Int), .int .i64 rr, .int .i64 ee, .int .i64 (Wm : Int), .int .i64 vv, .int .i64 ll, .int .i64 pp] 23))
      have p3 : BxA W0 w.heap.size 23 #[.int .i64 0, .int .i64 (B : Int), .int .i64 rr, .int .i64 ee, .int .i64 (Wm : Int), .int .i64 vv, .int .i64 ll, .int .i64 pp] := by rw [hW0]; exact (BxA.new w 23 #[.int .i64 0, .int .i64 (B : Int), .int .i64 rr, .int .i64 ee, .int .i64 (Wm : Int), .int .i64 vv, .int .i64 ll, .int .i64 pp])
      go_enter Tryz.func5, Tryz.ntmps5
      obtain ⟨kp3_0, kp3_1, kp3_2, kp3_3, kp3_4, kp3_5, kp3_6, kp3_7⟩ := p3.cells8
      go_wp2_with fail
      rw [← hW0]
      clear hW0
      clear kp3_0 kp3_1 kp3_2 kp3_3 kp3_4 kp3_5 kp3_6 kp3_7
      refine (Tryz.refRight15 0 (B : Int) rr ee (Wm : Int) vv ll pp (K : Int) _).mono ?_
      rintro e V4 ⟨rfl, hE⟩
      rw [HR.out]
      replace E0 := (Ext.trans E0 hE)
      replace p3 := (p3.ext hE)
      clear hE
      obtain ⟨kp3_0, kp3_1, kp3_2, kp3_3, kp3_4, kp3_5, kp3_6, kp3_7⟩ := p3.cells8
      go_wp2_with fail
      clear kp3_0 kp3_1 kp3_2 kp3_3 kp3_4 kp3_5 kp3_6 kp3_7
      refine (Tryz.refIn15 (t : Int) 1 1000000 _).mono ?_
      rintro e V5 ⟨rfl, rfl⟩
      rw [HT.out]
      obtain ⟨kp3_0, kp3_1, kp3_2, kp3_3, kp3_4, kp3_5, kp3_6, kp3_7⟩ := p3.cells8
      go_wp2
      go_ret2
      exact ⟨rfl, E0⟩
    · rw [rate_slow htw rfl, Int.toNat_natCast, Int.toNat_natCast] at hV
      subst hV
      have HH := Lib.hid (show B < 9223372036854775808 ∧ Wm ≤ 1000000 ∧ 1 ≤ t ∧ t ≤ 1000000 ∧ Wm < t by omega)
      obtain ⟨Z, hZ⟩ : ∃ Z, Z = ((slowV B Wm t : Nat) : Int) := ⟨_, rfl⟩
      rw [← hZ]
      have HZ := Lib.hid hZ
      clear hZ
      clear hbnd hd2 hd3 hbb ht1 ht2 hw1 hk0 hk3 hb0 hw0 hK htlt
      obtain ⟨W0, hW0⟩ : ∃ W0, W0 = (w.alloc (.cells #[.int .i64 1, .int .i64 (B : Int), .int .i64 rr, .int .i64 ee, .int .i64 (Wm : Int), .int .i64 vv, .int .i64 ll, .int .i64 pp] 23)) := ⟨_, rfl⟩
      have E0 : Ext w W0 := by rw [hW0]; exact (Ext.alloc1 w (.cells #[.int .i64 1, .int .i64 (B : Int), .int .i64 rr, .int .i64 ee, .int .i64 (Wm : Int), .int .i64 vv, .int .i64 ll, .int .i64 pp] 23))
      have p3 : BxA W0 w.heap.size 23 #[.int .i64 1, .int .i64 (B : Int), .int .i64 rr, .int .i64 ee, .int .i64 (Wm : Int), .int .i64 vv, .int .i64 ll, .int .i64 pp] := by rw [hW0]; exact (BxA.new w 23 #[.int .i64 1, .int .i64 (B : Int), .int .i64 rr, .int .i64 ee, .int .i64 (Wm : Int), .int .i64 vv, .int .i64 ll, .int .i64 pp])
      go_enter Tryz.func5, Tryz.ntmps5
      obtain ⟨kp3_0, kp3_1, kp3_2, kp3_3, kp3_4, kp3_5, kp3_6, kp3_7⟩ := p3.cells8
      go_wp2_with fail
      rw [← hW0]
      clear hW0
      clear kp3_0 kp3_1 kp3_2 kp3_3 kp3_4 kp3_5 kp3_6 kp3_7
      refine (Tryz.refRight15 1 (B : Int) rr ee (Wm : Int) vv ll pp (K : Int) _).mono ?_
      rintro e V6 ⟨rfl, hE⟩
      rw [HR.out]
      replace E0 := (Ext.trans E0 hE)
      replace p3 := (p3.ext hE)
      clear hE
      obtain ⟨kp3_0, kp3_1, kp3_2, kp3_3, kp3_4, kp3_5, kp3_6, kp3_7⟩ := p3.cells8
      go_wp2_with fail
      clear kp3_0 kp3_1 kp3_2 kp3_3 kp3_4 kp3_5 kp3_6 kp3_7
      refine (Tryz.refIn15 (t : Int) 1 1000000 _).mono ?_
      rintro e V7 ⟨rfl, rfl⟩
      rw [HT.out]
      obtain ⟨kp3_0, kp3_1, kp3_2, kp3_3, kp3_4, kp3_5, kp3_6, kp3_7⟩ := p3.cells8
      go_wp2_with fail
      clear kp3_0 kp3_1 kp3_2 kp3_3 kp3_4 kp3_5 kp3_6 kp3_7
      refine (Tryz.refFell B Wm t 1 rr ee vv ll pp _ HH.out.1 HH.out.2.1 HH.out.2.2.1 HH.out.2.2.2.1 HH.out.2.2.2.2).mono ?_
      rintro e V8 ⟨rfl, hE⟩
      rw [← HZ.out]
      replace E0 := (Ext.trans E0 hE)
      replace p3 := (p3.ext hE)
      clear hE
      obtain ⟨kp3_0, kp3_1, kp3_2, kp3_3, kp3_4, kp3_5, kp3_6, kp3_7⟩ := p3.cells8
      go_wp2
      go_ret2
      exact ⟨rfl, E0⟩
    · obtain ⟨hv1, hv2, hr1, hr2⟩ := hd2 rfl
      obtain ⟨U, rfl⟩ := Int.eq_ofNat_of_zero_le (show 0 ≤ vv by omega)
      obtain ⟨R, rfl⟩ := Int.eq_ofNat_of_zero_le hr1
      rw [rate_drop htw rfl, Int.toNat_natCast, Int.toNat_natCast, Int.toNat_natCast] at hV
      have hR : R ≤ 2 ^ K := by exact_mod_cast hr2
      obtain ⟨m, hm⟩ : ∃ m, m = min ((t - Wm) / U) 200 := ⟨_, rfl⟩
      obtain ⟨q, hq⟩ : ∃ q, q = (t - Wm) / U := ⟨_, rfl⟩
      have hqb : q ≤ 1000000 := by rw [hq]; exact Nat.le_trans (Nat.div_le_self _ _) (by omega)
      have hP : R ≤ 1099511627776 := Nat.le_trans hR (Nat.le_trans (Nat.pow_le_pow_right (by omega) hK) (by decide))
      have hs : IntKind.i64.wrap ((t : Int) - (Wm : Int)) = ((t - Wm : Nat) : Int) := by rw [IntKind.wrap_i64]; omega
      have hd : (((t - Wm : Nat) : Int)).tdiv (U : Int) = (q : Int) := by rw [Int.tdiv_eq_ediv_of_nonneg (by omega), hq]; rfl
      have he : (((t - Wm : Nat) : Int)) / (U : Int) = (q : Int) := by rw [hq]; rfl
      have hf : IntKind.i64.wrap ((((t - Wm : Nat) : Int)).tdiv (U : Int)) = (q : Int) := by rw [hd, IntKind.wrap_i64]; omega
      have hd4 : IntKind.i64.wrap (q : Int) = (q : Int) := by rw [IntKind.wrap_i64]; omega
      have hv0 : ((U : Int) == 0) = false := beq_eq_false_iff_ne.2 (by omega)
      have hv0a : ¬ ((U : Int) = 0) := by omega
      have hv0b : ¬ (U = 0) := by omega
      have hmn : min (q : Int) 200 = (m : Int) := by rw [hm, ← hq]; omega
      have hmn2 : min (200 : Int) (q : Int) = (m : Int) := by rw [hm, ← hq]; omega
      have hmb : m ≤ 200 := by omega
      have HDB := Lib.hid (fun n => drop_bounds (R := R) (K := K) (x := (B : Int)) hR (by omega) n)
      have HK := Lib.hid hK
      have HBB := Lib.hid (show B < 9223372036854775808 by omega)
      have HRB := Lib.hid hP
      rw [← hm] at hV
      rw [← hV]
      clear hm hq hqb hP hR hv1 hv2 hr1 hr2 hV
      clear hbnd hd2 hd3 hbb ht1 ht2 hw1 hk0 hk3 hb0 hw0 hK htlt
      obtain ⟨W0, hW0⟩ : ∃ W0, W0 = (w.alloc (.cells #[.int .i64 2, .int .i64 (B : Int), .int .i64 (R : Int), .int .i64 ee, .int .i64 (Wm : Int), .int .i64 (U : Int), .int .i64 ll, .int .i64 pp] 23)) := ⟨_, rfl⟩
      have E0 : Ext w W0 := by rw [hW0]; exact (Ext.alloc1 w (.cells #[.int .i64 2, .int .i64 (B : Int), .int .i64 (R : Int), .int .i64 ee, .int .i64 (Wm : Int), .int .i64 (U : Int), .int .i64 ll, .int .i64 pp] 23))
      have p3 : BxA W0 w.heap.size 23 #[.int .i64 2, .int .i64 (B : Int), .int .i64 (R : Int), .int .i64 ee, .int .i64 (Wm : Int), .int .i64 (U : Int), .int .i64 ll, .int .i64 pp] := by rw [hW0]; exact (BxA.new w 23 #[.int .i64 2, .int .i64 (B : Int), .int .i64 (R : Int), .int .i64 ee, .int .i64 (Wm : Int), .int .i64 (U : Int), .int .i64 ll, .int .i64 pp])
      go_enter Tryz.func5, Tryz.ntmps5
      obtain ⟨kp3_0, kp3_1, kp3_2, kp3_3, kp3_4, kp3_5, kp3_6, kp3_7⟩ := p3.cells8
      go_wp2_with fail
      rw [← hW0]
      clear hW0
      clear kp3_0 kp3_1 kp3_2 kp3_3 kp3_4 kp3_5 kp3_6 kp3_7
      refine (Tryz.refRight15 2 (B : Int) (R : Int) ee (Wm : Int) (U : Int) ll pp (K : Int) _).mono ?_
      rintro e V9 ⟨rfl, hE⟩
      rw [HR.out]
      replace E0 := (Ext.trans E0 hE)
      replace p3 := (p3.ext hE)
      clear hE
      obtain ⟨kp3_0, kp3_1, kp3_2, kp3_3, kp3_4, kp3_5, kp3_6, kp3_7⟩ := p3.cells8
      go_wp2_with fail
      clear kp3_0 kp3_1 kp3_2 kp3_3 kp3_4 kp3_5 kp3_6 kp3_7
      refine (Tryz.refIn15 (t : Int) 1 1000000 _).mono ?_
      rintro e V10 ⟨rfl, rfl⟩
      rw [HT.out]
      obtain ⟨kp3_0, kp3_1, kp3_2, kp3_3, kp3_4, kp3_5, kp3_6, kp3_7⟩ := p3.cells8
      go_wp2_with fail
      clear kp3_0 kp3_1 kp3_2 kp3_3 kp3_4 kp3_5 kp3_6 kp3_7
      go_loopw [8, 9] (fun x i wr => ∃ n : Nat, x = .int .i64 (dropV R K (B : Int) n) ∧ i = .int .i64 (n : Int) ∧ n ≤ m ∧ Ext V9 wr) (fun _ i _ => m - (intOf i).toNat)
      case atStart => exact ⟨0, rfl, rfl, by omega, Ext.refl V9⟩
      case round =>
        obtain ⟨n, rfl, rfl, hn, hX⟩ := hrel
        have E0r : Ext w wr := (Ext.trans E0 hX)
        have p3r : BxA wr w.heap.size 23 #[.int .i64 2, .int .i64 (B : Int), .int .i64 (R : Int), .int .i64 ee, .int .i64 (Wm : Int), .int .i64 (U : Int), .int .i64 ll, .int .i64 pp] := (p3.ext hX)
        clear E0 p3
        by_cases hlt : n < m
        · have hltI : (n : Int) < (m : Int) := by omega
          have h1 := (HDB.out n)
          have h2 := (HDB.out (n + 1))
          obtain ⟨X, hX0⟩ : ∃ X, X = dropV R K (B : Int) n := ⟨_, rfl⟩
          obtain ⟨Y, hY0⟩ : ∃ Y, Y = dropV R K (B : Int) (n + 1) := ⟨_, rfl⟩
          rw [← hX0] at h1 ⊢
          rw [← hY0] at h2
          have hfit : fits Y = true := fits_iff.2 (by have := HBB.out; omega)
          have HY : Hid (nearR (((X * (R : Int) : Int) : Rat) / ((2 ^ K : Nat) : Rat)) = Y) := Lib.hid (by rw [hY0, hX0]; rfl)
          have HV : Hid (fitV (nearR (((X * (R : Int) : Int) : Rat) / ((2 ^ K : Nat) : Rat))) = Y) := Lib.hid (by rw [HY.out]; exact fitV_in hfit)
          have HE : Hid (fitE (nearR (((X * (R : Int) : Int) : Rat) / ((2 ^ K : Nat) : Rat))) = 0) := Lib.hid (by rw [HY.out]; exact fitE_in hfit)
          have HY0 := Lib.hid hY0
          have HX1 := Lib.hid (show -9223372036854775808 ≤ X ∧ X < 9223372036854775808 by have := HBB.out; omega)
          clear h1 h2 hfit hX0 hY0
          obtain ⟨kp3r_0, kp3r_1, kp3r_2, kp3r_3, kp3r_4, kp3r_5, kp3r_6, kp3r_7⟩ := p3r.cells8
          go_wp2_with fail
          clear kp3r_0 kp3r_1 kp3r_2 kp3r_3 kp3r_4 kp3r_5 kp3r_6 kp3r_7
          refine (Tryz.ref08MulV X (R : Int) K HK.out _ HX1.out.1 HX1.out.2 (by omega) (by have := HRB.out; omega) HV.out HE.out).mono ?_
          rintro e V11 ⟨rfl, hE⟩
          replace hX := hX.trans hE
          replace E0r := (Ext.trans E0r hE)
          replace p3r := (p3r.ext hE)
          clear hE
          obtain ⟨kp3r_0, kp3r_1, kp3r_2, kp3r_3, kp3r_4, kp3r_5, kp3r_6, kp3r_7⟩ := p3r.cells8
          go_wp2
          go_roundw
          case rel => exact ⟨n + 1, by rw [HY0.out], by go_num, by omega, hX⟩
          case measure => simp [intOf]; omega
        · obtain rfl : n = m := by omega
          obtain ⟨kp3r_0, kp3r_1, kp3r_2, kp3r_3, kp3r_4, kp3r_5, kp3r_6, kp3r_7⟩ := p3r.cells8
          go_wp2
          go_ret2
          exact ⟨rfl, E0r⟩
    · obtain ⟨hl1, hl2, hp1, hp2, he1, he2⟩ := hd3 rfl
      obtain ⟨L, rfl⟩ := Int.eq_ofNat_of_zero_le (show 0 ≤ ll by omega)
      obtain ⟨P, rfl⟩ := Int.eq_ofNat_of_zero_le (show 0 ≤ pp by omega)
      obtain ⟨E, rfl⟩ := Int.eq_ofNat_of_zero_le he1
      rw [rate_poly htw rfl, Int.toNat_natCast, Int.toNat_natCast] at hV
      subst hV
      have HH := Lib.hid (show B < 9223372036854775808 ∧ E ≤ B ∧ 1 ≤ L ∧ L ≤ 1000000 ∧ 1 ≤ P ∧ P ≤ 8 ∧ 1 ≤ t ∧ t ≤ 1000000 by omega)
      clear hl1 hl2 hp1 hp2 he1 he2
      obtain ⟨Z, hZ⟩ : ∃ Z, Z = (E : Int) + shareV ((B : Int) - (E : Int)) L P (L - t) := ⟨_, rfl⟩
      rw [← hZ]
      have HZ := Lib.hid hZ
      clear hZ
      clear hbnd hd2 hd3 hbb ht1 ht2 hw1 hk0 hk3 hb0 hw0 hK htlt
      obtain ⟨W0, hW0⟩ : ∃ W0, W0 = (w.alloc (.cells #[.int .i64 3, .int .i64 (B : Int), .int .i64 rr, .int .i64 (E : Int), .int .i64 (Wm : Int), .int .i64 vv, .int .i64 (L : Int), .int .i64 (P : Int)] 23)) := ⟨_, rfl⟩
      have E0 : Ext w W0 := by rw [hW0]; exact (Ext.alloc1 w (.cells #[.int .i64 3, .int .i64 (B : Int), .int .i64 rr, .int .i64 (E : Int), .int .i64 (Wm : Int), .int .i64 vv, .int .i64 (L : Int), .int .i64 (P : Int)] 23))
      have p3 : BxA W0 w.heap.size 23 #[.int .i64 3, .int .i64 (B : Int), .int .i64 rr, .int .i64 (E : Int), .int .i64 (Wm : Int), .int .i64 vv, .int .i64 (L : Int), .int .i64 (P : Int)] := by rw [hW0]; exact (BxA.new w 23 #[.int .i64 3, .int .i64 (B : Int), .int .i64 rr, .int .i64 (E : Int), .int .i64 (Wm : Int), .int .i64 vv, .int .i64 (L : Int), .int .i64 (P : Int)])
      go_enter Tryz.func5, Tryz.ntmps5
      obtain ⟨kp3_0, kp3_1, kp3_2, kp3_3, kp3_4, kp3_5, kp3_6, kp3_7⟩ := p3.cells8
      go_wp2_with fail
      rw [← hW0]
      clear hW0
      clear kp3_0 kp3_1 kp3_2 kp3_3 kp3_4 kp3_5 kp3_6 kp3_7
      refine (Tryz.refRight15 3 (B : Int) rr (E : Int) (Wm : Int) vv (L : Int) (P : Int) (K : Int) _).mono ?_
      rintro e V12 ⟨rfl, hE⟩
      rw [HR.out]
      replace E0 := (Ext.trans E0 hE)
      replace p3 := (p3.ext hE)
      clear hE
      obtain ⟨kp3_0, kp3_1, kp3_2, kp3_3, kp3_4, kp3_5, kp3_6, kp3_7⟩ := p3.cells8
      go_wp2_with fail
      clear kp3_0 kp3_1 kp3_2 kp3_3 kp3_4 kp3_5 kp3_6 kp3_7
      refine (Tryz.refIn15 (t : Int) 1 1000000 _).mono ?_
      rintro e V13 ⟨rfl, rfl⟩
      rw [HT.out]
      obtain ⟨kp3_0, kp3_1, kp3_2, kp3_3, kp3_4, kp3_5, kp3_6, kp3_7⟩ := p3.cells8
      go_wp2_with fail
      clear kp3_0 kp3_1 kp3_2 kp3_3 kp3_4 kp3_5 kp3_6 kp3_7
      refine (Tryz.refPoly B E L P t 3 rr (Wm : Int) vv _ HH.out.1 HH.out.2.1 HH.out.2.2.1 HH.out.2.2.2.1 HH.out.2.2.2.2.1 HH.out.2.2.2.2.2.1 HH.out.2.2.2.2.2.2.1 HH.out.2.2.2.2.2.2.2).mono ?_
      rintro e V14 ⟨rfl, hE⟩
      rw [← HZ.out]
      replace E0 := (Ext.trans E0 hE)
      replace p3 := (p3.ext hE)
      clear hE
      obtain ⟨kp3_0, kp3_1, kp3_2, kp3_3, kp3_4, kp3_5, kp3_6, kp3_7⟩ := p3.cells8
      go_wp2
      go_ret2
      exact ⟨rfl, E0⟩

set_option maxRecDepth 100000 in
set_option maxHeartbeats 16000000 in
theorem Tryz.schedRateBad (kd bb rr ee ww vv ll pp t f : Int) (w : World) (h : rightS kd bb rr ee ww vv ll pp f = false ∨ ¬ (1 ≤ t ∧ t ≤ 1000000)) :
    Calls Tryz.prog 4 #[.agg #[.int .i64 kd, .int .i64 bb, .int .i64 rr, .int .i64 ee, .int .i64 ww, .int .i64 vv, .int .i64 ll, .int .i64 pp], .int .i64 t, .int .i64 f] w fun e w' => e = .returned (.tuple #[.int .i64 0, .int .i64 1]) ∧ Ext w w' := by
  cases hR : rightS kd bb rr ee ww vv ll pp f
  · have HR := Lib.hid hR
    clear hR h
    obtain ⟨W0, hW0⟩ : ∃ W0, W0 = (w.alloc (.cells #[.int .i64 kd, .int .i64 bb, .int .i64 rr, .int .i64 ee, .int .i64 ww, .int .i64 vv, .int .i64 ll, .int .i64 pp] 23)) := ⟨_, rfl⟩
    have E0 : Ext w W0 := by rw [hW0]; exact (Ext.alloc1 w (.cells #[.int .i64 kd, .int .i64 bb, .int .i64 rr, .int .i64 ee, .int .i64 ww, .int .i64 vv, .int .i64 ll, .int .i64 pp] 23))
    have p3 : BxA W0 w.heap.size 23 #[.int .i64 kd, .int .i64 bb, .int .i64 rr, .int .i64 ee, .int .i64 ww, .int .i64 vv, .int .i64 ll, .int .i64 pp] := by rw [hW0]; exact (BxA.new w 23 #[.int .i64 kd, .int .i64 bb, .int .i64 rr, .int .i64 ee, .int .i64 ww, .int .i64 vv, .int .i64 ll, .int .i64 pp])
    go_enter Tryz.func4, Tryz.ntmps4
    obtain ⟨kp3_0, kp3_1, kp3_2, kp3_3, kp3_4, kp3_5, kp3_6, kp3_7⟩ := p3.cells8
    go_wp2_with fail
    rw [← hW0]
    clear hW0
    clear kp3_0 kp3_1 kp3_2 kp3_3 kp3_4 kp3_5 kp3_6 kp3_7
    refine (Tryz.schedRight kd bb rr ee ww vv ll pp f _).mono ?_
    rintro e V15 ⟨rfl, hE⟩
    rw [HR.out]
    replace E0 := (Ext.trans E0 hE)
    replace p3 := (p3.ext hE)
    clear hE
    go_wp2
    go_ret2
    exact ⟨rfl, E0⟩
  · have HR := Lib.hid hR
    have HT : Hid (inB t 1 1000000 = false) := Lib.hid (inB_f (h.resolve_left (by rw [hR]; exact Bool.noConfusion)))
    clear hR h
    obtain ⟨W0, hW0⟩ : ∃ W0, W0 = (w.alloc (.cells #[.int .i64 kd, .int .i64 bb, .int .i64 rr, .int .i64 ee, .int .i64 ww, .int .i64 vv, .int .i64 ll, .int .i64 pp] 23)) := ⟨_, rfl⟩
    have E0 : Ext w W0 := by rw [hW0]; exact (Ext.alloc1 w (.cells #[.int .i64 kd, .int .i64 bb, .int .i64 rr, .int .i64 ee, .int .i64 ww, .int .i64 vv, .int .i64 ll, .int .i64 pp] 23))
    have p3 : BxA W0 w.heap.size 23 #[.int .i64 kd, .int .i64 bb, .int .i64 rr, .int .i64 ee, .int .i64 ww, .int .i64 vv, .int .i64 ll, .int .i64 pp] := by rw [hW0]; exact (BxA.new w 23 #[.int .i64 kd, .int .i64 bb, .int .i64 rr, .int .i64 ee, .int .i64 ww, .int .i64 vv, .int .i64 ll, .int .i64 pp])
    go_enter Tryz.func4, Tryz.ntmps4
    obtain ⟨kp3_0, kp3_1, kp3_2, kp3_3, kp3_4, kp3_5, kp3_6, kp3_7⟩ := p3.cells8
    go_wp2_with fail
    rw [← hW0]
    clear hW0
    clear kp3_0 kp3_1 kp3_2 kp3_3 kp3_4 kp3_5 kp3_6 kp3_7
    refine (Tryz.schedRight kd bb rr ee ww vv ll pp f _).mono ?_
    rintro e V16 ⟨rfl, hE⟩
    rw [HR.out]
    replace E0 := (Ext.trans E0 hE)
    replace p3 := (p3.ext hE)
    clear hE
    obtain ⟨kp3_0, kp3_1, kp3_2, kp3_3, kp3_4, kp3_5, kp3_6, kp3_7⟩ := p3.cells8
    go_wp2_with fail
    clear kp3_0 kp3_1 kp3_2 kp3_3 kp3_4 kp3_5 kp3_6 kp3_7
    refine (Tryz.schedIn t 1 1000000 _).mono ?_
    rintro e V17 ⟨rfl, rfl⟩
    rw [HT.out]
    go_wp2
    go_ret2
    exact ⟨rfl, E0⟩

set_option maxRecDepth 100000 in
set_option maxHeartbeats 16000000 in
theorem Tryz.refRateBad (kd bb rr ee ww vv ll pp t f : Int) (w : World) (h : rightS kd bb rr ee ww vv ll pp f = false ∨ ¬ (1 ≤ t ∧ t ≤ 1000000)) :
    Calls Tryz.prog 5 #[.agg #[.int .i64 kd, .int .i64 bb, .int .i64 rr, .int .i64 ee, .int .i64 ww, .int .i64 vv, .int .i64 ll, .int .i64 pp], .int .i64 t, .int .i64 f] w fun e w' => e = .returned (.tuple #[.int .i64 0, .int .i64 1]) ∧ Ext w w' := by
  cases hR : rightS kd bb rr ee ww vv ll pp f
  · have HR := Lib.hid hR
    clear hR h
    obtain ⟨W0, hW0⟩ : ∃ W0, W0 = (w.alloc (.cells #[.int .i64 kd, .int .i64 bb, .int .i64 rr, .int .i64 ee, .int .i64 ww, .int .i64 vv, .int .i64 ll, .int .i64 pp] 23)) := ⟨_, rfl⟩
    have E0 : Ext w W0 := by rw [hW0]; exact (Ext.alloc1 w (.cells #[.int .i64 kd, .int .i64 bb, .int .i64 rr, .int .i64 ee, .int .i64 ww, .int .i64 vv, .int .i64 ll, .int .i64 pp] 23))
    have p3 : BxA W0 w.heap.size 23 #[.int .i64 kd, .int .i64 bb, .int .i64 rr, .int .i64 ee, .int .i64 ww, .int .i64 vv, .int .i64 ll, .int .i64 pp] := by rw [hW0]; exact (BxA.new w 23 #[.int .i64 kd, .int .i64 bb, .int .i64 rr, .int .i64 ee, .int .i64 ww, .int .i64 vv, .int .i64 ll, .int .i64 pp])
    go_enter Tryz.func5, Tryz.ntmps5
    obtain ⟨kp3_0, kp3_1, kp3_2, kp3_3, kp3_4, kp3_5, kp3_6, kp3_7⟩ := p3.cells8
    go_wp2_with fail
    rw [← hW0]
    clear hW0
    clear kp3_0 kp3_1 kp3_2 kp3_3 kp3_4 kp3_5 kp3_6 kp3_7
    refine (Tryz.refRight15 kd bb rr ee ww vv ll pp f _).mono ?_
    rintro e V18 ⟨rfl, hE⟩
    rw [HR.out]
    replace E0 := (Ext.trans E0 hE)
    replace p3 := (p3.ext hE)
    clear hE
    go_wp2
    go_ret2
    exact ⟨rfl, E0⟩
  · have HR := Lib.hid hR
    have HT : Hid (inB t 1 1000000 = false) := Lib.hid (inB_f (h.resolve_left (by rw [hR]; exact Bool.noConfusion)))
    clear hR h
    obtain ⟨W0, hW0⟩ : ∃ W0, W0 = (w.alloc (.cells #[.int .i64 kd, .int .i64 bb, .int .i64 rr, .int .i64 ee, .int .i64 ww, .int .i64 vv, .int .i64 ll, .int .i64 pp] 23)) := ⟨_, rfl⟩
    have E0 : Ext w W0 := by rw [hW0]; exact (Ext.alloc1 w (.cells #[.int .i64 kd, .int .i64 bb, .int .i64 rr, .int .i64 ee, .int .i64 ww, .int .i64 vv, .int .i64 ll, .int .i64 pp] 23))
    have p3 : BxA W0 w.heap.size 23 #[.int .i64 kd, .int .i64 bb, .int .i64 rr, .int .i64 ee, .int .i64 ww, .int .i64 vv, .int .i64 ll, .int .i64 pp] := by rw [hW0]; exact (BxA.new w 23 #[.int .i64 kd, .int .i64 bb, .int .i64 rr, .int .i64 ee, .int .i64 ww, .int .i64 vv, .int .i64 ll, .int .i64 pp])
    go_enter Tryz.func5, Tryz.ntmps5
    obtain ⟨kp3_0, kp3_1, kp3_2, kp3_3, kp3_4, kp3_5, kp3_6, kp3_7⟩ := p3.cells8
    go_wp2_with fail
    rw [← hW0]
    clear hW0
    clear kp3_0 kp3_1 kp3_2 kp3_3 kp3_4 kp3_5 kp3_6 kp3_7
    refine (Tryz.refRight15 kd bb rr ee ww vv ll pp f _).mono ?_
    rintro e V19 ⟨rfl, hE⟩
    rw [HR.out]
    replace E0 := (Ext.trans E0 hE)
    replace p3 := (p3.ext hE)
    clear hE
    obtain ⟨kp3_0, kp3_1, kp3_2, kp3_3, kp3_4, kp3_5, kp3_6, kp3_7⟩ := p3.cells8
    go_wp2_with fail
    clear kp3_0 kp3_1 kp3_2 kp3_3 kp3_4 kp3_5 kp3_6 kp3_7
    refine (Tryz.refIn15 t 1 1000000 _).mono ?_
    rintro e V20 ⟨rfl, rfl⟩
    rw [HT.out]
    go_wp2
    go_ret2
    exact ⟨rfl, E0⟩


end Go.Rt
