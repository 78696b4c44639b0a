/-
  Two laws more of chapter 03: their walks.
-/
import Derived.Test.YtbfojmhigfeahaaLaw03b
namespace Go.Rt
open Go.RowKit Go.Shelf Go.Proofs

theorem rtUp_le_iff {A k s : Nat} (hk : 1 ≤ k) : rtUp A k ≤ s ↔ A ≤ s ^ k := by
  obtain ⟨h1, h2⟩ := rt_is A hk
  unfold rtUp
  by_cases h : rt A k ^ k = A
  · rw [if_pos h]
    constructor
    · intro h3
      have := Nat.pow_le_pow_left h3 k
      omega
    · intro h3
      rw [← h] at h3
      exact (pow_le_iff hk).1 h3
  · rw [if_neg h]
    constructor
    · intro h3
      exact Nat.le_trans (Nat.le_of_lt h2) (Nat.pow_le_pow_left h3 k)
    · intro h3
      rcases Nat.lt_or_ge (rt A k) s with h4 | h4
      · exact h4
      · have := Nat.pow_le_pow_left h4 k
        omega
theorem rt_times {A B k : Nat} (hk : 1 ≤ k) : rt A k * rt B k ≤ rt (A * B) k := by
  rw [le_rt_iff hk, Nat.mul_pow]
  exact Nat.mul_le_mul (rt_is A hk).1 (rt_is B hk).1
theorem rtUp_times {A B k : Nat} (hk : 1 ≤ k) : rtUp (A * B) k ≤ rtUp A k * rtUp B k := by
  rw [rtUp_le_iff hk, Nat.mul_pow]
  exact Nat.mul_le_mul ((rtUp_le_iff hk).1 (Nat.le_refl _)) ((rtUp_le_iff hk).1 (Nat.le_refl _))
theorem rtUp_sm {A L k : Nat} (hk : 1 ≤ k) (s : Sm L A) : Sm (L + 1) (rtUp A k) := by
  have h := rt_le (a := A) hk
  have h2 : rtUp A k ≤ A + 1 := by unfold rtUp; split <;> omega
  unfold Sm at *
  have h3 : B64 ^ L * 2 ≤ B64 ^ (L + 1) := by rw [Nat.pow_succ]; exact Nat.mul_le_mul_left _ B64_two_le
  have h4 : 0 < B64 ^ L := Nat.pow_pos B64_pos
  omega

set_option maxHeartbeats 2000000 in
theorem Try.lawRTimes {v1 v2 : Value} {xs ys : List Nat} {w : World} (h1 : Nt w v1 xs) (h2 : Nt w v2 ys) (k : Int) :
    Calls Try.prog 14 #[v1, v2, .int .i64 k] w fun e w' => e = .returned (.bool true) ∧ Ext w w' := by
  have h1' := h1
  have h2' := h2
  obtain ⟨a1, b1, o1, c1, rfl, hs1, hl1⟩ := h1
  obtain ⟨a2, b2, o2, c2, rfl, hs2, hl2⟩ := h2
  clear hs1 hs2
  go_enter Try.func14, Try.ntmps14
  have E := Ext.refl w
  go_wp2_with fail
  refine (Try.given03 h1' 3).mono ?_
  rintro e w101 ⟨rfl, rfl⟩
  cases hgv : gv3 xs 3
  · clear hgv
    go_wp2_with fail
    refine (Try.alive03 _).mono ?_
    rintro e w1 ⟨rfl, hE1⟩
    go_wp2
    go_ret
    exact ⟨rfl, E.trans hE1⟩
  obtain ⟨g1, g2⟩ := gv3_iff hgv
  clear hgv
  go_wp2_with fail
  refine (Try.given03 h2' 3).mono ?_
  rintro e w102 ⟨rfl, rfl⟩
  cases hgv : gv3 ys 3
  · clear hgv
    go_wp2_with fail
    refine (Try.alive03 _).mono ?_
    rintro e w1 ⟨rfl, hE1⟩
    go_wp2
    go_ret
    exact ⟨rfl, E.trans hE1⟩
  obtain ⟨g3, g4⟩ := gv3_iff hgv
  clear hgv
  by_cases k1 : k < 1
  · skip
    go_wp2_with fail
    refine (Try.alive03 _).mono ?_
    rintro e w1 ⟨rfl, hE1⟩
    go_wp2
    go_ret
    exact ⟨rfl, E.trans hE1⟩
  by_cases k2 : 16 < k
  · skip
    go_wp2_with fail
    refine (Try.alive03 _).mono ?_
    rintro e w1 ⟨rfl, hE1⟩
    go_wp2
    go_ret
    exact ⟨rfl, E.trans hE1⟩
  have s1 := Sm.of_len (L := 3) hl1 (by omega)
  have s2 := Sm.of_len (L := 3) hl2 (by omega)
  have hA : Nw w (.slice a1 xs.length c1) (ev B64 xs) := ⟨xs, h1', g2, rfl⟩
  have hB : Nw w (.slice a2 ys.length c2) (ev B64 ys) := ⟨ys, h2', g4, rfl⟩
  generalize ev B64 xs = A at *
  generalize ev B64 ys = B at *
  obtain ⟨m, rfl⟩ := Int.eq_ofNat_of_zero_le (show 0 ≤ k by omega)
  have hm : 1 ≤ m := by omega
  have hm2 : m ≤ 16 := by omega
  have r1 : 1 ≤ (m : Int) ∧ (m : Int) ≤ 16 := by omega
  have HV : ∀ X, Hid (rootV X (m : Int) = rt X m) := fun X => Lib.hid (rootV_in r1)
  have HU : ∀ X, Hid (rootU X (m : Int) = rtUp X m) := fun X => Lib.hid (rootU_in r1)
  have HP : ∀ X, Hid (powV X (m : Int) = X ^ m) := fun X => Lib.hid (powV_in r1)
  have F := Lib.hid (rootE_in r1)
  have low := rt_times (A := A) (B := B) hm
  have high := rtUp_times (A := A) (B := B) hm
  have HM : Hid ((A * B) ^ m = A ^ m * B ^ m) := Lib.hid (Nat.mul_pow A B m)
  have sp : Sm 6 (A * B) := s1.mul s2
  have sx : Sm 3 (rt A m) := s1.le (rt_le hm)
  have sy : Sm 3 (rt B m) := s2.le (rt_le hm)
  have su : Sm 4 (rtUp A m) := rtUp_sm hm s1
  have sv : Sm 4 (rtUp B m) := rtUp_sm hm s2
  have t1 : Sm 49 (A ^ m) := (s1.pow m).mono (by omega)
  have t2 : Sm 49 (B ^ m) := (s2.pow m).mono (by omega)
  go_wp2_with fail
  refine (Try.refMul hA hB s1 s2 (by omega)).mono ?_
  rintro e w103 ⟨p, rfl, hp, hE, -⟩
  replace E := E.trans hE
  replace hA := hA.ext hE
  replace hB := hB.ext hE
  clear hE
  obtain ⟨pa, pn, pc, rfl, -, -⟩ := hp.len
  go_wp2_with fail
  refine (Try.rootRoot hA s1 (by omega) (m : Int)).mono ?_
  rintro e w104 ⟨v1, rfl, hx, hE⟩
  replace E := E.trans hE
  replace hA := hA.ext hE
  replace hB := hB.ext hE
  replace hp := hp.ext hE
  clear hE
  rw [(HV A).out] at hx
  rw [F.out]
  go_wp2_with fail
  refine (Try.rootRoot hB s2 (by omega) (m : Int)).mono ?_
  rintro e w105 ⟨v2, rfl, hy, hE⟩
  replace E := E.trans hE
  replace hA := hA.ext hE
  replace hB := hB.ext hE
  replace hp := hp.ext hE
  replace hx := hx.ext hE
  clear hE
  rw [(HV B).out] at hy
  rw [F.out]
  go_wp2_with fail
  refine (Try.rootRoot hp sp (by omega) (m : Int)).mono ?_
  rintro e w106 ⟨v3, rfl, hz, hE⟩
  replace E := E.trans hE
  replace hA := hA.ext hE
  replace hB := hB.ext hE
  replace hp := hp.ext hE
  replace hx := hx.ext hE
  replace hy := hy.ext hE
  clear hE
  rw [(HV _).out] at hz
  rw [F.out]
  go_wp2_with fail
  refine (Try.rootUp hA s1 (by omega) (m : Int)).mono ?_
  rintro e w107 ⟨v4, rfl, hu, hE⟩
  replace E := E.trans hE
  replace hA := hA.ext hE
  replace hB := hB.ext hE
  replace hp := hp.ext hE
  replace hx := hx.ext hE
  replace hy := hy.ext hE
  replace hz := hz.ext hE
  clear hE
  rw [(HU A).out] at hu
  rw [F.out]
  go_wp2_with fail
  refine (Try.rootUp hB s2 (by omega) (m : Int)).mono ?_
  rintro e w108 ⟨v5, rfl, hv, hE⟩
  replace E := E.trans hE
  replace hA := hA.ext hE
  replace hB := hB.ext hE
  replace hp := hp.ext hE
  replace hx := hx.ext hE
  replace hy := hy.ext hE
  replace hz := hz.ext hE
  replace hu := hu.ext hE
  clear hE
  rw [(HU B).out] at hv
  rw [F.out]
  go_wp2_with fail
  refine (Try.rootUp hp sp (by omega) (m : Int)).mono ?_
  rintro e w109 ⟨v6, rfl, hw, hE⟩
  replace E := E.trans hE
  replace hA := hA.ext hE
  replace hB := hB.ext hE
  replace hp := hp.ext hE
  replace hx := hx.ext hE
  replace hy := hy.ext hE
  replace hz := hz.ext hE
  replace hu := hu.ext hE
  replace hv := hv.ext hE
  clear hE
  rw [(HU _).out] at hw
  rw [F.out]
  by_cases k3 : (pn : Int) ≤ 3
  · skip
    go_wp2_with fail
    refine (Try.rootPow hA s1 (by omega) (m : Int)).mono ?_
    rintro e w110 ⟨v7, rfl, hs, hE⟩
    replace E := E.trans hE
    replace hB := hB.ext hE
    replace hp := hp.ext hE
    replace hx := hx.ext hE
    replace hy := hy.ext hE
    replace hz := hz.ext hE
    replace hu := hu.ext hE
    replace hv := hv.ext hE
    replace hw := hw.ext hE
    clear hE
    rw [(HP A).out] at hs
    rw [F.out]
    go_wp2_with fail
    refine (Try.rootPow hB s2 (by omega) (m : Int)).mono ?_
    rintro e w111 ⟨v8, rfl, ht, hE⟩
    replace E := E.trans hE
    replace hp := hp.ext hE
    replace hx := hx.ext hE
    replace hy := hy.ext hE
    replace hz := hz.ext hE
    replace hu := hu.ext hE
    replace hv := hv.ext hE
    replace hw := hw.ext hE
    replace hs := hs.ext hE
    clear hE
    rw [(HP B).out] at ht
    rw [F.out]
    go_wp2_with fail
    refine (Try.rootPow hp sp (by omega) (m : Int)).mono ?_
    rintro e w112 ⟨v9, rfl, hb, hE⟩
    replace E := E.trans hE
    replace hx := hx.ext hE
    replace hy := hy.ext hE
    replace hz := hz.ext hE
    replace hu := hu.ext hE
    replace hv := hv.ext hE
    replace hw := hw.ext hE
    replace hs := hs.ext hE
    replace ht := ht.ext hE
    clear hE
    rw [(HP _).out, HM.out] at hb
    rw [F.out]
    go_wp2_with fail
    refine (Try.refMul hs ht t1 t2 (by omega)).mono ?_
    rintro e w113 ⟨w1, rfl, hst, hE, -⟩
    replace E := E.trans hE
    replace hx := hx.ext hE
    replace hy := hy.ext hE
    replace hz := hz.ext hE
    replace hu := hu.ext hE
    replace hv := hv.ext hE
    replace hw := hw.ext hE
    replace hb := hb.ext hE
    clear hE
    go_wp2_with fail
    refine (Try.sameT hb hst rfl).mono ?_
    rintro e w114 ⟨rfl, hE⟩
    replace E := E.trans hE
    replace hx := hx.ext hE
    replace hy := hy.ext hE
    replace hz := hz.ext hE
    replace hu := hu.ext hE
    replace hv := hv.ext hE
    replace hw := hw.ext hE
    clear hE
    go_wp2_with fail
    refine (Try.refMul hx hy sx sy (by omega)).mono ?_
    rintro e w115 ⟨w2, rfl, hxy, hE, -⟩
    replace E := E.trans hE
    replace hz := hz.ext hE
    replace hu := hu.ext hE
    replace hv := hv.ext hE
    replace hw := hw.ext hE
    clear hE
    go_wp2_with fail
    refine (Try.cmpLe hxy hz low).mono ?_
    rintro e w116 ⟨c, rfl, hc, hE⟩
    replace E := E.trans hE
    replace hu := hu.ext hE
    replace hv := hv.ext hE
    replace hw := hw.ext hE
    clear hE
    go_wp2_with fail
    refine (Try.refMul hu hv su sv (by omega)).mono ?_
    rintro e w117 ⟨w3, rfl, huv, hE, -⟩
    replace E := E.trans hE
    replace hw := hw.ext hE
    clear hE
    go_wp2_with fail
    refine (Try.cmpLe hw huv high).mono ?_
    rintro e w118 ⟨d, rfl, hd, hE⟩
    replace E := E.trans hE
    clear hE
    go_wp2_with fail
    refine (Try.alive03 _).mono ?_
    rintro e w119 ⟨rfl, hE⟩
    replace E := E.trans hE
    clear hE
    go_wp2
    go_ret
    exact ⟨rfl, E⟩
  · skip
    go_wp2_with fail
    refine (Try.refMul hx hy sx sy (by omega)).mono ?_
    rintro e w120 ⟨w2, rfl, hxy, hE, -⟩
    replace E := E.trans hE
    replace hz := hz.ext hE
    replace hu := hu.ext hE
    replace hv := hv.ext hE
    replace hw := hw.ext hE
    clear hE
    go_wp2_with fail
    refine (Try.cmpLe hxy hz low).mono ?_
    rintro e w121 ⟨c, rfl, hc, hE⟩
    replace E := E.trans hE
    replace hu := hu.ext hE
    replace hv := hv.ext hE
    replace hw := hw.ext hE
    clear hE
    go_wp2_with fail
    refine (Try.refMul hu hv su sv (by omega)).mono ?_
    rintro e w122 ⟨w3, rfl, huv, hE, -⟩
    replace E := E.trans hE
    replace hw := hw.ext hE
    clear hE
    go_wp2_with fail
    refine (Try.cmpLe hw huv high).mono ?_
    rintro e w123 ⟨d, rfl, hd, hE⟩
    replace E := E.trans hE
    clear hE
    go_wp2_with fail
    refine (Try.alive03 _).mono ?_
    rintro e w124 ⟨rfl, hE⟩
    replace E := E.trans hE
    clear hE
    go_wp2
    go_ret
    exact ⟨rfl, E⟩

set_option maxHeartbeats 2000000 in
theorem Try.lawRBetween {v1 : Value} {xs : List Nat} {w : World} (h1 : Nt w v1 xs) (k : Int) :
    Calls Try.prog 10 #[v1, .int .i64 k] w fun e w' => e = .returned (.bool true) ∧ Ext w w' := by
  have h1' := h1
  obtain ⟨a1, b1, o1, c1, rfl, hs1, hl1⟩ := h1
  clear hs1
  go_enter Try.func10, Try.ntmps10
  have E := Ext.refl w
  go_wp2_with fail
  refine (Try.given03 h1' 12).mono ?_
  rintro e w125 ⟨rfl, rfl⟩
  cases hgv : gv3 xs 12
  · clear hgv
    go_wp2_with fail
    refine (Try.alive03 _).mono ?_
    rintro e w1 ⟨rfl, hE1⟩
    go_wp2
    go_ret
    exact ⟨rfl, E.trans hE1⟩
  obtain ⟨g1, g2⟩ := gv3_iff hgv
  clear hgv
  by_cases k1 : k < 1
  · skip
    go_wp2_with fail
    refine (Try.alive03 _).mono ?_
    rintro e w1 ⟨rfl, hE1⟩
    go_wp2
    go_ret
    exact ⟨rfl, E.trans hE1⟩
  by_cases k2 : 16 < k
  · skip
    go_wp2_with fail
    refine (Try.alive03 _).mono ?_
    rintro e w1 ⟨rfl, hE1⟩
    go_wp2
    go_ret
    exact ⟨rfl, E.trans hE1⟩
  have s1 := Sm.of_len (L := 12) hl1 (by omega)
  have hA : Nw w (.slice a1 xs.length c1) (ev B64 xs) := ⟨xs, h1', g2, rfl⟩
  generalize ev B64 xs = A at *
  obtain ⟨m, rfl⟩ := Int.eq_ofNat_of_zero_le (show 0 ≤ k by omega)
  have hm : 1 ≤ m := by omega
  have hm2 : m ≤ 16 := by omega
  have r1 : 1 ≤ (m : Int) ∧ (m : Int) ≤ 16 := by omega
  have HV : Hid (rootV A (m : Int) = rt A m) := Lib.hid (rootV_in r1)
  have HU : Hid (rootU A (m : Int) = rtUp A m) := Lib.hid (rootU_in r1)
  have F := Lib.hid (rootE_in r1)
  have sx : Sm 12 (rt A m) := s1.le (rt_le hm)
  obtain ⟨hr1, hr2⟩ := rt_is A hm
  have b1 : 1 < B64 := by rw [B64_eq]; omega
  have so : Sm 13 (rt A m + 1) := sx.add ((Sm.one b1).mono (by omega))
  have HU2 : Hid ((rt A m ^ m = A ∧ rtUp A m = rt A m) ∨ (rt A m ^ m ≠ A ∧ rtUp A m = rt A m + 1)) := Lib.hid (by
    unfold rtUp
    by_cases h : rt A m ^ m = A
    · exact .inl ⟨h, if_pos h⟩
    · exact .inr ⟨h, if_neg h⟩)
  generalize rt A m = r at *
  go_wp2_with fail
  refine (Try.rootRoot hA s1 (by omega) (m : Int)).mono ?_
  rintro e w126 ⟨v1, rfl, hx, hE⟩
  replace E := E.trans hE
  replace hA := hA.ext hE
  clear hE
  rw [HV.out] at hx
  rw [F.out]
  go_wp2_with fail
  refine (Try.rootUp hA s1 (by omega) (m : Int)).mono ?_
  rintro e w127 ⟨v2, rfl, hu, hE⟩
  replace E := E.trans hE
  replace hA := hA.ext hE
  replace hx := hx.ext hE
  clear hE
  rw [HU.out] at hu
  rw [F.out]
  obtain ⟨xa, xn, xc, rfl, -, xl⟩ := hx.len
  have xl2 : ¬ (12 : Int) < (xn : Int) := by have := (xl 12).2 sx; omega
  clear xl
  go_wp2_with fail
  refine (Try.rightT hx).mono ?_
  rintro e w128 ⟨rfl, rfl⟩
  go_wp2_with fail
  refine (Try.rightT hu).mono ?_
  rintro e w129 ⟨rfl, rfl⟩
  go_wp2_with fail
  refine (Try.refOf 1 _ b1).mono ?_
  rintro e w130 ⟨u1, rfl, h1, hE, -⟩
  replace E := E.trans hE
  replace hA := hA.ext hE
  replace hx := hx.ext hE
  replace hu := hu.ext hE
  clear hE
  go_wp2_with fail
  refine (Try.refAdd hx h1 sx ((Sm.one b1).mono (by omega)) (by omega)).mono ?_
  rintro e w131 ⟨u2, rfl, ho, hE, -⟩
  replace E := E.trans hE
  replace hA := hA.ext hE
  replace hx := hx.ext hE
  replace hu := hu.ext hE
  clear hE
  go_wp2_with fail
  refine (Try.refOf 1 _ b1).mono ?_
  rintro e w132 ⟨u3, rfl, hlow, hE, -⟩
  replace E := E.trans hE
  replace hA := hA.ext hE
  replace hx := hx.ext hE
  replace hu := hu.ext hE
  replace ho := ho.ext hE
  clear hE
  go_wp2_with fail
  refine (Try.refOf 1 _ b1).mono ?_
  rintro e w133 ⟨u4, rfl, hhigh, hE, -⟩
  replace E := E.trans hE
  replace hA := hA.ext hE
  replace hx := hx.ext hE
  replace hu := hu.ext hE
  replace ho := ho.ext hE
  replace hlow := hlow.ext hE
  clear hE
  go_wp2_with fail
  go_loopw [10, 11, 12] (fun lo hi i wr => ∃ j : Nat, i = .int .i64 (j : Int) ∧ j ≤ m ∧ Nw wr lo (r ^ j) ∧ Nw wr hi ((r + 1) ^ j) ∧ Nw wr (.slice a1 xs.length c1) A ∧ Nw wr (.slice xa xn xc) r ∧ Nw wr v2 (rtUp A m) ∧ Nw wr u2 (r + 1) ∧ Ext w wr) (fun _ _ i _ => m - (intOf i).toNat)
  case atStart => exact ⟨0, rfl, by omega, by rw [Nat.pow_zero]; exact hlow, by rw [Nat.pow_zero]; exact hhigh, hA, hx, hu, ho, E⟩
  case round =>
    obtain ⟨j, rfl, hj, hlo, hhi, qA, qx, qu, qo, qE⟩ := hrel
    clear hlow hhigh hA hx hu ho E
    have E := qE
    by_cases hlt : j < m
    · have hjI : (j : Int) < (m : Int) := by omega
      have t1 : Sm 200 (r ^ j) := (sx.pow j).mono (by omega)
      have t2 : Sm 220 ((r + 1) ^ j) := (so.pow j).mono (by omega)
      go_wp2_with fail
      refine (Try.refMul hlo qx t1 sx (by omega)).mono ?_
      rintro e w134 ⟨p1, rfl, h5, hE, -⟩
      replace E := E.trans hE
      replace qA := qA.ext hE
      replace qx := qx.ext hE
      replace qu := qu.ext hE
      replace qo := qo.ext hE
      replace hhi := hhi.ext hE
      clear hE
      rw [← Nat.pow_succ] at h5
      go_wp2_with fail
      refine (Try.refMul hhi qo t2 so (by omega)).mono ?_
      rintro e w135 ⟨p2, rfl, h6, hE, -⟩
      replace E := E.trans hE
      replace qA := qA.ext hE
      replace qx := qx.ext hE
      replace qu := qu.ext hE
      replace qo := qo.ext hE
      replace h5 := h5.ext hE
      clear hE
      rw [← Nat.pow_succ] at h6
      go_wp2
      go_roundw
      case rel => exact ⟨j + 1, by go_num, by omega, h5, h6, qA, qx, qu, qo, E⟩
      case measure => simp [intOf]; omega
    · obtain rfl : j = m := by omega
      have hjI : ¬ ((j : Int) < (j : Int)) := by omega
      go_wp2_with fail
      refine (Try.cmpLe hlo qA hr1).mono ?_
      rintro e w136 ⟨c, rfl, hc, hE⟩
      replace E := E.trans hE
      replace hlo := hlo.ext hE
      replace hhi := hhi.ext hE
      replace qA := qA.ext hE
      replace qx := qx.ext hE
      replace qu := qu.ext hE
      replace qo := qo.ext hE
      clear hE
      go_wp2_with fail
      refine (Try.cmpGt hhi qA hr2).mono ?_
      rintro e w137 ⟨d, rfl, hd, hE⟩
      replace E := E.trans hE
      replace hlo := hlo.ext hE
      replace qA := qA.ext hE
      replace qx := qx.ext hE
      replace qu := qu.ext hE
      replace qo := qo.ext hE
      clear hE
      rcases HU2.out with ⟨e1, e2⟩ | ⟨e1, e2⟩
      · skip
        go_wp2_with fail
        refine (Try.sameT hlo qA e1).mono ?_
        rintro e w138 ⟨rfl, hE⟩
        replace E := E.trans hE
        replace qx := qx.ext hE
        replace qu := qu.ext hE
        clear hE
        go_wp2_with fail
        refine (Try.alive03 _).mono ?_
        rintro e w139 ⟨rfl, hE⟩
        replace E := E.trans hE
        replace qx := qx.ext hE
        replace qu := qu.ext hE
        clear hE
        rw [e2] at qu
        clear e1 e2
        go_wp2_with fail
        refine (Try.sameT qu qx rfl).mono ?_
        rintro e w140 ⟨rfl, hE⟩
        replace E := E.trans hE
        clear hE
        go_wp2
        go_ret
        exact ⟨rfl, E⟩
      · skip
        go_wp2_with fail
        refine (Try.sameF hlo qA e1).mono ?_
        rintro e w141 ⟨rfl, hE⟩
        replace E := E.trans hE
        replace qo := qo.ext hE
        replace qu := qu.ext hE
        clear hE
        go_wp2_with fail
        refine (Try.alive03 _).mono ?_
        rintro e w142 ⟨rfl, hE⟩
        replace E := E.trans hE
        replace qo := qo.ext hE
        replace qu := qu.ext hE
        clear hE
        rw [e2] at qu
        clear e1 e2
        go_wp2_with fail
        refine (Try.sameT qu qo rfl).mono ?_
        rintro e w143 ⟨rfl, hE⟩
        replace E := E.trans hE
        clear hE
        go_wp2
        go_ret
        exact ⟨rfl, E⟩

end Go.Rt
