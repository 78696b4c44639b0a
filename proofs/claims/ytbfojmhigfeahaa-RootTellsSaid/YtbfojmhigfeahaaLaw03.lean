/-
  The laws of chapter 03 (roots): their walks.
-/
import Derived.Test.YtbfojmhigfeahaaRootC
import Derived.Test.YtbfojmhigfeahaaLaw02b
namespace Go.Rt
open Go.RowKit Go.Shelf Go.Proofs

def gv3 (xs : List Nat) (m : Int) : Bool := decide ((xs.length : Int) ≤ m) && normB xs
theorem gv3_iff {xs : List Nat} {m : Int} (h : gv3 xs m = true) : (xs.length : Int) ≤ m ∧ Norm xs := by
  unfold gv3 at h
  rw [Bool.and_eq_true] at h
  exact ⟨by simpa using h.1, normB_iff.1 h.2⟩

theorem Try.given03 {v : Value} {xs : List Nat} {w : World} (h : Nt w v xs) (m : Int) :
    Calls Try.prog 39 #[v, .int .i64 m] w fun e w' => e = .returned (.bool (gv3 xs m)) ∧ w = w' := by
  have h' := h
  obtain ⟨a, b, o, cap, rfl, hs, hl⟩ := h
  clear hs
  by_cases hm : (xs.length : Int) ≤ m
  · have HB : Hid (gv3 xs m = normB xs) := Lib.hid (by unfold gv3; rw [decide_eq_true hm, Bool.true_and])
    go_enter Try.func39, Try.ntmps39
    go_wp2_with fail
    refine (Try.refRight h').mono ?_
    rintro e w' ⟨rfl, rfl⟩
    go_wp2
    all_goals go_ret
    all_goals exact ⟨ret_b (by rw [HB.out]), rfl⟩
  · have HB : Hid (gv3 xs m = false) := Lib.hid (by unfold gv3; rw [decide_eq_false hm, Bool.false_and])
    have hm2 : decide ((xs.length : Int) ≤ m) = false := decide_eq_false hm
    go_enter Try.func39, Try.ntmps39
    go_wp2
    all_goals go_ret
    all_goals exact ⟨ret_b (by rw [HB.out]), rfl⟩

theorem rootE_in {k : Int} (h : 1 ≤ k ∧ k ≤ 16) : rootE k = 0 := if_pos h
theorem rootV_in {A : Nat} {k : Int} (h : 1 ≤ k ∧ k ≤ 16) : rootV A k = rt A k.toNat := if_pos h
theorem rootU_in {A : Nat} {k : Int} (h : 1 ≤ k ∧ k ≤ 16) : rootU A k = rtUp A k.toNat := if_pos h
theorem powV_in {A : Nat} {k : Int} (h : 1 ≤ k ∧ k ≤ 16) : powV A k = A ^ k.toNat := if_pos h

set_option maxRecDepth 100000 in
set_option maxHeartbeats 1000000 in
theorem Try.alive03 (w : World) : Calls Try.prog 40 #[] w fun e w' => e = .returned (.bool true) ∧ Ext w w' := by
  have b26 : 26 < B64 := by rw [B64_eq]; omega
  have b3 : 3 < B64 := by rw [B64_eq]; omega
  have r1 : rt 26 3 = 2 := rt_eq (by omega) ⟨by decide, by decide⟩
  have e1 : rootV 26 3 = 2 := by rw [rootV_in (by omega)]; exact r1
  have e2 : rootU 26 3 = 3 := by
    rw [rootU_in (by omega)]
    show rtUp 26 3 = 3
    unfold rtUp
    rw [r1, if_neg (by decide)]
  have e3 : powV 3 3 = 27 := by decide
  have f1 : rootE 3 = 0 := by decide
  have f2 : rootE 0 = 1 := by decide
  have H1 := Lib.hid e1
  have H2 := Lib.hid e2
  have H3 := Lib.hid e3
  have F1 := Lib.hid f1
  have F2 := Lib.hid f2
  clear e1 e2 e3 f1 f2 r1
  go_enter Try.func40, Try.ntmps40
  have E := Ext.refl w
  go_wp2_with fail
  refine (Try.rootRoot (L := 1) (Nw.lit1 w 26 43 b26 (by omega)) (Sm.one b26) (by omega) 3).mono ?_
  rintro e w1 ⟨v1, rfl, hx, hE⟩
  replace E := (E.alloc _).trans hE
  rw [H1.out] at hx
  rw [F1.out]
  obtain ⟨x1, x2, x3, rfl, x4, x5, x6⟩ := hx.cells (L := 0) (by decide) (by decide)
  have x7 := x6 0 (by omega)
  simp only [Nat.pow_zero, Nat.div_one, Nat.add_zero, B64_eq] at x7
  clear hx x6 hE
  go_wp2_with fail
  refine (Try.rootUp (L := 1) (Nw.lit1 w1 26 43 b26 (by omega)) (Sm.one b26) (by omega) 3).mono ?_
  rintro e w2 ⟨v2, rfl, hy, hE⟩
  rw [H2.out] at hy
  rw [F1.out]
  replace hE := (Ext.alloc1 w1 _).trans hE
  replace E := E.trans hE
  replace x7 := hE.cell x7
  obtain ⟨y1, y2, y3, rfl, y4, y5, y6⟩ := hy.cells (L := 0) (by decide) (by decide)
  have y7 := y6 0 (by omega)
  simp only [Nat.pow_zero, Nat.div_one, Nat.add_zero, B64_eq] at y7
  clear hy y6 hE
  go_wp2_with fail
  refine (Try.rootPow (L := 1) (Nw.lit1 w2 3 43 b3 (by omega)) (Sm.one b3) (by omega) 3).mono ?_
  rintro e w3 ⟨v3, rfl, hz, hE⟩
  rw [H3.out] at hz
  rw [F1.out]
  replace hE := (Ext.alloc1 w2 _).trans hE
  replace E := E.trans hE
  replace x7 := hE.cell x7
  replace y7 := hE.cell y7
  obtain ⟨z1, z2, z3, rfl, z4, z5, z6⟩ := hz.cells (L := 0) (by decide) (by decide)
  have z7 := z6 0 (by omega)
  simp only [Nat.pow_zero, Nat.div_one, Nat.add_zero, B64_eq] at z7
  clear hz z6 hE
  go_wp2_with fail
  refine (Try.rootRoot (L := 1) (Nw.lit1 w3 26 43 b26 (by omega)) (Sm.one b26) (by omega) 0).mono ?_
  rintro e w4 ⟨v4, rfl, -, hE⟩
  rw [F2.out]
  replace hE := (Ext.alloc1 w3 _).trans hE
  replace E := E.trans hE
  replace x7 := hE.cell x7
  replace y7 := hE.cell y7
  replace z7 := hE.cell z7
  clear hE b26 b3
  go_wp2
  go_ret
  exact ⟨rfl, E⟩

set_option maxHeartbeats 1000000 in
theorem Try.lawRTells {v : Value} {xs : List Nat} {w : World} (h : Nt w v xs) (k : Int) :
    Calls Try.prog 9 #[v, .int .i64 k] w fun e w' => e = .returned (.bool true) ∧ Ext w w' := by
  have h' := h
  obtain ⟨a, b, o, cap, rfl, hs, hl⟩ := h
  clear hs
  go_enter Try.func9, Try.ntmps9
  have E := Ext.refl w
  go_wp2_with fail
  refine (Try.given03 h' 6).mono ?_
  rintro e w101 ⟨rfl, rfl⟩
  cases hgv : gv3 xs 6
  · clear hgv
    go_wp2_with fail
    refine (Try.alive03 _).mono ?_
    rintro e w1 ⟨rfl, hE1⟩
    go_wp2
    go_ret
    exact ⟨rfl, E.trans hE1⟩
  · obtain ⟨g1, g2⟩ := gv3_iff hgv
    have hs := Sm.of_len (L := 6) hl (by omega)
    have hN : Nw w (.slice a xs.length cap) (ev B64 xs) := ⟨xs, h', g2, rfl⟩
    generalize ev B64 xs = N at *
    clear hgv
    go_wp2_with fail
    refine (Try.rootRoot hN hs (by omega) k).mono ?_
    rintro e w102 ⟨v1, rfl, hx1, hE⟩
    replace E := E.trans hE
    replace hN := hN.ext hE
    clear hE
    go_wp2_with fail
    refine (Try.refRoot hN hs (by omega) k).mono ?_
    rintro e w103 ⟨v2, rfl, hx2, hE⟩
    replace E := E.trans hE
    replace hN := hN.ext hE
    replace hx1 := hx1.ext hE
    clear hE
    go_wp2_with fail
    refine (Try.rootUp hN hs (by omega) k).mono ?_
    rintro e w104 ⟨v3, rfl, hy1, hE⟩
    replace E := E.trans hE
    replace hN := hN.ext hE
    replace hx1 := hx1.ext hE
    replace hx2 := hx2.ext hE
    clear hE
    go_wp2_with fail
    refine (Try.refUp hN hs (by omega) k).mono ?_
    rintro e w105 ⟨v4, rfl, hy2, hE⟩
    replace E := E.trans hE
    replace hN := hN.ext hE
    replace hx1 := hx1.ext hE
    replace hx2 := hx2.ext hE
    replace hy1 := hy1.ext hE
    clear hE
    go_wp2_with fail
    refine (Try.rootPow hN hs (by omega) k).mono ?_
    rintro e w106 ⟨v5, rfl, hz1, hE⟩
    replace E := E.trans hE
    replace hN := hN.ext hE
    replace hx1 := hx1.ext hE
    replace hx2 := hx2.ext hE
    replace hy1 := hy1.ext hE
    replace hy2 := hy2.ext hE
    clear hE
    go_wp2_with fail
    refine (Try.refPow hN hs (by omega) k).mono ?_
    rintro e w107 ⟨v6, rfl, hz2, hE⟩
    replace E := E.trans hE
    replace hx1 := hx1.ext hE
    replace hx2 := hx2.ext hE
    replace hy1 := hy1.ext hE
    replace hy2 := hy2.ext hE
    replace hz1 := hz1.ext hE
    clear hE
    go_wp2_with fail
    refine (Try.alive03 _).mono ?_
    rintro e w108 ⟨rfl, hE⟩
    replace E := E.trans hE
    replace hx1 := hx1.ext hE
    replace hx2 := hx2.ext hE
    replace hy1 := hy1.ext hE
    replace hy2 := hy2.ext hE
    replace hz1 := hz1.ext hE
    replace hz2 := hz2.ext hE
    clear hE
    go_wp2_with fail
    refine (Try.sameT hx1 hx2 rfl).mono ?_
    rintro e w109 ⟨rfl, hE⟩
    replace E := E.trans hE
    replace hy1 := hy1.ext hE
    replace hy2 := hy2.ext hE
    replace hz1 := hz1.ext hE
    replace hz2 := hz2.ext hE
    clear hE
    go_wp2_with fail
    refine (Try.sameT hy1 hy2 rfl).mono ?_
    rintro e w110 ⟨rfl, hE⟩
    replace E := E.trans hE
    replace hz1 := hz1.ext hE
    replace hz2 := hz2.ext hE
    clear hE
    go_wp2_with fail
    refine (Try.sameT hz1 hz2 rfl).mono ?_
    rintro e w111 ⟨rfl, hE⟩
    replace E := E.trans hE
    clear hE
    go_wp2
    go_ret
    exact ⟨rfl, E⟩

set_option maxHeartbeats 2000000 in
theorem Try.lawRBack {v : Value} {xs : List Nat} {w : World} (h : Nt w v xs) (k : Int) :
    Calls Try.prog 11 #[v, .int .i64 k] w fun e w' => e = .returned (.bool true) ∧ Ext w w' := by
  have h' := h
  obtain ⟨a, b, o, cap, rfl, hs, hl⟩ := h
  clear hs
  go_enter Try.func11, Try.ntmps11
  have E := Ext.refl w
  go_wp2_with fail
  refine (Try.given03 h' 2).mono ?_
  rintro e w112 ⟨rfl, rfl⟩
  cases hgv : gv3 xs 2
  · clear hgv
    go_wp2_with fail
    refine (Try.alive03 _).mono ?_
    rintro e w1 ⟨rfl, hE1⟩
    go_wp2
    go_ret
    exact ⟨rfl, E.trans hE1⟩
  by_cases k1 : k < 2
  · clear hgv
    go_wp2_with fail
    refine (Try.alive03 _).mono ?_
    rintro e w1 ⟨rfl, hE1⟩
    go_wp2
    go_ret
    exact ⟨rfl, E.trans hE1⟩
  by_cases k2 : 16 < k
  · clear hgv
    go_wp2_with fail
    refine (Try.alive03 _).mono ?_
    rintro e w1 ⟨rfl, hE1⟩
    go_wp2
    go_ret
    exact ⟨rfl, E.trans hE1⟩
  cases k4 : ((xs.length : Int) == 0)
  case true =>
    clear hgv
    go_wp2_with fail
    refine (Try.alive03 _).mono ?_
    rintro e w1 ⟨rfl, hE1⟩
    go_wp2
    go_ret
    exact ⟨rfl, E.trans hE1⟩
  obtain ⟨g1, g2⟩ := gv3_iff hgv
  have hs := Sm.of_len (L := 2) hl (by omega)
  have hN : Nw w (.slice a xs.length cap) (ev B64 xs) := ⟨xs, h', g2, rfl⟩
  have hz := hN.lenS.1
  generalize ev B64 xs = N at *
  have hN0 : 0 < N := Nat.pos_of_ne_zero (fun e => by have := hz.2 e; have := beq_eq_false_iff_ne.1 k4; omega)
  obtain ⟨m, rfl⟩ := Int.eq_ofNat_of_zero_le (show 0 ≤ k by omega)
  have hm1 : 1 ≤ m := by omega
  have hr : 1 ≤ (m : Int) ∧ (m : Int) ≤ 16 := by omega
  have F := Lib.hid (rootE_in hr)
  have H1 : Hid (powV N (m : Int) = N ^ m) := Lib.hid (powV_in hr)
  have hpp : 0 < N ^ m := Nat.pow_pos hN0
  have hrt : rt (N ^ m) m = N := rt_eq hm1 ⟨Nat.le_refl _, (pow_lt_iff hm1).2 (by omega)⟩
  have H2 : Hid (rootV (N ^ m) (m : Int) = N) := Lib.hid (by rw [rootV_in hr]; exact hrt)
  have H3 : Hid (rootU (N ^ m) (m : Int) = N) := Lib.hid (by
    rw [rootU_in hr]
    show rtUp (N ^ m) m = N
    unfold rtUp
    rw [hrt, if_pos rfl])
  have hrt2 : rt (N ^ m - 1) m = N - 1 := by
    refine rt_eq hm1 ⟨?_, ?_⟩
    · have := (pow_lt_iff hm1).2 (show N - 1 < N by omega); omega
    · rw [show N - 1 + 1 = N from by omega]; omega
  have H4 : Hid (rootV (N ^ m - 1) (m : Int) = N - 1) := Lib.hid (by rw [rootV_in hr]; exact hrt2)
  have H5 : Hid ((N = 1 ∧ rootU (N ^ m - 1) (m : Int) = N - 1) ∨ (N ≠ 1 ∧ rootU (N ^ m - 1) (m : Int) = N)) := Lib.hid (by
    rw [rootU_in hr]
    show (N = 1 ∧ rtUp (N ^ m - 1) m = N - 1) ∨ (N ≠ 1 ∧ rtUp (N ^ m - 1) m = N)
    unfold rtUp
    rw [hrt2]
    by_cases h1 : N = 1
    · left
      refine ⟨h1, if_pos ?_⟩
      rw [h1, Nat.one_pow, Nat.sub_self, Nat.zero_pow (by omega)]
    · right
      refine ⟨h1, ?_⟩
      rw [if_neg, show N - 1 + 1 = N from by omega]
      have h2 : (N - 1) ^ m < (N - 1) * N ^ (m - 1) + 1 := by
        rw [pow_succ_pred (b := N - 1) (show 0 < m by omega), Nat.mul_comm]
        have := Nat.mul_le_mul_left (N - 1) (Nat.pow_le_pow_left (show N - 1 ≤ N by omega) (m - 1))
        omega
      have h3 : N ^ m = N ^ (m - 1) * N := pow_succ_pred (by omega)
      have h4 : 2 ^ 1 ≤ N ^ (m - 1) := Nat.le_trans (Nat.pow_le_pow_left (show 2 ≤ N by omega) 1) (Nat.pow_le_pow_right (by omega) (by omega))
      have h5 : (N - 1) * N ^ (m - 1) + N ^ (m - 1) = N ^ m := by
        rw [h3, Nat.mul_comm _ N]
        obtain ⟨t, rfl⟩ : ∃ t, N = t + 1 := ⟨N - 1, by omega⟩
        rw [Nat.add_sub_cancel, Nat.add_mul, Nat.one_mul]
      omega)
  have b1 : 1 < B64 := by rw [B64_eq]; omega
  have sp : Sm 33 (N ^ m) := (hs.pow m).mono (by omega)
  have sl : Sm 33 (N ^ m - 1) := sp.le (by omega)
  have hpz : N ^ m ≠ 0 := by omega
  generalize N ^ m = P at *
  clear hgv hz hrt hrt2
  go_wp2_with fail
  refine (Try.rootPow hN hs (by omega) (m : Int)).mono ?_
  rintro e w113 ⟨v1, rfl, hp, hE⟩
  replace E := E.trans hE
  replace hN := hN.ext hE
  clear hE
  rw [F.out]
  rw [H1.out] at hp
  go_wp2_with fail
  refine (Try.rootRoot hp sp (by omega) (m : Int)).mono ?_
  rintro e w114 ⟨v2, rfl, hx, hE⟩
  replace E := E.trans hE
  replace hN := hN.ext hE
  replace hp := hp.ext hE
  clear hE
  rw [F.out]
  rw [H2.out] at hx
  go_wp2_with fail
  refine (Try.rootUp hp sp (by omega) (m : Int)).mono ?_
  rintro e w115 ⟨v3, rfl, hu, hE⟩
  replace E := E.trans hE
  replace hN := hN.ext hE
  replace hp := hp.ext hE
  replace hx := hx.ext hE
  clear hE
  rw [F.out]
  rw [H3.out] at hu
  obtain ⟨pa, pn, pc, rfl, pz, -⟩ := hp.len
  have pz0 : ((pn : Int) == 0) = false := bne0 (fun e => hpz (pz.1 e))
  clear pz
  go_wp2_with fail
  refine (Try.sameT hx hN rfl).mono ?_
  rintro e w116 ⟨rfl, hE⟩
  replace E := E.trans hE
  replace hN := hN.ext hE
  replace hp := hp.ext hE
  replace hu := hu.ext hE
  clear hE
  go_wp2_with fail
  refine (Try.sameT hu hN rfl).mono ?_
  rintro e w117 ⟨rfl, hE⟩
  replace E := E.trans hE
  replace hN := hN.ext hE
  replace hp := hp.ext hE
  clear hE
  go_wp2_with fail
  refine (Try.refOf 1 _ b1).mono ?_
  rintro e w118 ⟨u1, rfl, h1, hE, -⟩
  replace E := E.trans hE
  replace hN := hN.ext hE
  replace hp := hp.ext hE
  clear hE
  go_wp2_with fail
  refine (Try.refSub hp h1 sp ((Sm.one b1).mono (by omega)) (by omega)).mono ?_
  rintro e w119 ⟨u2, rfl, hl', hE, -⟩
  replace E := E.trans hE
  replace hN := hN.ext hE
  clear hE
  go_wp2_with fail
  refine (Try.rootRoot hl' sl (by omega) (m : Int)).mono ?_
  rintro e w120 ⟨v4, rfl, hy, hE⟩
  replace E := E.trans hE
  replace hN := hN.ext hE
  replace hl' := hl'.ext hE
  clear hE
  rw [H4.out] at hy
  go_wp2_with fail
  refine (Try.rootUp hl' sl (by omega) (m : Int)).mono ?_
  rintro e w121 ⟨v5, rfl, hv, hE⟩
  replace E := E.trans hE
  replace hN := hN.ext hE
  replace hy := hy.ext hE
  clear hE
  go_wp2_with fail
  refine (Try.refOf 1 _ b1).mono ?_
  rintro e w122 ⟨u3, rfl, h1', hE, -⟩
  replace E := E.trans hE
  replace hN := hN.ext hE
  replace hy := hy.ext hE
  replace hv := hv.ext hE
  clear hE
  go_wp2_with fail
  refine (Try.refSub hN h1' hs ((Sm.one b1).mono (by omega)) (by omega)).mono ?_
  rintro e w123 ⟨u4, rfl, hb, hE, -⟩
  replace E := E.trans hE
  replace hN := hN.ext hE
  replace hy := hy.ext hE
  replace hv := hv.ext hE
  clear hE
  obtain ⟨ba, bn, bc, rfl, bz, -⟩ := hb.len
  rcases H5.out with ⟨n1, hU⟩ | ⟨n1, hU⟩
  · have bz0 : ((bn : Int) == 0) = true := beq0 (bz.2 (by omega))
    rw [hU] at hv
    clear bz H5 hU n1
    go_wp2_with fail
    refine (Try.sameT hv hb rfl).mono ?_
    rintro e w124 ⟨rfl, hE⟩
    replace E := E.trans hE
    replace hy := hy.ext hE
    replace hb := hb.ext hE
    clear hE
    go_wp2_with fail
    refine (Try.alive03 _).mono ?_
    rintro e w125 ⟨rfl, hE⟩
    replace E := E.trans hE
    replace hy := hy.ext hE
    replace hb := hb.ext hE
    clear hE
    go_wp2_with fail
    refine (Try.sameT hy hb rfl).mono ?_
    rintro e w126 ⟨rfl, hE⟩
    replace E := E.trans hE
    clear hE
    go_wp2
    go_ret
    exact ⟨rfl, E⟩
  · have bz0 : ((bn : Int) == 0) = false := bne0 (fun e => by have := bz.1 e; omega)
    rw [hU] at hv
    clear bz H5 hU n1
    go_wp2_with fail
    refine (Try.sameT hv hN rfl).mono ?_
    rintro e w127 ⟨rfl, hE⟩
    replace E := E.trans hE
    replace hy := hy.ext hE
    replace hb := hb.ext hE
    clear hE
    go_wp2_with fail
    refine (Try.alive03 _).mono ?_
    rintro e w128 ⟨rfl, hE⟩
    replace E := E.trans hE
    replace hy := hy.ext hE
    replace hb := hb.ext hE
    clear hE
    go_wp2_with fail
    refine (Try.sameT hy hb rfl).mono ?_
    rintro e w129 ⟨rfl, hE⟩
    replace E := E.trans hE
    clear hE
    go_wp2
    go_ret
    exact ⟨rfl, E⟩

end Go.Rt
