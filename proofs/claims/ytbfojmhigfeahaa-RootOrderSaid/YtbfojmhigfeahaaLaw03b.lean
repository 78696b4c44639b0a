/-
  Four laws more of chapter 03: their walks.
-/
import Derived.Test.YtbfojmhigfeahaaLaw03
namespace Go.Rt
open Go.RowKit Go.Shelf Go.Proofs

theorem Try.cmpLe {v1 v2 : Value} {N M : Nat} {w : World} (h1 : Nw w v1 N) (h2 : Nw w v2 M) (hle : N ≤ M) :
    Calls Try.prog 52 #[v1, v2] w fun e w' => ∃ c : Int, e = .returned (.int .i64 c) ∧ c ≤ 0 ∧ Ext w w' := by
  refine (Try.refCmp h1 h2).mono fun e w' ⟨he, hE⟩ => ⟨_, he, ?_, hE⟩
  rcases Nat.lt_or_ge N M with h | h
  · rw [cmpI_nat_lt h]; omega
  · rw [cmpI_nat_eq (by omega)]; omega

theorem Try.cmpGt {v1 v2 : Value} {N M : Nat} {w : World} (h1 : Nw w v1 N) (h2 : Nw w v2 M) (hlt : M < N) :
    Calls Try.prog 52 #[v1, v2] w fun e w' => ∃ c : Int, e = .returned (.int .i64 c) ∧ 0 < c ∧ Ext w w' :=
  (Try.refCmp h1 h2).mono fun _ _ ⟨he, hE⟩ => ⟨_, he, by rw [cmpI_nat_gt hlt]; omega, hE⟩

theorem Try.sameF {v1 v2 : Value} {N M : Nat} {w : World} (h1 : Nw w v1 N) (h2 : Nw w v2 M) (he : N ≠ M) :
    Calls Try.prog 47 #[v1, v2] w fun e w' => e = .returned (.bool false) ∧ Ext w w' := by
  have := Try.refSame h1 h2
  rwa [decide_eq_false he] at this

theorem rt_mono {A B k : Nat} (hk : 1 ≤ k) (h : A ≤ B) : rt A k ≤ rt B k := (le_rt_iff hk).2 (Nat.le_trans (rt_is A hk).1 h)
theorem rt_higher {A k : Nat} (hk : 1 ≤ k) : rt A (k + 1) ≤ rt A k := by
  rw [le_rt_iff hk]
  have h := (rt_is A (show 1 ≤ k + 1 by omega)).1
  rcases Nat.eq_zero_or_pos (rt A (k + 1)) with h0 | h0
  · rw [h0, Nat.zero_pow (by omega)]; omega
  · exact Nat.le_trans (Nat.pow_le_pow_right h0 (by omega)) h
theorem rt_one (A : Nat) : rt A 1 = A := rt_eq (by omega) ⟨by rw [Nat.pow_one]; exact Nat.le_refl _, by rw [Nat.pow_one]; omega⟩
theorem rt_rt {A k n : Nat} (hk : 1 ≤ k) (hn : 1 ≤ n) : rt (rt A k) n = rt A (k * n) := by
  have hkn : 1 ≤ k * n := Nat.mul_le_mul hk hn
  have key : ∀ s, s ≤ rt (rt A k) n ↔ s ≤ rt A (k * n) := fun s => by
    rw [le_rt_iff hn, le_rt_iff hk, le_rt_iff hkn, ← Nat.pow_mul, Nat.mul_comm n k]
  have h1 := (key (rt (rt A k) n)).1 (Nat.le_refl _)
  have h2 := (key (rt A (k * n))).2 (Nat.le_refl _)
  omega

set_option maxHeartbeats 1000000 in
theorem Try.lawROrder {v1 v2 : Value} {xs ys : List Nat} {w : World} (h1 : Nt w v1 xs) (h2 : Nt w v2 ys) (k : Int) :
    Calls Try.prog 12 #[v1, v2, .int .i64 k] w fun e w' => e = .returned (.bool true) ∧ Ext w w' := by
  have h1' := h1
  have h2' := h2
  obtain ⟨a1, b1, o1, c1, rfl, hs1, hl1⟩ := h1
  obtain ⟨a2, b2, o2, c2, rfl, hs2, hl2⟩ := h2
  clear hs1 hs2
  go_enter Try.func12, Try.ntmps12
  have E := Ext.refl w
  go_wp2_with fail
  refine (Try.given03 h1' 6).mono ?_
  rintro e w101 ⟨rfl, rfl⟩
  cases hgv : gv3 xs 6
  · clear hgv
    go_wp2_with fail
    refine (Try.alive03 _).mono ?_
    rintro e w1 ⟨rfl, hE1⟩
    go_wp2
    go_ret
    exact ⟨rfl, E.trans hE1⟩
  obtain ⟨g1, g2⟩ := gv3_iff hgv
  clear hgv
  go_wp2_with fail
  refine (Try.given03 h2' 6).mono ?_
  rintro e w102 ⟨rfl, rfl⟩
  cases hgv : gv3 ys 6
  · clear hgv
    go_wp2_with fail
    refine (Try.alive03 _).mono ?_
    rintro e w1 ⟨rfl, hE1⟩
    go_wp2
    go_ret
    exact ⟨rfl, E.trans hE1⟩
  obtain ⟨g3, g4⟩ := gv3_iff hgv
  clear hgv
  by_cases k1 : k < 1
  · skip
    go_wp2_with fail
    refine (Try.alive03 _).mono ?_
    rintro e w1 ⟨rfl, hE1⟩
    go_wp2
    go_ret
    exact ⟨rfl, E.trans hE1⟩
  by_cases k2 : 15 < k
  · skip
    go_wp2_with fail
    refine (Try.alive03 _).mono ?_
    rintro e w1 ⟨rfl, hE1⟩
    go_wp2
    go_ret
    exact ⟨rfl, E.trans hE1⟩
  have s1 := Sm.of_len (L := 6) hl1 (by omega)
  have s2 := Sm.of_len (L := 6) hl2 (by omega)
  have hA : Nw w (.slice a1 xs.length c1) (ev B64 xs) := ⟨xs, h1', g2, rfl⟩
  have hB : Nw w (.slice a2 ys.length c2) (ev B64 ys) := ⟨ys, h2', g4, rfl⟩
  generalize ev B64 xs = A at *
  generalize ev B64 ys = B at *
  obtain ⟨m, rfl⟩ := Int.eq_ofNat_of_zero_le (show 0 ≤ k by omega)
  have hm : 1 ≤ m := by omega
  have r1 : 1 ≤ (m : Int) ∧ (m : Int) ≤ 16 := by omega
  have r2 : 1 ≤ (m : Int) + 1 ∧ (m : Int) + 1 ≤ 16 := by omega
  have H1 : Hid (rootV A (m : Int) = rt A m) := Lib.hid (rootV_in r1)
  have H2 : Hid (rootV B (m : Int) = rt B m) := Lib.hid (rootV_in r1)
  have H3 : Hid (rootV A ((m : Int) + 1) = rt A (m + 1)) := Lib.hid (by rw [rootV_in r2]; congr 1)
  have H4 : Hid (rootV A 1 = A) := Lib.hid (by rw [rootV_in (by omega)]; exact rt_one A)
  have F : Hid (rootE 1 = 0) := Lib.hid (by decide)
  have hle := rt_higher (A := A) hm
  go_wp2_with fail
  refine (Try.rootRoot hA s1 (by omega) (m : Int)).mono ?_
  rintro e w103 ⟨u1, rfl, hx, hE⟩
  replace E := E.trans hE
  replace hA := hA.ext hE
  replace hB := hB.ext hE
  clear hE
  rw [H1.out] at hx
  go_wp2_with fail
  refine (Try.rootRoot hB s2 (by omega) (m : Int)).mono ?_
  rintro e w104 ⟨u2, rfl, hy, hE⟩
  replace E := E.trans hE
  replace hA := hA.ext hE
  replace hB := hB.ext hE
  replace hx := hx.ext hE
  clear hE
  rw [H2.out] at hy
  go_wp2_with fail
  refine (Try.rootRoot hA s1 (by omega) ((m : Int) + 1)).mono ?_
  rintro e w105 ⟨u3, rfl, hz, hE⟩
  replace E := E.trans hE
  replace hA := hA.ext hE
  replace hB := hB.ext hE
  replace hx := hx.ext hE
  replace hy := hy.ext hE
  clear hE
  rw [H3.out] at hz
  go_wp2_with fail
  refine (Try.rootRoot hA s1 (by omega) 1).mono ?_
  rintro e w106 ⟨u4, rfl, ho, hE⟩
  replace E := E.trans hE
  replace hA := hA.ext hE
  replace hB := hB.ext hE
  replace hx := hx.ext hE
  replace hy := hy.ext hE
  replace hz := hz.ext hE
  clear hE
  rw [H4.out] at ho
  rw [F.out]
  rcases Nat.lt_or_ge B A with hBA | hAB
  · skip
    go_wp2_with fail
    refine (Try.cmpGt hA hB hBA).mono ?_
    rintro e w107 ⟨c, rfl, hc, hE⟩
    replace E := E.trans hE
    replace hA := hA.ext hE
    replace hx := hx.ext hE
    replace hz := hz.ext hE
    replace ho := ho.ext hE
    clear hE
    go_wp2_with fail
    refine (Try.alive03 _).mono ?_
    rintro e w108 ⟨rfl, hE⟩
    replace E := E.trans hE
    replace hA := hA.ext hE
    replace hx := hx.ext hE
    replace hz := hz.ext hE
    replace ho := ho.ext hE
    clear hE
    go_wp2_with fail
    refine (Try.cmpLe hz hx hle).mono ?_
    rintro e w109 ⟨d, rfl, hd, hE⟩
    replace E := E.trans hE
    replace hA := hA.ext hE
    replace ho := ho.ext hE
    clear hE
    go_wp2_with fail
    refine (Try.sameT ho hA rfl).mono ?_
    rintro e w110 ⟨rfl, hE⟩
    replace E := E.trans hE
    clear hE
    go_wp2
    go_ret
    exact ⟨rfl, E⟩
  · have hxy := rt_mono hm hAB
    go_wp2_with fail
    refine (Try.cmpLe hA hB hAB).mono ?_
    rintro e w111 ⟨c, rfl, hc, hE⟩
    replace E := E.trans hE
    replace hA := hA.ext hE
    replace hx := hx.ext hE
    replace hy := hy.ext hE
    replace hz := hz.ext hE
    replace ho := ho.ext hE
    clear hE
    go_wp2_with fail
    refine (Try.cmpLe hx hy hxy).mono ?_
    rintro e w112 ⟨c2, rfl, hc2, hE⟩
    replace E := E.trans hE
    replace hA := hA.ext hE
    replace hx := hx.ext hE
    replace hz := hz.ext hE
    replace ho := ho.ext hE
    clear hE
    go_wp2_with fail
    refine (Try.alive03 _).mono ?_
    rintro e w113 ⟨rfl, hE⟩
    replace E := E.trans hE
    replace hA := hA.ext hE
    replace hx := hx.ext hE
    replace hz := hz.ext hE
    replace ho := ho.ext hE
    clear hE
    go_wp2_with fail
    refine (Try.cmpLe hz hx hle).mono ?_
    rintro e w114 ⟨d, rfl, hd, hE⟩
    replace E := E.trans hE
    replace hA := hA.ext hE
    replace ho := ho.ext hE
    clear hE
    go_wp2_with fail
    refine (Try.sameT ho hA rfl).mono ?_
    rintro e w115 ⟨rfl, hE⟩
    replace E := E.trans hE
    clear hE
    go_wp2
    go_ret
    exact ⟨rfl, E⟩

set_option maxHeartbeats 1000000 in
theorem Try.lawRRoots {v1 : Value} {xs : List Nat} {w : World} (h1 : Nt w v1 xs) (k n : Int) :
    Calls Try.prog 13 #[v1, .int .i64 k, .int .i64 n] w fun e w' => e = .returned (.bool true) ∧ Ext w w' := by
  have h1' := h1
  obtain ⟨a1, b1, o1, c1, rfl, hs1, hl1⟩ := h1
  clear hs1
  go_enter Try.func13, Try.ntmps13
  have E := Ext.refl w
  go_wp2_with fail
  refine (Try.given03 h1' 8).mono ?_
  rintro e w116 ⟨rfl, rfl⟩
  cases hgv : gv3 xs 8
  · clear hgv
    go_wp2_with fail
    refine (Try.alive03 _).mono ?_
    rintro e w1 ⟨rfl, hE1⟩
    go_wp2
    go_ret
    exact ⟨rfl, E.trans hE1⟩
  obtain ⟨g1, g2⟩ := gv3_iff hgv
  clear hgv
  by_cases k1 : k < 1
  · skip
    go_wp2_with fail
    refine (Try.alive03 _).mono ?_
    rintro e w1 ⟨rfl, hE1⟩
    go_wp2
    go_ret
    exact ⟨rfl, E.trans hE1⟩
  by_cases n1 : n < 1
  · skip
    go_wp2_with fail
    refine (Try.alive03 _).mono ?_
    rintro e w1 ⟨rfl, hE1⟩
    go_wp2
    go_ret
    exact ⟨rfl, E.trans hE1⟩
  by_cases k2 : 16 < k
  · skip
    go_wp2_with fail
    refine (Try.alive03 _).mono ?_
    rintro e w1 ⟨rfl, hE1⟩
    go_wp2
    go_ret
    exact ⟨rfl, E.trans hE1⟩
  by_cases n2 : 16 < n
  · skip
    go_wp2_with fail
    refine (Try.alive03 _).mono ?_
    rintro e w1 ⟨rfl, hE1⟩
    go_wp2
    go_ret
    exact ⟨rfl, E.trans hE1⟩
  obtain ⟨i, rfl⟩ := Int.eq_ofNat_of_zero_le (show 0 ≤ k by omega)
  obtain ⟨j, rfl⟩ := Int.eq_ofNat_of_zero_le (show 0 ≤ n by omega)
  have hij : i * j ≤ 16 * 16 := Nat.mul_le_mul (by omega) (by omega)
  have hij1 : 1 * 1 ≤ i * j := Nat.mul_le_mul (by omega) (by omega)
  have hw : IntKind.i64.wrap ((i : Int) * (j : Int)) = ((i * j : Nat) : Int) := by rw [← Int.natCast_mul, IntWalk.i64_in _ (by omega)]
  obtain ⟨p, hp⟩ : ∃ p, p = i * j := ⟨_, rfl⟩
  rw [← hp] at hw hij hij1
  have hi1 : 1 ≤ i := by omega
  have hj1 : 1 ≤ j := by omega
  have s1 := Sm.of_len (L := 8) hl1 (by omega)
  have hA : Nw w (.slice a1 xs.length c1) (ev B64 xs) := ⟨xs, h1', g2, rfl⟩
  generalize ev B64 xs = A at *
  have HRR : Hid (rt (rt A i) j = rt A p) := Lib.hid (by rw [hp]; exact rt_rt hi1 hj1)
  clear hp
  by_cases n3 : (16 : Int) < (p : Int)
  · skip
    go_wp2_with fail
    refine (Try.alive03 _).mono ?_
    rintro e w1 ⟨rfl, hE1⟩
    go_wp2
    go_ret
    exact ⟨rfl, E.trans hE1⟩
  have r1 : 1 ≤ (i : Int) ∧ (i : Int) ≤ 16 := by omega
  have r2 : 1 ≤ (j : Int) ∧ (j : Int) ≤ 16 := by omega
  have r3 : 1 ≤ (p : Int) ∧ (p : Int) ≤ 16 := by omega
  have H1 : Hid (rootV A (i : Int) = rt A i) := Lib.hid (rootV_in r1)
  have H2 : Hid (rootV (rt A i) (j : Int) = rt A p) := Lib.hid (by rw [rootV_in r2]; exact HRR.out)
  have H3 : Hid (rootV A (p : Int) = rt A p) := Lib.hid (rootV_in r3)
  have F1 := Lib.hid (rootE_in r1)
  have F2 := Lib.hid (rootE_in r2)
  have F3 := Lib.hid (rootE_in r3)
  have sx : Sm 8 (rt A i) := s1.le (rt_le hi1)
  go_wp2_with fail
  refine (Try.rootRoot hA s1 (by omega) (i : Int)).mono ?_
  rintro e w117 ⟨u1, rfl, hx, hE⟩
  replace E := E.trans hE
  replace hA := hA.ext hE
  clear hE
  rw [H1.out] at hx
  rw [F1.out]
  go_wp2_with fail
  refine (Try.rootRoot hx sx (by omega) (j : Int)).mono ?_
  rintro e w118 ⟨u2, rfl, hy, hE⟩
  replace E := E.trans hE
  replace hA := hA.ext hE
  clear hE
  rw [H2.out] at hy
  rw [F2.out]
  go_wp2_with fail
  refine (Try.rootRoot hA s1 (by omega) (p : Int)).mono ?_
  rintro e w119 ⟨u3, rfl, hz, hE⟩
  replace E := E.trans hE
  replace hy := hy.ext hE
  clear hE
  rw [H3.out] at hz
  rw [F3.out]
  go_wp2_with fail
  refine (Try.alive03 _).mono ?_
  rintro e w120 ⟨rfl, hE⟩
  replace E := E.trans hE
  replace hy := hy.ext hE
  replace hz := hz.ext hE
  clear hE
  go_wp2_with fail
  refine (Try.sameT hy hz rfl).mono ?_
  rintro e w121 ⟨rfl, hE⟩
  replace E := E.trans hE
  clear hE
  go_wp2
  go_ret
  exact ⟨rfl, E⟩

end Go.Rt
