/-
  The law's 'given': are these numbers right, and of few limbs? And 'alive'.
-/
import Derived.Test.YtlknbbehjcklmaaDivH
namespace Go.Rt
open Go.RowKit Go.Shelf Go.Proofs

def gvn (xss : List (List Nat)) : Bool := xss.all fun xs => decide (xs.length ≤ 20) && normB xs
theorem gvn_cons (xs : List Nat) (r : List (List Nat)) : gvn (xs :: r) = (decide (xs.length ≤ 20) && normB xs && gvn r) := by simp [gvn]

set_option maxHeartbeats 1000000 in
theorem Try.given {w : World} {b : Nat} {xss : List (List Nat)} (hlen : xss.length ≤ 1000) (h : ∀ i (hi : i < xss.length), ∃ v, w.cell? ⟨b, i, none⟩ = some v ∧ Nt w v xss[i]) :
    Calls Try.prog 10 #[.slice (some ⟨b, 0, none⟩) xss.length xss.length] w fun e w' => e = .returned (.bool (gvn xss)) ∧ w = w' := by
  have HH := Lib.hid h
  clear h
  go_enter Try.func10, Try.ntmps10
  go_wp2
  go_loop [3] (fun i => ∃ k : Nat, i = .int .i64 (k : Int) ∧ k ≤ xss.length ∧ Hid (gvn xss = gvn (xss.drop k))) (fun i => xss.length - (intOf i).toNat)
  case atStart => exact ⟨0, rfl, Nat.zero_le _, Lib.hid rfl⟩
  case round =>
    obtain ⟨k, rfl, hk, hg⟩ := hrel
    by_cases hlt : k < xss.length
    · obtain ⟨v, hc, hnt⟩ := HH.out k hlt
      have hnt' := hnt
      obtain ⟨a, b', o, cap, rfl, hs, hl⟩ := hnt
      have hd : xss.drop k = xss[k] :: xss.drop (k + 1) := List.drop_eq_getElem_cons hlt
      obtain ⟨xs, hxs⟩ : ∃ xs, xs = xss[k] := ⟨_, rfl⟩
      rw [← hxs] at hc hnt' hs hd
      have hg2 := hg.out
      rw [hd, gvn_cons] at hg2
      have HG := Lib.hid hg2
      clear hg hd hxs hg2 hs hl
      by_cases hf : (xs.length : Int) ≤ 20
      · have hfB : decide ((xs.length : Int) ≤ 20) = true := by simpa using hf
        cases hn : normB xs
        · have HR : Hid (gvn xss = false) := Lib.hid (by rw [HG.out, hn, Bool.and_false, Bool.false_and])
          have hr : ∀ W, w = W → Calls Try.prog 21 #[.slice a xs.length cap] W fun e w' => e = .returned (.bool false) ∧ W = w' := fun W e => by subst e; rw [← hn]; exact Try.refRight hnt'
          clear hn HG
          go_wp2_with (first | (go_at_call 29; refine (Try.refFew _ _ _ _).mono ?_; rw [hfB]; rintro e w' ⟨rfl, rfl⟩) | (go_at_call 21; refine (hr _ rfl).mono ?_; rintro e w' ⟨rfl, rfl⟩))
          go_ret
          exact ⟨ret_b HR.out.symm, rfl⟩
        · have HR : Hid (gvn xss = gvn (xss.drop (k + 1))) := Lib.hid (by rw [HG.out, hn, Bool.and_true, show decide (xs.length ≤ 20) = true from by simpa using (by omega : xs.length ≤ 20), Bool.true_and])
          have hr : ∀ W, w = W → Calls Try.prog 21 #[.slice a xs.length cap] W fun e w' => e = .returned (.bool true) ∧ W = w' := fun W e => by subst e; rw [← hn]; exact Try.refRight hnt'
          clear hn HG
          go_wp2_with (first | (go_at_call 29; refine (Try.refFew _ _ _ _).mono ?_; rw [hfB]; rintro e w' ⟨rfl, rfl⟩) | (go_at_call 21; refine (hr _ rfl).mono ?_; rintro e w' ⟨rfl, rfl⟩))
          go_round
          case rel => exact ⟨k + 1, by go_num, by omega, HR⟩
          case measure => simp [intOf]; omega
      · have hfB : decide ((xs.length : Int) ≤ 20) = false := by simpa using hf
        have HR : Hid (gvn xss = false) := Lib.hid (by rw [HG.out, show decide (xs.length ≤ 20) = false from by simpa using (by omega : ¬ xs.length ≤ 20), Bool.false_and, Bool.false_and])
        clear HG
        go_wp2_with (first | (go_at_call 29; refine (Try.refFew _ _ _ _).mono ?_; rw [hfB]; rintro e w' ⟨rfl, rfl⟩))
        go_ret
        exact ⟨ret_b HR.out.symm, rfl⟩
    · obtain rfl : k = xss.length := by omega
      have HR : Hid (gvn xss = true) := Lib.hid (by rw [hg.out, List.drop_length]; rfl)
      clear hg
      go_wp2
      go_ret
      exact ⟨ret_b HR.out.symm, rfl⟩

set_option maxRecDepth 100000 in
set_option maxHeartbeats 1000000 in
theorem Try.alive (w : World) : Calls Try.prog 11 #[] w fun e w' => e = .returned (.bool true) ∧ Ext w w' := by
  have b17 : 17 < B64 := by rw [B64_eq]; omega
  have b5 : 5 < B64 := by rw [B64_eq]; omega
  have b1 : 1 < B64 := by rw [B64_eq]; omega
  have b12 : 12 < B64 := by rw [B64_eq]; omega
  have b18 : 18 < B64 := by rw [B64_eq]; omega
  have z17 : (17 : Nat) < B64 ^ 1 := by rw [Nat.pow_one]; exact b17
  have z5 : (5 : Nat) < B64 ^ 1 := by rw [Nat.pow_one]; exact b5
  go_enter Try.func11, Try.ntmps11
  go_wp2_with fail
  refine (Try.divDivMod (N := 17) (M := 5) (L := 1) ((Nw.lit1 w 17 38 b17 (by omega)).ext (Ext.alloc1 _ _)) (by simpa using Nw.lit1 (w.alloc (.cells #[.int .u64 17] 38)) 5 38 b5 (by omega)) z17 (by omega)).mono ?_
  rintro e w1 ⟨vq, vr, rfl, hq, hr, hE1, -, -⟩
  obtain ⟨q1, q2, q3, rfl, q4, q5, q6⟩ := hq.cells (L := 0) (by simpa using (by rw [B64_eq]; omega : 17 / 5 < B64)) (by decide)
  obtain ⟨r1, r2, r3, rfl, r4, r5, r6⟩ := hr.cells (L := 0) (by simpa [dvR] using (by rw [B64_eq]; omega : 17 % 5 < B64)) (by decide)
  have q7 := q6 0 (by omega)
  have r7 := r6 0 (by omega)
  have E1 := ((Ext.alloc1 w (.cells #[.int .u64 17] 38)).alloc (.cells #[.int .u64 5] 38)).trans hE1
  simp only [Nat.pow_zero, Nat.div_one, Nat.add_zero, dvR, B64_eq] at q7 r7
  clear q6 r6 hq hr hE1
  have e1 : dvE 5 = 0 := rfl
  rw [e1]
  clear e1
  go_wp2_with fail
  refine (Try.divShl (N := 1) (L := 1) (Nw.lit1 w1 1 38 b1 (by omega)) (by unfold Sm; rw [Nat.pow_one]; exact b1) (by omega) 65).mono ?_
  rintro e w2 ⟨vx, rfl, hx, hE2, -⟩
  have e2 : shE 65 = 0 := rfl
  have e3 : shlV 1 65 = 36893488147419103232 := by decide
  rw [e2]
  rw [e3] at hx
  clear e2 e3
  obtain ⟨x1, x2, x3, rfl, x4, x5, x6⟩ := hx.cells (L := 1) (by decide) (by decide)
  have E12 := (Ext.alloc1 w1 (.cells #[.int .u64 1] 38)).trans hE2
  have x7 := x6 1 (by omega)
  have x8 : (36893488147419103232 : Nat) / B64 ^ 1 % B64 = 2 := by decide
  rw [x8] at x7
  have q8 := E12.cell q7
  have r8 := E12.cell r7
  have E2 := E1.trans E12
  clear x6 x8 q7 r7 E1 E12
  go_wp2_with fail
  refine (Try.divShr (L := 2) hx (show (36893488147419103232 : Nat) < B64 ^ 2 by decide) (by omega) 64).mono ?_
  rintro e w3 ⟨vy, rfl, hy, hE3, -⟩
  have e2 : shE 64 = 0 := rfl
  have e3 : shrV 36893488147419103232 64 = 2 := by decide
  rw [e2]
  rw [e3] at hy
  clear e2 e3
  obtain ⟨y1, y2, y3, rfl, y4, y5, y6⟩ := hy.cells (L := 0) (by decide) (by decide)
  have y7 := y6 0 (by omega)
  simp only [Nat.pow_zero, Nat.div_one, Nat.add_zero, B64_eq] at y7
  have q9 := hE3.cell q8
  have r9 := hE3.cell r8
  have x9 := hE3.cell x7
  have E3 := E2.trans hE3
  clear y6 hx q8 r8 x7 E2 hE3 hy
  go_wp2_with fail
  refine (Try.divGcd (N := 12) (M := 18) (L := 1) ((Nw.lit1 w3 12 38 b12 (by omega)).ext (Ext.alloc1 _ _)) (by simpa using Nw.lit1 (w3.alloc (.cells #[.int .u64 12] 38)) 18 38 b18 (by omega)) (by unfold Sm; rw [Nat.pow_one]; exact b12) (by unfold Sm; rw [Nat.pow_one]; exact b18) (by omega)).mono ?_
  rintro e w4 ⟨vh, rfl, hh, hE4⟩
  have e3 : Nat.gcd 12 18 = 6 := by decide
  rw [e3] at hh
  obtain ⟨h1, h2, h3, rfl, h4, h5, h6⟩ := hh.cells (L := 0) (by decide) (by decide)
  have h7 := h6 0 (by omega)
  simp only [Nat.pow_zero, Nat.div_one, Nat.add_zero, B64_eq] at h7
  have E34 := ((Ext.alloc1 w3 (.cells #[.int .u64 12] 38)).alloc (.cells #[.int .u64 18] 38)).trans hE4
  have qA := E34.cell q9
  have rA := E34.cell r9
  have xA := E34.cell x9
  have yA := E34.cell y7
  have E4 := E3.trans E34
  clear h6 q9 r9 x9 y7 E3 E34 hh e3 hE4 b17 b5 b1 b12 b18 z17 z5
  go_wp2
  go_ret
  exact ⟨rfl, E4⟩

end Go.Rt
