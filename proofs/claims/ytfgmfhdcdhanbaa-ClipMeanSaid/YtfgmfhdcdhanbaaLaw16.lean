/-
  Chapter 16: a norm's square; the sides of what is clipped.
-/
import Derived.Test.YtfgmfhdcdhanbaaClipD
import Derived.Test.YtfgmfhdcdhanbaaLaw03c
namespace Go.Rt
open Go Go.RowKit Go.Proofs

theorem norm_iff {S s : Nat} : rootU S 2 ≤ s ↔ S ≤ s * s := by
  rw [rootU_in (by omega)]
  show rtUp S 2 ≤ s ↔ _
  rw [rtUp_le_iff (by omega), Nat.pow_two]

theorem norm_sq (S : Nat) : S ≤ rootU S 2 * rootU S 2 := norm_iff.1 (Nat.le_refl _)

theorem norm_low {S : Nat} (h : 0 < rootU S 2) : (rootU S 2 - 1) * (rootU S 2 - 1) < S := by
  rcases Nat.lt_or_ge ((rootU S 2 - 1) * (rootU S 2 - 1)) S with h1 | h1
  · exact h1
  · have := norm_iff.2 h1
    omega

theorem norm_mono {S T : Nat} (h : S ≤ T) : rootU S 2 ≤ rootU T 2 := norm_iff.2 (Nat.le_trans h (norm_sq T))

theorem norm_one (x : Nat) : rootU (x * x) 2 = x := by
  have h1 : rootU (x * x) 2 ≤ x := norm_iff.2 (Nat.le_refl _)
  have h2 := norm_sq (x * x)
  rcases Nat.lt_or_ge (rootU (x * x) 2) x with h3 | h3
  · have := Nat.mul_self_lt_mul_self h3
    omega
  · omega

theorem norm_sm {S L : Nat} (s : Sm L S) : Sm (L + 1) (rootU S 2) := by
  rw [rootU_in (by omega)]
  exact rtUp_sm (by decide) s

theorem Try.refCmpGe {v1 v2 : Value} {N M : Nat} {w : World} (h1 : Nw w v1 N) (h2 : Nw w v2 M) (h : M ≤ N) :
    Calls Try.prog 13 #[v1, v2] w fun e w' => ∃ q : Int, e = .returned (.int .i64 q) ∧ 0 ≤ q ∧ Ext w w' :=
  (Try.refCmp h1 h2).mono fun e w' ⟨he, hE⟩ => ⟨_, he, by rcases Nat.lt_or_eq_of_le h with q | q; (rw [cmpI_nat_gt q]; omega); (rw [cmpI_nat_eq q.symm]; omega), hE⟩

theorem Try.refCmpLe {v1 v2 : Value} {N M : Nat} {w : World} (h1 : Nw w v1 N) (h2 : Nw w v2 M) (h : N ≤ M) :
    Calls Try.prog 13 #[v1, v2] w fun e w' => ∃ q : Int, e = .returned (.int .i64 q) ∧ q ≤ 0 ∧ Ext w w' :=
  (Try.refCmp h1 h2).mono fun e w' ⟨he, hE⟩ => ⟨_, he, by rcases Nat.lt_or_eq_of_le h with q | q; (rw [cmpI_nat_lt q]; omega); (rw [cmpI_nat_eq q]; omega), hE⟩

set_option maxRecDepth 100000 in
set_option maxHeartbeats 8000000 in
theorem Try.lawClipRoot {n c : Nat} {a : Option Addr} {ls : List (List Int)} {w : World} (h : Mw 0 w.heap.size w a n c ls) (hn : n ≤ 140737488351232) (hl : ∀ l ∈ ls, l.length ≤ 140737488351232) :
  Calls Try.prog 4 #[.slice a n c] w fun e w' => e = .returned (.bool true) ∧ Ext w w' := by
 have HI := Lib.hid h.i64
 by_cases hf : n + ls.flatten.length ≤ 40
 ·have HF : Hid (decide (n + ls.flatten.length ≤ 40) = true) := Lib.hid (decide_eq_true hf)
  have HL : Hid (ls.flatten.length ≤ 40) := Lib.hid (by omega)
  have HB := Lib.hid (And.intro hn hl)
  clear hf hn hl
  go_enter Try.func4, Try.ntmps4
  go_wp2_with fail
  refine (Try.refFew16 h HB.out.1 HB.out.2).mono ?_
  rintro e W ⟨rfl, rfl⟩
  rw [HF.out]; go_wp2_with fail
  refine (Try.clipNorm h (by have := HL.out; omega)).mono ?_
  rintro e W1 ⟨v1, rfl, hN, E0⟩
  replace h := h.ext E0
  go_wp2_with fail
  refine (Try.refSquares16 h (by have := HL.out; omega)).mono ?_
  rintro e W2 ⟨v2, rfl, hS, hE⟩
  replace hN := hN.ext hE
  replace E0 := E0.trans hE
  obtain ⟨S, hSS⟩ : ∃ S, S = sqs ls.flatten := ⟨_, rfl⟩
  have HSS : Hid (Sm 3 S) := Lib.hid (by rw [hSS]; exact sqs_sm HI.out (by have := HL.out; omega))
  rw [← hSS] at hN hS
  obtain ⟨N, hNN⟩ : ∃ N, N = rootU S 2 := ⟨_, rfl⟩
  have HSN : Hid (Sm 4 N ∧ S ≤ N * N ∧ (0 < N → (N - 1) * (N - 1) < S)) := Lib.hid (by rw [hNN]; exact ⟨norm_sm HSS.out, norm_sq _, norm_low⟩)
  rw [← hNN] at hN
  clear hE h hSS hNN
  go_wp2_with fail
  refine (Try.rightT hN).mono ?_
  rintro e W ⟨rfl, rfl⟩
  go_wp2_with fail
  refine (Try.refMul hN hN HSN.out.1 HSN.out.1 (by omega)).mono ?_
  rintro e W3 ⟨v3, rfl, hQ, hE, -⟩
  replace hN := hN.ext hE
  replace hS := hS.ext hE
  replace E0 := E0.trans hE
  clear hE
  go_wp2_with fail
  refine (Try.refCmpGe hQ hS HSN.out.2.1).mono ?_
  rintro e W4 ⟨q, rfl, hq, hE⟩
  have hq2 : ¬ q < 0 := by omega
  replace hN := hN.ext hE
  replace hS := hS.ext hE
  replace E0 := E0.trans hE
  clear hE hq hQ
  go_wp2_with fail
  refine (Try.refOf 1 _ (by rw [B64_eq]; omega)).mono ?_
  rintro e W5 ⟨v5, rfl, h1, hE, -⟩
  replace hN := hN.ext hE
  replace hS := hS.ext hE
  replace E0 := E0.trans hE
  clear hE
  go_wp2_with fail
  refine (Try.refSub (L := 4) hN h1 HSN.out.1 (by unfold Sm; rw [B64_eq]; omega) (by omega)).mono ?_
  rintro e W6 ⟨v6, rfl, hD, hE, -⟩
  replace hS := hS.ext hE
  replace E0 := E0.trans hE
  clear hE h1 hN
  obtain ⟨a2, n2, c2, rfl⟩ := Nw.slice hS
  rcases Nat.eq_zero_or_pos N with h0 | h0
  ·have HE : Hid (subE N 1 = 2) := Lib.hid (if_pos (by omega))
   have hz : n2 = 0 := (hS.lenS.1).2 (by have := HSN.out.2.1; rw [h0] at this; omega)
   subst hz
   rw [HE.out]; clear h0 hD hS
   go_wp2_with fail
   refine (Try.alive16 _).mono ?_
   rintro e W7 ⟨rfl, hE⟩
   replace E0 := E0.trans hE
   clear hE; go_wp2; go_ret
   exact ⟨rfl, E0⟩
  ·have HE : Hid (subE N 1 = 0) := Lib.hid (if_neg (by omega))
   have HLW := Lib.hid (HSN.out.2.2 h0)
   rw [HE.out]; clear h0
   go_wp2_with fail
   refine (Try.alive16 _).mono ?_
   rintro e W7 ⟨rfl, hE⟩
   replace hS := hS.ext hE
   replace hD := hD.ext hE
   replace E0 := E0.trans hE
   clear hE
   go_wp2_with fail
   refine (Try.refMul hD hD (HSN.out.1.le (Nat.sub_le _ _)) (HSN.out.1.le (Nat.sub_le _ _)) (by omega)).mono ?_
   rintro e W8 ⟨v8, rfl, hQ, hE, -⟩
   replace hS := hS.ext hE
   replace E0 := E0.trans hE
   clear hE
   go_wp2_with fail
   refine (Try.ltT hQ hS HLW.out).mono ?_
   rintro e W9 ⟨rfl, hE⟩
   replace E0 := E0.trans hE
   clear hE hQ hS hD; go_wp2; go_ret
   exact ⟨rfl, E0⟩
 ·have HF : Hid (decide (n + ls.flatten.length ≤ 40) = false) := Lib.hid (decide_eq_false hf)
  have HB := Lib.hid (And.intro hn hl)
  clear hf hn hl
  go_enter Try.func4, Try.ntmps4
  go_wp2_with fail
  refine (Try.refFew16 h HB.out.1 HB.out.2).mono ?_
  rintro e W ⟨rfl, rfl⟩
  rw [HF.out]; clear h; go_wp2_with fail
  refine (Try.alive16 _).mono ?_
  rintro e W7 ⟨rfl, hE⟩
  go_wp2; go_ret
  exact ⟨rfl, hE⟩
end Go.Rt
