/-
 Chapter 16: the sides of what is clipped.
-/
import Derived.Test.YtfgmfhdcdhanbaaSqz
import Derived.Test.YtfgmfhdcdhanbaaClipD
namespace Go.Rt
open Go Go.RowKit Go.Proofs

theorem appC {α : Type} (a : α) (l m : List α) : List.append (a :: l) m = a :: List.append l m := rfl

theorem appN {α : Type} (m : List α) : List.append [] m = m := rfl

theorem clipL_at {N m : Nat} {l : List Int} {i : Nat} (h : i < l.length) : atL (clipL N m l) i = if cutB N m = true then atL l i else clipV N m (atL l i) := by
 unfold clipL
 split
 ·rfl
 ·rw [atL_eq (by simpa using h), atL_eq h]
  simp

theorem clipV_mono {N m : Nat} {x y : Int} (h : x ≤ y) : clipV N m x ≤ clipV N m y := by
 have hd : ∀ a b : Nat, a ≤ b → a * m / N ≤ b * m / N := fun a b hab => Nat.div_le_div_right (Nat.mul_le_mul_right _ hab)
 rcases Int.lt_or_le x 0 with h1 | h1
 ·rw [clipV_neg h1]
  rcases Int.lt_or_le y 0 with h2 | h2
  ·rw [clipV_neg h2]
   have := hd y.natAbs x.natAbs (by omega)
   obtain ⟨p, hp⟩ : ∃ p, p = x.natAbs * m / N := ⟨_, rfl⟩
   obtain ⟨q, hq⟩ : ∃ q, q = y.natAbs * m / N := ⟨_, rfl⟩
   rw [← hp, ← hq] at this
   rw [← hp, ← hq]
   omega
  ·rw [clipV_nonneg h2]
   obtain ⟨p, hp⟩ : ∃ p, p = x.natAbs * m / N := ⟨_, rfl⟩
   obtain ⟨q, hq⟩ : ∃ q, q = y.natAbs * m / N := ⟨_, rfl⟩
   rw [← hp, ← hq]
   omega
 ·rw [clipV_nonneg h1, clipV_nonneg (by omega : 0 ≤ y)]
  have := hd x.natAbs y.natAbs (by omega)
  obtain ⟨p, hp⟩ : ∃ p, p = x.natAbs * m / N := ⟨_, rfl⟩
  obtain ⟨q, hq⟩ : ∃ q, q = y.natAbs * m / N := ⟨_, rfl⟩
  rw [← hp, ← hq] at this
  rw [← hp, ← hq]
  omega

theorem clip_sides {N m : Nat} {l : List Int} {i : Nat} (h : i < l.length) : (0 ≤ atL l i → 0 ≤ atL (clipL N m l) i ∧ atL (clipL N m l) i ≤ atL l i) ∧ (atL l i < 0 → atL (clipL N m l) i ≤ 0 ∧ atL l i ≤ atL (clipL N m l) i) := by
 rw [clipL_at h]
 split
 ·omega
 ·rename_i hc
  have h1 := clipq_le (cutB_pos (Bool.eq_false_iff.2 hc)).2 (atL l i).natAbs
  refine ⟨fun h2 => ?_, fun h2 => ?_⟩
  ·rw [clipV_nonneg h2]
   obtain ⟨q, hq⟩ : ∃ q, q = (atL l i).natAbs * m / N := ⟨_, rfl⟩
   rw [← hq] at h1 ⊢
   omega
  ·rw [clipV_neg h2]
   obtain ⟨q, hq⟩ : ∃ q, q = (atL l i).natAbs * m / N := ⟨_, rfl⟩
   rw [← hq] at h1 ⊢
   omega

theorem clip_order {N m : Nat} {l : List Int} {i j : Nat} (hi : i < l.length) (hj : j < l.length) (h : atL l j ≤ atL l i) : atL (clipL N m l) j ≤ atL (clipL N m l) i := by
 rw [clipL_at hi, clipL_at hj]
 split
 ·exact h
 ·exact clipV_mono h

set_option maxRecDepth 100000 in
set_option maxHeartbeats 8000000 in
theorem Try.lawClipSides {n c nn cn : Nat} {a an : Option Addr} {l : List Int} {xs : List Nat} {w : World} (k : Int) (hk : I64 k) (h : Iw 0 w.heap.size w a n c l) (hN : Nt w (.slice an nn cn) xs) :
 Calls Try.prog 5 #[.slice a n c, .slice an nn cn, .int .i64 k] w fun e w' => e = .returned (.bool true) ∧ Ext w w' := by
 have HX : Hid (xs.length = nn ∧ Lim B64 xs) := by
  obtain ⟨_, _, _, _, hv, _, hl⟩ := hN
  cases hv
  exact Lib.hid ⟨rfl, hl⟩
 have HLN := Lib.hid h.len
 have HK := Lib.hid hk
 clear hk
 by_cases hn : 40 < n
 ·have hnI : (n : Int) > 40 := by omega
  clear hn h hN
  go_enter Try.func5, Try.ntmps5
  go_wp2_with fail
  refine (Try.alive16 _).mono ?_
  rintro e W ⟨rfl, hE⟩
  go_wp2; go_ret
  exact ⟨rfl, hE⟩
 have hnI : ¬ (n : Int) > 40 := by omega
 have HN40 : Hid (n ≤ 40) := Lib.hid (by omega)
 clear hn
 by_cases hnn : 4 < nn
 ·have hnnI : (nn : Int) > 4 := by omega
  clear hnn h hN
  go_enter Try.func5, Try.ntmps5
  go_wp2_with fail
  refine (Try.alive16 _).mono ?_
  rintro e W ⟨rfl, hE⟩
  go_wp2; go_ret
  exact ⟨rfl, hE⟩
 have hnnI : ¬ (nn : Int) > 4 := by omega
 have HNN : Hid (nn ≤ 4) := Lib.hid (by omega)
 clear hnn
 cases hr : normB xs
 ·have HR := Lib.hid hr
  clear hr h
  go_enter Try.func5, Try.ntmps5
  go_wp2_with fail
  refine (Try.refRight hN).mono ?_
  rintro e W ⟨rfl, rfl⟩
  rw [HR.out]; clear hN; go_wp2_with fail
  refine (Try.alive16 _).mono ?_
  rintro e W ⟨rfl, hE⟩
  go_wp2; go_ret
  exact ⟨rfl, hE⟩
 have HR := Lib.hid hr
 obtain ⟨N, hNN⟩ : ∃ N, N = ev B64 xs := ⟨_, rfl⟩
 have hv : Nw w (.slice an nn cn) N := ⟨xs, hN, normB_iff.1 hr, hNN.symm⟩
 have HSN : Hid (Sm 4 N) := Lib.hid (by rw [hNN]; exact Nat.lt_of_lt_of_le (ev_lt HX.out.2) (Nat.pow_le_pow_right B64_pos (by have := HX.out.1; have := HNN.out; omega)))
 clear hr hNN
 by_cases hneg : k < 0
 ·have HKN := Lib.hid hneg
  go_enter Try.func5, Try.ntmps5
  go_wp2_with fail
  refine (Try.refRight hN).mono ?_
  rintro e W ⟨rfl, rfl⟩
  rw [HR.out]; clear hN h hv; go_wp2_with fail
  refine (Try.clipNo k HKN.out _).mono ?_
  rintro e W ⟨rfl, hE1⟩
  go_wp2_with fail
  refine (Try.alive16 _).mono ?_
  rintro e W2 ⟨rfl, hE⟩
  go_wp2; go_ret
  exact ⟨rfl, hE1.trans hE⟩
 obtain ⟨m, rfl⟩ := Int.eq_ofNat_of_zero_le (show 0 ≤ k by omega)
 have HM : Hid (m < 9223372036854775808) := Lib.hid (by have := HK.out; unfold I64 at this; omega)
 clear HK
 go_enter Try.func5, Try.ntmps5
 go_wp2_with fail
 refine (Try.refRight hN).mono ?_
 rintro e W ⟨rfl, rfl⟩
 rw [HR.out]; clear hN; go_wp2_with fail
 refine (Try.clipYes (.inl h) (by have := HN40.out; omega) HM.out HSN.out hv).mono ?_
 rintro e W1 ⟨a1, c1, rfl, hy, E0⟩
 replace h := h.ext E0
 obtain ⟨y, hyy⟩ : ∃ y, y = clipL N m l := ⟨_, rfl⟩
 rw [← hyy] at hy
 have HY := Lib.hid hyy
 clear hv hyy
 go_wp2_with fail
 obtain ⟨s0, hs0⟩ : ∃ s, s = w.heap.size := ⟨_, rfl⟩
 obtain ⟨s1, hs1⟩ : ∃ s, s = W1.heap.size := ⟨_, rfl⟩
 rw [← hs0] at h
 rw [← hs0, ← hs1] at hy
 clear hs0 hs1
 go_loopw [9] (fun i wr => ∃ j : Nat, i = .int .i64 (j : Int) ∧ j ≤ n ∧ Iw 0 s0 wr a n c l ∧ Iw s0 s1 wr a1 n c1 y ∧ Ext w wr) (fun i _ => n - (intOf i).toNat)
 case atStart => exact ⟨0, rfl, by omega, h, hy, E0⟩
 case round =>
  clear h hy E0
  obtain ⟨j, rfl, hj, h, hy, E0⟩ := hrel
  by_cases hlt : j < n
  ·have hltI : (j : Int) < (n : Int) := by omega
   obtain ⟨b, o, rfl, -, -⟩ := h.some (by omega)
   obtain ⟨bq, oq, rfl, -, -⟩ := hy.some (by omega)
   have HS := Lib.hid (clip_sides (N := N) (m := m) (l := l) (i := j) (by have := HLN.out; omega))
   rw [← HY.out] at HS
   have hj63 : (j : Int) < 9223372036854775807 := by have := HN40.out; omega
   have HSG : Hid ((0 ≤ atL l j ∧ ¬ atL y j < 0 ∧ ¬ atL y j > atL l j) ∨ (atL l j < 0 ∧ ¬ atL y j > 0 ∧ ¬ atL y j < atL l j)) := Lib.hid (by have := HS.out; omega)
   clear HS
   rcases Nat.eq_zero_or_pos j with h0 | h0
   ·have HJ : Hid (¬ 0 < j) := Lib.hid (by omega)
    clear h0
    rcases HSG.out with ⟨g1, g2, g3⟩ | ⟨g1, g2, g3⟩
    ·have H4 : Hid (atL l j ≥ 0) := Lib.hid g1
     have H5 := Lib.hid g2
     have H6 := Lib.hid g3
     have H7 : Hid (¬ atL l j < 0) := Lib.hid (by omega)
     clear g1 g2 g3
     go_upto_region 11 with (fail)
     simp only [appC, appN]
     have szw1 := Ext.size E0
     refine region_gs ((.one fun v _ => v = .slice (some ⟨b, o, none⟩) n c) ::
       (.one fun v _ => v = .int .i64 (j : Int)) ::
       (.one fun v _ => v = .pointer (some ⟨b, o + j, none⟩)) ::
       (.one fun v _ => v = .int .i64 (atL l j)) ::
       (.one fun v _ => v = .bool true) ::
       (.one fun v _ => v = .bool true) ::
       (.one fun v _ => v = .slice (some ⟨bq, oq, none⟩) n c1) ::
       (.one fun v _ => v = .int .i64 (j : Int)) ::
       (.one fun v _ => v = .pointer (some ⟨bq, oq + j, none⟩)) ::
       (.one fun v _ => v = .int .i64 (atL y j)) ::
       (.one fun v _ => v = .bool false) ::
       (.one fun v _ => v = .bool false) ::
       (.one fun v _ => v = .slice (some ⟨bq, oq, none⟩) n c1) ::
       (.one fun v _ => v = .int .i64 (j : Int)) ::
       (.one fun v _ => v = .pointer (some ⟨bq, oq + j, none⟩)) ::
       (.one fun v _ => v = .int .i64 (atL y j)) ::
       (.one fun v _ => v = .slice (some ⟨b, o, none⟩) n c) ::
       (.one fun v _ => v = .int .i64 (j : Int)) ::
       (.one fun v _ => v = .pointer (some ⟨b, o + j, none⟩)) ::
       (.one fun v _ => v = .int .i64 (atL l j)) ::
       (.one fun v _ => v = .bool false) ::
       (.one fun v _ => v = .bool false) ::
       (.one fun v _ => v = .bool false) ::
       (.one fun v _ => v = .bool false) ::
       (.one fun v _ => v = .slice (some ⟨b, o, none⟩) n c) ::
       (.one fun v _ => v = .int .i64 (j : Int)) ::
       (.one fun v _ => v = .pointer (some ⟨b, o + j, none⟩)) ::
       (.one fun v _ => v = .int .i64 (atL l j)) ::
       (.one fun v _ => v = .bool false) ::
       (.one fun v _ => v = .bool false) ::
       (.one fun v _ => v = undef) ::
       (.one fun v _ => v = undef) ::
       (.one fun v _ => v = undef) ::
       (.one fun v _ => v = undef) ::
       (.one fun v _ => v = undef) ::
       (.one fun v _ => v = undef) ::
       (.one fun v _ => v = undef) ::
       (.one fun v _ => v = undef) ::
       (.one fun v _ => v = undef) ::
       (.one fun v _ => v = undef) ::
       (.one fun v _ => v = undef) ::
       (.one fun v _ => v = undef) ::
       (.one fun v _ => v = undef) ::
       (.one fun v _ => v = undef) ::
       (.one fun v _ => v = undef) ::
       (.one fun v _ => v = undef) ::
       (.one fun v _ => v = .bool false) ::
       (.one fun v _ => v = .bool false) ::
       (.one fun v _ => v = .bool false) ::
       (.one fun v _ => v = .int .i64 (j : Int)) ::
       (.one fun v _ => v = .bool false) ::
       (.one fun v _ => v = .bool false) ::
       (.one fun v _ => v = undef) ::
       (.one fun v _ => v = undef) ::
       (.one fun v _ => v = undef) ::
       (.one fun v _ => v = undef) ::
       (.one fun v _ => v = undef) ::
       (.one fun v _ => v = undef) ::
       (.one fun v _ => v = undef) ::
       (.one fun v _ => v = undef) ::
       (.one fun v _ => v = undef) ::
       (.one fun v _ => v = undef) ::
       (.one fun v _ => v = .bool false) ::
       (.one fun v _ => v = .bool false) ::
       (.one fun v _ => v = undef) ::
       (.one fun v _ => v = undef) ::
       (.one fun v _ => v = undef) ::
       (.one fun v _ => v = undef) ::
       (.one fun v _ => v = undef) ::
       (.one fun v _ => v = undef) ::
       (.one fun v _ => v = undef) ::
       (.one fun v _ => v = undef) ::
       (.one fun v _ => v = undef) ::
       (.one fun v _ => v = undef) ::
       (.one fun v _ => v = .bool false) ::
       (.one fun v _ => v = .bool false) :: [])
      (fun W => Ext w W ∧ Iw 0 s0 W (some ⟨b, o, none⟩) n c (l) ∧ Iw s0 s1 W (some ⟨bq, oq, none⟩) n c1 (y) ∧ wr.heap.size ≤ W.heap.size) ⟨Good.is _, Good.is _, Good.is _, Good.is _, Good.is _, Good.is _, Good.is _, Good.is _, Good.is _, Good.is _, Good.is _, Good.is _, Good.is _, Good.is _, Good.is _, Good.is _, Good.is _, Good.is _, Good.is _, Good.is _, Good.is _, Good.is _, Good.is _, Good.is _, Good.is _, Good.is _, Good.is _, Good.is _, Good.is _, Good.is _, Good.is _, Good.is _, Good.is _, Good.is _, Good.is _, Good.is _, Good.is _, Good.is _, Good.is _, Good.is _, Good.is _, Good.is _, Good.is _, Good.is _, Good.is _, Good.is _, Good.is _, Good.is _, Good.is _, Good.is _, Good.is _, Good.is _, Good.is _, Good.is _, Good.is _, Good.is _, Good.is _, Good.is _, Good.is _, Good.is _, Good.is _, Good.is _, Good.is _, Good.is _, Good.is _, Good.is _, Good.is _, Good.is _, Good.is _, Good.is _, Good.is _, Good.is _, Good.is _, Good.is _, Good.is _, Good.is _, trivial⟩
      ⟨E0, h, hy, Nat.le_refl _⟩ (A := ?A1) ?hA1 ?howe1 ?hfin1
     case hA1 =>
      intro vs
      simp only [putAll, Act.put, sA, sZ, sS, Nat.zero_add, Nat.reduceAdd]
      exact rfl
     case howe1 =>
      clear E0 h hy
      intro hf
      refine ⟨oE 0 [] hf rfl ?_, oE 1 [] hf rfl ?_, oE 2 [0, 1] hf rfl ?_, oE 3 [2] hf rfl ?_, oE 4 [3] hf rfl ?_, oE 5 [4] hf rfl ?_, oE 6 [5] hf rfl ?_, oE 7 [5] hf rfl ?_, oE 8 [5, 6, 7] hf rfl ?_, oE 9 [5, 8] hf rfl ?_, oE 10 [5, 9] hf rfl ?_, oE 11 [5, 10] hf rfl ?_, oE 12 [11] hf rfl ?_, oE 13 [11] hf rfl ?_, oE 14 [11, 12, 13] hf rfl ?_, oE 15 [11, 14] hf rfl ?_, oE 16 [11] hf rfl ?_, oE 17 [11] hf rfl ?_, oE 18 [11, 16, 17] hf rfl ?_, oE 19 [11, 18] hf rfl ?_, oE 20 [11, 15, 19] hf rfl ?_, oE 21 [5, 11, 20] hf rfl ?_, oE 22 [5, 21] hf rfl ?_, oE 23 [22] hf rfl ?_, oE 24 [23] hf rfl ?_, oE 25 [23] hf rfl ?_, oE 26 [23, 24, 25] hf rfl ?_, oE 27 [23, 26] hf rfl ?_, oE 28 [23, 27] hf rfl ?_, oE 29 [23, 28] hf rfl ?_, oE 30 [29] hf rfl ?_, oE 31 [29] hf rfl ?_, oE 32 [29] hf rfl ?_, oE 33 [29] hf rfl ?_, oE 34 [29] hf rfl ?_, oE 35 [29] hf rfl ?_, oE 36 [35] hf rfl ?_, oE 37 [35] hf rfl ?_, oE 38 [35] hf rfl ?_, oE 39 [35] hf rfl ?_, oE 40 [35] hf rfl ?_, oE 41 [35] hf rfl ?_, oE 42 [35] hf rfl ?_, oE 43 [35] hf rfl ?_, oE 44 [35] hf rfl ?_, oE 45 [29] hf rfl ?_, oE 46 [23, 29, 45] hf rfl ?_, oE 47 [23, 46] hf rfl ?_, oE 48 [47] hf rfl ?_, oE 49 [48] hf rfl ?_, oE 50 [48, 49] hf rfl ?_, oE 51 [48, 50] hf rfl ?_, oE 52 [51] hf rfl ?_, oE 53 [51] hf rfl ?_, oE 54 [51] hf rfl ?_, oE 55 [51] hf rfl ?_, oE 56 [51] hf rfl ?_, oE 57 [51] hf rfl ?_, oE 58 [51] hf rfl ?_, oE 59 [51] hf rfl ?_, oE 60 [51] hf rfl ?_, oE 61 [51] hf rfl ?_, oE 62 [48, 51, 61] hf rfl ?_, oE 63 [48, 62] hf rfl ?_, oE 64 [63] hf rfl ?_, oE 65 [63] hf rfl ?_, oE 66 [63] hf rfl ?_, oE 67 [63] hf rfl ?_, oE 68 [63] hf rfl ?_, oE 69 [63] hf rfl ?_, oE 70 [63] hf rfl ?_, oE 71 [63] hf rfl ?_, oE 72 [63] hf rfl ?_, oE 73 [63] hf rfl ?_, oE 74 [48, 63, 73] hf rfl ?_, oE 75 [48, 74] hf rfl ?_, trivial⟩
      all_goals intro vs W hS hp hx KO hKO
      all_goals simp only [Act.put, sA, sZ, sS] at hKO
      ·go_simp; exact hKO _ W (.refl W) rfl
      ·go_simp; exact hKO _ W (.refl W) rfl
      ·have e0 := isOf hp.1; have e1 := isOf hp.2.1; simp only [e0, e1] at hKO; go_simp; exact hKO _ W (.refl W) rfl
      ·have e2 := isOf hp.1; simp only [e2] at hKO
       have fc := Iw.cell (hS.2.1) (i := j) (by omega)
       go_simp; exact hKO _ W (.refl W) rfl
      ·have e3 := isOf hp.1; simp only [e3] at hKO; go_simp; exact hKO _ W (Ext.refl W) (by first | rfl | exact congrArg Value.bool (decide_eq_true H4.out))
      ·have e4 := isOf hp.1; simp only [e4] at hKO; go_simp; exact hKO _ W (.refl W) rfl
      ·have e5 := isOf hp.1; simp only [e5] at hKO; go_simp; exact hKO _ W (.refl W) rfl
      ·have e5 := isOf hp.1; simp only [e5] at hKO; go_simp; exact hKO _ W (.refl W) rfl
      ·have e5 := isOf hp.1; have e6 := isOf hp.2.1; have e7 := isOf hp.2.2.1; simp only [e5, e6, e7] at hKO; go_simp; exact hKO _ W (.refl W) rfl
      ·have e5 := isOf hp.1; have e8 := isOf hp.2.1; simp only [e5, e8] at hKO
       have fc := Iw.cell (hS.2.2.1) (i := j) (by omega)
       go_simp; exact hKO _ W (.refl W) rfl
      ·have e5 := isOf hp.1; have e9 := isOf hp.2.1; simp only [e5, e9] at hKO; go_simp; exact hKO _ W (Ext.refl W) (by first | rfl | exact congrArg Value.bool (decide_eq_false H5.out))
      ·have e5 := isOf hp.1; have e10 := isOf hp.2.1; simp only [e5, e10] at hKO; go_simp; exact hKO _ W (.refl W) rfl
      ·have e11 := isOf hp.1; simp only [e11] at hKO; go_simp; exact hKO _ W (.refl W) rfl
      ·have e11 := isOf hp.1; simp only [e11] at hKO; go_simp; exact hKO _ W (.refl W) rfl
      ·have e11 := isOf hp.1; have e12 := isOf hp.2.1; have e13 := isOf hp.2.2.1; simp only [e11, e12, e13] at hKO; go_simp; exact hKO _ W (.refl W) rfl
      ·have e11 := isOf hp.1; have e14 := isOf hp.2.1; simp only [e11, e14] at hKO
       have fc := Iw.cell (hS.2.2.1) (i := j) (by omega)
       go_simp; exact hKO _ W (.refl W) rfl
      ·have e11 := isOf hp.1; simp only [e11] at hKO; go_simp; exact hKO _ W (.refl W) rfl
      ·have e11 := isOf hp.1; simp only [e11] at hKO; go_simp; exact hKO _ W (.refl W) rfl
      ·have e11 := isOf hp.1; have e16 := isOf hp.2.1; have e17 := isOf hp.2.2.1; simp only [e11, e16, e17] at hKO; go_simp; exact hKO _ W (.refl W) rfl
      ·have e11 := isOf hp.1; have e18 := isOf hp.2.1; simp only [e11, e18] at hKO
       have fc := Iw.cell (hS.2.1) (i := j) (by omega)
       go_simp; exact hKO _ W (.refl W) rfl
      ·have e11 := isOf hp.1; have e15 := isOf hp.2.1; have e19 := isOf hp.2.2.1; simp only [e11, e15, e19] at hKO; go_simp; exact hKO _ W (Ext.refl W) (by first | rfl | exact congrArg Value.bool (decide_eq_false H6.out))
      ·have e5 := isOf hp.1; have e11 := isOf hp.2.1; have e20 := isOf hp.2.2.1; simp only [e5, e11, e20] at hKO; go_simp; exact hKO _ W (.refl W) rfl
      ·have e5 := isOf hp.1; have e21 := isOf hp.2.1; simp only [e5, e21] at hKO; go_simp; exact hKO _ W (.refl W) rfl
      ·have e22 := isOf hp.1; simp only [e22] at hKO; go_simp; exact hKO _ W (.refl W) rfl
      ·have e23 := isOf hp.1; simp only [e23] at hKO; go_simp; exact hKO _ W (.refl W) rfl
      ·have e23 := isOf hp.1; simp only [e23] at hKO; go_simp; exact hKO _ W (.refl W) rfl
      ·have e23 := isOf hp.1; have e24 := isOf hp.2.1; have e25 := isOf hp.2.2.1; simp only [e23, e24, e25] at hKO; go_simp; exact hKO _ W (.refl W) rfl
      ·have e23 := isOf hp.1; have e26 := isOf hp.2.1; simp only [e23, e26] at hKO
       have fc := Iw.cell (hS.2.1) (i := j) (by omega)
       go_simp; exact hKO _ W (.refl W) rfl
      ·have e23 := isOf hp.1; have e27 := isOf hp.2.1; simp only [e23, e27] at hKO; go_simp; exact hKO _ W (Ext.refl W) (by first | rfl | exact congrArg Value.bool (decide_eq_false H7.out))
      ·have e23 := isOf hp.1; have e28 := isOf hp.2.1; simp only [e23, e28] at hKO; go_simp; exact hKO _ W (.refl W) rfl
      ·have e29 := isOf hp.1; simp only [e29] at hKO; go_simp; exact hKO _ W (.refl W) rfl
      ·have e29 := isOf hp.1; simp only [e29] at hKO; go_simp; exact hKO _ W (.refl W) rfl
      ·have e29 := isOf hp.1; simp only [e29] at hKO; go_simp; exact hKO _ W (.refl W) rfl
      ·have e29 := isOf hp.1; simp only [e29] at hKO; go_simp; exact hKO _ W (.refl W) rfl
      ·have e29 := isOf hp.1; simp only [e29] at hKO; go_simp; exact hKO _ W (.refl W) rfl
      ·have e29 := isOf hp.1; simp only [e29] at hKO; go_simp; exact hKO _ W (.refl W) rfl
      ·have e35 := isOf hp.1; simp only [e35] at hKO; go_simp; exact hKO _ W (.refl W) rfl
      ·have e35 := isOf hp.1; simp only [e35] at hKO; go_simp; exact hKO _ W (.refl W) rfl
      ·have e35 := isOf hp.1; simp only [e35] at hKO; go_simp; exact hKO _ W (.refl W) rfl
      ·have e35 := isOf hp.1; simp only [e35] at hKO; go_simp; exact hKO _ W (.refl W) rfl
      ·have e35 := isOf hp.1; simp only [e35] at hKO; go_simp; exact hKO _ W (.refl W) rfl
      ·have e35 := isOf hp.1; simp only [e35] at hKO; go_simp; exact hKO _ W (.refl W) rfl
      ·have e35 := isOf hp.1; simp only [e35] at hKO; go_simp; exact hKO _ W (.refl W) rfl
      ·have e35 := isOf hp.1; simp only [e35] at hKO; go_simp; exact hKO _ W (.refl W) rfl
      ·have e35 := isOf hp.1; simp only [e35] at hKO; go_simp; exact hKO _ W (.refl W) rfl
      ·have e29 := isOf hp.1; simp only [e29] at hKO; go_simp; exact hKO _ W (.refl W) rfl
      ·have e23 := isOf hp.1; have e29 := isOf hp.2.1; have e45 := isOf hp.2.2.1; simp only [e23, e29, e45] at hKO; go_simp; exact hKO _ W (.refl W) rfl
      ·have e23 := isOf hp.1; have e46 := isOf hp.2.1; simp only [e23, e46] at hKO; go_simp; exact hKO _ W (.refl W) rfl
      ·have e47 := isOf hp.1; simp only [e47] at hKO; go_simp; exact hKO _ W (.refl W) rfl
      ·have e48 := isOf hp.1; simp only [e48] at hKO; go_simp; exact hKO _ W (.refl W) rfl
      ·have e48 := isOf hp.1; have e49 := isOf hp.2.1; simp only [e48, e49] at hKO; go_simp; exact hKO _ W (Ext.refl W) (by first | rfl | exact congrArg Value.bool (decide_eq_false HJ.out))
      ·have e48 := isOf hp.1; have e50 := isOf hp.2.1; simp only [e48, e50] at hKO; go_simp; exact hKO _ W (.refl W) rfl
      ·have e51 := isOf hp.1; simp only [e51] at hKO; go_simp; exact hKO _ W (.refl W) rfl
      ·have e51 := isOf hp.1; simp only [e51] at hKO; go_simp; exact hKO _ W (.refl W) rfl
      ·have e51 := isOf hp.1; simp only [e51] at hKO; go_simp; exact hKO _ W (.refl W) rfl
      ·have e51 := isOf hp.1; simp only [e51] at hKO; go_simp; exact hKO _ W (.refl W) rfl
      ·have e51 := isOf hp.1; simp only [e51] at hKO; go_simp; exact hKO _ W (.refl W) rfl
      ·have e51 := isOf hp.1; simp only [e51] at hKO; go_simp; exact hKO _ W (.refl W) rfl
      ·have e51 := isOf hp.1; simp only [e51] at hKO; go_simp; exact hKO _ W (.refl W) rfl
      ·have e51 := isOf hp.1; simp only [e51] at hKO; go_simp; exact hKO _ W (.refl W) rfl
      ·have e51 := isOf hp.1; simp only [e51] at hKO; go_simp; exact hKO _ W (.refl W) rfl
      ·have e51 := isOf hp.1; simp only [e51] at hKO; go_simp; exact hKO _ W (.refl W) rfl
      ·have e48 := isOf hp.1; have e51 := isOf hp.2.1; have e61 := isOf hp.2.2.1; simp only [e48, e51, e61] at hKO; go_simp; exact hKO _ W (.refl W) rfl
      ·have e48 := isOf hp.1; have e62 := isOf hp.2.1; simp only [e48, e62] at hKO; go_simp; exact hKO _ W (.refl W) rfl
      ·have e63 := isOf hp.1; simp only [e63] at hKO; go_simp; exact hKO _ W (.refl W) rfl
      ·have e63 := isOf hp.1; simp only [e63] at hKO; go_simp; exact hKO _ W (.refl W) rfl
      ·have e63 := isOf hp.1; simp only [e63] at hKO; go_simp; exact hKO _ W (.refl W) rfl
      ·have e63 := isOf hp.1; simp only [e63] at hKO; go_simp; exact hKO _ W (.refl W) rfl
      ·have e63 := isOf hp.1; simp only [e63] at hKO; go_simp; exact hKO _ W (.refl W) rfl
      ·have e63 := isOf hp.1; simp only [e63] at hKO; go_simp; exact hKO _ W (.refl W) rfl
      ·have e63 := isOf hp.1; simp only [e63] at hKO; go_simp; exact hKO _ W (.refl W) rfl
      ·have e63 := isOf hp.1; simp only [e63] at hKO; go_simp; exact hKO _ W (.refl W) rfl
      ·have e63 := isOf hp.1; simp only [e63] at hKO; go_simp; exact hKO _ W (.refl W) rfl
      ·have e63 := isOf hp.1; simp only [e63] at hKO; go_simp; exact hKO _ W (.refl W) rfl
      ·have e48 := isOf hp.1; have e63 := isOf hp.2.1; have e73 := isOf hp.2.2.1; simp only [e48, e63, e73] at hKO; go_simp; exact hKO _ W (.refl W) rfl
      ·have e48 := isOf hp.1; have e74 := isOf hp.2.1; simp only [e48, e74] at hKO; go_simp; exact hKO _ W (.refl W) rfl
     intro vs W1 hS hp
     clear szw1 E0 h hy
     obtain ⟨E0, h, hy, sz1⟩ := hS
     obtain ⟨h1_0, h1_1, h1_2, h1_3, h1_4, h1_5, h1_6, h1_7, h1_8, h1_9, h1_10, h1_11, h1_12, h1_13, h1_14, h1_15, h1_16, h1_17, h1_18, h1_19, h1_20, h1_21, h1_22, h1_23, h1_24, h1_25, h1_26, h1_27, h1_28, h1_29, h1_30, h1_31, h1_32, h1_33, h1_34, h1_35, h1_36, h1_37, h1_38, h1_39, h1_40, h1_41, h1_42, h1_43, h1_44, h1_45, h1_46, h1_47, h1_48, h1_49, h1_50, h1_51, h1_52, h1_53, h1_54, h1_55, h1_56, h1_57, h1_58, h1_59, h1_60, h1_61, h1_62, h1_63, h1_64, h1_65, h1_66, h1_67, h1_68, h1_69, h1_70, h1_71, h1_72, h1_73, h1_74, h1_75, -⟩ := hp
     replace h1_0 : vs 0 = .slice (some ⟨b, o, none⟩) n c := h1_0
     replace h1_1 : vs 1 = .int .i64 (j : Int) := h1_1
     replace h1_2 : vs 2 = .pointer (some ⟨b, o + j, none⟩) := h1_2
     replace h1_3 : vs 3 = .int .i64 (atL l j) := h1_3
     replace h1_4 : vs 4 = .bool true := h1_4
     replace h1_5 : vs 5 = .bool true := h1_5
     replace h1_6 : vs 6 = .slice (some ⟨bq, oq, none⟩) n c1 := h1_6
     replace h1_7 : vs 7 = .int .i64 (j : Int) := h1_7
     replace h1_8 : vs 8 = .pointer (some ⟨bq, oq + j, none⟩) := h1_8
     replace h1_9 : vs 9 = .int .i64 (atL y j) := h1_9
     replace h1_10 : vs 10 = .bool false := h1_10
     replace h1_11 : vs 11 = .bool false := h1_11
     replace h1_12 : vs 12 = .slice (some ⟨bq, oq, none⟩) n c1 := h1_12
     replace h1_13 : vs 13 = .int .i64 (j : Int) := h1_13
     replace h1_14 : vs 14 = .pointer (some ⟨bq, oq + j, none⟩) := h1_14
     replace h1_15 : vs 15 = .int .i64 (atL y j) := h1_15
     replace h1_16 : vs 16 = .slice (some ⟨b, o, none⟩) n c := h1_16
     replace h1_17 : vs 17 = .int .i64 (j : Int) := h1_17
     replace h1_18 : vs 18 = .pointer (some ⟨b, o + j, none⟩) := h1_18
     replace h1_19 : vs 19 = .int .i64 (atL l j) := h1_19
     replace h1_20 : vs 20 = .bool false := h1_20
     replace h1_21 : vs 21 = .bool false := h1_21
     replace h1_22 : vs 22 = .bool false := h1_22
     replace h1_23 : vs 23 = .bool false := h1_23
     replace h1_24 : vs 24 = .slice (some ⟨b, o, none⟩) n c := h1_24
     replace h1_25 : vs 25 = .int .i64 (j : Int) := h1_25
     replace h1_26 : vs 26 = .pointer (some ⟨b, o + j, none⟩) := h1_26
     replace h1_27 : vs 27 = .int .i64 (atL l j) := h1_27
     replace h1_28 : vs 28 = .bool false := h1_28
     replace h1_29 : vs 29 = .bool false := h1_29
     replace h1_30 : vs 30 = undef := h1_30
     replace h1_31 : vs 31 = undef := h1_31
     replace h1_32 : vs 32 = undef := h1_32
     replace h1_33 : vs 33 = undef := h1_33
     replace h1_34 : vs 34 = undef := h1_34
     replace h1_35 : vs 35 = undef := h1_35
     replace h1_36 : vs 36 = undef := h1_36
     replace h1_37 : vs 37 = undef := h1_37
     replace h1_38 : vs 38 = undef := h1_38
     replace h1_39 : vs 39 = undef := h1_39
     replace h1_40 : vs 40 = undef := h1_40
     replace h1_41 : vs 41 = undef := h1_41
     replace h1_42 : vs 42 = undef := h1_42
     replace h1_43 : vs 43 = undef := h1_43
     replace h1_44 : vs 44 = undef := h1_44
     replace h1_45 : vs 45 = undef := h1_45
     replace h1_46 : vs 46 = .bool false := h1_46
     replace h1_47 : vs 47 = .bool false := h1_47
     replace h1_48 : vs 48 = .bool false := h1_48
     replace h1_49 : vs 49 = .int .i64 (j : Int) := h1_49
     replace h1_50 : vs 50 = .bool false := h1_50
     replace h1_51 : vs 51 = .bool false := h1_51
     replace h1_52 : vs 52 = undef := h1_52
     replace h1_53 : vs 53 = undef := h1_53
     replace h1_54 : vs 54 = undef := h1_54
     replace h1_55 : vs 55 = undef := h1_55
     replace h1_56 : vs 56 = undef := h1_56
     replace h1_57 : vs 57 = undef := h1_57
     replace h1_58 : vs 58 = undef := h1_58
     replace h1_59 : vs 59 = undef := h1_59
     replace h1_60 : vs 60 = undef := h1_60
     replace h1_61 : vs 61 = undef := h1_61
     replace h1_62 : vs 62 = .bool false := h1_62
     replace h1_63 : vs 63 = .bool false := h1_63
     replace h1_64 : vs 64 = undef := h1_64
     replace h1_65 : vs 65 = undef := h1_65
     replace h1_66 : vs 66 = undef := h1_66
     replace h1_67 : vs 67 = undef := h1_67
     replace h1_68 : vs 68 = undef := h1_68
     replace h1_69 : vs 69 = undef := h1_69
     replace h1_70 : vs 70 = undef := h1_70
     replace h1_71 : vs 71 = undef := h1_71
     replace h1_72 : vs 72 = undef := h1_72
     replace h1_73 : vs 73 = undef := h1_73
     replace h1_74 : vs 74 = .bool false := h1_74
     replace h1_75 : vs 75 = .bool false := h1_75
     simp only [h1_0, h1_1, h1_2, h1_3, h1_4, h1_5, h1_6, h1_7, h1_8, h1_9, h1_10, h1_11, h1_12, h1_13, h1_14, h1_15, h1_16, h1_17, h1_18, h1_19, h1_20, h1_21, h1_22, h1_23, h1_24, h1_25, h1_26, h1_27, h1_28, h1_29, h1_30, h1_31, h1_32, h1_33, h1_34, h1_35, h1_36, h1_37, h1_38, h1_39, h1_40, h1_41, h1_42, h1_43, h1_44, h1_45, h1_46, h1_47, h1_48, h1_49, h1_50, h1_51, h1_52, h1_53, h1_54, h1_55, h1_56, h1_57, h1_58, h1_59, h1_60, h1_61, h1_62, h1_63, h1_64, h1_65, h1_66, h1_67, h1_68, h1_69, h1_70, h1_71, h1_72, h1_73, h1_74, h1_75]
     clear h1_0 h1_1 h1_2 h1_3 h1_4 h1_5 h1_6 h1_7 h1_8 h1_9 h1_10 h1_11 h1_12 h1_13 h1_14 h1_15 h1_16 h1_17 h1_18 h1_19 h1_20 h1_21 h1_22 h1_23 h1_24 h1_25 h1_26 h1_27 h1_28 h1_29 h1_30 h1_31 h1_32 h1_33 h1_34 h1_35 h1_36 h1_37 h1_38 h1_39 h1_40 h1_41 h1_42 h1_43 h1_44 h1_45 h1_46 h1_47 h1_48 h1_49 h1_50 h1_51 h1_52 h1_53 h1_54 h1_55 h1_56 h1_57 h1_58 h1_59 h1_60 h1_61 h1_62 h1_63 h1_64 h1_65 h1_66 h1_67 h1_68 h1_69 h1_70 h1_71 h1_72 h1_73 h1_74 h1_75; go_wp2
     go_roundw
     case rel => exact ⟨j + 1, by go_num, by omega, h, hy, E0⟩
     case measure => simp [intOf]; omega
    ·have H4 : Hid (¬ atL l j ≥ 0) := Lib.hid (by omega)
     have H5 := Lib.hid g2
     have H6 := Lib.hid g3
     have H7 : Hid (atL l j < 0) := Lib.hid g1
     clear g1 g2 g3
     go_upto_region 11 with (fail)
     simp only [appC, appN]
     have szw2 := Ext.size E0
     refine region_gs ((.one fun v _ => v = .slice (some ⟨b, o, none⟩) n c) ::
       (.one fun v _ => v = .int .i64 (j : Int)) ::
       (.one fun v _ => v = .pointer (some ⟨b, o + j, none⟩)) ::
       (.one fun v _ => v = .int .i64 (atL l j)) ::
       (.one fun v _ => v = .bool false) ::
       (.one fun v _ => v = .bool false) ::
       (.one fun v _ => v = undef) ::
       (.one fun v _ => v = undef) ::
       (.one fun v _ => v = undef) ::
       (.one fun v _ => v = undef) ::
       (.one fun v _ => v = undef) ::
       (.one fun v _ => v = undef) ::
       (.one fun v _ => v = undef) ::
       (.one fun v _ => v = undef) ::
       (.one fun v _ => v = undef) ::
       (.one fun v _ => v = undef) ::
       (.one fun v _ => v = undef) ::
       (.one fun v _ => v = undef) ::
       (.one fun v _ => v = undef) ::
       (.one fun v _ => v = undef) ::
       (.one fun v _ => v = undef) ::
       (.one fun v _ => v = undef) ::
       (.one fun v _ => v = .bool false) ::
       (.one fun v _ => v = .bool false) ::
       (.one fun v _ => v = .slice (some ⟨b, o, none⟩) n c) ::
       (.one fun v _ => v = .int .i64 (j : Int)) ::
       (.one fun v _ => v = .pointer (some ⟨b, o + j, none⟩)) ::
       (.one fun v _ => v = .int .i64 (atL l j)) ::
       (.one fun v _ => v = .bool true) ::
       (.one fun v _ => v = .bool true) ::
       (.one fun v _ => v = .slice (some ⟨bq, oq, none⟩) n c1) ::
       (.one fun v _ => v = .int .i64 (j : Int)) ::
       (.one fun v _ => v = .pointer (some ⟨bq, oq + j, none⟩)) ::
       (.one fun v _ => v = .int .i64 (atL y j)) ::
       (.one fun v _ => v = .bool false) ::
       (.one fun v _ => v = .bool false) ::
       (.one fun v _ => v = .slice (some ⟨bq, oq, none⟩) n c1) ::
       (.one fun v _ => v = .int .i64 (j : Int)) ::
       (.one fun v _ => v = .pointer (some ⟨bq, oq + j, none⟩)) ::
       (.one fun v _ => v = .int .i64 (atL y j)) ::
       (.one fun v _ => v = .slice (some ⟨b, o, none⟩) n c) ::
       (.one fun v _ => v = .int .i64 (j : Int)) ::
       (.one fun v _ => v = .pointer (some ⟨b, o + j, none⟩)) ::
       (.one fun v _ => v = .int .i64 (atL l j)) ::
       (.one fun v _ => v = .bool false) ::
       (.one fun v _ => v = .bool false) ::
       (.one fun v _ => v = .bool false) ::
       (.one fun v _ => v = .bool false) ::
       (.one fun v _ => v = .bool false) ::
       (.one fun v _ => v = .int .i64 (j : Int)) ::
       (.one fun v _ => v = .bool false) ::
       (.one fun v _ => v = .bool false) ::
       (.one fun v _ => v = undef) ::
       (.one fun v _ => v = undef) ::
       (.one fun v _ => v = undef) ::
       (.one fun v _ => v = undef) ::
       (.one fun v _ => v = undef) ::
       (.one fun v _ => v = undef) ::
       (.one fun v _ => v = undef) ::
       (.one fun v _ => v = undef) ::
       (.one fun v _ => v = undef) ::
       (.one fun v _ => v = undef) ::
       (.one fun v _ => v = .bool false) ::
       (.one fun v _ => v = .bool false) ::
       (.one fun v _ => v = undef) ::
       (.one fun v _ => v = undef) ::
       (.one fun v _ => v = undef) ::
       (.one fun v _ => v = undef) ::
       (.one fun v _ => v = undef) ::
       (.one fun v _ => v = undef) ::
       (.one fun v _ => v = undef) ::
       (.one fun v _ => v = undef) ::
       (.one fun v _ => v = undef) ::
       (.one fun v _ => v = undef) ::
       (.one fun v _ => v = .bool false) ::
       (.one fun v _ => v = .bool false) :: [])
      (fun W => Ext w W ∧ Iw 0 s0 W (some ⟨b, o, none⟩) n c (l) ∧ Iw s0 s1 W (some ⟨bq, oq, none⟩) n c1 (y) ∧ wr.heap.size ≤ W.heap.size) ⟨Good.is _, Good.is _, Good.is _, Good.is _, Good.is _, Good.is _, Good.is _, Good.is _, Good.is _, Good.is _, Good.is _, Good.is _, Good.is _, Good.is _, Good.is _, Good.is _, Good.is _, Good.is _, Good.is _, Good.is _, Good.is _, Good.is _, Good.is _, Good.is _, Good.is _, Good.is _, Good.is _, Good.is _, Good.is _, Good.is _, Good.is _, Good.is _, Good.is _, Good.is _, Good.is _, Good.is _, Good.is _, Good.is _, Good.is _, Good.is _, Good.is _, Good.is _, Good.is _, Good.is _, Good.is _, Good.is _, Good.is _, Good.is _, Good.is _, Good.is _, Good.is _, Good.is _, Good.is _, Good.is _, Good.is _, Good.is _, Good.is _, Good.is _, Good.is _, Good.is _, Good.is _, Good.is _, Good.is _, Good.is _, Good.is _, Good.is _, Good.is _, Good.is _, Good.is _, Good.is _, Good.is _, Good.is _, Good.is _, Good.is _, Good.is _, Good.is _, trivial⟩
      ⟨E0, h, hy, Nat.le_refl _⟩ (A := ?A2) ?hA2 ?howe2 ?hfin2
     case hA2 =>
      intro vs
      simp only [putAll, Act.put, sA, sZ, sS, Nat.zero_add, Nat.reduceAdd]
      exact rfl
     case howe2 =>
      clear E0 h hy
      intro hf
      refine ⟨oE 0 [] hf rfl ?_, oE 1 [] hf rfl ?_, oE 2 [0, 1] hf rfl ?_, oE 3 [2] hf rfl ?_, oE 4 [3] hf rfl ?_, oE 5 [4] hf rfl ?_, oE 6 [5] hf rfl ?_, oE 7 [5] hf rfl ?_, oE 8 [5] hf rfl ?_, oE 9 [5] hf rfl ?_, oE 10 [5] hf rfl ?_, oE 11 [5] hf rfl ?_, oE 12 [11] hf rfl ?_, oE 13 [11] hf rfl ?_, oE 14 [11] hf rfl ?_, oE 15 [11] hf rfl ?_, oE 16 [11] hf rfl ?_, oE 17 [11] hf rfl ?_, oE 18 [11] hf rfl ?_, oE 19 [11] hf rfl ?_, oE 20 [11] hf rfl ?_, oE 21 [5] hf rfl ?_, oE 22 [5, 21] hf rfl ?_, oE 23 [22] hf rfl ?_, oE 24 [23] hf rfl ?_, oE 25 [23] hf rfl ?_, oE 26 [23, 24, 25] hf rfl ?_, oE 27 [23, 26] hf rfl ?_, oE 28 [23, 27] hf rfl ?_, oE 29 [23, 28] hf rfl ?_, oE 30 [29] hf rfl ?_, oE 31 [29] hf rfl ?_, oE 32 [29, 30, 31] hf rfl ?_, oE 33 [29, 32] hf rfl ?_, oE 34 [29, 33] hf rfl ?_, oE 35 [29, 34] hf rfl ?_, oE 36 [35] hf rfl ?_, oE 37 [35] hf rfl ?_, oE 38 [35, 36, 37] hf rfl ?_, oE 39 [35, 38] hf rfl ?_, oE 40 [35] hf rfl ?_, oE 41 [35] hf rfl ?_, oE 42 [35, 40, 41] hf rfl ?_, oE 43 [35, 42] hf rfl ?_, oE 44 [35, 39, 43] hf rfl ?_, oE 45 [29, 35, 44] hf rfl ?_, oE 46 [23, 29, 45] hf rfl ?_, oE 47 [23, 46] hf rfl ?_, oE 48 [47] hf rfl ?_, oE 49 [48] hf rfl ?_, oE 50 [48, 49] hf rfl ?_, oE 51 [48, 50] hf rfl ?_, oE 52 [51] hf rfl ?_, oE 53 [51] hf rfl ?_, oE 54 [51] hf rfl ?_, oE 55 [51] hf rfl ?_, oE 56 [51] hf rfl ?_, oE 57 [51] hf rfl ?_, oE 58 [51] hf rfl ?_, oE 59 [51] hf rfl ?_, oE 60 [51] hf rfl ?_, oE 61 [51] hf rfl ?_, oE 62 [48, 51, 61] hf rfl ?_, oE 63 [48, 62] hf rfl ?_, oE 64 [63] hf rfl ?_, oE 65 [63] hf rfl ?_, oE 66 [63] hf rfl ?_, oE 67 [63] hf rfl ?_, oE 68 [63] hf rfl ?_, oE 69 [63] hf rfl ?_, oE 70 [63] hf rfl ?_, oE 71 [63] hf rfl ?_, oE 72 [63] hf rfl ?_, oE 73 [63] hf rfl ?_, oE 74 [48, 63, 73] hf rfl ?_, oE 75 [48, 74] hf rfl ?_, trivial⟩
      all_goals intro vs W hS hp hx KO hKO
      all_goals simp only [Act.put, sA, sZ, sS] at hKO
      ·go_simp; exact hKO _ W (.refl W) rfl
      ·go_simp; exact hKO _ W (.refl W) rfl
      ·have e0 := isOf hp.1; have e1 := isOf hp.2.1; simp only [e0, e1] at hKO; go_simp; exact hKO _ W (.refl W) rfl
      ·have e2 := isOf hp.1; simp only [e2] at hKO
       have fc := Iw.cell (hS.2.1) (i := j) (by omega)
       go_simp; exact hKO _ W (.refl W) rfl
      ·have e3 := isOf hp.1; simp only [e3] at hKO; go_simp; exact hKO _ W (Ext.refl W) (by first | rfl | exact congrArg Value.bool (decide_eq_false H4.out))
      ·have e4 := isOf hp.1; simp only [e4] at hKO; go_simp; exact hKO _ W (.refl W) rfl
      ·have e5 := isOf hp.1; simp only [e5] at hKO; go_simp; exact hKO _ W (.refl W) rfl
      ·have e5 := isOf hp.1; simp only [e5] at hKO; go_simp; exact hKO _ W (.refl W) rfl
      ·have e5 := isOf hp.1; simp only [e5] at hKO; go_simp; exact hKO _ W (.refl W) rfl
      ·have e5 := isOf hp.1; simp only [e5] at hKO; go_simp; exact hKO _ W (.refl W) rfl
      ·have e5 := isOf hp.1; simp only [e5] at hKO; go_simp; exact hKO _ W (.refl W) rfl
      ·have e5 := isOf hp.1; simp only [e5] at hKO; go_simp; exact hKO _ W (.refl W) rfl
      ·have e11 := isOf hp.1; simp only [e11] at hKO; go_simp; exact hKO _ W (.refl W) rfl
      ·have e11 := isOf hp.1; simp only [e11] at hKO; go_simp; exact hKO _ W (.refl W) rfl
      ·have e11 := isOf hp.1; simp only [e11] at hKO; go_simp; exact hKO _ W (.refl W) rfl
      ·have e11 := isOf hp.1; simp only [e11] at hKO; go_simp; exact hKO _ W (.refl W) rfl
      ·have e11 := isOf hp.1; simp only [e11] at hKO; go_simp; exact hKO _ W (.refl W) rfl
      ·have e11 := isOf hp.1; simp only [e11] at hKO; go_simp; exact hKO _ W (.refl W) rfl
      ·have e11 := isOf hp.1; simp only [e11] at hKO; go_simp; exact hKO _ W (.refl W) rfl
      ·have e11 := isOf hp.1; simp only [e11] at hKO; go_simp; exact hKO _ W (.refl W) rfl
      ·have e11 := isOf hp.1; simp only [e11] at hKO; go_simp; exact hKO _ W (.refl W) rfl
      ·have e5 := isOf hp.1; simp only [e5] at hKO; go_simp; exact hKO _ W (.refl W) rfl
      ·have e5 := isOf hp.1; have e21 := isOf hp.2.1; simp only [e5, e21] at hKO; go_simp; exact hKO _ W (.refl W) rfl
      ·have e22 := isOf hp.1; simp only [e22] at hKO; go_simp; exact hKO _ W (.refl W) rfl
      ·have e23 := isOf hp.1; simp only [e23] at hKO; go_simp; exact hKO _ W (.refl W) rfl
      ·have e23 := isOf hp.1; simp only [e23] at hKO; go_simp; exact hKO _ W (.refl W) rfl
      ·have e23 := isOf hp.1; have e24 := isOf hp.2.1; have e25 := isOf hp.2.2.1; simp only [e23, e24, e25] at hKO; go_simp; exact hKO _ W (.refl W) rfl
      ·have e23 := isOf hp.1; have e26 := isOf hp.2.1; simp only [e23, e26] at hKO
       have fc := Iw.cell (hS.2.1) (i := j) (by omega)
       go_simp; exact hKO _ W (.refl W) rfl
      ·have e23 := isOf hp.1; have e27 := isOf hp.2.1; simp only [e23, e27] at hKO; go_simp; exact hKO _ W (Ext.refl W) (by first | rfl | exact congrArg Value.bool (decide_eq_true H7.out))
      ·have e23 := isOf hp.1; have e28 := isOf hp.2.1; simp only [e23, e28] at hKO; go_simp; exact hKO _ W (.refl W) rfl
      ·have e29 := isOf hp.1; simp only [e29] at hKO; go_simp; exact hKO _ W (.refl W) rfl
      ·have e29 := isOf hp.1; simp only [e29] at hKO; go_simp; exact hKO _ W (.refl W) rfl
      ·have e29 := isOf hp.1; have e30 := isOf hp.2.1; have e31 := isOf hp.2.2.1; simp only [e29, e30, e31] at hKO; go_simp; exact hKO _ W (.refl W) rfl
      ·have e29 := isOf hp.1; have e32 := isOf hp.2.1; simp only [e29, e32] at hKO
       have fc := Iw.cell (hS.2.2.1) (i := j) (by omega)
       go_simp; exact hKO _ W (.refl W) rfl
      ·have e29 := isOf hp.1; have e33 := isOf hp.2.1; simp only [e29, e33] at hKO; go_simp; exact hKO _ W (Ext.refl W) (by first | rfl | exact congrArg Value.bool (decide_eq_false H5.out))
      ·have e29 := isOf hp.1; have e34 := isOf hp.2.1; simp only [e29, e34] at hKO; go_simp; exact hKO _ W (.refl W) rfl
      ·have e35 := isOf hp.1; simp only [e35] at hKO; go_simp; exact hKO _ W (.refl W) rfl
      ·have e35 := isOf hp.1; simp only [e35] at hKO; go_simp; exact hKO _ W (.refl W) rfl
      ·have e35 := isOf hp.1; have e36 := isOf hp.2.1; have e37 := isOf hp.2.2.1; simp only [e35, e36, e37] at hKO; go_simp; exact hKO _ W (.refl W) rfl
      ·have e35 := isOf hp.1; have e38 := isOf hp.2.1; simp only [e35, e38] at hKO
       have fc := Iw.cell (hS.2.2.1) (i := j) (by omega)
       go_simp; exact hKO _ W (.refl W) rfl
      ·have e35 := isOf hp.1; simp only [e35] at hKO; go_simp; exact hKO _ W (.refl W) rfl
      ·have e35 := isOf hp.1; simp only [e35] at hKO; go_simp; exact hKO _ W (.refl W) rfl
      ·have e35 := isOf hp.1; have e40 := isOf hp.2.1; have e41 := isOf hp.2.2.1; simp only [e35, e40, e41] at hKO; go_simp; exact hKO _ W (.refl W) rfl
      ·have e35 := isOf hp.1; have e42 := isOf hp.2.1; simp only [e35, e42] at hKO
       have fc := Iw.cell (hS.2.1) (i := j) (by omega)
       go_simp; exact hKO _ W (.refl W) rfl
      ·have e35 := isOf hp.1; have e39 := isOf hp.2.1; have e43 := isOf hp.2.2.1; simp only [e35, e39, e43] at hKO; go_simp; exact hKO _ W (Ext.refl W) (by first | rfl | exact congrArg Value.bool (decide_eq_false H6.out))
      ·have e29 := isOf hp.1; have e35 := isOf hp.2.1; have e44 := isOf hp.2.2.1; simp only [e29, e35, e44] at hKO; go_simp; exact hKO _ W (.refl W) rfl
      ·have e23 := isOf hp.1; have e29 := isOf hp.2.1; have e45 := isOf hp.2.2.1; simp only [e23, e29, e45] at hKO; go_simp; exact hKO _ W (.refl W) rfl
      ·have e23 := isOf hp.1; have e46 := isOf hp.2.1; simp only [e23, e46] at hKO; go_simp; exact hKO _ W (.refl W) rfl
      ·have e47 := isOf hp.1; simp only [e47] at hKO; go_simp; exact hKO _ W (.refl W) rfl
      ·have e48 := isOf hp.1; simp only [e48] at hKO; go_simp; exact hKO _ W (.refl W) rfl
      ·have e48 := isOf hp.1; have e49 := isOf hp.2.1; simp only [e48, e49] at hKO; go_simp; exact hKO _ W (Ext.refl W) (by first | rfl | exact congrArg Value.bool (decide_eq_false HJ.out))
      ·have e48 := isOf hp.1; have e50 := isOf hp.2.1; simp only [e48, e50] at hKO; go_simp; exact hKO _ W (.refl W) rfl
      ·have e51 := isOf hp.1; simp only [e51] at hKO; go_simp; exact hKO _ W (.refl W) rfl
      ·have e51 := isOf hp.1; simp only [e51] at hKO; go_simp; exact hKO _ W (.refl W) rfl
      ·have e51 := isOf hp.1; simp only [e51] at hKO; go_simp; exact hKO _ W (.refl W) rfl
      ·have e51 := isOf hp.1; simp only [e51] at hKO; go_simp; exact hKO _ W (.refl W) rfl
      ·have e51 := isOf hp.1; simp only [e51] at hKO; go_simp; exact hKO _ W (.refl W) rfl
      ·have e51 := isOf hp.1; simp only [e51] at hKO; go_simp; exact hKO _ W (.refl W) rfl
      ·have e51 := isOf hp.1; simp only [e51] at hKO; go_simp; exact hKO _ W (.refl W) rfl
      ·have e51 := isOf hp.1; simp only [e51] at hKO; go_simp; exact hKO _ W (.refl W) rfl
      ·have e51 := isOf hp.1; simp only [e51] at hKO; go_simp; exact hKO _ W (.refl W) rfl
      ·have e51 := isOf hp.1; simp only [e51] at hKO; go_simp; exact hKO _ W (.refl W) rfl
      ·have e48 := isOf hp.1; have e51 := isOf hp.2.1; have e61 := isOf hp.2.2.1; simp only [e48, e51, e61] at hKO; go_simp; exact hKO _ W (.refl W) rfl
      ·have e48 := isOf hp.1; have e62 := isOf hp.2.1; simp only [e48, e62] at hKO; go_simp; exact hKO _ W (.refl W) rfl
      ·have e63 := isOf hp.1; simp only [e63] at hKO; go_simp; exact hKO _ W (.refl W) rfl
      ·have e63 := isOf hp.1; simp only [e63] at hKO; go_simp; exact hKO _ W (.refl W) rfl
      ·have e63 := isOf hp.1; simp only [e63] at hKO; go_simp; exact hKO _ W (.refl W) rfl
      ·have e63 := isOf hp.1; simp only [e63] at hKO; go_simp; exact hKO _ W (.refl W) rfl
      ·have e63 := isOf hp.1; simp only [e63] at hKO; go_simp; exact hKO _ W (.refl W) rfl
      ·have e63 := isOf hp.1; simp only [e63] at hKO; go_simp; exact hKO _ W (.refl W) rfl
      ·have e63 := isOf hp.1; simp only [e63] at hKO; go_simp; exact hKO _ W (.refl W) rfl
      ·have e63 := isOf hp.1; simp only [e63] at hKO; go_simp; exact hKO _ W (.refl W) rfl
      ·have e63 := isOf hp.1; simp only [e63] at hKO; go_simp; exact hKO _ W (.refl W) rfl
      ·have e63 := isOf hp.1; simp only [e63] at hKO; go_simp; exact hKO _ W (.refl W) rfl
      ·have e48 := isOf hp.1; have e63 := isOf hp.2.1; have e73 := isOf hp.2.2.1; simp only [e48, e63, e73] at hKO; go_simp; exact hKO _ W (.refl W) rfl
      ·have e48 := isOf hp.1; have e74 := isOf hp.2.1; simp only [e48, e74] at hKO; go_simp; exact hKO _ W (.refl W) rfl
     intro vs W2 hS hp
     clear szw2 E0 h hy
     obtain ⟨E0, h, hy, sz2⟩ := hS
     obtain ⟨h2_0, h2_1, h2_2, h2_3, h2_4, h2_5, h2_6, h2_7, h2_8, h2_9, h2_10, h2_11, h2_12, h2_13, h2_14, h2_15, h2_16, h2_17, h2_18, h2_19, h2_20, h2_21, h2_22, h2_23, h2_24, h2_25, h2_26, h2_27, h2_28, h2_29, h2_30, h2_31, h2_32, h2_33, h2_34, h2_35, h2_36, h2_37, h2_38, h2_39, h2_40, h2_41, h2_42, h2_43, h2_44, h2_45, h2_46, h2_47, h2_48, h2_49, h2_50, h2_51, h2_52, h2_53, h2_54, h2_55, h2_56, h2_57, h2_58, h2_59, h2_60, h2_61, h2_62, h2_63, h2_64, h2_65, h2_66, h2_67, h2_68, h2_69, h2_70, h2_71, h2_72, h2_73, h2_74, h2_75, -⟩ := hp
     replace h2_0 : vs 0 = .slice (some ⟨b, o, none⟩) n c := h2_0
     replace h2_1 : vs 1 = .int .i64 (j : Int) := h2_1
     replace h2_2 : vs 2 = .pointer (some ⟨b, o + j, none⟩) := h2_2
     replace h2_3 : vs 3 = .int .i64 (atL l j) := h2_3
     replace h2_4 : vs 4 = .bool false := h2_4
     replace h2_5 : vs 5 = .bool false := h2_5
     replace h2_6 : vs 6 = undef := h2_6
     replace h2_7 : vs 7 = undef := h2_7
     replace h2_8 : vs 8 = undef := h2_8
     replace h2_9 : vs 9 = undef := h2_9
     replace h2_10 : vs 10 = undef := h2_10
     replace h2_11 : vs 11 = undef := h2_11
     replace h2_12 : vs 12 = undef := h2_12
     replace h2_13 : vs 13 = undef := h2_13
     replace h2_14 : vs 14 = undef := h2_14
     replace h2_15 : vs 15 = undef := h2_15
     replace h2_16 : vs 16 = undef := h2_16
     replace h2_17 : vs 17 = undef := h2_17
     replace h2_18 : vs 18 = undef := h2_18
     replace h2_19 : vs 19 = undef := h2_19
     replace h2_20 : vs 20 = undef := h2_20
     replace h2_21 : vs 21 = undef := h2_21
     replace h2_22 : vs 22 = .bool false := h2_22
     replace h2_23 : vs 23 = .bool false := h2_23
     replace h2_24 : vs 24 = .slice (some ⟨b, o, none⟩) n c := h2_24
     replace h2_25 : vs 25 = .int .i64 (j : Int) := h2_25
     replace h2_26 : vs 26 = .pointer (some ⟨b, o + j, none⟩) := h2_26
     replace h2_27 : vs 27 = .int .i64 (atL l j) := h2_27
     replace h2_28 : vs 28 = .bool true := h2_28
     replace h2_29 : vs 29 = .bool true := h2_29
     replace h2_30 : vs 30 = .slice (some ⟨bq, oq, none⟩) n c1 := h2_30
     replace h2_31 : vs 31 = .int .i64 (j : Int) := h2_31
     replace h2_32 : vs 32 = .pointer (some ⟨bq, oq + j, none⟩) := h2_32
     replace h2_33 : vs 33 = .int .i64 (atL y j) := h2_33
     replace h2_34 : vs 34 = .bool false := h2_34
     replace h2_35 : vs 35 = .bool false := h2_35
     replace h2_36 : vs 36 = .slice (some ⟨bq, oq, none⟩) n c1 := h2_36
     replace h2_37 : vs 37 = .int .i64 (j : Int) := h2_37
     replace h2_38 : vs 38 = .pointer (some ⟨bq, oq + j, none⟩) := h2_38
     replace h2_39 : vs 39 = .int .i64 (atL y j) := h2_39
     replace h2_40 : vs 40 = .slice (some ⟨b, o, none⟩) n c := h2_40
     replace h2_41 : vs 41 = .int .i64 (j : Int) := h2_41
     replace h2_42 : vs 42 = .pointer (some ⟨b, o + j, none⟩) := h2_42
     replace h2_43 : vs 43 = .int .i64 (atL l j) := h2_43
     replace h2_44 : vs 44 = .bool false := h2_44
     replace h2_45 : vs 45 = .bool false := h2_45
     replace h2_46 : vs 46 = .bool false := h2_46
     replace h2_47 : vs 47 = .bool false := h2_47
     replace h2_48 : vs 48 = .bool false := h2_48
     replace h2_49 : vs 49 = .int .i64 (j : Int) := h2_49
     replace h2_50 : vs 50 = .bool false := h2_50
     replace h2_51 : vs 51 = .bool false := h2_51
     replace h2_52 : vs 52 = undef := h2_52
     replace h2_53 : vs 53 = undef := h2_53
     replace h2_54 : vs 54 = undef := h2_54
     replace h2_55 : vs 55 = undef := h2_55
     replace h2_56 : vs 56 = undef := h2_56
     replace h2_57 : vs 57 = undef := h2_57
     replace h2_58 : vs 58 = undef := h2_58
     replace h2_59 : vs 59 = undef := h2_59
     replace h2_60 : vs 60 = undef := h2_60
     replace h2_61 : vs 61 = undef := h2_61
     replace h2_62 : vs 62 = .bool false := h2_62
     replace h2_63 : vs 63 = .bool false := h2_63
     replace h2_64 : vs 64 = undef := h2_64
     replace h2_65 : vs 65 = undef := h2_65
     replace h2_66 : vs 66 = undef := h2_66
     replace h2_67 : vs 67 = undef := h2_67
     replace h2_68 : vs 68 = undef := h2_68
     replace h2_69 : vs 69 = undef := h2_69
     replace h2_70 : vs 70 = undef := h2_70
     replace h2_71 : vs 71 = undef := h2_71
     replace h2_72 : vs 72 = undef := h2_72
     replace h2_73 : vs 73 = undef := h2_73
     replace h2_74 : vs 74 = .bool false := h2_74
     replace h2_75 : vs 75 = .bool false := h2_75
     simp only [h2_0, h2_1, h2_2, h2_3, h2_4, h2_5, h2_6, h2_7, h2_8, h2_9, h2_10, h2_11, h2_12, h2_13, h2_14, h2_15, h2_16, h2_17, h2_18, h2_19, h2_20, h2_21, h2_22, h2_23, h2_24, h2_25, h2_26, h2_27, h2_28, h2_29, h2_30, h2_31, h2_32, h2_33, h2_34, h2_35, h2_36, h2_37, h2_38, h2_39, h2_40, h2_41, h2_42, h2_43, h2_44, h2_45, h2_46, h2_47, h2_48, h2_49, h2_50, h2_51, h2_52, h2_53, h2_54, h2_55, h2_56, h2_57, h2_58, h2_59, h2_60, h2_61, h2_62, h2_63, h2_64, h2_65, h2_66, h2_67, h2_68, h2_69, h2_70, h2_71, h2_72, h2_73, h2_74, h2_75]
     clear h2_0 h2_1 h2_2 h2_3 h2_4 h2_5 h2_6 h2_7 h2_8 h2_9 h2_10 h2_11 h2_12 h2_13 h2_14 h2_15 h2_16 h2_17 h2_18 h2_19 h2_20 h2_21 h2_22 h2_23 h2_24 h2_25 h2_26 h2_27 h2_28 h2_29 h2_30 h2_31 h2_32 h2_33 h2_34 h2_35 h2_36 h2_37 h2_38 h2_39 h2_40 h2_41 h2_42 h2_43 h2_44 h2_45 h2_46 h2_47 h2_48 h2_49 h2_50 h2_51 h2_52 h2_53 h2_54 h2_55 h2_56 h2_57 h2_58 h2_59 h2_60 h2_61 h2_62 h2_63 h2_64 h2_65 h2_66 h2_67 h2_68 h2_69 h2_70 h2_71 h2_72 h2_73 h2_74 h2_75; go_wp2
     go_roundw
     case rel => exact ⟨j + 1, by go_num, by omega, h, hy, E0⟩
     case measure => simp [intOf]; omega
   ·obtain ⟨p, hp⟩ : ∃ p, p = j - 1 := ⟨_, rfl⟩
    have hw : IntKind.i64.wrap ((j : Int) - 1) = (p : Int) := by rw [IntKind.wrap_i64]; omega
    have hpn : p < n := by omega
    have hpI : (p : Int) < (n : Int) := by omega
    have HJ : Hid (0 < j) := Lib.hid h0
    have HO := Lib.hid (fun q => clip_order (N := N) (m := m) (l := l) (i := j) (j := p) (by have := HLN.out; omega) (by have := HLN.out; omega) q)
    rw [← HY.out] at HO
    clear hp h0
    by_cases hle : atL l p ≤ atL l j
    ·have HL1 := Lib.hid hle
     have HL2 : Hid (¬ atL y p > atL y j) := Lib.hid (by have := HO.out hle; omega)
     clear hle HO
     rcases HSG.out with ⟨g1, g2, g3⟩ | ⟨g1, g2, g3⟩
     ·have H4 : Hid (atL l j ≥ 0) := Lib.hid g1
      have H5 := Lib.hid g2
      have H6 := Lib.hid g3
      have H7 : Hid (¬ atL l j < 0) := Lib.hid (by omega)
      clear g1 g2 g3
      go_upto_region 11 with (fail)
      simp only [appC, appN]
      have szw3 := Ext.size E0
      refine region_gs ((.one fun v _ => v = .slice (some ⟨b, o, none⟩) n c) ::
        (.one fun v _ => v = .int .i64 (j : Int)) ::
        (.one fun v _ => v = .pointer (some ⟨b, o + j, none⟩)) ::
        (.one fun v _ => v = .int .i64 (atL l j)) ::
        (.one fun v _ => v = .bool true) ::
        (.one fun v _ => v = .bool true) ::
        (.one fun v _ => v = .slice (some ⟨bq, oq, none⟩) n c1) ::
        (.one fun v _ => v = .int .i64 (j : Int)) ::
        (.one fun v _ => v = .pointer (some ⟨bq, oq + j, none⟩)) ::
        (.one fun v _ => v = .int .i64 (atL y j)) ::
        (.one fun v _ => v = .bool false) ::
        (.one fun v _ => v = .bool false) ::
        (.one fun v _ => v = .slice (some ⟨bq, oq, none⟩) n c1) ::
        (.one fun v _ => v = .int .i64 (j : Int)) ::
        (.one fun v _ => v = .pointer (some ⟨bq, oq + j, none⟩)) ::
        (.one fun v _ => v = .int .i64 (atL y j)) ::
        (.one fun v _ => v = .slice (some ⟨b, o, none⟩) n c) ::
        (.one fun v _ => v = .int .i64 (j : Int)) ::
        (.one fun v _ => v = .pointer (some ⟨b, o + j, none⟩)) ::
        (.one fun v _ => v = .int .i64 (atL l j)) ::
        (.one fun v _ => v = .bool false) ::
        (.one fun v _ => v = .bool false) ::
        (.one fun v _ => v = .bool false) ::
        (.one fun v _ => v = .bool false) ::
        (.one fun v _ => v = .slice (some ⟨b, o, none⟩) n c) ::
        (.one fun v _ => v = .int .i64 (j : Int)) ::
        (.one fun v _ => v = .pointer (some ⟨b, o + j, none⟩)) ::
        (.one fun v _ => v = .int .i64 (atL l j)) ::
        (.one fun v _ => v = .bool false) ::
        (.one fun v _ => v = .bool false) ::
        (.one fun v _ => v = undef) ::
        (.one fun v _ => v = undef) ::
        (.one fun v _ => v = undef) ::
        (.one fun v _ => v = undef) ::
        (.one fun v _ => v = undef) ::
        (.one fun v _ => v = undef) ::
        (.one fun v _ => v = undef) ::
        (.one fun v _ => v = undef) ::
        (.one fun v _ => v = undef) ::
        (.one fun v _ => v = undef) ::
        (.one fun v _ => v = undef) ::
        (.one fun v _ => v = undef) ::
        (.one fun v _ => v = undef) ::
        (.one fun v _ => v = undef) ::
        (.one fun v _ => v = undef) ::
        (.one fun v _ => v = undef) ::
        (.one fun v _ => v = .bool false) ::
        (.one fun v _ => v = .bool false) ::
        (.one fun v _ => v = .bool false) ::
        (.one fun v _ => v = .int .i64 (j : Int)) ::
        (.one fun v _ => v = .bool true) ::
        (.one fun v _ => v = .bool true) ::
        (.one fun v _ => v = .slice (some ⟨b, o, none⟩) n c) ::
        (.one fun v _ => v = .int .i64 (j : Int)) ::
        (.one fun v _ => v = .int .i64 (p : Int)) ::
        (.one fun v _ => v = .pointer (some ⟨b, o + p, none⟩)) ::
        (.one fun v _ => v = .int .i64 (atL l p)) ::
        (.one fun v _ => v = .slice (some ⟨b, o, none⟩) n c) ::
        (.one fun v _ => v = .int .i64 (j : Int)) ::
        (.one fun v _ => v = .pointer (some ⟨b, o + j, none⟩)) ::
        (.one fun v _ => v = .int .i64 (atL l j)) ::
        (.one fun v _ => v = .bool true) ::
        (.one fun v _ => v = .bool true) ::
        (.one fun v _ => v = .bool true) ::
        (.one fun v _ => v = .slice (some ⟨bq, oq, none⟩) n c1) ::
        (.one fun v _ => v = .int .i64 (j : Int)) ::
        (.one fun v _ => v = .int .i64 (p : Int)) ::
        (.one fun v _ => v = .pointer (some ⟨bq, oq + p, none⟩)) ::
        (.one fun v _ => v = .int .i64 (atL y p)) ::
        (.one fun v _ => v = .slice (some ⟨bq, oq, none⟩) n c1) ::
        (.one fun v _ => v = .int .i64 (j : Int)) ::
        (.one fun v _ => v = .pointer (some ⟨bq, oq + j, none⟩)) ::
        (.one fun v _ => v = .int .i64 (atL y j)) ::
        (.one fun v _ => v = .bool false) ::
        (.one fun v _ => v = .bool false) ::
        (.one fun v _ => v = .bool false) :: [])
       (fun W => Ext w W ∧ Iw 0 s0 W (some ⟨b, o, none⟩) n c (l) ∧ Iw s0 s1 W (some ⟨bq, oq, none⟩) n c1 (y) ∧ wr.heap.size ≤ W.heap.size) ⟨Good.is _, Good.is _, Good.is _, Good.is _, Good.is _, Good.is _, Good.is _, Good.is _, Good.is _, Good.is _, Good.is _, Good.is _, Good.is _, Good.is _, Good.is _, Good.is _, Good.is _, Good.is _, Good.is _, Good.is _, Good.is _, Good.is _, Good.is _, Good.is _, Good.is _, Good.is _, Good.is _, Good.is _, Good.is _, Good.is _, Good.is _, Good.is _, Good.is _, Good.is _, Good.is _, Good.is _, Good.is _, Good.is _, Good.is _, Good.is _, Good.is _, Good.is _, Good.is _, Good.is _, Good.is _, Good.is _, Good.is _, Good.is _, Good.is _, Good.is _, Good.is _, Good.is _, Good.is _, Good.is _, Good.is _, Good.is _, Good.is _, Good.is _, Good.is _, Good.is _, Good.is _, Good.is _, Good.is _, Good.is _, Good.is _, Good.is _, Good.is _, Good.is _, Good.is _, Good.is _, Good.is _, Good.is _, Good.is _, Good.is _, Good.is _, Good.is _, trivial⟩
       ⟨E0, h, hy, Nat.le_refl _⟩ (A := ?A3) ?hA3 ?howe3 ?hfin3
      case hA3 =>
       intro vs
       simp only [putAll, Act.put, sA, sZ, sS, Nat.zero_add, Nat.reduceAdd]
       exact rfl
      case howe3 =>
       clear E0 h hy
       intro hf
       refine ⟨oE 0 [] hf rfl ?_, oE 1 [] hf rfl ?_, oE 2 [0, 1] hf rfl ?_, oE 3 [2] hf rfl ?_, oE 4 [3] hf rfl ?_, oE 5 [4] hf rfl ?_, oE 6 [5] hf rfl ?_, oE 7 [5] hf rfl ?_, oE 8 [5, 6, 7] hf rfl ?_, oE 9 [5, 8] hf rfl ?_, oE 10 [5, 9] hf rfl ?_, oE 11 [5, 10] hf rfl ?_, oE 12 [11] hf rfl ?_, oE 13 [11] hf rfl ?_, oE 14 [11, 12, 13] hf rfl ?_, oE 15 [11, 14] hf rfl ?_, oE 16 [11] hf rfl ?_, oE 17 [11] hf rfl ?_, oE 18 [11, 16, 17] hf rfl ?_, oE 19 [11, 18] hf rfl ?_, oE 20 [11, 15, 19] hf rfl ?_, oE 21 [5, 11, 20] hf rfl ?_, oE 22 [5, 21] hf rfl ?_, oE 23 [22] hf rfl ?_, oE 24 [23] hf rfl ?_, oE 25 [23] hf rfl ?_, oE 26 [23, 24, 25] hf rfl ?_, oE 27 [23, 26] hf rfl ?_, oE 28 [23, 27] hf rfl ?_, oE 29 [23, 28] hf rfl ?_, oE 30 [29] hf rfl ?_, oE 31 [29] hf rfl ?_, oE 32 [29] hf rfl ?_, oE 33 [29] hf rfl ?_, oE 34 [29] hf rfl ?_, oE 35 [29] hf rfl ?_, oE 36 [35] hf rfl ?_, oE 37 [35] hf rfl ?_, oE 38 [35] hf rfl ?_, oE 39 [35] hf rfl ?_, oE 40 [35] hf rfl ?_, oE 41 [35] hf rfl ?_, oE 42 [35] hf rfl ?_, oE 43 [35] hf rfl ?_, oE 44 [35] hf rfl ?_, oE 45 [29] hf rfl ?_, oE 46 [23, 29, 45] hf rfl ?_, oE 47 [23, 46] hf rfl ?_, oE 48 [47] hf rfl ?_, oE 49 [48] hf rfl ?_, oE 50 [48, 49] hf rfl ?_, oE 51 [48, 50] hf rfl ?_, oE 52 [51] hf rfl ?_, oE 53 [51] hf rfl ?_, oE 54 [51, 53] hf rfl ?_, oE 55 [51, 52, 54] hf rfl ?_, oE 56 [51, 55] hf rfl ?_, oE 57 [51] hf rfl ?_, oE 58 [51] hf rfl ?_, oE 59 [51, 57, 58] hf rfl ?_, oE 60 [51, 59] hf rfl ?_, oE 61 [51, 56, 60] hf rfl ?_, oE 62 [48, 51, 61] hf rfl ?_, oE 63 [48, 62] hf rfl ?_, oE 64 [63] hf rfl ?_, oE 65 [63] hf rfl ?_, oE 66 [63, 65] hf rfl ?_, oE 67 [63, 64, 66] hf rfl ?_, oE 68 [63, 67] hf rfl ?_, oE 69 [63] hf rfl ?_, oE 70 [63] hf rfl ?_, oE 71 [63, 69, 70] hf rfl ?_, oE 72 [63, 71] hf rfl ?_, oE 73 [63, 68, 72] hf rfl ?_, oE 74 [48, 63, 73] hf rfl ?_, oE 75 [48, 74] hf rfl ?_, trivial⟩
       all_goals intro vs W hS hp hx KO hKO
       all_goals simp only [Act.put, sA, sZ, sS] at hKO
       ·go_simp; exact hKO _ W (.refl W) rfl
       ·go_simp; exact hKO _ W (.refl W) rfl
       ·have e0 := isOf hp.1; have e1 := isOf hp.2.1; simp only [e0, e1] at hKO; go_simp; exact hKO _ W (.refl W) rfl
       ·have e2 := isOf hp.1; simp only [e2] at hKO
        have fc := Iw.cell (hS.2.1) (i := j) (by omega)
        go_simp; exact hKO _ W (.refl W) rfl
       ·have e3 := isOf hp.1; simp only [e3] at hKO; go_simp; exact hKO _ W (Ext.refl W) (by first | rfl | exact congrArg Value.bool (decide_eq_true H4.out))
       ·have e4 := isOf hp.1; simp only [e4] at hKO; go_simp; exact hKO _ W (.refl W) rfl
       ·have e5 := isOf hp.1; simp only [e5] at hKO; go_simp; exact hKO _ W (.refl W) rfl
       ·have e5 := isOf hp.1; simp only [e5] at hKO; go_simp; exact hKO _ W (.refl W) rfl
       ·have e5 := isOf hp.1; have e6 := isOf hp.2.1; have e7 := isOf hp.2.2.1; simp only [e5, e6, e7] at hKO; go_simp; exact hKO _ W (.refl W) rfl
       ·have e5 := isOf hp.1; have e8 := isOf hp.2.1; simp only [e5, e8] at hKO
        have fc := Iw.cell (hS.2.2.1) (i := j) (by omega)
        go_simp; exact hKO _ W (.refl W) rfl
       ·have e5 := isOf hp.1; have e9 := isOf hp.2.1; simp only [e5, e9] at hKO; go_simp; exact hKO _ W (Ext.refl W) (by first | rfl | exact congrArg Value.bool (decide_eq_false H5.out))
       ·have e5 := isOf hp.1; have e10 := isOf hp.2.1; simp only [e5, e10] at hKO; go_simp; exact hKO _ W (.refl W) rfl
       ·have e11 := isOf hp.1; simp only [e11] at hKO; go_simp; exact hKO _ W (.refl W) rfl
       ·have e11 := isOf hp.1; simp only [e11] at hKO; go_simp; exact hKO _ W (.refl W) rfl
       ·have e11 := isOf hp.1; have e12 := isOf hp.2.1; have e13 := isOf hp.2.2.1; simp only [e11, e12, e13] at hKO; go_simp; exact hKO _ W (.refl W) rfl
       ·have e11 := isOf hp.1; have e14 := isOf hp.2.1; simp only [e11, e14] at hKO
        have fc := Iw.cell (hS.2.2.1) (i := j) (by omega)
        go_simp; exact hKO _ W (.refl W) rfl
       ·have e11 := isOf hp.1; simp only [e11] at hKO; go_simp; exact hKO _ W (.refl W) rfl
       ·have e11 := isOf hp.1; simp only [e11] at hKO; go_simp; exact hKO _ W (.refl W) rfl
       ·have e11 := isOf hp.1; have e16 := isOf hp.2.1; have e17 := isOf hp.2.2.1; simp only [e11, e16, e17] at hKO; go_simp; exact hKO _ W (.refl W) rfl
       ·have e11 := isOf hp.1; have e18 := isOf hp.2.1; simp only [e11, e18] at hKO
        have fc := Iw.cell (hS.2.1) (i := j) (by omega)
        go_simp; exact hKO _ W (.refl W) rfl
       ·have e11 := isOf hp.1; have e15 := isOf hp.2.1; have e19 := isOf hp.2.2.1; simp only [e11, e15, e19] at hKO; go_simp; exact hKO _ W (Ext.refl W) (by first | rfl | exact congrArg Value.bool (decide_eq_false H6.out))
       ·have e5 := isOf hp.1; have e11 := isOf hp.2.1; have e20 := isOf hp.2.2.1; simp only [e5, e11, e20] at hKO; go_simp; exact hKO _ W (.refl W) rfl
       ·have e5 := isOf hp.1; have e21 := isOf hp.2.1; simp only [e5, e21] at hKO; go_simp; exact hKO _ W (.refl W) rfl
       ·have e22 := isOf hp.1; simp only [e22] at hKO; go_simp; exact hKO _ W (.refl W) rfl
       ·have e23 := isOf hp.1; simp only [e23] at hKO; go_simp; exact hKO _ W (.refl W) rfl
       ·have e23 := isOf hp.1; simp only [e23] at hKO; go_simp; exact hKO _ W (.refl W) rfl
       ·have e23 := isOf hp.1; have e24 := isOf hp.2.1; have e25 := isOf hp.2.2.1; simp only [e23, e24, e25] at hKO; go_simp; exact hKO _ W (.refl W) rfl
       ·have e23 := isOf hp.1; have e26 := isOf hp.2.1; simp only [e23, e26] at hKO
        have fc := Iw.cell (hS.2.1) (i := j) (by omega)
        go_simp; exact hKO _ W (.refl W) rfl
       ·have e23 := isOf hp.1; have e27 := isOf hp.2.1; simp only [e23, e27] at hKO; go_simp; exact hKO _ W (Ext.refl W) (by first | rfl | exact congrArg Value.bool (decide_eq_false H7.out))
       ·have e23 := isOf hp.1; have e28 := isOf hp.2.1; simp only [e23, e28] at hKO; go_simp; exact hKO _ W (.refl W) rfl
       ·have e29 := isOf hp.1; simp only [e29] at hKO; go_simp; exact hKO _ W (.refl W) rfl
       ·have e29 := isOf hp.1; simp only [e29] at hKO; go_simp; exact hKO _ W (.refl W) rfl
       ·have e29 := isOf hp.1; simp only [e29] at hKO; go_simp; exact hKO _ W (.refl W) rfl
       ·have e29 := isOf hp.1; simp only [e29] at hKO; go_simp; exact hKO _ W (.refl W) rfl
       ·have e29 := isOf hp.1; simp only [e29] at hKO; go_simp; exact hKO _ W (.refl W) rfl
       ·have e29 := isOf hp.1; simp only [e29] at hKO; go_simp; exact hKO _ W (.refl W) rfl
       ·have e35 := isOf hp.1; simp only [e35] at hKO; go_simp; exact hKO _ W (.refl W) rfl
       ·have e35 := isOf hp.1; simp only [e35] at hKO; go_simp; exact hKO _ W (.refl W) rfl
       ·have e35 := isOf hp.1; simp only [e35] at hKO; go_simp; exact hKO _ W (.refl W) rfl
       ·have e35 := isOf hp.1; simp only [e35] at hKO; go_simp; exact hKO _ W (.refl W) rfl
       ·have e35 := isOf hp.1; simp only [e35] at hKO; go_simp; exact hKO _ W (.refl W) rfl
       ·have e35 := isOf hp.1; simp only [e35] at hKO; go_simp; exact hKO _ W (.refl W) rfl
       ·have e35 := isOf hp.1; simp only [e35] at hKO; go_simp; exact hKO _ W (.refl W) rfl
       ·have e35 := isOf hp.1; simp only [e35] at hKO; go_simp; exact hKO _ W (.refl W) rfl
       ·have e35 := isOf hp.1; simp only [e35] at hKO; go_simp; exact hKO _ W (.refl W) rfl
       ·have e29 := isOf hp.1; simp only [e29] at hKO; go_simp; exact hKO _ W (.refl W) rfl
       ·have e23 := isOf hp.1; have e29 := isOf hp.2.1; have e45 := isOf hp.2.2.1; simp only [e23, e29, e45] at hKO; go_simp; exact hKO _ W (.refl W) rfl
       ·have e23 := isOf hp.1; have e46 := isOf hp.2.1; simp only [e23, e46] at hKO; go_simp; exact hKO _ W (.refl W) rfl
       ·have e47 := isOf hp.1; simp only [e47] at hKO; go_simp; exact hKO _ W (.refl W) rfl
       ·have e48 := isOf hp.1; simp only [e48] at hKO; go_simp; exact hKO _ W (.refl W) rfl
       ·have e48 := isOf hp.1; have e49 := isOf hp.2.1; simp only [e48, e49] at hKO; go_simp; exact hKO _ W (Ext.refl W) (by first | rfl | exact congrArg Value.bool (decide_eq_true HJ.out))
       ·have e48 := isOf hp.1; have e50 := isOf hp.2.1; simp only [e48, e50] at hKO; go_simp; exact hKO _ W (.refl W) rfl
       ·have e51 := isOf hp.1; simp only [e51] at hKO; go_simp; exact hKO _ W (.refl W) rfl
       ·have e51 := isOf hp.1; simp only [e51] at hKO; go_simp; exact hKO _ W (.refl W) rfl
       ·have e51 := isOf hp.1; have e53 := isOf hp.2.1; simp only [e51, e53] at hKO; go_simp; exact hKO _ W (.refl W) rfl
       ·have e51 := isOf hp.1; have e52 := isOf hp.2.1; have e54 := isOf hp.2.2.1; simp only [e51, e52, e54] at hKO; go_simp; exact hKO _ W (.refl W) rfl
       ·have e51 := isOf hp.1; have e55 := isOf hp.2.1; simp only [e51, e55] at hKO
        have fc := Iw.cell (hS.2.1) (i := p) (by omega)
        go_simp; exact hKO _ W (.refl W) rfl
       ·have e51 := isOf hp.1; simp only [e51] at hKO; go_simp; exact hKO _ W (.refl W) rfl
       ·have e51 := isOf hp.1; simp only [e51] at hKO; go_simp; exact hKO _ W (.refl W) rfl
       ·have e51 := isOf hp.1; have e57 := isOf hp.2.1; have e58 := isOf hp.2.2.1; simp only [e51, e57, e58] at hKO; go_simp; exact hKO _ W (.refl W) rfl
       ·have e51 := isOf hp.1; have e59 := isOf hp.2.1; simp only [e51, e59] at hKO
        have fc := Iw.cell (hS.2.1) (i := j) (by omega)
        go_simp; exact hKO _ W (.refl W) rfl
       ·have e51 := isOf hp.1; have e56 := isOf hp.2.1; have e60 := isOf hp.2.2.1; simp only [e51, e56, e60] at hKO; go_simp; exact hKO _ W (Ext.refl W) (by first | rfl | exact congrArg Value.bool (decide_eq_true HL1.out))
       ·have e48 := isOf hp.1; have e51 := isOf hp.2.1; have e61 := isOf hp.2.2.1; simp only [e48, e51, e61] at hKO; go_simp; exact hKO _ W (.refl W) rfl
       ·have e48 := isOf hp.1; have e62 := isOf hp.2.1; simp only [e48, e62] at hKO; go_simp; exact hKO _ W (.refl W) rfl
       ·have e63 := isOf hp.1; simp only [e63] at hKO; go_simp; exact hKO _ W (.refl W) rfl
       ·have e63 := isOf hp.1; simp only [e63] at hKO; go_simp; exact hKO _ W (.refl W) rfl
       ·have e63 := isOf hp.1; have e65 := isOf hp.2.1; simp only [e63, e65] at hKO; go_simp; exact hKO _ W (.refl W) rfl
       ·have e63 := isOf hp.1; have e64 := isOf hp.2.1; have e66 := isOf hp.2.2.1; simp only [e63, e64, e66] at hKO; go_simp; exact hKO _ W (.refl W) rfl
       ·have e63 := isOf hp.1; have e67 := isOf hp.2.1; simp only [e63, e67] at hKO
        have fc := Iw.cell (hS.2.2.1) (i := p) (by omega)
        go_simp; exact hKO _ W (.refl W) rfl
       ·have e63 := isOf hp.1; simp only [e63] at hKO; go_simp; exact hKO _ W (.refl W) rfl
       ·have e63 := isOf hp.1; simp only [e63] at hKO; go_simp; exact hKO _ W (.refl W) rfl
       ·have e63 := isOf hp.1; have e69 := isOf hp.2.1; have e70 := isOf hp.2.2.1; simp only [e63, e69, e70] at hKO; go_simp; exact hKO _ W (.refl W) rfl
       ·have e63 := isOf hp.1; have e71 := isOf hp.2.1; simp only [e63, e71] at hKO
        have fc := Iw.cell (hS.2.2.1) (i := j) (by omega)
        go_simp; exact hKO _ W (.refl W) rfl
       ·have e63 := isOf hp.1; have e68 := isOf hp.2.1; have e72 := isOf hp.2.2.1; simp only [e63, e68, e72] at hKO; go_simp; exact hKO _ W (Ext.refl W) (by first | rfl | exact congrArg Value.bool (decide_eq_false HL2.out))
       ·have e48 := isOf hp.1; have e63 := isOf hp.2.1; have e73 := isOf hp.2.2.1; simp only [e48, e63, e73] at hKO; go_simp; exact hKO _ W (.refl W) rfl
       ·have e48 := isOf hp.1; have e74 := isOf hp.2.1; simp only [e48, e74] at hKO; go_simp; exact hKO _ W (.refl W) rfl
      intro vs W3 hS hp
      clear szw3 E0 h hy
      obtain ⟨E0, h, hy, sz3⟩ := hS
      obtain ⟨h3_0, h3_1, h3_2, h3_3, h3_4, h3_5, h3_6, h3_7, h3_8, h3_9, h3_10, h3_11, h3_12, h3_13, h3_14, h3_15, h3_16, h3_17, h3_18, h3_19, h3_20, h3_21, h3_22, h3_23, h3_24, h3_25, h3_26, h3_27, h3_28, h3_29, h3_30, h3_31, h3_32, h3_33, h3_34, h3_35, h3_36, h3_37, h3_38, h3_39, h3_40, h3_41, h3_42, h3_43, h3_44, h3_45, h3_46, h3_47, h3_48, h3_49, h3_50, h3_51, h3_52, h3_53, h3_54, h3_55, h3_56, h3_57, h3_58, h3_59, h3_60, h3_61, h3_62, h3_63, h3_64, h3_65, h3_66, h3_67, h3_68, h3_69, h3_70, h3_71, h3_72, h3_73, h3_74, h3_75, -⟩ := hp
      replace h3_0 : vs 0 = .slice (some ⟨b, o, none⟩) n c := h3_0
      replace h3_1 : vs 1 = .int .i64 (j : Int) := h3_1
      replace h3_2 : vs 2 = .pointer (some ⟨b, o + j, none⟩) := h3_2
      replace h3_3 : vs 3 = .int .i64 (atL l j) := h3_3
      replace h3_4 : vs 4 = .bool true := h3_4
      replace h3_5 : vs 5 = .bool true := h3_5
      replace h3_6 : vs 6 = .slice (some ⟨bq, oq, none⟩) n c1 := h3_6
      replace h3_7 : vs 7 = .int .i64 (j : Int) := h3_7
      replace h3_8 : vs 8 = .pointer (some ⟨bq, oq + j, none⟩) := h3_8
      replace h3_9 : vs 9 = .int .i64 (atL y j) := h3_9
      replace h3_10 : vs 10 = .bool false := h3_10
      replace h3_11 : vs 11 = .bool false := h3_11
      replace h3_12 : vs 12 = .slice (some ⟨bq, oq, none⟩) n c1 := h3_12
      replace h3_13 : vs 13 = .int .i64 (j : Int) := h3_13
      replace h3_14 : vs 14 = .pointer (some ⟨bq, oq + j, none⟩) := h3_14
      replace h3_15 : vs 15 = .int .i64 (atL y j) := h3_15
      replace h3_16 : vs 16 = .slice (some ⟨b, o, none⟩) n c := h3_16
      replace h3_17 : vs 17 = .int .i64 (j : Int) := h3_17
      replace h3_18 : vs 18 = .pointer (some ⟨b, o + j, none⟩) := h3_18
      replace h3_19 : vs 19 = .int .i64 (atL l j) := h3_19
      replace h3_20 : vs 20 = .bool false := h3_20
      replace h3_21 : vs 21 = .bool false := h3_21
      replace h3_22 : vs 22 = .bool false := h3_22
      replace h3_23 : vs 23 = .bool false := h3_23
      replace h3_24 : vs 24 = .slice (some ⟨b, o, none⟩) n c := h3_24
      replace h3_25 : vs 25 = .int .i64 (j : Int) := h3_25
      replace h3_26 : vs 26 = .pointer (some ⟨b, o + j, none⟩) := h3_26
      replace h3_27 : vs 27 = .int .i64 (atL l j) := h3_27
      replace h3_28 : vs 28 = .bool false := h3_28
      replace h3_29 : vs 29 = .bool false := h3_29
      replace h3_30 : vs 30 = undef := h3_30
      replace h3_31 : vs 31 = undef := h3_31
      replace h3_32 : vs 32 = undef := h3_32
      replace h3_33 : vs 33 = undef := h3_33
      replace h3_34 : vs 34 = undef := h3_34
      replace h3_35 : vs 35 = undef := h3_35
      replace h3_36 : vs 36 = undef := h3_36
      replace h3_37 : vs 37 = undef := h3_37
      replace h3_38 : vs 38 = undef := h3_38
      replace h3_39 : vs 39 = undef := h3_39
      replace h3_40 : vs 40 = undef := h3_40
      replace h3_41 : vs 41 = undef := h3_41
      replace h3_42 : vs 42 = undef := h3_42
      replace h3_43 : vs 43 = undef := h3_43
      replace h3_44 : vs 44 = undef := h3_44
      replace h3_45 : vs 45 = undef := h3_45
      replace h3_46 : vs 46 = .bool false := h3_46
      replace h3_47 : vs 47 = .bool false := h3_47
      replace h3_48 : vs 48 = .bool false := h3_48
      replace h3_49 : vs 49 = .int .i64 (j : Int) := h3_49
      replace h3_50 : vs 50 = .bool true := h3_50
      replace h3_51 : vs 51 = .bool true := h3_51
      replace h3_52 : vs 52 = .slice (some ⟨b, o, none⟩) n c := h3_52
      replace h3_53 : vs 53 = .int .i64 (j : Int) := h3_53
      replace h3_54 : vs 54 = .int .i64 (p : Int) := h3_54
      replace h3_55 : vs 55 = .pointer (some ⟨b, o + p, none⟩) := h3_55
      replace h3_56 : vs 56 = .int .i64 (atL l p) := h3_56
      replace h3_57 : vs 57 = .slice (some ⟨b, o, none⟩) n c := h3_57
      replace h3_58 : vs 58 = .int .i64 (j : Int) := h3_58
      replace h3_59 : vs 59 = .pointer (some ⟨b, o + j, none⟩) := h3_59
      replace h3_60 : vs 60 = .int .i64 (atL l j) := h3_60
      replace h3_61 : vs 61 = .bool true := h3_61
      replace h3_62 : vs 62 = .bool true := h3_62
      replace h3_63 : vs 63 = .bool true := h3_63
      replace h3_64 : vs 64 = .slice (some ⟨bq, oq, none⟩) n c1 := h3_64
      replace h3_65 : vs 65 = .int .i64 (j : Int) := h3_65
      replace h3_66 : vs 66 = .int .i64 (p : Int) := h3_66
      replace h3_67 : vs 67 = .pointer (some ⟨bq, oq + p, none⟩) := h3_67
      replace h3_68 : vs 68 = .int .i64 (atL y p) := h3_68
      replace h3_69 : vs 69 = .slice (some ⟨bq, oq, none⟩) n c1 := h3_69
      replace h3_70 : vs 70 = .int .i64 (j : Int) := h3_70
      replace h3_71 : vs 71 = .pointer (some ⟨bq, oq + j, none⟩) := h3_71
      replace h3_72 : vs 72 = .int .i64 (atL y j) := h3_72
      replace h3_73 : vs 73 = .bool false := h3_73
      replace h3_74 : vs 74 = .bool false := h3_74
      replace h3_75 : vs 75 = .bool false := h3_75
      simp only [h3_0, h3_1, h3_2, h3_3, h3_4, h3_5, h3_6, h3_7, h3_8, h3_9, h3_10, h3_11, h3_12, h3_13, h3_14, h3_15, h3_16, h3_17, h3_18, h3_19, h3_20, h3_21, h3_22, h3_23, h3_24, h3_25, h3_26, h3_27, h3_28, h3_29, h3_30, h3_31, h3_32, h3_33, h3_34, h3_35, h3_36, h3_37, h3_38, h3_39, h3_40, h3_41, h3_42, h3_43, h3_44, h3_45, h3_46, h3_47, h3_48, h3_49, h3_50, h3_51, h3_52, h3_53, h3_54, h3_55, h3_56, h3_57, h3_58, h3_59, h3_60, h3_61, h3_62, h3_63, h3_64, h3_65, h3_66, h3_67, h3_68, h3_69, h3_70, h3_71, h3_72, h3_73, h3_74, h3_75]
      clear h3_0 h3_1 h3_2 h3_3 h3_4 h3_5 h3_6 h3_7 h3_8 h3_9 h3_10 h3_11 h3_12 h3_13 h3_14 h3_15 h3_16 h3_17 h3_18 h3_19 h3_20 h3_21 h3_22 h3_23 h3_24 h3_25 h3_26 h3_27 h3_28 h3_29 h3_30 h3_31 h3_32 h3_33 h3_34 h3_35 h3_36 h3_37 h3_38 h3_39 h3_40 h3_41 h3_42 h3_43 h3_44 h3_45 h3_46 h3_47 h3_48 h3_49 h3_50 h3_51 h3_52 h3_53 h3_54 h3_55 h3_56 h3_57 h3_58 h3_59 h3_60 h3_61 h3_62 h3_63 h3_64 h3_65 h3_66 h3_67 h3_68 h3_69 h3_70 h3_71 h3_72 h3_73 h3_74 h3_75; go_wp2
      go_roundw
      case rel => exact ⟨j + 1, by go_num, by omega, h, hy, E0⟩
      case measure => simp [intOf]; omega
     ·have H4 : Hid (¬ atL l j ≥ 0) := Lib.hid (by omega)
      have H5 := Lib.hid g2
      have H6 := Lib.hid g3
      have H7 : Hid (atL l j < 0) := Lib.hid g1
      clear g1 g2 g3
      go_upto_region 11 with (fail)
      simp only [appC, appN]
      have szw4 := Ext.size E0
      refine region_gs ((.one fun v _ => v = .slice (some ⟨b, o, none⟩) n c) ::
        (.one fun v _ => v = .int .i64 (j : Int)) ::
        (.one fun v _ => v = .pointer (some ⟨b, o + j, none⟩)) ::
        (.one fun v _ => v = .int .i64 (atL l j)) ::
        (.one fun v _ => v = .bool false) ::
        (.one fun v _ => v = .bool false) ::
        (.one fun v _ => v = undef) ::
        (.one fun v _ => v = undef) ::
        (.one fun v _ => v = undef) ::
        (.one fun v _ => v = undef) ::
        (.one fun v _ => v = undef) ::
        (.one fun v _ => v = undef) ::
        (.one fun v _ => v = undef) ::
        (.one fun v _ => v = undef) ::
        (.one fun v _ => v = undef) ::
        (.one fun v _ => v = undef) ::
        (.one fun v _ => v = undef) ::
        (.one fun v _ => v = undef) ::
        (.one fun v _ => v = undef) ::
        (.one fun v _ => v = undef) ::
        (.one fun v _ => v = undef) ::
        (.one fun v _ => v = undef) ::
        (.one fun v _ => v = .bool false) ::
        (.one fun v _ => v = .bool false) ::
        (.one fun v _ => v = .slice (some ⟨b, o, none⟩) n c) ::
        (.one fun v _ => v = .int .i64 (j : Int)) ::
        (.one fun v _ => v = .pointer (some ⟨b, o + j, none⟩)) ::
        (.one fun v _ => v = .int .i64 (atL l j)) ::
        (.one fun v _ => v = .bool true) ::
        (.one fun v _ => v = .bool true) ::
        (.one fun v _ => v = .slice (some ⟨bq, oq, none⟩) n c1) ::
        (.one fun v _ => v = .int .i64 (j : Int)) ::
        (.one fun v _ => v = .pointer (some ⟨bq, oq + j, none⟩)) ::
        (.one fun v _ => v = .int .i64 (atL y j)) ::
        (.one fun v _ => v = .bool false) ::
        (.one fun v _ => v = .bool false) ::
        (.one fun v _ => v = .slice (some ⟨bq, oq, none⟩) n c1) ::
        (.one fun v _ => v = .int .i64 (j : Int)) ::
        (.one fun v _ => v = .pointer (some ⟨bq, oq + j, none⟩)) ::
        (.one fun v _ => v = .int .i64 (atL y j)) ::
        (.one fun v _ => v = .slice (some ⟨b, o, none⟩) n c) ::
        (.one fun v _ => v = .int .i64 (j : Int)) ::
        (.one fun v _ => v = .pointer (some ⟨b, o + j, none⟩)) ::
        (.one fun v _ => v = .int .i64 (atL l j)) ::
        (.one fun v _ => v = .bool false) ::
        (.one fun v _ => v = .bool false) ::
        (.one fun v _ => v = .bool false) ::
        (.one fun v _ => v = .bool false) ::
        (.one fun v _ => v = .bool false) ::
        (.one fun v _ => v = .int .i64 (j : Int)) ::
        (.one fun v _ => v = .bool true) ::
        (.one fun v _ => v = .bool true) ::
        (.one fun v _ => v = .slice (some ⟨b, o, none⟩) n c) ::
        (.one fun v _ => v = .int .i64 (j : Int)) ::
        (.one fun v _ => v = .int .i64 (p : Int)) ::
        (.one fun v _ => v = .pointer (some ⟨b, o + p, none⟩)) ::
        (.one fun v _ => v = .int .i64 (atL l p)) ::
        (.one fun v _ => v = .slice (some ⟨b, o, none⟩) n c) ::
        (.one fun v _ => v = .int .i64 (j : Int)) ::
        (.one fun v _ => v = .pointer (some ⟨b, o + j, none⟩)) ::
        (.one fun v _ => v = .int .i64 (atL l j)) ::
        (.one fun v _ => v = .bool true) ::
        (.one fun v _ => v = .bool true) ::
        (.one fun v _ => v = .bool true) ::
        (.one fun v _ => v = .slice (some ⟨bq, oq, none⟩) n c1) ::
        (.one fun v _ => v = .int .i64 (j : Int)) ::
        (.one fun v _ => v = .int .i64 (p : Int)) ::
        (.one fun v _ => v = .pointer (some ⟨bq, oq + p, none⟩)) ::
        (.one fun v _ => v = .int .i64 (atL y p)) ::
        (.one fun v _ => v = .slice (some ⟨bq, oq, none⟩) n c1) ::
        (.one fun v _ => v = .int .i64 (j : Int)) ::
        (.one fun v _ => v = .pointer (some ⟨bq, oq + j, none⟩)) ::
        (.one fun v _ => v = .int .i64 (atL y j)) ::
        (.one fun v _ => v = .bool false) ::
        (.one fun v _ => v = .bool false) ::
        (.one fun v _ => v = .bool false) :: [])
       (fun W => Ext w W ∧ Iw 0 s0 W (some ⟨b, o, none⟩) n c (l) ∧ Iw s0 s1 W (some ⟨bq, oq, none⟩) n c1 (y) ∧ wr.heap.size ≤ W.heap.size) ⟨Good.is _, Good.is _, Good.is _, Good.is _, Good.is _, Good.is _, Good.is _, Good.is _, Good.is _, Good.is _, Good.is _, Good.is _, Good.is _, Good.is _, Good.is _, Good.is _, Good.is _, Good.is _, Good.is _, Good.is _, Good.is _, Good.is _, Good.is _, Good.is _, Good.is _, Good.is _, Good.is _, Good.is _, Good.is _, Good.is _, Good.is _, Good.is _, Good.is _, Good.is _, Good.is _, Good.is _, Good.is _, Good.is _, Good.is _, Good.is _, Good.is _, Good.is _, Good.is _, Good.is _, Good.is _, Good.is _, Good.is _, Good.is _, Good.is _, Good.is _, Good.is _, Good.is _, Good.is _, Good.is _, Good.is _, Good.is _, Good.is _, Good.is _, Good.is _, Good.is _, Good.is _, Good.is _, Good.is _, Good.is _, Good.is _, Good.is _, Good.is _, Good.is _, Good.is _, Good.is _, Good.is _, Good.is _, Good.is _, Good.is _, Good.is _, Good.is _, trivial⟩
       ⟨E0, h, hy, Nat.le_refl _⟩ (A := ?A4) ?hA4 ?howe4 ?hfin4
      case hA4 =>
       intro vs
       simp only [putAll, Act.put, sA, sZ, sS, Nat.zero_add, Nat.reduceAdd]
       exact rfl
      case howe4 =>
       clear E0 h hy
       intro hf
       refine ⟨oE 0 [] hf rfl ?_, oE 1 [] hf rfl ?_, oE 2 [0, 1] hf rfl ?_, oE 3 [2] hf rfl ?_, oE 4 [3] hf rfl ?_, oE 5 [4] hf rfl ?_, oE 6 [5] hf rfl ?_, oE 7 [5] hf rfl ?_, oE 8 [5] hf rfl ?_, oE 9 [5] hf rfl ?_, oE 10 [5] hf rfl ?_, oE 11 [5] hf rfl ?_, oE 12 [11] hf rfl ?_, oE 13 [11] hf rfl ?_, oE 14 [11] hf rfl ?_, oE 15 [11] hf rfl ?_, oE 16 [11] hf rfl ?_, oE 17 [11] hf rfl ?_, oE 18 [11] hf rfl ?_, oE 19 [11] hf rfl ?_, oE 20 [11] hf rfl ?_, oE 21 [5] hf rfl ?_, oE 22 [5, 21] hf rfl ?_, oE 23 [22] hf rfl ?_, oE 24 [23] hf rfl ?_, oE 25 [23] hf rfl ?_, oE 26 [23, 24, 25] hf rfl ?_, oE 27 [23, 26] hf rfl ?_, oE 28 [23, 27] hf rfl ?_, oE 29 [23, 28] hf rfl ?_, oE 30 [29] hf rfl ?_, oE 31 [29] hf rfl ?_, oE 32 [29, 30, 31] hf rfl ?_, oE 33 [29, 32] hf rfl ?_, oE 34 [29, 33] hf rfl ?_, oE 35 [29, 34] hf rfl ?_, oE 36 [35] hf rfl ?_, oE 37 [35] hf rfl ?_, oE 38 [35, 36, 37] hf rfl ?_, oE 39 [35, 38] hf rfl ?_, oE 40 [35] hf rfl ?_, oE 41 [35] hf rfl ?_, oE 42 [35, 40, 41] hf rfl ?_, oE 43 [35, 42] hf rfl ?_, oE 44 [35, 39, 43] hf rfl ?_, oE 45 [29, 35, 44] hf rfl ?_, oE 46 [23, 29, 45] hf rfl ?_, oE 47 [23, 46] hf rfl ?_, oE 48 [47] hf rfl ?_, oE 49 [48] hf rfl ?_, oE 50 [48, 49] hf rfl ?_, oE 51 [48, 50] hf rfl ?_, oE 52 [51] hf rfl ?_, oE 53 [51] hf rfl ?_, oE 54 [51, 53] hf rfl ?_, oE 55 [51, 52, 54] hf rfl ?_, oE 56 [51, 55] hf rfl ?_, oE 57 [51] hf rfl ?_, oE 58 [51] hf rfl ?_, oE 59 [51, 57, 58] hf rfl ?_, oE 60 [51, 59] hf rfl ?_, oE 61 [51, 56, 60] hf rfl ?_, oE 62 [48, 51, 61] hf rfl ?_, oE 63 [48, 62] hf rfl ?_, oE 64 [63] hf rfl ?_, oE 65 [63] hf rfl ?_, oE 66 [63, 65] hf rfl ?_, oE 67 [63, 64, 66] hf rfl ?_, oE 68 [63, 67] hf rfl ?_, oE 69 [63] hf rfl ?_, oE 70 [63] hf rfl ?_, oE 71 [63, 69, 70] hf rfl ?_, oE 72 [63, 71] hf rfl ?_, oE 73 [63, 68, 72] hf rfl ?_, oE 74 [48, 63, 73] hf rfl ?_, oE 75 [48, 74] hf rfl ?_, trivial⟩
       all_goals intro vs W hS hp hx KO hKO
       all_goals simp only [Act.put, sA, sZ, sS] at hKO
       ·go_simp; exact hKO _ W (.refl W) rfl
       ·go_simp; exact hKO _ W (.refl W) rfl
       ·have e0 := isOf hp.1; have e1 := isOf hp.2.1; simp only [e0, e1] at hKO; go_simp; exact hKO _ W (.refl W) rfl
       ·have e2 := isOf hp.1; simp only [e2] at hKO
        have fc := Iw.cell (hS.2.1) (i := j) (by omega)
        go_simp; exact hKO _ W (.refl W) rfl
       ·have e3 := isOf hp.1; simp only [e3] at hKO; go_simp; exact hKO _ W (Ext.refl W) (by first | rfl | exact congrArg Value.bool (decide_eq_false H4.out))
       ·have e4 := isOf hp.1; simp only [e4] at hKO; go_simp; exact hKO _ W (.refl W) rfl
       ·have e5 := isOf hp.1; simp only [e5] at hKO; go_simp; exact hKO _ W (.refl W) rfl
       ·have e5 := isOf hp.1; simp only [e5] at hKO; go_simp; exact hKO _ W (.refl W) rfl
       ·have e5 := isOf hp.1; simp only [e5] at hKO; go_simp; exact hKO _ W (.refl W) rfl
       ·have e5 := isOf hp.1; simp only [e5] at hKO; go_simp; exact hKO _ W (.refl W) rfl
       ·have e5 := isOf hp.1; simp only [e5] at hKO; go_simp; exact hKO _ W (.refl W) rfl
       ·have e5 := isOf hp.1; simp only [e5] at hKO; go_simp; exact hKO _ W (.refl W) rfl
       ·have e11 := isOf hp.1; simp only [e11] at hKO; go_simp; exact hKO _ W (.refl W) rfl
       ·have e11 := isOf hp.1; simp only [e11] at hKO; go_simp; exact hKO _ W (.refl W) rfl
       ·have e11 := isOf hp.1; simp only [e11] at hKO; go_simp; exact hKO _ W (.refl W) rfl
       ·have e11 := isOf hp.1; simp only [e11] at hKO; go_simp; exact hKO _ W (.refl W) rfl
       ·have e11 := isOf hp.1; simp only [e11] at hKO; go_simp; exact hKO _ W (.refl W) rfl
       ·have e11 := isOf hp.1; simp only [e11] at hKO; go_simp; exact hKO _ W (.refl W) rfl
       ·have e11 := isOf hp.1; simp only [e11] at hKO; go_simp; exact hKO _ W (.refl W) rfl
       ·have e11 := isOf hp.1; simp only [e11] at hKO; go_simp; exact hKO _ W (.refl W) rfl
       ·have e11 := isOf hp.1; simp only [e11] at hKO; go_simp; exact hKO _ W (.refl W) rfl
       ·have e5 := isOf hp.1; simp only [e5] at hKO; go_simp; exact hKO _ W (.refl W) rfl
       ·have e5 := isOf hp.1; have e21 := isOf hp.2.1; simp only [e5, e21] at hKO; go_simp; exact hKO _ W (.refl W) rfl
       ·have e22 := isOf hp.1; simp only [e22] at hKO; go_simp; exact hKO _ W (.refl W) rfl
       ·have e23 := isOf hp.1; simp only [e23] at hKO; go_simp; exact hKO _ W (.refl W) rfl
       ·have e23 := isOf hp.1; simp only [e23] at hKO; go_simp; exact hKO _ W (.refl W) rfl
       ·have e23 := isOf hp.1; have e24 := isOf hp.2.1; have e25 := isOf hp.2.2.1; simp only [e23, e24, e25] at hKO; go_simp; exact hKO _ W (.refl W) rfl
       ·have e23 := isOf hp.1; have e26 := isOf hp.2.1; simp only [e23, e26] at hKO
        have fc := Iw.cell (hS.2.1) (i := j) (by omega)
        go_simp; exact hKO _ W (.refl W) rfl
       ·have e23 := isOf hp.1; have e27 := isOf hp.2.1; simp only [e23, e27] at hKO; go_simp; exact hKO _ W (Ext.refl W) (by first | rfl | exact congrArg Value.bool (decide_eq_true H7.out))
       ·have e23 := isOf hp.1; have e28 := isOf hp.2.1; simp only [e23, e28] at hKO; go_simp; exact hKO _ W (.refl W) rfl
       ·have e29 := isOf hp.1; simp only [e29] at hKO; go_simp; exact hKO _ W (.refl W) rfl
       ·have e29 := isOf hp.1; simp only [e29] at hKO; go_simp; exact hKO _ W (.refl W) rfl
       ·have e29 := isOf hp.1; have e30 := isOf hp.2.1; have e31 := isOf hp.2.2.1; simp only [e29, e30, e31] at hKO; go_simp; exact hKO _ W (.refl W) rfl
       ·have e29 := isOf hp.1; have e32 := isOf hp.2.1; simp only [e29, e32] at hKO
        have fc := Iw.cell (hS.2.2.1) (i := j) (by omega)
        go_simp; exact hKO _ W (.refl W) rfl
       ·have e29 := isOf hp.1; have e33 := isOf hp.2.1; simp only [e29, e33] at hKO; go_simp; exact hKO _ W (Ext.refl W) (by first | rfl | exact congrArg Value.bool (decide_eq_false H5.out))
       ·have e29 := isOf hp.1; have e34 := isOf hp.2.1; simp only [e29, e34] at hKO; go_simp; exact hKO _ W (.refl W) rfl
       ·have e35 := isOf hp.1; simp only [e35] at hKO; go_simp; exact hKO _ W (.refl W) rfl
       ·have e35 := isOf hp.1; simp only [e35] at hKO; go_simp; exact hKO _ W (.refl W) rfl
       ·have e35 := isOf hp.1; have e36 := isOf hp.2.1; have e37 := isOf hp.2.2.1; simp only [e35, e36, e37] at hKO; go_simp; exact hKO _ W (.refl W) rfl
       ·have e35 := isOf hp.1; have e38 := isOf hp.2.1; simp only [e35, e38] at hKO
        have fc := Iw.cell (hS.2.2.1) (i := j) (by omega)
        go_simp; exact hKO _ W (.refl W) rfl
       ·have e35 := isOf hp.1; simp only [e35] at hKO; go_simp; exact hKO _ W (.refl W) rfl
       ·have e35 := isOf hp.1; simp only [e35] at hKO; go_simp; exact hKO _ W (.refl W) rfl
       ·have e35 := isOf hp.1; have e40 := isOf hp.2.1; have e41 := isOf hp.2.2.1; simp only [e35, e40, e41] at hKO; go_simp; exact hKO _ W (.refl W) rfl
       ·have e35 := isOf hp.1; have e42 := isOf hp.2.1; simp only [e35, e42] at hKO
        have fc := Iw.cell (hS.2.1) (i := j) (by omega)
        go_simp; exact hKO _ W (.refl W) rfl
       ·have e35 := isOf hp.1; have e39 := isOf hp.2.1; have e43 := isOf hp.2.2.1; simp only [e35, e39, e43] at hKO; go_simp; exact hKO _ W (Ext.refl W) (by first | rfl | exact congrArg Value.bool (decide_eq_false H6.out))
       ·have e29 := isOf hp.1; have e35 := isOf hp.2.1; have e44 := isOf hp.2.2.1; simp only [e29, e35, e44] at hKO; go_simp; exact hKO _ W (.refl W) rfl
       ·have e23 := isOf hp.1; have e29 := isOf hp.2.1; have e45 := isOf hp.2.2.1; simp only [e23, e29, e45] at hKO; go_simp; exact hKO _ W (.refl W) rfl
       ·have e23 := isOf hp.1; have e46 := isOf hp.2.1; simp only [e23, e46] at hKO; go_simp; exact hKO _ W (.refl W) rfl
       ·have e47 := isOf hp.1; simp only [e47] at hKO; go_simp; exact hKO _ W (.refl W) rfl
       ·have e48 := isOf hp.1; simp only [e48] at hKO; go_simp; exact hKO _ W (.refl W) rfl
       ·have e48 := isOf hp.1; have e49 := isOf hp.2.1; simp only [e48, e49] at hKO; go_simp; exact hKO _ W (Ext.refl W) (by first | rfl | exact congrArg Value.bool (decide_eq_true HJ.out))
       ·have e48 := isOf hp.1; have e50 := isOf hp.2.1; simp only [e48, e50] at hKO; go_simp; exact hKO _ W (.refl W) rfl
       ·have e51 := isOf hp.1; simp only [e51] at hKO; go_simp; exact hKO _ W (.refl W) rfl
       ·have e51 := isOf hp.1; simp only [e51] at hKO; go_simp; exact hKO _ W (.refl W) rfl
       ·have e51 := isOf hp.1; have e53 := isOf hp.2.1; simp only [e51, e53] at hKO; go_simp; exact hKO _ W (.refl W) rfl
       ·have e51 := isOf hp.1; have e52 := isOf hp.2.1; have e54 := isOf hp.2.2.1; simp only [e51, e52, e54] at hKO; go_simp; exact hKO _ W (.refl W) rfl
       ·have e51 := isOf hp.1; have e55 := isOf hp.2.1; simp only [e51, e55] at hKO
        have fc := Iw.cell (hS.2.1) (i := p) (by omega)
        go_simp; exact hKO _ W (.refl W) rfl
       ·have e51 := isOf hp.1; simp only [e51] at hKO; go_simp; exact hKO _ W (.refl W) rfl
       ·have e51 := isOf hp.1; simp only [e51] at hKO; go_simp; exact hKO _ W (.refl W) rfl
       ·have e51 := isOf hp.1; have e57 := isOf hp.2.1; have e58 := isOf hp.2.2.1; simp only [e51, e57, e58] at hKO; go_simp; exact hKO _ W (.refl W) rfl
       ·have e51 := isOf hp.1; have e59 := isOf hp.2.1; simp only [e51, e59] at hKO
        have fc := Iw.cell (hS.2.1) (i := j) (by omega)
        go_simp; exact hKO _ W (.refl W) rfl
       ·have e51 := isOf hp.1; have e56 := isOf hp.2.1; have e60 := isOf hp.2.2.1; simp only [e51, e56, e60] at hKO; go_simp; exact hKO _ W (Ext.refl W) (by first | rfl | exact congrArg Value.bool (decide_eq_true HL1.out))
       ·have e48 := isOf hp.1; have e51 := isOf hp.2.1; have e61 := isOf hp.2.2.1; simp only [e48, e51, e61] at hKO; go_simp; exact hKO _ W (.refl W) rfl
       ·have e48 := isOf hp.1; have e62 := isOf hp.2.1; simp only [e48, e62] at hKO; go_simp; exact hKO _ W (.refl W) rfl
       ·have e63 := isOf hp.1; simp only [e63] at hKO; go_simp; exact hKO _ W (.refl W) rfl
       ·have e63 := isOf hp.1; simp only [e63] at hKO; go_simp; exact hKO _ W (.refl W) rfl
       ·have e63 := isOf hp.1; have e65 := isOf hp.2.1; simp only [e63, e65] at hKO; go_simp; exact hKO _ W (.refl W) rfl
       ·have e63 := isOf hp.1; have e64 := isOf hp.2.1; have e66 := isOf hp.2.2.1; simp only [e63, e64, e66] at hKO; go_simp; exact hKO _ W (.refl W) rfl
       ·have e63 := isOf hp.1; have e67 := isOf hp.2.1; simp only [e63, e67] at hKO
        have fc := Iw.cell (hS.2.2.1) (i := p) (by omega)
        go_simp; exact hKO _ W (.refl W) rfl
       ·have e63 := isOf hp.1; simp only [e63] at hKO; go_simp; exact hKO _ W (.refl W) rfl
       ·have e63 := isOf hp.1; simp only [e63] at hKO; go_simp; exact hKO _ W (.refl W) rfl
       ·have e63 := isOf hp.1; have e69 := isOf hp.2.1; have e70 := isOf hp.2.2.1; simp only [e63, e69, e70] at hKO; go_simp; exact hKO _ W (.refl W) rfl
       ·have e63 := isOf hp.1; have e71 := isOf hp.2.1; simp only [e63, e71] at hKO
        have fc := Iw.cell (hS.2.2.1) (i := j) (by omega)
        go_simp; exact hKO _ W (.refl W) rfl
       ·have e63 := isOf hp.1; have e68 := isOf hp.2.1; have e72 := isOf hp.2.2.1; simp only [e63, e68, e72] at hKO; go_simp; exact hKO _ W (Ext.refl W) (by first | rfl | exact congrArg Value.bool (decide_eq_false HL2.out))
       ·have e48 := isOf hp.1; have e63 := isOf hp.2.1; have e73 := isOf hp.2.2.1; simp only [e48, e63, e73] at hKO; go_simp; exact hKO _ W (.refl W) rfl
       ·have e48 := isOf hp.1; have e74 := isOf hp.2.1; simp only [e48, e74] at hKO; go_simp; exact hKO _ W (.refl W) rfl
      intro vs W4 hS hp
      clear szw4 E0 h hy
      obtain ⟨E0, h, hy, sz4⟩ := hS
      obtain ⟨h4_0, h4_1, h4_2, h4_3, h4_4, h4_5, h4_6, h4_7, h4_8, h4_9, h4_10, h4_11, h4_12, h4_13, h4_14, h4_15, h4_16, h4_17, h4_18, h4_19, h4_20, h4_21, h4_22, h4_23, h4_24, h4_25, h4_26, h4_27, h4_28, h4_29, h4_30, h4_31, h4_32, h4_33, h4_34, h4_35, h4_36, h4_37, h4_38, h4_39, h4_40, h4_41, h4_42, h4_43, h4_44, h4_45, h4_46, h4_47, h4_48, h4_49, h4_50, h4_51, h4_52, h4_53, h4_54, h4_55, h4_56, h4_57, h4_58, h4_59, h4_60, h4_61, h4_62, h4_63, h4_64, h4_65, h4_66, h4_67, h4_68, h4_69, h4_70, h4_71, h4_72, h4_73, h4_74, h4_75, -⟩ := hp
      replace h4_0 : vs 0 = .slice (some ⟨b, o, none⟩) n c := h4_0
      replace h4_1 : vs 1 = .int .i64 (j : Int) := h4_1
      replace h4_2 : vs 2 = .pointer (some ⟨b, o + j, none⟩) := h4_2
      replace h4_3 : vs 3 = .int .i64 (atL l j) := h4_3
      replace h4_4 : vs 4 = .bool false := h4_4
      replace h4_5 : vs 5 = .bool false := h4_5
      replace h4_6 : vs 6 = undef := h4_6
      replace h4_7 : vs 7 = undef := h4_7
      replace h4_8 : vs 8 = undef := h4_8
      replace h4_9 : vs 9 = undef := h4_9
      replace h4_10 : vs 10 = undef := h4_10
      replace h4_11 : vs 11 = undef := h4_11
      replace h4_12 : vs 12 = undef := h4_12
      replace h4_13 : vs 13 = undef := h4_13
      replace h4_14 : vs 14 = undef := h4_14
      replace h4_15 : vs 15 = undef := h4_15
      replace h4_16 : vs 16 = undef := h4_16
      replace h4_17 : vs 17 = undef := h4_17
      replace h4_18 : vs 18 = undef := h4_18
      replace h4_19 : vs 19 = undef := h4_19
      replace h4_20 : vs 20 = undef := h4_20
      replace h4_21 : vs 21 = undef := h4_21
      replace h4_22 : vs 22 = .bool false := h4_22
      replace h4_23 : vs 23 = .bool false := h4_23
      replace h4_24 : vs 24 = .slice (some ⟨b, o, none⟩) n c := h4_24
      replace h4_25 : vs 25 = .int .i64 (j : Int) := h4_25
      replace h4_26 : vs 26 = .pointer (some ⟨b, o + j, none⟩) := h4_26
      replace h4_27 : vs 27 = .int .i64 (atL l j) := h4_27
      replace h4_28 : vs 28 = .bool true := h4_28
      replace h4_29 : vs 29 = .bool true := h4_29
      replace h4_30 : vs 30 = .slice (some ⟨bq, oq, none⟩) n c1 := h4_30
      replace h4_31 : vs 31 = .int .i64 (j : Int) := h4_31
      replace h4_32 : vs 32 = .pointer (some ⟨bq, oq + j, none⟩) := h4_32
      replace h4_33 : vs 33 = .int .i64 (atL y j) := h4_33
      replace h4_34 : vs 34 = .bool false := h4_34
      replace h4_35 : vs 35 = .bool false := h4_35
      replace h4_36 : vs 36 = .slice (some ⟨bq, oq, none⟩) n c1 := h4_36
      replace h4_37 : vs 37 = .int .i64 (j : Int) := h4_37
      replace h4_38 : vs 38 = .pointer (some ⟨bq, oq + j, none⟩) := h4_38
      replace h4_39 : vs 39 = .int .i64 (atL y j) := h4_39
      replace h4_40 : vs 40 = .slice (some ⟨b, o, none⟩) n c := h4_40
      replace h4_41 : vs 41 = .int .i64 (j : Int) := h4_41
      replace h4_42 : vs 42 = .pointer (some ⟨b, o + j, none⟩) := h4_42
      replace h4_43 : vs 43 = .int .i64 (atL l j) := h4_43
      replace h4_44 : vs 44 = .bool false := h4_44
      replace h4_45 : vs 45 = .bool false := h4_45
      replace h4_46 : vs 46 = .bool false := h4_46
      replace h4_47 : vs 47 = .bool false := h4_47
      replace h4_48 : vs 48 = .bool false := h4_48
      replace h4_49 : vs 49 = .int .i64 (j : Int) := h4_49
      replace h4_50 : vs 50 = .bool true := h4_50
      replace h4_51 : vs 51 = .bool true := h4_51
      replace h4_52 : vs 52 = .slice (some ⟨b, o, none⟩) n c := h4_52
      replace h4_53 : vs 53 = .int .i64 (j : Int) := h4_53
      replace h4_54 : vs 54 = .int .i64 (p : Int) := h4_54
      replace h4_55 : vs 55 = .pointer (some ⟨b, o + p, none⟩) := h4_55
      replace h4_56 : vs 56 = .int .i64 (atL l p) := h4_56
      replace h4_57 : vs 57 = .slice (some ⟨b, o, none⟩) n c := h4_57
      replace h4_58 : vs 58 = .int .i64 (j : Int) := h4_58
      replace h4_59 : vs 59 = .pointer (some ⟨b, o + j, none⟩) := h4_59
      replace h4_60 : vs 60 = .int .i64 (atL l j) := h4_60
      replace h4_61 : vs 61 = .bool true := h4_61
      replace h4_62 : vs 62 = .bool true := h4_62
      replace h4_63 : vs 63 = .bool true := h4_63
      replace h4_64 : vs 64 = .slice (some ⟨bq, oq, none⟩) n c1 := h4_64
      replace h4_65 : vs 65 = .int .i64 (j : Int) := h4_65
      replace h4_66 : vs 66 = .int .i64 (p : Int) := h4_66
      replace h4_67 : vs 67 = .pointer (some ⟨bq, oq + p, none⟩) := h4_67
      replace h4_68 : vs 68 = .int .i64 (atL y p) := h4_68
      replace h4_69 : vs 69 = .slice (some ⟨bq, oq, none⟩) n c1 := h4_69
      replace h4_70 : vs 70 = .int .i64 (j : Int) := h4_70
      replace h4_71 : vs 71 = .pointer (some ⟨bq, oq + j, none⟩) := h4_71
      replace h4_72 : vs 72 = .int .i64 (atL y j) := h4_72
      replace h4_73 : vs 73 = .bool false := h4_73
      replace h4_74 : vs 74 = .bool false := h4_74
      replace h4_75 : vs 75 = .bool false := h4_75
      simp only [h4_0, h4_1, h4_2, h4_3, h4_4, h4_5, h4_6, h4_7, h4_8, h4_9, h4_10, h4_11, h4_12, h4_13, h4_14, h4_15, h4_16, h4_17, h4_18, h4_19, h4_20, h4_21, h4_22, h4_23, h4_24, h4_25, h4_26, h4_27, h4_28, h4_29, h4_30, h4_31, h4_32, h4_33, h4_34, h4_35, h4_36, h4_37, h4_38, h4_39, h4_40, h4_41, h4_42, h4_43, h4_44, h4_45, h4_46, h4_47, h4_48, h4_49, h4_50, h4_51, h4_52, h4_53, h4_54, h4_55, h4_56, h4_57, h4_58, h4_59, h4_60, h4_61, h4_62, h4_63, h4_64, h4_65, h4_66, h4_67, h4_68, h4_69, h4_70, h4_71, h4_72, h4_73, h4_74, h4_75]
      clear h4_0 h4_1 h4_2 h4_3 h4_4 h4_5 h4_6 h4_7 h4_8 h4_9 h4_10 h4_11 h4_12 h4_13 h4_14 h4_15 h4_16 h4_17 h4_18 h4_19 h4_20 h4_21 h4_22 h4_23 h4_24 h4_25 h4_26 h4_27 h4_28 h4_29 h4_30 h4_31 h4_32 h4_33 h4_34 h4_35 h4_36 h4_37 h4_38 h4_39 h4_40 h4_41 h4_42 h4_43 h4_44 h4_45 h4_46 h4_47 h4_48 h4_49 h4_50 h4_51 h4_52 h4_53 h4_54 h4_55 h4_56 h4_57 h4_58 h4_59 h4_60 h4_61 h4_62 h4_63 h4_64 h4_65 h4_66 h4_67 h4_68 h4_69 h4_70 h4_71 h4_72 h4_73 h4_74 h4_75; go_wp2
      go_roundw
      case rel => exact ⟨j + 1, by go_num, by omega, h, hy, E0⟩
      case measure => simp [intOf]; omega
    ·have HL1 := Lib.hid hle
     clear hle HO
     rcases HSG.out with ⟨g1, g2, g3⟩ | ⟨g1, g2, g3⟩
     ·have H4 : Hid (atL l j ≥ 0) := Lib.hid g1
      have H5 := Lib.hid g2
      have H6 := Lib.hid g3
      have H7 : Hid (¬ atL l j < 0) := Lib.hid (by omega)
      clear g1 g2 g3
      go_upto_region 11 with (fail)
      simp only [appC, appN]
      have szw5 := Ext.size E0
      refine region_gs ((.one fun v _ => v = .slice (some ⟨b, o, none⟩) n c) ::
        (.one fun v _ => v = .int .i64 (j : Int)) ::
        (.one fun v _ => v = .pointer (some ⟨b, o + j, none⟩)) ::
        (.one fun v _ => v = .int .i64 (atL l j)) ::
        (.one fun v _ => v = .bool true) ::
        (.one fun v _ => v = .bool true) ::
        (.one fun v _ => v = .slice (some ⟨bq, oq, none⟩) n c1) ::
        (.one fun v _ => v = .int .i64 (j : Int)) ::
        (.one fun v _ => v = .pointer (some ⟨bq, oq + j, none⟩)) ::
        (.one fun v _ => v = .int .i64 (atL y j)) ::
        (.one fun v _ => v = .bool false) ::
        (.one fun v _ => v = .bool false) ::
        (.one fun v _ => v = .slice (some ⟨bq, oq, none⟩) n c1) ::
        (.one fun v _ => v = .int .i64 (j : Int)) ::
        (.one fun v _ => v = .pointer (some ⟨bq, oq + j, none⟩)) ::
        (.one fun v _ => v = .int .i64 (atL y j)) ::
        (.one fun v _ => v = .slice (some ⟨b, o, none⟩) n c) ::
        (.one fun v _ => v = .int .i64 (j : Int)) ::
        (.one fun v _ => v = .pointer (some ⟨b, o + j, none⟩)) ::
        (.one fun v _ => v = .int .i64 (atL l j)) ::
        (.one fun v _ => v = .bool false) ::
        (.one fun v _ => v = .bool false) ::
        (.one fun v _ => v = .bool false) ::
        (.one fun v _ => v = .bool false) ::
        (.one fun v _ => v = .slice (some ⟨b, o, none⟩) n c) ::
        (.one fun v _ => v = .int .i64 (j : Int)) ::
        (.one fun v _ => v = .pointer (some ⟨b, o + j, none⟩)) ::
        (.one fun v _ => v = .int .i64 (atL l j)) ::
        (.one fun v _ => v = .bool false) ::
        (.one fun v _ => v = .bool false) ::
        (.one fun v _ => v = undef) ::
        (.one fun v _ => v = undef) ::
        (.one fun v _ => v = undef) ::
        (.one fun v _ => v = undef) ::
        (.one fun v _ => v = undef) ::
        (.one fun v _ => v = undef) ::
        (.one fun v _ => v = undef) ::
        (.one fun v _ => v = undef) ::
        (.one fun v _ => v = undef) ::
        (.one fun v _ => v = undef) ::
        (.one fun v _ => v = undef) ::
        (.one fun v _ => v = undef) ::
        (.one fun v _ => v = undef) ::
        (.one fun v _ => v = undef) ::
        (.one fun v _ => v = undef) ::
        (.one fun v _ => v = undef) ::
        (.one fun v _ => v = .bool false) ::
        (.one fun v _ => v = .bool false) ::
        (.one fun v _ => v = .bool false) ::
        (.one fun v _ => v = .int .i64 (j : Int)) ::
        (.one fun v _ => v = .bool true) ::
        (.one fun v _ => v = .bool true) ::
        (.one fun v _ => v = .slice (some ⟨b, o, none⟩) n c) ::
        (.one fun v _ => v = .int .i64 (j : Int)) ::
        (.one fun v _ => v = .int .i64 (p : Int)) ::
        (.one fun v _ => v = .pointer (some ⟨b, o + p, none⟩)) ::
        (.one fun v _ => v = .int .i64 (atL l p)) ::
        (.one fun v _ => v = .slice (some ⟨b, o, none⟩) n c) ::
        (.one fun v _ => v = .int .i64 (j : Int)) ::
        (.one fun v _ => v = .pointer (some ⟨b, o + j, none⟩)) ::
        (.one fun v _ => v = .int .i64 (atL l j)) ::
        (.one fun v _ => v = .bool false) ::
        (.one fun v _ => v = .bool false) ::
        (.one fun v _ => v = .bool false) ::
        (.one fun v _ => v = undef) ::
        (.one fun v _ => v = undef) ::
        (.one fun v _ => v = undef) ::
        (.one fun v _ => v = undef) ::
        (.one fun v _ => v = undef) ::
        (.one fun v _ => v = undef) ::
        (.one fun v _ => v = undef) ::
        (.one fun v _ => v = undef) ::
        (.one fun v _ => v = undef) ::
        (.one fun v _ => v = undef) ::
        (.one fun v _ => v = .bool false) ::
        (.one fun v _ => v = .bool false) :: [])
       (fun W => Ext w W ∧ Iw 0 s0 W (some ⟨b, o, none⟩) n c (l) ∧ Iw s0 s1 W (some ⟨bq, oq, none⟩) n c1 (y) ∧ wr.heap.size ≤ W.heap.size) ⟨Good.is _, Good.is _, Good.is _, Good.is _, Good.is _, Good.is _, Good.is _, Good.is _, Good.is _, Good.is _, Good.is _, Good.is _, Good.is _, Good.is _, Good.is _, Good.is _, Good.is _, Good.is _, Good.is _, Good.is _, Good.is _, Good.is _, Good.is _, Good.is _, Good.is _, Good.is _, Good.is _, Good.is _, Good.is _, Good.is _, Good.is _, Good.is _, Good.is _, Good.is _, Good.is _, Good.is _, Good.is _, Good.is _, Good.is _, Good.is _, Good.is _, Good.is _, Good.is _, Good.is _, Good.is _, Good.is _, Good.is _, Good.is _, Good.is _, Good.is _, Good.is _, Good.is _, Good.is _, Good.is _, Good.is _, Good.is _, Good.is _, Good.is _, Good.is _, Good.is _, Good.is _, Good.is _, Good.is _, Good.is _, Good.is _, Good.is _, Good.is _, Good.is _, Good.is _, Good.is _, Good.is _, Good.is _, Good.is _, Good.is _, Good.is _, Good.is _, trivial⟩
       ⟨E0, h, hy, Nat.le_refl _⟩ (A := ?A5) ?hA5 ?howe5 ?hfin5
      case hA5 =>
       intro vs
       simp only [putAll, Act.put, sA, sZ, sS, Nat.zero_add, Nat.reduceAdd]
       exact rfl
      case howe5 =>
       clear E0 h hy
       intro hf
       refine ⟨oE 0 [] hf rfl ?_, oE 1 [] hf rfl ?_, oE 2 [0, 1] hf rfl ?_, oE 3 [2] hf rfl ?_, oE 4 [3] hf rfl ?_, oE 5 [4] hf rfl ?_, oE 6 [5] hf rfl ?_, oE 7 [5] hf rfl ?_, oE 8 [5, 6, 7] hf rfl ?_, oE 9 [5, 8] hf rfl ?_, oE 10 [5, 9] hf rfl ?_, oE 11 [5, 10] hf rfl ?_, oE 12 [11] hf rfl ?_, oE 13 [11] hf rfl ?_, oE 14 [11, 12, 13] hf rfl ?_, oE 15 [11, 14] hf rfl ?_, oE 16 [11] hf rfl ?_, oE 17 [11] hf rfl ?_, oE 18 [11, 16, 17] hf rfl ?_, oE 19 [11, 18] hf rfl ?_, oE 20 [11, 15, 19] hf rfl ?_, oE 21 [5, 11, 20] hf rfl ?_, oE 22 [5, 21] hf rfl ?_, oE 23 [22] hf rfl ?_, oE 24 [23] hf rfl ?_, oE 25 [23] hf rfl ?_, oE 26 [23, 24, 25] hf rfl ?_, oE 27 [23, 26] hf rfl ?_, oE 28 [23, 27] hf rfl ?_, oE 29 [23, 28] hf rfl ?_, oE 30 [29] hf rfl ?_, oE 31 [29] hf rfl ?_, oE 32 [29] hf rfl ?_, oE 33 [29] hf rfl ?_, oE 34 [29] hf rfl ?_, oE 35 [29] hf rfl ?_, oE 36 [35] hf rfl ?_, oE 37 [35] hf rfl ?_, oE 38 [35] hf rfl ?_, oE 39 [35] hf rfl ?_, oE 40 [35] hf rfl ?_, oE 41 [35] hf rfl ?_, oE 42 [35] hf rfl ?_, oE 43 [35] hf rfl ?_, oE 44 [35] hf rfl ?_, oE 45 [29] hf rfl ?_, oE 46 [23, 29, 45] hf rfl ?_, oE 47 [23, 46] hf rfl ?_, oE 48 [47] hf rfl ?_, oE 49 [48] hf rfl ?_, oE 50 [48, 49] hf rfl ?_, oE 51 [48, 50] hf rfl ?_, oE 52 [51] hf rfl ?_, oE 53 [51] hf rfl ?_, oE 54 [51, 53] hf rfl ?_, oE 55 [51, 52, 54] hf rfl ?_, oE 56 [51, 55] hf rfl ?_, oE 57 [51] hf rfl ?_, oE 58 [51] hf rfl ?_, oE 59 [51, 57, 58] hf rfl ?_, oE 60 [51, 59] hf rfl ?_, oE 61 [51, 56, 60] hf rfl ?_, oE 62 [48, 51, 61] hf rfl ?_, oE 63 [48, 62] hf rfl ?_, oE 64 [63] hf rfl ?_, oE 65 [63] hf rfl ?_, oE 66 [63] hf rfl ?_, oE 67 [63] hf rfl ?_, oE 68 [63] hf rfl ?_, oE 69 [63] hf rfl ?_, oE 70 [63] hf rfl ?_, oE 71 [63] hf rfl ?_, oE 72 [63] hf rfl ?_, oE 73 [63] hf rfl ?_, oE 74 [48, 63, 73] hf rfl ?_, oE 75 [48, 74] hf rfl ?_, trivial⟩
       all_goals intro vs W hS hp hx KO hKO
       all_goals simp only [Act.put, sA, sZ, sS] at hKO
       ·go_simp; exact hKO _ W (.refl W) rfl
       ·go_simp; exact hKO _ W (.refl W) rfl
       ·have e0 := isOf hp.1; have e1 := isOf hp.2.1; simp only [e0, e1] at hKO; go_simp; exact hKO _ W (.refl W) rfl
       ·have e2 := isOf hp.1; simp only [e2] at hKO
        have fc := Iw.cell (hS.2.1) (i := j) (by omega)
        go_simp; exact hKO _ W (.refl W) rfl
       ·have e3 := isOf hp.1; simp only [e3] at hKO; go_simp; exact hKO _ W (Ext.refl W) (by first | rfl | exact congrArg Value.bool (decide_eq_true H4.out))
       ·have e4 := isOf hp.1; simp only [e4] at hKO; go_simp; exact hKO _ W (.refl W) rfl
       ·have e5 := isOf hp.1; simp only [e5] at hKO; go_simp; exact hKO _ W (.refl W) rfl
       ·have e5 := isOf hp.1; simp only [e5] at hKO; go_simp; exact hKO _ W (.refl W) rfl
       ·have e5 := isOf hp.1; have e6 := isOf hp.2.1; have e7 := isOf hp.2.2.1; simp only [e5, e6, e7] at hKO; go_simp; exact hKO _ W (.refl W) rfl
       ·have e5 := isOf hp.1; have e8 := isOf hp.2.1; simp only [e5, e8] at hKO
        have fc := Iw.cell (hS.2.2.1) (i := j) (by omega)
        go_simp; exact hKO _ W (.refl W) rfl
       ·have e5 := isOf hp.1; have e9 := isOf hp.2.1; simp only [e5, e9] at hKO; go_simp; exact hKO _ W (Ext.refl W) (by first | rfl | exact congrArg Value.bool (decide_eq_false H5.out))
       ·have e5 := isOf hp.1; have e10 := isOf hp.2.1; simp only [e5, e10] at hKO; go_simp; exact hKO _ W (.refl W) rfl
       ·have e11 := isOf hp.1; simp only [e11] at hKO; go_simp; exact hKO _ W (.refl W) rfl
       ·have e11 := isOf hp.1; simp only [e11] at hKO; go_simp; exact hKO _ W (.refl W) rfl
       ·have e11 := isOf hp.1; have e12 := isOf hp.2.1; have e13 := isOf hp.2.2.1; simp only [e11, e12, e13] at hKO; go_simp; exact hKO _ W (.refl W) rfl
       ·have e11 := isOf hp.1; have e14 := isOf hp.2.1; simp only [e11, e14] at hKO
        have fc := Iw.cell (hS.2.2.1) (i := j) (by omega)
        go_simp; exact hKO _ W (.refl W) rfl
       ·have e11 := isOf hp.1; simp only [e11] at hKO; go_simp; exact hKO _ W (.refl W) rfl
       ·have e11 := isOf hp.1; simp only [e11] at hKO; go_simp; exact hKO _ W (.refl W) rfl
       ·have e11 := isOf hp.1; have e16 := isOf hp.2.1; have e17 := isOf hp.2.2.1; simp only [e11, e16, e17] at hKO; go_simp; exact hKO _ W (.refl W) rfl
       ·have e11 := isOf hp.1; have e18 := isOf hp.2.1; simp only [e11, e18] at hKO
        have fc := Iw.cell (hS.2.1) (i := j) (by omega)
        go_simp; exact hKO _ W (.refl W) rfl
       ·have e11 := isOf hp.1; have e15 := isOf hp.2.1; have e19 := isOf hp.2.2.1; simp only [e11, e15, e19] at hKO; go_simp; exact hKO _ W (Ext.refl W) (by first | rfl | exact congrArg Value.bool (decide_eq_false H6.out))
       ·have e5 := isOf hp.1; have e11 := isOf hp.2.1; have e20 := isOf hp.2.2.1; simp only [e5, e11, e20] at hKO; go_simp; exact hKO _ W (.refl W) rfl
       ·have e5 := isOf hp.1; have e21 := isOf hp.2.1; simp only [e5, e21] at hKO; go_simp; exact hKO _ W (.refl W) rfl
       ·have e22 := isOf hp.1; simp only [e22] at hKO; go_simp; exact hKO _ W (.refl W) rfl
       ·have e23 := isOf hp.1; simp only [e23] at hKO; go_simp; exact hKO _ W (.refl W) rfl
       ·have e23 := isOf hp.1; simp only [e23] at hKO; go_simp; exact hKO _ W (.refl W) rfl
       ·have e23 := isOf hp.1; have e24 := isOf hp.2.1; have e25 := isOf hp.2.2.1; simp only [e23, e24, e25] at hKO; go_simp; exact hKO _ W (.refl W) rfl
       ·have e23 := isOf hp.1; have e26 := isOf hp.2.1; simp only [e23, e26] at hKO
        have fc := Iw.cell (hS.2.1) (i := j) (by omega)
        go_simp; exact hKO _ W (.refl W) rfl
       ·have e23 := isOf hp.1; have e27 := isOf hp.2.1; simp only [e23, e27] at hKO; go_simp; exact hKO _ W (Ext.refl W) (by first | rfl | exact congrArg Value.bool (decide_eq_false H7.out))
       ·have e23 := isOf hp.1; have e28 := isOf hp.2.1; simp only [e23, e28] at hKO; go_simp; exact hKO _ W (.refl W) rfl
       ·have e29 := isOf hp.1; simp only [e29] at hKO; go_simp; exact hKO _ W (.refl W) rfl
       ·have e29 := isOf hp.1; simp only [e29] at hKO; go_simp; exact hKO _ W (.refl W) rfl
       ·have e29 := isOf hp.1; simp only [e29] at hKO; go_simp; exact hKO _ W (.refl W) rfl
       ·have e29 := isOf hp.1; simp only [e29] at hKO; go_simp; exact hKO _ W (.refl W) rfl
       ·have e29 := isOf hp.1; simp only [e29] at hKO; go_simp; exact hKO _ W (.refl W) rfl
       ·have e29 := isOf hp.1; simp only [e29] at hKO; go_simp; exact hKO _ W (.refl W) rfl
       ·have e35 := isOf hp.1; simp only [e35] at hKO; go_simp; exact hKO _ W (.refl W) rfl
       ·have e35 := isOf hp.1; simp only [e35] at hKO; go_simp; exact hKO _ W (.refl W) rfl
       ·have e35 := isOf hp.1; simp only [e35] at hKO; go_simp; exact hKO _ W (.refl W) rfl
       ·have e35 := isOf hp.1; simp only [e35] at hKO; go_simp; exact hKO _ W (.refl W) rfl
       ·have e35 := isOf hp.1; simp only [e35] at hKO; go_simp; exact hKO _ W (.refl W) rfl
       ·have e35 := isOf hp.1; simp only [e35] at hKO; go_simp; exact hKO _ W (.refl W) rfl
       ·have e35 := isOf hp.1; simp only [e35] at hKO; go_simp; exact hKO _ W (.refl W) rfl
       ·have e35 := isOf hp.1; simp only [e35] at hKO; go_simp; exact hKO _ W (.refl W) rfl
       ·have e35 := isOf hp.1; simp only [e35] at hKO; go_simp; exact hKO _ W (.refl W) rfl
       ·have e29 := isOf hp.1; simp only [e29] at hKO; go_simp; exact hKO _ W (.refl W) rfl
       ·have e23 := isOf hp.1; have e29 := isOf hp.2.1; have e45 := isOf hp.2.2.1; simp only [e23, e29, e45] at hKO; go_simp; exact hKO _ W (.refl W) rfl
       ·have e23 := isOf hp.1; have e46 := isOf hp.2.1; simp only [e23, e46] at hKO; go_simp; exact hKO _ W (.refl W) rfl
       ·have e47 := isOf hp.1; simp only [e47] at hKO; go_simp; exact hKO _ W (.refl W) rfl
       ·have e48 := isOf hp.1; simp only [e48] at hKO; go_simp; exact hKO _ W (.refl W) rfl
       ·have e48 := isOf hp.1; have e49 := isOf hp.2.1; simp only [e48, e49] at hKO; go_simp; exact hKO _ W (Ext.refl W) (by first | rfl | exact congrArg Value.bool (decide_eq_true HJ.out))
       ·have e48 := isOf hp.1; have e50 := isOf hp.2.1; simp only [e48, e50] at hKO; go_simp; exact hKO _ W (.refl W) rfl
       ·have e51 := isOf hp.1; simp only [e51] at hKO; go_simp; exact hKO _ W (.refl W) rfl
       ·have e51 := isOf hp.1; simp only [e51] at hKO; go_simp; exact hKO _ W (.refl W) rfl
       ·have e51 := isOf hp.1; have e53 := isOf hp.2.1; simp only [e51, e53] at hKO; go_simp; exact hKO _ W (.refl W) rfl
       ·have e51 := isOf hp.1; have e52 := isOf hp.2.1; have e54 := isOf hp.2.2.1; simp only [e51, e52, e54] at hKO; go_simp; exact hKO _ W (.refl W) rfl
       ·have e51 := isOf hp.1; have e55 := isOf hp.2.1; simp only [e51, e55] at hKO
        have fc := Iw.cell (hS.2.1) (i := p) (by omega)
        go_simp; exact hKO _ W (.refl W) rfl
       ·have e51 := isOf hp.1; simp only [e51] at hKO; go_simp; exact hKO _ W (.refl W) rfl
       ·have e51 := isOf hp.1; simp only [e51] at hKO; go_simp; exact hKO _ W (.refl W) rfl
       ·have e51 := isOf hp.1; have e57 := isOf hp.2.1; have e58 := isOf hp.2.2.1; simp only [e51, e57, e58] at hKO; go_simp; exact hKO _ W (.refl W) rfl
       ·have e51 := isOf hp.1; have e59 := isOf hp.2.1; simp only [e51, e59] at hKO
        have fc := Iw.cell (hS.2.1) (i := j) (by omega)
        go_simp; exact hKO _ W (.refl W) rfl
       ·have e51 := isOf hp.1; have e56 := isOf hp.2.1; have e60 := isOf hp.2.2.1; simp only [e51, e56, e60] at hKO; go_simp; exact hKO _ W (Ext.refl W) (by first | rfl | exact congrArg Value.bool (decide_eq_false HL1.out))
       ·have e48 := isOf hp.1; have e51 := isOf hp.2.1; have e61 := isOf hp.2.2.1; simp only [e48, e51, e61] at hKO; go_simp; exact hKO _ W (.refl W) rfl
       ·have e48 := isOf hp.1; have e62 := isOf hp.2.1; simp only [e48, e62] at hKO; go_simp; exact hKO _ W (.refl W) rfl
       ·have e63 := isOf hp.1; simp only [e63] at hKO; go_simp; exact hKO _ W (.refl W) rfl
       ·have e63 := isOf hp.1; simp only [e63] at hKO; go_simp; exact hKO _ W (.refl W) rfl
       ·have e63 := isOf hp.1; simp only [e63] at hKO; go_simp; exact hKO _ W (.refl W) rfl
       ·have e63 := isOf hp.1; simp only [e63] at hKO; go_simp; exact hKO _ W (.refl W) rfl
       ·have e63 := isOf hp.1; simp only [e63] at hKO; go_simp; exact hKO _ W (.refl W) rfl
       ·have e63 := isOf hp.1; simp only [e63] at hKO; go_simp; exact hKO _ W (.refl W) rfl
       ·have e63 := isOf hp.1; simp only [e63] at hKO; go_simp; exact hKO _ W (.refl W) rfl
       ·have e63 := isOf hp.1; simp only [e63] at hKO; go_simp; exact hKO _ W (.refl W) rfl
       ·have e63 := isOf hp.1; simp only [e63] at hKO; go_simp; exact hKO _ W (.refl W) rfl
       ·have e63 := isOf hp.1; simp only [e63] at hKO; go_simp; exact hKO _ W (.refl W) rfl
       ·have e48 := isOf hp.1; have e63 := isOf hp.2.1; have e73 := isOf hp.2.2.1; simp only [e48, e63, e73] at hKO; go_simp; exact hKO _ W (.refl W) rfl
       ·have e48 := isOf hp.1; have e74 := isOf hp.2.1; simp only [e48, e74] at hKO; go_simp; exact hKO _ W (.refl W) rfl
      intro vs W5 hS hp
      clear szw5 E0 h hy
      obtain ⟨E0, h, hy, sz5⟩ := hS
      obtain ⟨h5_0, h5_1, h5_2, h5_3, h5_4, h5_5, h5_6, h5_7, h5_8, h5_9, h5_10, h5_11, h5_12, h5_13, h5_14, h5_15, h5_16, h5_17, h5_18, h5_19, h5_20, h5_21, h5_22, h5_23, h5_24, h5_25, h5_26, h5_27, h5_28, h5_29, h5_30, h5_31, h5_32, h5_33, h5_34, h5_35, h5_36, h5_37, h5_38, h5_39, h5_40, h5_41, h5_42, h5_43, h5_44, h5_45, h5_46, h5_47, h5_48, h5_49, h5_50, h5_51, h5_52, h5_53, h5_54, h5_55, h5_56, h5_57, h5_58, h5_59, h5_60, h5_61, h5_62, h5_63, h5_64, h5_65, h5_66, h5_67, h5_68, h5_69, h5_70, h5_71, h5_72, h5_73, h5_74, h5_75, -⟩ := hp
      replace h5_0 : vs 0 = .slice (some ⟨b, o, none⟩) n c := h5_0
      replace h5_1 : vs 1 = .int .i64 (j : Int) := h5_1
      replace h5_2 : vs 2 = .pointer (some ⟨b, o + j, none⟩) := h5_2
      replace h5_3 : vs 3 = .int .i64 (atL l j) := h5_3
      replace h5_4 : vs 4 = .bool true := h5_4
      replace h5_5 : vs 5 = .bool true := h5_5
      replace h5_6 : vs 6 = .slice (some ⟨bq, oq, none⟩) n c1 := h5_6
      replace h5_7 : vs 7 = .int .i64 (j : Int) := h5_7
      replace h5_8 : vs 8 = .pointer (some ⟨bq, oq + j, none⟩) := h5_8
      replace h5_9 : vs 9 = .int .i64 (atL y j) := h5_9
      replace h5_10 : vs 10 = .bool false := h5_10
      replace h5_11 : vs 11 = .bool false := h5_11
      replace h5_12 : vs 12 = .slice (some ⟨bq, oq, none⟩) n c1 := h5_12
      replace h5_13 : vs 13 = .int .i64 (j : Int) := h5_13
      replace h5_14 : vs 14 = .pointer (some ⟨bq, oq + j, none⟩) := h5_14
      replace h5_15 : vs 15 = .int .i64 (atL y j) := h5_15
      replace h5_16 : vs 16 = .slice (some ⟨b, o, none⟩) n c := h5_16
      replace h5_17 : vs 17 = .int .i64 (j : Int) := h5_17
      replace h5_18 : vs 18 = .pointer (some ⟨b, o + j, none⟩) := h5_18
      replace h5_19 : vs 19 = .int .i64 (atL l j) := h5_19
      replace h5_20 : vs 20 = .bool false := h5_20
      replace h5_21 : vs 21 = .bool false := h5_21
      replace h5_22 : vs 22 = .bool false := h5_22
      replace h5_23 : vs 23 = .bool false := h5_23
      replace h5_24 : vs 24 = .slice (some ⟨b, o, none⟩) n c := h5_24
      replace h5_25 : vs 25 = .int .i64 (j : Int) := h5_25
      replace h5_26 : vs 26 = .pointer (some ⟨b, o + j, none⟩) := h5_26
      replace h5_27 : vs 27 = .int .i64 (atL l j) := h5_27
      replace h5_28 : vs 28 = .bool false := h5_28
      replace h5_29 : vs 29 = .bool false := h5_29
      replace h5_30 : vs 30 = undef := h5_30
      replace h5_31 : vs 31 = undef := h5_31
      replace h5_32 : vs 32 = undef := h5_32
      replace h5_33 : vs 33 = undef := h5_33
      replace h5_34 : vs 34 = undef := h5_34
      replace h5_35 : vs 35 = undef := h5_35
      replace h5_36 : vs 36 = undef := h5_36
      replace h5_37 : vs 37 = undef := h5_37
      replace h5_38 : vs 38 = undef := h5_38
      replace h5_39 : vs 39 = undef := h5_39
      replace h5_40 : vs 40 = undef := h5_40
      replace h5_41 : vs 41 = undef := h5_41
      replace h5_42 : vs 42 = undef := h5_42
      replace h5_43 : vs 43 = undef := h5_43
      replace h5_44 : vs 44 = undef := h5_44
      replace h5_45 : vs 45 = undef := h5_45
      replace h5_46 : vs 46 = .bool false := h5_46
      replace h5_47 : vs 47 = .bool false := h5_47
      replace h5_48 : vs 48 = .bool false := h5_48
      replace h5_49 : vs 49 = .int .i64 (j : Int) := h5_49
      replace h5_50 : vs 50 = .bool true := h5_50
      replace h5_51 : vs 51 = .bool true := h5_51
      replace h5_52 : vs 52 = .slice (some ⟨b, o, none⟩) n c := h5_52
      replace h5_53 : vs 53 = .int .i64 (j : Int) := h5_53
      replace h5_54 : vs 54 = .int .i64 (p : Int) := h5_54
      replace h5_55 : vs 55 = .pointer (some ⟨b, o + p, none⟩) := h5_55
      replace h5_56 : vs 56 = .int .i64 (atL l p) := h5_56
      replace h5_57 : vs 57 = .slice (some ⟨b, o, none⟩) n c := h5_57
      replace h5_58 : vs 58 = .int .i64 (j : Int) := h5_58
      replace h5_59 : vs 59 = .pointer (some ⟨b, o + j, none⟩) := h5_59
      replace h5_60 : vs 60 = .int .i64 (atL l j) := h5_60
      replace h5_61 : vs 61 = .bool false := h5_61
      replace h5_62 : vs 62 = .bool false := h5_62
      replace h5_63 : vs 63 = .bool false := h5_63
      replace h5_64 : vs 64 = undef := h5_64
      replace h5_65 : vs 65 = undef := h5_65
      replace h5_66 : vs 66 = undef := h5_66
      replace h5_67 : vs 67 = undef := h5_67
      replace h5_68 : vs 68 = undef := h5_68
      replace h5_69 : vs 69 = undef := h5_69
      replace h5_70 : vs 70 = undef := h5_70
      replace h5_71 : vs 71 = undef := h5_71
      replace h5_72 : vs 72 = undef := h5_72
      replace h5_73 : vs 73 = undef := h5_73
      replace h5_74 : vs 74 = .bool false := h5_74
      replace h5_75 : vs 75 = .bool false := h5_75
      simp only [h5_0, h5_1, h5_2, h5_3, h5_4, h5_5, h5_6, h5_7, h5_8, h5_9, h5_10, h5_11, h5_12, h5_13, h5_14, h5_15, h5_16, h5_17, h5_18, h5_19, h5_20, h5_21, h5_22, h5_23, h5_24, h5_25, h5_26, h5_27, h5_28, h5_29, h5_30, h5_31, h5_32, h5_33, h5_34, h5_35, h5_36, h5_37, h5_38, h5_39, h5_40, h5_41, h5_42, h5_43, h5_44, h5_45, h5_46, h5_47, h5_48, h5_49, h5_50, h5_51, h5_52, h5_53, h5_54, h5_55, h5_56, h5_57, h5_58, h5_59, h5_60, h5_61, h5_62, h5_63, h5_64, h5_65, h5_66, h5_67, h5_68, h5_69, h5_70, h5_71, h5_72, h5_73, h5_74, h5_75]
      clear h5_0 h5_1 h5_2 h5_3 h5_4 h5_5 h5_6 h5_7 h5_8 h5_9 h5_10 h5_11 h5_12 h5_13 h5_14 h5_15 h5_16 h5_17 h5_18 h5_19 h5_20 h5_21 h5_22 h5_23 h5_24 h5_25 h5_26 h5_27 h5_28 h5_29 h5_30 h5_31 h5_32 h5_33 h5_34 h5_35 h5_36 h5_37 h5_38 h5_39 h5_40 h5_41 h5_42 h5_43 h5_44 h5_45 h5_46 h5_47 h5_48 h5_49 h5_50 h5_51 h5_52 h5_53 h5_54 h5_55 h5_56 h5_57 h5_58 h5_59 h5_60 h5_61 h5_62 h5_63 h5_64 h5_65 h5_66 h5_67 h5_68 h5_69 h5_70 h5_71 h5_72 h5_73 h5_74 h5_75; go_wp2
      go_roundw
      case rel => exact ⟨j + 1, by go_num, by omega, h, hy, E0⟩
      case measure => simp [intOf]; omega
     ·have H4 : Hid (¬ atL l j ≥ 0) := Lib.hid (by omega)
      have H5 := Lib.hid g2
      have H6 := Lib.hid g3
      have H7 : Hid (atL l j < 0) := Lib.hid g1
      clear g1 g2 g3
      go_upto_region 11 with (fail)
      simp only [appC, appN]
      have szw6 := Ext.size E0
      refine region_gs ((.one fun v _ => v = .slice (some ⟨b, o, none⟩) n c) ::
        (.one fun v _ => v = .int .i64 (j : Int)) ::
        (.one fun v _ => v = .pointer (some ⟨b, o + j, none⟩)) ::
        (.one fun v _ => v = .int .i64 (atL l j)) ::
        (.one fun v _ => v = .bool false) ::
        (.one fun v _ => v = .bool false) ::
        (.one fun v _ => v = undef) ::
        (.one fun v _ => v = undef) ::
        (.one fun v _ => v = undef) ::
        (.one fun v _ => v = undef) ::
        (.one fun v _ => v = undef) ::
        (.one fun v _ => v = undef) ::
        (.one fun v _ => v = undef) ::
        (.one fun v _ => v = undef) ::
        (.one fun v _ => v = undef) ::
        (.one fun v _ => v = undef) ::
        (.one fun v _ => v = undef) ::
        (.one fun v _ => v = undef) ::
        (.one fun v _ => v = undef) ::
        (.one fun v _ => v = undef) ::
        (.one fun v _ => v = undef) ::
        (.one fun v _ => v = undef) ::
        (.one fun v _ => v = .bool false) ::
        (.one fun v _ => v = .bool false) ::
        (.one fun v _ => v = .slice (some ⟨b, o, none⟩) n c) ::
        (.one fun v _ => v = .int .i64 (j : Int)) ::
        (.one fun v _ => v = .pointer (some ⟨b, o + j, none⟩)) ::
        (.one fun v _ => v = .int .i64 (atL l j)) ::
        (.one fun v _ => v = .bool true) ::
        (.one fun v _ => v = .bool true) ::
        (.one fun v _ => v = .slice (some ⟨bq, oq, none⟩) n c1) ::
        (.one fun v _ => v = .int .i64 (j : Int)) ::
        (.one fun v _ => v = .pointer (some ⟨bq, oq + j, none⟩)) ::
        (.one fun v _ => v = .int .i64 (atL y j)) ::
        (.one fun v _ => v = .bool false) ::
        (.one fun v _ => v = .bool false) ::
        (.one fun v _ => v = .slice (some ⟨bq, oq, none⟩) n c1) ::
        (.one fun v _ => v = .int .i64 (j : Int)) ::
        (.one fun v _ => v = .pointer (some ⟨bq, oq + j, none⟩)) ::
        (.one fun v _ => v = .int .i64 (atL y j)) ::
        (.one fun v _ => v = .slice (some ⟨b, o, none⟩) n c) ::
        (.one fun v _ => v = .int .i64 (j : Int)) ::
        (.one fun v _ => v = .pointer (some ⟨b, o + j, none⟩)) ::
        (.one fun v _ => v = .int .i64 (atL l j)) ::
        (.one fun v _ => v = .bool false) ::
        (.one fun v _ => v = .bool false) ::
        (.one fun v _ => v = .bool false) ::
        (.one fun v _ => v = .bool false) ::
        (.one fun v _ => v = .bool false) ::
        (.one fun v _ => v = .int .i64 (j : Int)) ::
        (.one fun v _ => v = .bool true) ::
        (.one fun v _ => v = .bool true) ::
        (.one fun v _ => v = .slice (some ⟨b, o, none⟩) n c) ::
        (.one fun v _ => v = .int .i64 (j : Int)) ::
        (.one fun v _ => v = .int .i64 (p : Int)) ::
        (.one fun v _ => v = .pointer (some ⟨b, o + p, none⟩)) ::
        (.one fun v _ => v = .int .i64 (atL l p)) ::
        (.one fun v _ => v = .slice (some ⟨b, o, none⟩) n c) ::
        (.one fun v _ => v = .int .i64 (j : Int)) ::
        (.one fun v _ => v = .pointer (some ⟨b, o + j, none⟩)) ::
        (.one fun v _ => v = .int .i64 (atL l j)) ::
        (.one fun v _ => v = .bool false) ::
        (.one fun v _ => v = .bool false) ::
        (.one fun v _ => v = .bool false) ::
        (.one fun v _ => v = undef) ::
        (.one fun v _ => v = undef) ::
        (.one fun v _ => v = undef) ::
        (.one fun v _ => v = undef) ::
        (.one fun v _ => v = undef) ::
        (.one fun v _ => v = undef) ::
        (.one fun v _ => v = undef) ::
        (.one fun v _ => v = undef) ::
        (.one fun v _ => v = undef) ::
        (.one fun v _ => v = undef) ::
        (.one fun v _ => v = .bool false) ::
        (.one fun v _ => v = .bool false) :: [])
       (fun W => Ext w W ∧ Iw 0 s0 W (some ⟨b, o, none⟩) n c (l) ∧ Iw s0 s1 W (some ⟨bq, oq, none⟩) n c1 (y) ∧ wr.heap.size ≤ W.heap.size) ⟨Good.is _, Good.is _, Good.is _, Good.is _, Good.is _, Good.is _, Good.is _, Good.is _, Good.is _, Good.is _, Good.is _, Good.is _, Good.is _, Good.is _, Good.is _, Good.is _, Good.is _, Good.is _, Good.is _, Good.is _, Good.is _, Good.is _, Good.is _, Good.is _, Good.is _, Good.is _, Good.is _, Good.is _, Good.is _, Good.is _, Good.is _, Good.is _, Good.is _, Good.is _, Good.is _, Good.is _, Good.is _, Good.is _, Good.is _, Good.is _, Good.is _, Good.is _, Good.is _, Good.is _, Good.is _, Good.is _, Good.is _, Good.is _, Good.is _, Good.is _, Good.is _, Good.is _, Good.is _, Good.is _, Good.is _, Good.is _, Good.is _, Good.is _, Good.is _, Good.is _, Good.is _, Good.is _, Good.is _, Good.is _, Good.is _, Good.is _, Good.is _, Good.is _, Good.is _, Good.is _, Good.is _, Good.is _, Good.is _, Good.is _, Good.is _, Good.is _, trivial⟩
       ⟨E0, h, hy, Nat.le_refl _⟩ (A := ?A6) ?hA6 ?howe6 ?hfin6
      case hA6 =>
       intro vs
       simp only [putAll, Act.put, sA, sZ, sS, Nat.zero_add, Nat.reduceAdd]
       exact rfl
      case howe6 =>
       clear E0 h hy
       intro hf
       refine ⟨oE 0 [] hf rfl ?_, oE 1 [] hf rfl ?_, oE 2 [0, 1] hf rfl ?_, oE 3 [2] hf rfl ?_, oE 4 [3] hf rfl ?_, oE 5 [4] hf rfl ?_, oE 6 [5] hf rfl ?_, oE 7 [5] hf rfl ?_, oE 8 [5] hf rfl ?_, oE 9 [5] hf rfl ?_, oE 10 [5] hf rfl ?_, oE 11 [5] hf rfl ?_, oE 12 [11] hf rfl ?_, oE 13 [11] hf rfl ?_, oE 14 [11] hf rfl ?_, oE 15 [11] hf rfl ?_, oE 16 [11] hf rfl ?_, oE 17 [11] hf rfl ?_, oE 18 [11] hf rfl ?_, oE 19 [11] hf rfl ?_, oE 20 [11] hf rfl ?_, oE 21 [5] hf rfl ?_, oE 22 [5, 21] hf rfl ?_, oE 23 [22] hf rfl ?_, oE 24 [23] hf rfl ?_, oE 25 [23] hf rfl ?_, oE 26 [23, 24, 25] hf rfl ?_, oE 27 [23, 26] hf rfl ?_, oE 28 [23, 27] hf rfl ?_, oE 29 [23, 28] hf rfl ?_, oE 30 [29] hf rfl ?_, oE 31 [29] hf rfl ?_, oE 32 [29, 30, 31] hf rfl ?_, oE 33 [29, 32] hf rfl ?_, oE 34 [29, 33] hf rfl ?_, oE 35 [29, 34] hf rfl ?_, oE 36 [35] hf rfl ?_, oE 37 [35] hf rfl ?_, oE 38 [35, 36, 37] hf rfl ?_, oE 39 [35, 38] hf rfl ?_, oE 40 [35] hf rfl ?_, oE 41 [35] hf rfl ?_, oE 42 [35, 40, 41] hf rfl ?_, oE 43 [35, 42] hf rfl ?_, oE 44 [35, 39, 43] hf rfl ?_, oE 45 [29, 35, 44] hf rfl ?_, oE 46 [23, 29, 45] hf rfl ?_, oE 47 [23, 46] hf rfl ?_, oE 48 [47] hf rfl ?_, oE 49 [48] hf rfl ?_, oE 50 [48, 49] hf rfl ?_, oE 51 [48, 50] hf rfl ?_, oE 52 [51] hf rfl ?_, oE 53 [51] hf rfl ?_, oE 54 [51, 53] hf rfl ?_, oE 55 [51, 52, 54] hf rfl ?_, oE 56 [51, 55] hf rfl ?_, oE 57 [51] hf rfl ?_, oE 58 [51] hf rfl ?_, oE 59 [51, 57, 58] hf rfl ?_, oE 60 [51, 59] hf rfl ?_, oE 61 [51, 56, 60] hf rfl ?_, oE 62 [48, 51, 61] hf rfl ?_, oE 63 [48, 62] hf rfl ?_, oE 64 [63] hf rfl ?_, oE 65 [63] hf rfl ?_, oE 66 [63] hf rfl ?_, oE 67 [63] hf rfl ?_, oE 68 [63] hf rfl ?_, oE 69 [63] hf rfl ?_, oE 70 [63] hf rfl ?_, oE 71 [63] hf rfl ?_, oE 72 [63] hf rfl ?_, oE 73 [63] hf rfl ?_, oE 74 [48, 63, 73] hf rfl ?_, oE 75 [48, 74] hf rfl ?_, trivial⟩
       all_goals intro vs W hS hp hx KO hKO
       all_goals simp only [Act.put, sA, sZ, sS] at hKO
       ·go_simp; exact hKO _ W (.refl W) rfl
       ·go_simp; exact hKO _ W (.refl W) rfl
       ·have e0 := isOf hp.1; have e1 := isOf hp.2.1; simp only [e0, e1] at hKO; go_simp; exact hKO _ W (.refl W) rfl
       ·have e2 := isOf hp.1; simp only [e2] at hKO
        have fc := Iw.cell (hS.2.1) (i := j) (by omega)
        go_simp; exact hKO _ W (.refl W) rfl
       ·have e3 := isOf hp.1; simp only [e3] at hKO; go_simp; exact hKO _ W (Ext.refl W) (by first | rfl | exact congrArg Value.bool (decide_eq_false H4.out))
       ·have e4 := isOf hp.1; simp only [e4] at hKO; go_simp; exact hKO _ W (.refl W) rfl
       ·have e5 := isOf hp.1; simp only [e5] at hKO; go_simp; exact hKO _ W (.refl W) rfl
       ·have e5 := isOf hp.1; simp only [e5] at hKO; go_simp; exact hKO _ W (.refl W) rfl
       ·have e5 := isOf hp.1; simp only [e5] at hKO; go_simp; exact hKO _ W (.refl W) rfl
       ·have e5 := isOf hp.1; simp only [e5] at hKO; go_simp; exact hKO _ W (.refl W) rfl
       ·have e5 := isOf hp.1; simp only [e5] at hKO; go_simp; exact hKO _ W (.refl W) rfl
       ·have e5 := isOf hp.1; simp only [e5] at hKO; go_simp; exact hKO _ W (.refl W) rfl
       ·have e11 := isOf hp.1; simp only [e11] at hKO; go_simp; exact hKO _ W (.refl W) rfl
       ·have e11 := isOf hp.1; simp only [e11] at hKO; go_simp; exact hKO _ W (.refl W) rfl
       ·have e11 := isOf hp.1; simp only [e11] at hKO; go_simp; exact hKO _ W (.refl W) rfl
       ·have e11 := isOf hp.1; simp only [e11] at hKO; go_simp; exact hKO _ W (.refl W) rfl
       ·have e11 := isOf hp.1; simp only [e11] at hKO; go_simp; exact hKO _ W (.refl W) rfl
       ·have e11 := isOf hp.1; simp only [e11] at hKO; go_simp; exact hKO _ W (.refl W) rfl
       ·have e11 := isOf hp.1; simp only [e11] at hKO; go_simp; exact hKO _ W (.refl W) rfl
       ·have e11 := isOf hp.1; simp only [e11] at hKO; go_simp; exact hKO _ W (.refl W) rfl
       ·have e11 := isOf hp.1; simp only [e11] at hKO; go_simp; exact hKO _ W (.refl W) rfl
       ·have e5 := isOf hp.1; simp only [e5] at hKO; go_simp; exact hKO _ W (.refl W) rfl
       ·have e5 := isOf hp.1; have e21 := isOf hp.2.1; simp only [e5, e21] at hKO; go_simp; exact hKO _ W (.refl W) rfl
       ·have e22 := isOf hp.1; simp only [e22] at hKO; go_simp; exact hKO _ W (.refl W) rfl
       ·have e23 := isOf hp.1; simp only [e23] at hKO; go_simp; exact hKO _ W (.refl W) rfl
       ·have e23 := isOf hp.1; simp only [e23] at hKO; go_simp; exact hKO _ W (.refl W) rfl
       ·have e23 := isOf hp.1; have e24 := isOf hp.2.1; have e25 := isOf hp.2.2.1; simp only [e23, e24, e25] at hKO; go_simp; exact hKO _ W (.refl W) rfl
       ·have e23 := isOf hp.1; have e26 := isOf hp.2.1; simp only [e23, e26] at hKO
        have fc := Iw.cell (hS.2.1) (i := j) (by omega)
        go_simp; exact hKO _ W (.refl W) rfl
       ·have e23 := isOf hp.1; have e27 := isOf hp.2.1; simp only [e23, e27] at hKO; go_simp; exact hKO _ W (Ext.refl W) (by first | rfl | exact congrArg Value.bool (decide_eq_true H7.out))
       ·have e23 := isOf hp.1; have e28 := isOf hp.2.1; simp only [e23, e28] at hKO; go_simp; exact hKO _ W (.refl W) rfl
       ·have e29 := isOf hp.1; simp only [e29] at hKO; go_simp; exact hKO _ W (.refl W) rfl
       ·have e29 := isOf hp.1; simp only [e29] at hKO; go_simp; exact hKO _ W (.refl W) rfl
       ·have e29 := isOf hp.1; have e30 := isOf hp.2.1; have e31 := isOf hp.2.2.1; simp only [e29, e30, e31] at hKO; go_simp; exact hKO _ W (.refl W) rfl
       ·have e29 := isOf hp.1; have e32 := isOf hp.2.1; simp only [e29, e32] at hKO
        have fc := Iw.cell (hS.2.2.1) (i := j) (by omega)
        go_simp; exact hKO _ W (.refl W) rfl
       ·have e29 := isOf hp.1; have e33 := isOf hp.2.1; simp only [e29, e33] at hKO; go_simp; exact hKO _ W (Ext.refl W) (by first | rfl | exact congrArg Value.bool (decide_eq_false H5.out))
       ·have e29 := isOf hp.1; have e34 := isOf hp.2.1; simp only [e29, e34] at hKO; go_simp; exact hKO _ W (.refl W) rfl
       ·have e35 := isOf hp.1; simp only [e35] at hKO; go_simp; exact hKO _ W (.refl W) rfl
       ·have e35 := isOf hp.1; simp only [e35] at hKO; go_simp; exact hKO _ W (.refl W) rfl
       ·have e35 := isOf hp.1; have e36 := isOf hp.2.1; have e37 := isOf hp.2.2.1; simp only [e35, e36, e37] at hKO; go_simp; exact hKO _ W (.refl W) rfl
       ·have e35 := isOf hp.1; have e38 := isOf hp.2.1; simp only [e35, e38] at hKO
        have fc := Iw.cell (hS.2.2.1) (i := j) (by omega)
        go_simp; exact hKO _ W (.refl W) rfl
       ·have e35 := isOf hp.1; simp only [e35] at hKO; go_simp; exact hKO _ W (.refl W) rfl
       ·have e35 := isOf hp.1; simp only [e35] at hKO; go_simp; exact hKO _ W (.refl W) rfl
       ·have e35 := isOf hp.1; have e40 := isOf hp.2.1; have e41 := isOf hp.2.2.1; simp only [e35, e40, e41] at hKO; go_simp; exact hKO _ W (.refl W) rfl
       ·have e35 := isOf hp.1; have e42 := isOf hp.2.1; simp only [e35, e42] at hKO
        have fc := Iw.cell (hS.2.1) (i := j) (by omega)
        go_simp; exact hKO _ W (.refl W) rfl
       ·have e35 := isOf hp.1; have e39 := isOf hp.2.1; have e43 := isOf hp.2.2.1; simp only [e35, e39, e43] at hKO; go_simp; exact hKO _ W (Ext.refl W) (by first | rfl | exact congrArg Value.bool (decide_eq_false H6.out))
       ·have e29 := isOf hp.1; have e35 := isOf hp.2.1; have e44 := isOf hp.2.2.1; simp only [e29, e35, e44] at hKO; go_simp; exact hKO _ W (.refl W) rfl
       ·have e23 := isOf hp.1; have e29 := isOf hp.2.1; have e45 := isOf hp.2.2.1; simp only [e23, e29, e45] at hKO; go_simp; exact hKO _ W (.refl W) rfl
       ·have e23 := isOf hp.1; have e46 := isOf hp.2.1; simp only [e23, e46] at hKO; go_simp; exact hKO _ W (.refl W) rfl
       ·have e47 := isOf hp.1; simp only [e47] at hKO; go_simp; exact hKO _ W (.refl W) rfl
       ·have e48 := isOf hp.1; simp only [e48] at hKO; go_simp; exact hKO _ W (.refl W) rfl
       ·have e48 := isOf hp.1; have e49 := isOf hp.2.1; simp only [e48, e49] at hKO; go_simp; exact hKO _ W (Ext.refl W) (by first | rfl | exact congrArg Value.bool (decide_eq_true HJ.out))
       ·have e48 := isOf hp.1; have e50 := isOf hp.2.1; simp only [e48, e50] at hKO; go_simp; exact hKO _ W (.refl W) rfl
       ·have e51 := isOf hp.1; simp only [e51] at hKO; go_simp; exact hKO _ W (.refl W) rfl
       ·have e51 := isOf hp.1; simp only [e51] at hKO; go_simp; exact hKO _ W (.refl W) rfl
       ·have e51 := isOf hp.1; have e53 := isOf hp.2.1; simp only [e51, e53] at hKO; go_simp; exact hKO _ W (.refl W) rfl
       ·have e51 := isOf hp.1; have e52 := isOf hp.2.1; have e54 := isOf hp.2.2.1; simp only [e51, e52, e54] at hKO; go_simp; exact hKO _ W (.refl W) rfl
       ·have e51 := isOf hp.1; have e55 := isOf hp.2.1; simp only [e51, e55] at hKO
        have fc := Iw.cell (hS.2.1) (i := p) (by omega)
        go_simp; exact hKO _ W (.refl W) rfl
       ·have e51 := isOf hp.1; simp only [e51] at hKO; go_simp; exact hKO _ W (.refl W) rfl
       ·have e51 := isOf hp.1; simp only [e51] at hKO; go_simp; exact hKO _ W (.refl W) rfl
       ·have e51 := isOf hp.1; have e57 := isOf hp.2.1; have e58 := isOf hp.2.2.1; simp only [e51, e57, e58] at hKO; go_simp; exact hKO _ W (.refl W) rfl
       ·have e51 := isOf hp.1; have e59 := isOf hp.2.1; simp only [e51, e59] at hKO
        have fc := Iw.cell (hS.2.1) (i := j) (by omega)
        go_simp; exact hKO _ W (.refl W) rfl
       ·have e51 := isOf hp.1; have e56 := isOf hp.2.1; have e60 := isOf hp.2.2.1; simp only [e51, e56, e60] at hKO; go_simp; exact hKO _ W (Ext.refl W) (by first | rfl | exact congrArg Value.bool (decide_eq_false HL1.out))
       ·have e48 := isOf hp.1; have e51 := isOf hp.2.1; have e61 := isOf hp.2.2.1; simp only [e48, e51, e61] at hKO; go_simp; exact hKO _ W (.refl W) rfl
       ·have e48 := isOf hp.1; have e62 := isOf hp.2.1; simp only [e48, e62] at hKO; go_simp; exact hKO _ W (.refl W) rfl
       ·have e63 := isOf hp.1; simp only [e63] at hKO; go_simp; exact hKO _ W (.refl W) rfl
       ·have e63 := isOf hp.1; simp only [e63] at hKO; go_simp; exact hKO _ W (.refl W) rfl
       ·have e63 := isOf hp.1; simp only [e63] at hKO; go_simp; exact hKO _ W (.refl W) rfl
       ·have e63 := isOf hp.1; simp only [e63] at hKO; go_simp; exact hKO _ W (.refl W) rfl
       ·have e63 := isOf hp.1; simp only [e63] at hKO; go_simp; exact hKO _ W (.refl W) rfl
       ·have e63 := isOf hp.1; simp only [e63] at hKO; go_simp; exact hKO _ W (.refl W) rfl
       ·have e63 := isOf hp.1; simp only [e63] at hKO; go_simp; exact hKO _ W (.refl W) rfl
       ·have e63 := isOf hp.1; simp only [e63] at hKO; go_simp; exact hKO _ W (.refl W) rfl
       ·have e63 := isOf hp.1; simp only [e63] at hKO; go_simp; exact hKO _ W (.refl W) rfl
       ·have e63 := isOf hp.1; simp only [e63] at hKO; go_simp; exact hKO _ W (.refl W) rfl
       ·have e48 := isOf hp.1; have e63 := isOf hp.2.1; have e73 := isOf hp.2.2.1; simp only [e48, e63, e73] at hKO; go_simp; exact hKO _ W (.refl W) rfl
       ·have e48 := isOf hp.1; have e74 := isOf hp.2.1; simp only [e48, e74] at hKO; go_simp; exact hKO _ W (.refl W) rfl
      intro vs W6 hS hp
      clear szw6 E0 h hy
      obtain ⟨E0, h, hy, sz6⟩ := hS
      obtain ⟨h6_0, h6_1, h6_2, h6_3, h6_4, h6_5, h6_6, h6_7, h6_8, h6_9, h6_10, h6_11, h6_12, h6_13, h6_14, h6_15, h6_16, h6_17, h6_18, h6_19, h6_20, h6_21, h6_22, h6_23, h6_24, h6_25, h6_26, h6_27, h6_28, h6_29, h6_30, h6_31, h6_32, h6_33, h6_34, h6_35, h6_36, h6_37, h6_38, h6_39, h6_40, h6_41, h6_42, h6_43, h6_44, h6_45, h6_46, h6_47, h6_48, h6_49, h6_50, h6_51, h6_52, h6_53, h6_54, h6_55, h6_56, h6_57, h6_58, h6_59, h6_60, h6_61, h6_62, h6_63, h6_64, h6_65, h6_66, h6_67, h6_68, h6_69, h6_70, h6_71, h6_72, h6_73, h6_74, h6_75, -⟩ := hp
      replace h6_0 : vs 0 = .slice (some ⟨b, o, none⟩) n c := h6_0
      replace h6_1 : vs 1 = .int .i64 (j : Int) := h6_1
      replace h6_2 : vs 2 = .pointer (some ⟨b, o + j, none⟩) := h6_2
      replace h6_3 : vs 3 = .int .i64 (atL l j) := h6_3
      replace h6_4 : vs 4 = .bool false := h6_4
      replace h6_5 : vs 5 = .bool false := h6_5
      replace h6_6 : vs 6 = undef := h6_6
      replace h6_7 : vs 7 = undef := h6_7
      replace h6_8 : vs 8 = undef := h6_8
      replace h6_9 : vs 9 = undef := h6_9
      replace h6_10 : vs 10 = undef := h6_10
      replace h6_11 : vs 11 = undef := h6_11
      replace h6_12 : vs 12 = undef := h6_12
      replace h6_13 : vs 13 = undef := h6_13
      replace h6_14 : vs 14 = undef := h6_14
      replace h6_15 : vs 15 = undef := h6_15
      replace h6_16 : vs 16 = undef := h6_16
      replace h6_17 : vs 17 = undef := h6_17
      replace h6_18 : vs 18 = undef := h6_18
      replace h6_19 : vs 19 = undef := h6_19
      replace h6_20 : vs 20 = undef := h6_20
      replace h6_21 : vs 21 = undef := h6_21
      replace h6_22 : vs 22 = .bool false := h6_22
      replace h6_23 : vs 23 = .bool false := h6_23
      replace h6_24 : vs 24 = .slice (some ⟨b, o, none⟩) n c := h6_24
      replace h6_25 : vs 25 = .int .i64 (j : Int) := h6_25
      replace h6_26 : vs 26 = .pointer (some ⟨b, o + j, none⟩) := h6_26
      replace h6_27 : vs 27 = .int .i64 (atL l j) := h6_27
      replace h6_28 : vs 28 = .bool true := h6_28
      replace h6_29 : vs 29 = .bool true := h6_29
      replace h6_30 : vs 30 = .slice (some ⟨bq, oq, none⟩) n c1 := h6_30
      replace h6_31 : vs 31 = .int .i64 (j : Int) := h6_31
      replace h6_32 : vs 32 = .pointer (some ⟨bq, oq + j, none⟩) := h6_32
      replace h6_33 : vs 33 = .int .i64 (atL y j) := h6_33
      replace h6_34 : vs 34 = .bool false := h6_34
      replace h6_35 : vs 35 = .bool false := h6_35
      replace h6_36 : vs 36 = .slice (some ⟨bq, oq, none⟩) n c1 := h6_36
      replace h6_37 : vs 37 = .int .i64 (j : Int) := h6_37
      replace h6_38 : vs 38 = .pointer (some ⟨bq, oq + j, none⟩) := h6_38
      replace h6_39 : vs 39 = .int .i64 (atL y j) := h6_39
      replace h6_40 : vs 40 = .slice (some ⟨b, o, none⟩) n c := h6_40
      replace h6_41 : vs 41 = .int .i64 (j : Int) := h6_41
      replace h6_42 : vs 42 = .pointer (some ⟨b, o + j, none⟩) := h6_42
      replace h6_43 : vs 43 = .int .i64 (atL l j) := h6_43
      replace h6_44 : vs 44 = .bool false := h6_44
      replace h6_45 : vs 45 = .bool false := h6_45
      replace h6_46 : vs 46 = .bool false := h6_46
      replace h6_47 : vs 47 = .bool false := h6_47
      replace h6_48 : vs 48 = .bool false := h6_48
      replace h6_49 : vs 49 = .int .i64 (j : Int) := h6_49
      replace h6_50 : vs 50 = .bool true := h6_50
      replace h6_51 : vs 51 = .bool true := h6_51
      replace h6_52 : vs 52 = .slice (some ⟨b, o, none⟩) n c := h6_52
      replace h6_53 : vs 53 = .int .i64 (j : Int) := h6_53
      replace h6_54 : vs 54 = .int .i64 (p : Int) := h6_54
      replace h6_55 : vs 55 = .pointer (some ⟨b, o + p, none⟩) := h6_55
      replace h6_56 : vs 56 = .int .i64 (atL l p) := h6_56
      replace h6_57 : vs 57 = .slice (some ⟨b, o, none⟩) n c := h6_57
      replace h6_58 : vs 58 = .int .i64 (j : Int) := h6_58
      replace h6_59 : vs 59 = .pointer (some ⟨b, o + j, none⟩) := h6_59
      replace h6_60 : vs 60 = .int .i64 (atL l j) := h6_60
      replace h6_61 : vs 61 = .bool false := h6_61
      replace h6_62 : vs 62 = .bool false := h6_62
      replace h6_63 : vs 63 = .bool false := h6_63
      replace h6_64 : vs 64 = undef := h6_64
      replace h6_65 : vs 65 = undef := h6_65
      replace h6_66 : vs 66 = undef := h6_66
      replace h6_67 : vs 67 = undef := h6_67
      replace h6_68 : vs 68 = undef := h6_68
      replace h6_69 : vs 69 = undef := h6_69
      replace h6_70 : vs 70 = undef := h6_70
      replace h6_71 : vs 71 = undef := h6_71
      replace h6_72 : vs 72 = undef := h6_72
      replace h6_73 : vs 73 = undef := h6_73
      replace h6_74 : vs 74 = .bool false := h6_74
      replace h6_75 : vs 75 = .bool false := h6_75
      simp only [h6_0, h6_1, h6_2, h6_3, h6_4, h6_5, h6_6, h6_7, h6_8, h6_9, h6_10, h6_11, h6_12, h6_13, h6_14, h6_15, h6_16, h6_17, h6_18, h6_19, h6_20, h6_21, h6_22, h6_23, h6_24, h6_25, h6_26, h6_27, h6_28, h6_29, h6_30, h6_31, h6_32, h6_33, h6_34, h6_35, h6_36, h6_37, h6_38, h6_39, h6_40, h6_41, h6_42, h6_43, h6_44, h6_45, h6_46, h6_47, h6_48, h6_49, h6_50, h6_51, h6_52, h6_53, h6_54, h6_55, h6_56, h6_57, h6_58, h6_59, h6_60, h6_61, h6_62, h6_63, h6_64, h6_65, h6_66, h6_67, h6_68, h6_69, h6_70, h6_71, h6_72, h6_73, h6_74, h6_75]
      clear h6_0 h6_1 h6_2 h6_3 h6_4 h6_5 h6_6 h6_7 h6_8 h6_9 h6_10 h6_11 h6_12 h6_13 h6_14 h6_15 h6_16 h6_17 h6_18 h6_19 h6_20 h6_21 h6_22 h6_23 h6_24 h6_25 h6_26 h6_27 h6_28 h6_29 h6_30 h6_31 h6_32 h6_33 h6_34 h6_35 h6_36 h6_37 h6_38 h6_39 h6_40 h6_41 h6_42 h6_43 h6_44 h6_45 h6_46 h6_47 h6_48 h6_49 h6_50 h6_51 h6_52 h6_53 h6_54 h6_55 h6_56 h6_57 h6_58 h6_59 h6_60 h6_61 h6_62 h6_63 h6_64 h6_65 h6_66 h6_67 h6_68 h6_69 h6_70 h6_71 h6_72 h6_73 h6_74 h6_75; go_wp2
      go_roundw
      case rel => exact ⟨j + 1, by go_num, by omega, h, hy, E0⟩
      case measure => simp [intOf]; omega
  ·have hge : ¬ (j : Int) < (n : Int) := by omega
   clear h hy
   go_wp2_with fail
   refine (Try.alive16 _).mono ?_
   rintro e W2 ⟨rfl, hE⟩
   replace E0 := E0.trans hE; clear hE
   go_wp2; go_ret
   exact ⟨rfl, E0⟩
end Go.Rt
