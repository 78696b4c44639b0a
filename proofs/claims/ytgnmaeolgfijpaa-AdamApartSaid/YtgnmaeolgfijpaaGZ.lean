/-
  Adam: which are right, and a step of rows, or why there is none, by the program.
  Adam: a step of rows, or why there is none, by the program.
  Adam: the powers behind a step; what the document says is right; the question that is always live.
-/
import Derived.Test.YtgnmaeolgfijpaaGY
import Derived.Test.YtgnmaeolgfijpaaAdamC
import Derived.Test.YtgnmaeolgfijpaaGS
import Derived.Test.YtgnmaeolgfijpaaGG
import Derived.Test.YtgnmaeolgfijpaaGX
namespace Go.Rt
open Go Go.RowKit Go.Proofs

theorem grow_all {p : Nat → Prop} {k : Nat} (h : ∀ j, j < k → p j) (hk : p k) : ∀ j, j < k + 1 → p j := fun j hj => by
 rcases Nat.lt_or_ge j k with h1 | h1
 ·exact h j h1
 ·obtain rfl : j = k := by omega
  exact hk

theorem mayB_iff {K : Nat} {p : Int} : mayB K p = true ↔ (0 ≤ p ∧ p < oneZ K) := by unfold mayB; exact decide_eq_true_iff

theorem rightA_nat {A : AdamP} {K : Nat} (hK : K ≤ 40) : rightA A (K : Int) = (decide (0 ≤ A.lr) && decide (0 < A.eps) && mayB K A.b1 && mayB K A.b2 && decide (0 ≤ A.wd) && decide (A.wd ≤ oneZ K)) := by
 rw [Bool.eq_iff_iff, rightA_iff]
 simp only [Bool.and_eq_true, decide_eq_true_iff, mayB_iff, Int.toNat_natCast]
 omega

theorem rightA_low {A : AdamP} {f : Int} (h : f < 0 ∨ 40 < f) : rightA A f = false := Bool.eq_false_iff.2 (fun k => by have := rightA_iff.1 k; omega)

/-- is one below nought? -/
def negB (l : List Int) : Bool := l.any fun x => decide (x < 0)

theorem negB_true {l : List Int} {i : Nat} (hi : i < l.length) (h : atL l i < 0) : negB l = true := by
 unfold negB
 rw [List.any_eq_true]
 exact ⟨atL l i, atL_mem hi, decide_eq_true h⟩

theorem negB_false {l : List Int} (h : ∀ i, i < l.length → ¬ atL l i < 0) : negB l = false := by
 unfold negB
 rw [List.any_eq_false]
 intro x hx
 obtain ⟨i, hi, rfl⟩ := List.getElem_of_mem hx
 have := h i hi
 rw [atL_eq hi] at this
 simpa using this

theorem negB_at {l : List Int} (h : negB l = false) {i : Nat} (hi : i < l.length) : 0 ≤ atL l i := by
 unfold negB at h
 rw [List.any_eq_false] at h
 have := h _ (atL_mem hi)
 simp at this
 omega

set_option maxRecDepth 100000 in
set_option maxHeartbeats 4000000 in
theorem Try.adamBeta {g : Nat} (K : Nat) (hK : K ≤ 40) (p : Int) {w : World} (hb : BxA w g 3 #[.int .i64 (K : Int)]) :
  Calls Try.prog 43 #[.int .i64 p, .pointer (some ⟨g, 0, none⟩)] w fun e w' => e = .returned (.bool (mayB K p)) ∧ Ext w w' := by
 have hc := hb.cell 0 (v := .int .i64 (K : Int)) rfl
 clear hb
 by_cases h0 : 0 ≤ p
 ·have h0d : decide (0 ≤ p) = true := decide_eq_true h0
  by_cases h1 : p < oneZ K
  ·have HR : Hid (mayB K p = true) := Lib.hid (mayB_iff.2 ⟨h0, h1⟩)
   go_enter Try.func43, Try.ntmps43
   go_wp2_with fail
   refine (Try.adamOne K hK _).mono ?_
   rintro e W ⟨rfl, hE⟩
   go_wp2; go_ret
   exact ⟨by rw [HR.out]; rfl, hE⟩
  ·have HR : Hid (mayB K p = false) := Lib.hid (Bool.eq_false_iff.2 (fun h => h1 (mayB_iff.1 h).2))
   have h1d : decide (p < oneZ K) = false := decide_eq_false h1
   go_enter Try.func43, Try.ntmps43
   go_wp2_with fail
   refine (Try.adamOne K hK _).mono ?_
   rintro e W ⟨rfl, hE⟩
   go_wp2; go_ret
   exact ⟨by rw [HR.out]; rfl, hE⟩
 ·have HR : Hid (mayB K p = false) := Lib.hid (Bool.eq_false_iff.2 (fun h => h0 (mayB_iff.1 h).1))
  have h0d : decide (0 ≤ p) = false := decide_eq_false h0
  go_enter Try.func43, Try.ntmps43
  go_wp2; go_ret
  exact ⟨by rw [HR.out]; rfl, Ext.refl _⟩

set_option maxRecDepth 100000 in
set_option maxHeartbeats 4000000 in
theorem Try.adamBehind {g : Nat} (K : Nat) (hK : K ≤ 40) (p : Int) {w : World} (hb : BxA w g 3 #[.int .i64 (K : Int)]) :
  Calls Try.prog 25 #[.int .i64 p, .pointer (some ⟨g, 0, none⟩)] w fun e w' => e = .returned (.bool (mayB K p)) ∧ Ext w w' := by
 have hc := hb.cell 0 (v := .int .i64 (K : Int)) rfl
 clear hb
 by_cases h0 : 0 ≤ p
 ·have h0d : decide (0 ≤ p) = true := decide_eq_true h0
  by_cases h1 : p < oneZ K
  ·have HR : Hid (mayB K p = true) := Lib.hid (mayB_iff.2 ⟨h0, h1⟩)
   go_enter Try.func25, Try.ntmps25
   go_wp2_with fail
   refine (Try.adamOne K hK _).mono ?_
   rintro e W ⟨rfl, hE⟩
   go_wp2; go_ret
   exact ⟨by rw [HR.out]; rfl, hE⟩
  ·have HR : Hid (mayB K p = false) := Lib.hid (Bool.eq_false_iff.2 (fun h => h1 (mayB_iff.1 h).2))
   have h1d : decide (p < oneZ K) = false := decide_eq_false h1
   go_enter Try.func25, Try.ntmps25
   go_wp2_with fail
   refine (Try.adamOne K hK _).mono ?_
   rintro e W ⟨rfl, hE⟩
   go_wp2; go_ret
   exact ⟨by rw [HR.out]; rfl, hE⟩
 ·have HR : Hid (mayB K p = false) := Lib.hid (Bool.eq_false_iff.2 (fun h => h0 (mayB_iff.1 h).1))
  have h0d : decide (0 ≤ p) = false := decide_eq_false h0
  go_enter Try.func25, Try.ntmps25
  go_wp2; go_ret
  exact ⟨by rw [HR.out]; rfl, Ext.refl _⟩

set_option maxRecDepth 100000 in
set_option maxHeartbeats 4000000 in
theorem Try.adamBelow (p : Int) (w : World) : Calls Try.prog 24 #[.int .i64 p] w fun e w' => e = .returned (.bool (decide (p < 0))) ∧ Ext w w' := by
 go_enter Try.func24, Try.ntmps24
 go_wp2
 all_goals go_ret
 all_goals exact ⟨rfl, Ext.refl _⟩

set_option maxRecDepth 100000 in
set_option maxHeartbeats 4000000 in
theorem Try.adamNegAt {lo hi : Nat} {a : Option Addr} {n c : Nat} {l : List Int} {w : World} (h : Iw lo hi w a n c l) :
  Calls Try.prog 35 #[.slice a n c, .func (.func 24) #[] #[]] w fun e w' => ∃ r : Int, e = .returned (.int .i64 r) ∧ decide (0 ≤ r) = negB l ∧ Ext w w' := by
 have hcap := h.cap
 have hlen := h.len
 have hn : n ≤ 9223372036854775807 := by omega
 have HL := Lib.hid hlen
 clear hcap hlen
 go_enter Try.func35, Try.ntmps35
 go_wp2_with fail
 go_loopw [8] (fun i wr => ∃ k : Nat, i = .int .i64 (k : Int) ∧ k ≤ n ∧ Hid (∀ j, j < k → ¬ atL l j < 0) ∧ Ext w wr) (fun i _ => n - (intOf i).toNat)
 case atStart => exact ⟨0, rfl, by omega, Lib.hid (fun j hj => absurd hj (by omega)), Ext.refl w⟩
 case round =>
  obtain ⟨k, rfl, hk, HA, hX⟩ := hrel
  by_cases hlt : k < n
  ·have hltI : (k : Int) < (n : Int) := by omega
   have h2 := h.ext hX
   obtain ⟨b, o, rfl, -, -⟩ := h2.some (by omega)
   have hc := h2.cell hlt
   have hk63 : (k : Int) < 9223372036854775807 := by omega
   clear h h2
   by_cases hneg : atL l k < 0
   ·have HX : Hid (decide (atL l k < 0) = true) := Lib.hid (decide_eq_true hneg)
    have HR : Hid (decide (0 ≤ (k : Int)) = negB l) := Lib.hid (by rw [negB_true (by rw [HL.out]; exact hlt) hneg]; exact decide_eq_true (by omega))
    clear hneg
    go_wp2_with fail
    refine (Try.adamBelow _ _).mono ?_
    rintro e W ⟨rfl, hE⟩
    rw [HX.out]; go_wp2; go_ret
    exact ⟨_, rfl, HR.out, hX.trans hE⟩
   ·have HX : Hid (decide (atL l k < 0) = false) := Lib.hid (decide_eq_false hneg)
    have HN := Lib.hid hneg
    clear hneg
    go_wp2_with fail
    refine (Try.adamBelow _ _).mono ?_
    rintro e W ⟨rfl, hE⟩
    rw [HX.out]; go_wp2
    go_roundw
    case rel => exact ⟨k + 1, by go_num, by omega, Lib.hid (grow_all (p := fun j => ¬ atL l j < 0) (fun j hj => by have := HA.out j hj; omega) (by have := HN.out; omega)), hX.trans hE⟩
    case measure => simp [intOf]; omega
  ·have hge : ¬ (k : Int) < (n : Int) := by omega
   have HR : Hid (decide (0 ≤ (-1 : Int)) = negB l) := Lib.hid (by rw [negB_false (fun i hi => HA.out i (by have := HL.out; omega))]; rfl)
   clear h; go_wp2; go_ret
   exact ⟨_, rfl, HR.out, hX⟩

set_option maxRecDepth 100000 in
set_option maxHeartbeats 4000000 in
theorem Try.adamNeg {lo hi : Nat} {a : Option Addr} {n c : Nat} {l : List Int} {w : World} (h : Iw lo hi w a n c l) :
  Calls Try.prog 19 #[.slice a n c, .func (.func 24) #[] #[]] w fun e w' => e = .returned (.bool (negB l)) ∧ Ext w w' := by
 go_enter Try.func19, Try.ntmps19
 go_wp2_with fail
 refine (Try.adamNegAt h).mono ?_
 rintro e W ⟨r, rfl, hr, hE⟩
 have HR := Lib.hid hr
 clear hr h; go_wp2
 all_goals go_ret
 all_goals exact ⟨by rw [← HR.out]; simp_all, hE⟩

set_option maxRecDepth 100000 in
set_option maxHeartbeats 16000000 in
theorem Try.adamRight (lr b1 b2 eps wd f : Int) (ap : Bool) (w : World) :
  Calls Try.prog 23 #[.agg #[.int .i64 lr, .int .i64 b1, .int .i64 b2, .int .i64 eps, .int .i64 wd, .bool ap], .int .i64 f] w fun e w' => e = .returned (.bool (rightA ⟨lr, b1, b2, eps, wd, ap⟩ f)) ∧ Ext w w' := by
 by_cases h1 : f < 0
 ·have hd1 : decide (f < 0) = true := decide_eq_true h1
  have HR : Hid (rightA ⟨lr, b1, b2, eps, wd, ap⟩ f = false) := Lib.hid (rightA_low (.inl h1))
  obtain ⟨W0, hW0, E0, p2, p3⟩ := boxed2 w 42 #[.int .i64 lr, .int .i64 b1, .int .i64 b2, .int .i64 eps, .int .i64 wd, .bool ap] 3 #[.int .i64 f]
  go_enter Try.func23, Try.ntmps23
  obtain ⟨k2a, k2b, k2c, k2d, k2e, k2f⟩ := p2.c6
  have k3a := p3.cell 0 (v := .int .i64 f) rfl
  go_wp2; go_ret
  rw [hW0] at E0
  exact ⟨ret_b HR.out.symm, E0⟩
 ·by_cases h2 : 40 < f
  ·have hd1 : decide (f < 0) = false := decide_eq_false h1
   have hd2 : decide (40 < f) = true := decide_eq_true h2
   have HR : Hid (rightA ⟨lr, b1, b2, eps, wd, ap⟩ f = false) := Lib.hid (rightA_low (.inr h2))
   obtain ⟨W0, hW0, E0, p2, p3⟩ := boxed2 w 42 #[.int .i64 lr, .int .i64 b1, .int .i64 b2, .int .i64 eps, .int .i64 wd, .bool ap] 3 #[.int .i64 f]
   go_enter Try.func23, Try.ntmps23
   obtain ⟨k2a, k2b, k2c, k2d, k2e, k2f⟩ := p2.c6
   have k3a := p3.cell 0 (v := .int .i64 f) rfl
   go_wp2; go_ret
   rw [hW0] at E0
   exact ⟨ret_b HR.out.symm, E0⟩
  ·obtain ⟨K, rfl⟩ := Int.eq_ofNat_of_zero_le (show 0 ≤ f by omega)
   have hK : K ≤ 40 := by omega
   have HK := Lib.hid hK
   have hk1 : ¬ (K : Int) < 0 := by omega
   have hk2 : ¬ (40 : Int) < (K : Int) := by omega
   clear h1 h2 hK
   have hmf : ∀ (fn : Fn) (first cap : Array Value) (W : World), (Instr.makeFunc fn first cap).run Try.prog W = .ok (.func fn first cap) W := fun _ _ _ _ => rfl
   obtain ⟨W0, hW0, E0, p2, p3⟩ := boxed2 w 42 #[.int .i64 lr, .int .i64 b1, .int .i64 b2, .int .i64 eps, .int .i64 wd, .bool ap] 3 #[.int .i64 (K : Int)]
   go_enter Try.func23, Try.ntmps23
   obtain ⟨k2a, k2b, k2c, k2d, k2e, k2f⟩ := p2.c6
   have k3a := p3.cell 0 (v := .int .i64 (K : Int)) rfl
   go_upto_region 4 with (fail)
   rw [← hW0]
   clear hW0; clear k2a k2b k2c k2d k2e k2f k3a
   by_cases g0 : 0 ≤ lr
   ·have H0 := Lib.hid g0
    clear g0
    by_cases g1 : 0 < eps
    ·have H1 := Lib.hid g1
     clear g1
     cases g2 : mayB K b1
     ·have H2 := Lib.hid g2
      clear g2
      have HR : Hid (rightA ⟨lr, b1, b2, eps, wd, ap⟩ (K : Int) = false) := Lib.hid (by rw [rightA_nat HK.out]; simp [H0.out, H1.out, H2.out])
      have ltp2 := p2.lt; have ltp3 := p3.lt; have szw1 := Ext.size E0
      refine region_gk [isV (.pointer (some ⟨w.heap.size, 0, none⟩)), isV (.int .i64 lr), isV (.bool true), isV (.bool true), isV (.pointer (some ⟨w.heap.size, 3, none⟩)), isV (.int .i64 eps), isV (.bool true), isV (.bool true), isV (.bool true), isV (.func (.func 43) #[] #[.pointer (some ⟨w.heap.size + 1, 0, none⟩)]), isV (.pointer (some ⟨w.heap.size, 1, none⟩)), isV (.int .i64 b1), isV (.bool false), isV (.bool false), isV (.bool false), isV (undef), isV (undef), isV (undef), isV (undef), isV (.bool false), isV (.bool false), isV (undef), isV (undef), isV (undef), isV (.bool false), isV (.bool false), isV (undef), isV (undef), isV (undef), isV (undef), isV (undef), isV (.bool false),
        .one fun v _ => v = .bool false] ⟨Good.is _, Good.is _, Good.is _, Good.is _, Good.is _, Good.is _, Good.is _, Good.is _, Good.is _, Good.is _, Good.is _, Good.is _, Good.is _, Good.is _, Good.is _, Good.is _, Good.is _, Good.is _, Good.is _, Good.is _, Good.is _, Good.is _, Good.is _, Good.is _, Good.is _, Good.is _, Good.is _, Good.is _, Good.is _, Good.is _, Good.is _, Good.is _, Good.is _, trivial⟩ (E0.s.k (p2.s.k (p3.s))) (A := ?A1) ?hA1 ?howe1 ?hfin1
      case hA1 =>
       intro vs
       simp only [putAll, Act.put, sA, sZ, sS, Nat.zero_add, Nat.reduceAdd]
       exact rfl
      case howe1 =>
       clear E0 p2 p3
       intro hf
       refine ⟨oP0 0 [] hf rfl, oE 1 [0] hf rfl ?_, oE 2 [1] hf rfl ?_, oP1 3 [2] hf rfl, oP1 4 [3] hf rfl, oE 5 [3, 4] hf rfl ?_, oE 6 [3, 5] hf rfl ?_, oP2 7 [3, 6] hf rfl, oP1 8 [7] hf rfl, oP1 9 [8] hf rfl, oP1 10 [8] hf rfl, oE 11 [8, 10] hf rfl ?_, oE 12 [8, 9, 11] hf rfl ?_, oP2 13 [8, 12] hf rfl, oP1 14 [13] hf rfl, oP1 15 [14] hf rfl, oP1 16 [14] hf rfl, oP1 17 [14] hf rfl, oP1 18 [14] hf rfl, oP2 19 [14, 18] hf rfl, oP1 20 [19] hf rfl, oP1 21 [20] hf rfl, oP1 22 [20] hf rfl, oP1 23 [20] hf rfl, oP2 24 [20, 23] hf rfl, oP1 25 [24] hf rfl, oP1 26 [25] hf rfl, oP1 27 [25] hf rfl, oP1 28 [25] hf rfl, oP1 29 [25] hf rfl, oP1 30 [25] hf rfl, oP2 31 [25, 30] hf rfl, oP1 32 [31] hf rfl, trivial⟩
       all_goals intro vs W hS hp hx KO hKO
       all_goals simp only [Act.put, sA, sZ, sS] at hKO
       ·have e0 := isOf hp.1; simp only [e0] at hKO; have fc0 := BxA.cell (hS.1.2.1) 0 (v := .int .i64 lr) rfl; go_simp; exact hKO _ W (.refl W) rfl
       ·have e1 := isOf hp.1; simp only [e1] at hKO; go_simp; exact hKO _ W (Ext.refl W) (by first | rfl | exact congrArg Value.bool (decide_eq_true H0.out))
       ·have e3 := isOf hp.1; have e4 := isOf hp.2.1; simp only [e3, e4] at hKO; have fc3 := BxA.cell (hS.1.2.1) 3 (v := .int .i64 eps) rfl; go_simp; exact hKO _ W (.refl W) rfl
       ·have e3 := isOf hp.1; have e5 := isOf hp.2.1; simp only [e3, e5] at hKO; go_simp; exact hKO _ W (Ext.refl W) (by first | rfl | exact congrArg Value.bool (decide_eq_true H1.out))
       ·have e8 := isOf hp.1; have e10 := isOf hp.2.1; simp only [e8, e10] at hKO; have fc1 := BxA.cell (hS.1.2.1) 1 (v := .int .i64 b1) rfl; go_simp; exact hKO _ W (.refl W) rfl
       ·have e8 := isOf hp.1; have e9 := isOf hp.2.1; have e11 := isOf hp.2.2.1; simp only [e8, e9, e11] at hKO; go_simp
        refine (Try.adamBeta K HK.out b1 hS.1.2.2).mono ?_
        rintro e W1 ⟨rfl, hE⟩
        rw [H2.out]
        exact hKO _ W1 hE rfl
      intro vs W1 hS hp
      clear szw1 E0 p2 p3
      obtain ⟨⟨E0, p2, p3⟩, sz1⟩ := hS
      obtain ⟨h1_0, h1_1, h1_2, h1_3, h1_4, h1_5, h1_6, h1_7, h1_8, h1_9, h1_10, h1_11, h1_12, h1_13, h1_14, h1_15, h1_16, h1_17, h1_18, h1_19, h1_20, h1_21, h1_22, h1_23, h1_24, h1_25, h1_26, h1_27, h1_28, h1_29, h1_30, h1_31, h1_32, -⟩ := hp
      simp only [isOf h1_0, isOf h1_1, isOf h1_2, isOf h1_3, isOf h1_4, isOf h1_5, isOf h1_6, isOf h1_7, isOf h1_8, isOf h1_9, isOf h1_10, isOf h1_11, isOf h1_12, isOf h1_13, isOf h1_14, isOf h1_15, isOf h1_16, isOf h1_17, isOf h1_18, isOf h1_19, isOf h1_20, isOf h1_21, isOf h1_22, isOf h1_23, isOf h1_24, isOf h1_25, isOf h1_26, isOf h1_27, isOf h1_28, isOf h1_29, isOf h1_30, isOf h1_31, isOf h1_32]
      clear h1_0 h1_1 h1_2 h1_3 h1_4 h1_5 h1_6 h1_7 h1_8 h1_9 h1_10 h1_11 h1_12 h1_13 h1_14 h1_15 h1_16 h1_17 h1_18 h1_19 h1_20 h1_21 h1_22 h1_23 h1_24 h1_25 h1_26 h1_27 h1_28 h1_29 h1_30 h1_31 h1_32
      obtain ⟨k2a, k2b, k2c, k2d, k2e, k2f⟩ := p2.c6
      have k3a := p3.cell 0 (v := .int .i64 (K : Int)) rfl
      go_wp2; go_ret
      exact ⟨ret_b HR.out.symm, E0⟩
     ·have H2 := Lib.hid g2
      clear g2
      cases g3 : mayB K b2
      ·have H3 := Lib.hid g3
       clear g3
       have HR : Hid (rightA ⟨lr, b1, b2, eps, wd, ap⟩ (K : Int) = false) := Lib.hid (by rw [rightA_nat HK.out]; simp [H0.out, H1.out, H2.out, H3.out])
       have ltp2 := p2.lt; have ltp3 := p3.lt; have szw2 := Ext.size E0
       refine region_gk [isV (.pointer (some ⟨w.heap.size, 0, none⟩)), isV (.int .i64 lr), isV (.bool true), isV (.bool true), isV (.pointer (some ⟨w.heap.size, 3, none⟩)), isV (.int .i64 eps), isV (.bool true), isV (.bool true), isV (.bool true), isV (.func (.func 43) #[] #[.pointer (some ⟨w.heap.size + 1, 0, none⟩)]), isV (.pointer (some ⟨w.heap.size, 1, none⟩)), isV (.int .i64 b1), isV (.bool true), isV (.bool true), isV (.bool true), isV (.func (.func 43) #[] #[.pointer (some ⟨w.heap.size + 1, 0, none⟩)]), isV (.pointer (some ⟨w.heap.size, 2, none⟩)), isV (.int .i64 b2), isV (.bool false), isV (.bool false), isV (.bool false), isV (undef), isV (undef), isV (undef), isV (.bool false), isV (.bool false), isV (undef), isV (undef), isV (undef), isV (undef), isV (undef), isV (.bool false),
         .one fun v _ => v = .bool false] ⟨Good.is _, Good.is _, Good.is _, Good.is _, Good.is _, Good.is _, Good.is _, Good.is _, Good.is _, Good.is _, Good.is _, Good.is _, Good.is _, Good.is _, Good.is _, Good.is _, Good.is _, Good.is _, Good.is _, Good.is _, Good.is _, Good.is _, Good.is _, Good.is _, Good.is _, Good.is _, Good.is _, Good.is _, Good.is _, Good.is _, Good.is _, Good.is _, Good.is _, trivial⟩ (E0.s.k (p2.s.k (p3.s))) (A := ?A2) ?hA2 ?howe2 ?hfin2
       case hA2 =>
        intro vs
        simp only [putAll, Act.put, sA, sZ, sS, Nat.zero_add, Nat.reduceAdd]
        exact rfl
       case howe2 =>
        clear E0 p2 p3
        intro hf
        refine ⟨oP0 0 [] hf rfl, oE 1 [0] hf rfl ?_, oE 2 [1] hf rfl ?_, oP1 3 [2] hf rfl, oP1 4 [3] hf rfl, oE 5 [3, 4] hf rfl ?_, oE 6 [3, 5] hf rfl ?_, oP2 7 [3, 6] hf rfl, oP1 8 [7] hf rfl, oP1 9 [8] hf rfl, oP1 10 [8] hf rfl, oE 11 [8, 10] hf rfl ?_, oE 12 [8, 9, 11] hf rfl ?_, oP2 13 [8, 12] hf rfl, oP1 14 [13] hf rfl, oP1 15 [14] hf rfl, oP1 16 [14] hf rfl, oE 17 [14, 16] hf rfl ?_, oE 18 [14, 15, 17] hf rfl ?_, oP2 19 [14, 18] hf rfl, oP1 20 [19] hf rfl, oP1 21 [20] hf rfl, oP1 22 [20] hf rfl, oP1 23 [20] hf rfl, oP2 24 [20, 23] hf rfl, oP1 25 [24] hf rfl, oP1 26 [25] hf rfl, oP1 27 [25] hf rfl, oP1 28 [25] hf rfl, oP1 29 [25] hf rfl, oP1 30 [25] hf rfl, oP2 31 [25, 30] hf rfl, oP1 32 [31] hf rfl, trivial⟩
        all_goals intro vs W hS hp hx KO hKO
        all_goals simp only [Act.put, sA, sZ, sS] at hKO
        ·have e0 := isOf hp.1; simp only [e0] at hKO; have fc0 := BxA.cell (hS.1.2.1) 0 (v := .int .i64 lr) rfl; go_simp; exact hKO _ W (.refl W) rfl
        ·have e1 := isOf hp.1; simp only [e1] at hKO; go_simp; exact hKO _ W (Ext.refl W) (by first | rfl | exact congrArg Value.bool (decide_eq_true H0.out))
        ·have e3 := isOf hp.1; have e4 := isOf hp.2.1; simp only [e3, e4] at hKO; have fc3 := BxA.cell (hS.1.2.1) 3 (v := .int .i64 eps) rfl; go_simp; exact hKO _ W (.refl W) rfl
        ·have e3 := isOf hp.1; have e5 := isOf hp.2.1; simp only [e3, e5] at hKO; go_simp; exact hKO _ W (Ext.refl W) (by first | rfl | exact congrArg Value.bool (decide_eq_true H1.out))
        ·have e8 := isOf hp.1; have e10 := isOf hp.2.1; simp only [e8, e10] at hKO; have fc1 := BxA.cell (hS.1.2.1) 1 (v := .int .i64 b1) rfl; go_simp; exact hKO _ W (.refl W) rfl
        ·have e8 := isOf hp.1; have e9 := isOf hp.2.1; have e11 := isOf hp.2.2.1; simp only [e8, e9, e11] at hKO; go_simp
         refine (Try.adamBeta K HK.out b1 hS.1.2.2).mono ?_
         rintro e W1 ⟨rfl, hE⟩
         rw [H2.out]
         exact hKO _ W1 hE rfl
        ·have e14 := isOf hp.1; have e16 := isOf hp.2.1; simp only [e14, e16] at hKO; have fc2 := BxA.cell (hS.1.2.1) 2 (v := .int .i64 b2) rfl; go_simp; exact hKO _ W (.refl W) rfl
        ·have e14 := isOf hp.1; have e15 := isOf hp.2.1; have e17 := isOf hp.2.2.1; simp only [e14, e15, e17] at hKO; go_simp
         refine (Try.adamBeta K HK.out b2 hS.1.2.2).mono ?_
         rintro e W1 ⟨rfl, hE⟩
         rw [H3.out]
         exact hKO _ W1 hE rfl
       intro vs W2 hS hp
       clear szw2 E0 p2 p3
       obtain ⟨⟨E0, p2, p3⟩, sz2⟩ := hS
       obtain ⟨h2_0, h2_1, h2_2, h2_3, h2_4, h2_5, h2_6, h2_7, h2_8, h2_9, h2_10, h2_11, h2_12, h2_13, h2_14, h2_15, h2_16, h2_17, h2_18, h2_19, h2_20, h2_21, h2_22, h2_23, h2_24, h2_25, h2_26, h2_27, h2_28, h2_29, h2_30, h2_31, h2_32, -⟩ := hp
       simp only [isOf h2_0, isOf h2_1, isOf h2_2, isOf h2_3, isOf h2_4, isOf h2_5, isOf h2_6, isOf h2_7, isOf h2_8, isOf h2_9, isOf h2_10, isOf h2_11, isOf h2_12, isOf h2_13, isOf h2_14, isOf h2_15, isOf h2_16, isOf h2_17, isOf h2_18, isOf h2_19, isOf h2_20, isOf h2_21, isOf h2_22, isOf h2_23, isOf h2_24, isOf h2_25, isOf h2_26, isOf h2_27, isOf h2_28, isOf h2_29, isOf h2_30, isOf h2_31, isOf h2_32]
       clear h2_0 h2_1 h2_2 h2_3 h2_4 h2_5 h2_6 h2_7 h2_8 h2_9 h2_10 h2_11 h2_12 h2_13 h2_14 h2_15 h2_16 h2_17 h2_18 h2_19 h2_20 h2_21 h2_22 h2_23 h2_24 h2_25 h2_26 h2_27 h2_28 h2_29 h2_30 h2_31 h2_32
       obtain ⟨k2a, k2b, k2c, k2d, k2e, k2f⟩ := p2.c6
       have k3a := p3.cell 0 (v := .int .i64 (K : Int)) rfl
       go_wp2; go_ret
       exact ⟨ret_b HR.out.symm, E0⟩
      ·have H3 := Lib.hid g3
       clear g3
       by_cases g4 : 0 ≤ wd
       ·have H4 := Lib.hid g4
        clear g4
        by_cases g5 : wd ≤ oneZ K
        ·have H5 := Lib.hid g5
         clear g5
         have HR : Hid (rightA ⟨lr, b1, b2, eps, wd, ap⟩ (K : Int) = true) := Lib.hid (by rw [rightA_nat HK.out]; simp [H0.out, H1.out, H2.out, H3.out, H4.out, H5.out])
         have ltp2 := p2.lt; have ltp3 := p3.lt; have szw3 := Ext.size E0
         refine region_gk [isV (.pointer (some ⟨w.heap.size, 0, none⟩)), isV (.int .i64 lr), isV (.bool true), isV (.bool true), isV (.pointer (some ⟨w.heap.size, 3, none⟩)), isV (.int .i64 eps), isV (.bool true), isV (.bool true), isV (.bool true), isV (.func (.func 43) #[] #[.pointer (some ⟨w.heap.size + 1, 0, none⟩)]), isV (.pointer (some ⟨w.heap.size, 1, none⟩)), isV (.int .i64 b1), isV (.bool true), isV (.bool true), isV (.bool true), isV (.func (.func 43) #[] #[.pointer (some ⟨w.heap.size + 1, 0, none⟩)]), isV (.pointer (some ⟨w.heap.size, 2, none⟩)), isV (.int .i64 b2), isV (.bool true), isV (.bool true), isV (.bool true), isV (.pointer (some ⟨w.heap.size, 4, none⟩)), isV (.int .i64 wd), isV (.bool true), isV (.bool true), isV (.bool true), isV (.pointer (some ⟨w.heap.size, 4, none⟩)), isV (.int .i64 wd), isV (.int .i64 (K : Int)), isV (.int .i64 (oneZ K)), isV (.bool true), isV (.bool true),
           .one fun v _ => v = .bool true] ⟨Good.is _, Good.is _, Good.is _, Good.is _, Good.is _, Good.is _, Good.is _, Good.is _, Good.is _, Good.is _, Good.is _, Good.is _, Good.is _, Good.is _, Good.is _, Good.is _, Good.is _, Good.is _, Good.is _, Good.is _, Good.is _, Good.is _, Good.is _, Good.is _, Good.is _, Good.is _, Good.is _, Good.is _, Good.is _, Good.is _, Good.is _, Good.is _, Good.is _, trivial⟩ (E0.s.k (p2.s.k (p3.s))) (A := ?A3) ?hA3 ?howe3 ?hfin3
         case hA3 =>
          intro vs
          simp only [putAll, Act.put, sA, sZ, sS, Nat.zero_add, Nat.reduceAdd]
          exact rfl
         case howe3 =>
          clear E0 p2 p3
          intro hf
          refine ⟨oP0 0 [] hf rfl, oE 1 [0] hf rfl ?_, oE 2 [1] hf rfl ?_, oP1 3 [2] hf rfl, oP1 4 [3] hf rfl, oE 5 [3, 4] hf rfl ?_, oE 6 [3, 5] hf rfl ?_, oP2 7 [3, 6] hf rfl, oP1 8 [7] hf rfl, oP1 9 [8] hf rfl, oP1 10 [8] hf rfl, oE 11 [8, 10] hf rfl ?_, oE 12 [8, 9, 11] hf rfl ?_, oP2 13 [8, 12] hf rfl, oP1 14 [13] hf rfl, oP1 15 [14] hf rfl, oP1 16 [14] hf rfl, oE 17 [14, 16] hf rfl ?_, oE 18 [14, 15, 17] hf rfl ?_, oP2 19 [14, 18] hf rfl, oP1 20 [19] hf rfl, oP1 21 [20] hf rfl, oE 22 [20, 21] hf rfl ?_, oE 23 [20, 22] hf rfl ?_, oP2 24 [20, 23] hf rfl, oP1 25 [24] hf rfl, oP1 26 [25] hf rfl, oE 27 [25, 26] hf rfl ?_, oE 28 [25] hf rfl ?_, oE 29 [25, 28] hf rfl ?_, oE 30 [25, 27, 29] hf rfl ?_, oP2 31 [25, 30] hf rfl, oP1 32 [31] hf rfl, trivial⟩
          all_goals intro vs W hS hp hx KO hKO
          all_goals simp only [Act.put, sA, sZ, sS] at hKO
          ·have e0 := isOf hp.1; simp only [e0] at hKO; have fc0 := BxA.cell (hS.1.2.1) 0 (v := .int .i64 lr) rfl; go_simp; exact hKO _ W (.refl W) rfl
          ·have e1 := isOf hp.1; simp only [e1] at hKO; go_simp; exact hKO _ W (Ext.refl W) (by first | rfl | exact congrArg Value.bool (decide_eq_true H0.out))
          ·have e3 := isOf hp.1; have e4 := isOf hp.2.1; simp only [e3, e4] at hKO; have fc3 := BxA.cell (hS.1.2.1) 3 (v := .int .i64 eps) rfl; go_simp; exact hKO _ W (.refl W) rfl
          ·have e3 := isOf hp.1; have e5 := isOf hp.2.1; simp only [e3, e5] at hKO; go_simp; exact hKO _ W (Ext.refl W) (by first | rfl | exact congrArg Value.bool (decide_eq_true H1.out))
          ·have e8 := isOf hp.1; have e10 := isOf hp.2.1; simp only [e8, e10] at hKO; have fc1 := BxA.cell (hS.1.2.1) 1 (v := .int .i64 b1) rfl; go_simp; exact hKO _ W (.refl W) rfl
          ·have e8 := isOf hp.1; have e9 := isOf hp.2.1; have e11 := isOf hp.2.2.1; simp only [e8, e9, e11] at hKO; go_simp
           refine (Try.adamBeta K HK.out b1 hS.1.2.2).mono ?_
           rintro e W1 ⟨rfl, hE⟩
           rw [H2.out]
           exact hKO _ W1 hE rfl
          ·have e14 := isOf hp.1; have e16 := isOf hp.2.1; simp only [e14, e16] at hKO; have fc2 := BxA.cell (hS.1.2.1) 2 (v := .int .i64 b2) rfl; go_simp; exact hKO _ W (.refl W) rfl
          ·have e14 := isOf hp.1; have e15 := isOf hp.2.1; have e17 := isOf hp.2.2.1; simp only [e14, e15, e17] at hKO; go_simp
           refine (Try.adamBeta K HK.out b2 hS.1.2.2).mono ?_
           rintro e W1 ⟨rfl, hE⟩
           rw [H3.out]
           exact hKO _ W1 hE rfl
          ·have e20 := isOf hp.1; have e21 := isOf hp.2.1; simp only [e20, e21] at hKO; have fc4 := BxA.cell (hS.1.2.1) 4 (v := .int .i64 wd) rfl; go_simp; exact hKO _ W (.refl W) rfl
          ·have e20 := isOf hp.1; have e22 := isOf hp.2.1; simp only [e20, e22] at hKO; go_simp; exact hKO _ W (Ext.refl W) (by first | rfl | exact congrArg Value.bool (decide_eq_true H4.out))
          ·have e25 := isOf hp.1; have e26 := isOf hp.2.1; simp only [e25, e26] at hKO; have fc4 := BxA.cell (hS.1.2.1) 4 (v := .int .i64 wd) rfl; go_simp; exact hKO _ W (.refl W) rfl
          ·have e25 := isOf hp.1; simp only [e25] at hKO; have fc0 := BxA.cell (hS.1.2.2) 0 (v := .int .i64 (K : Int)) rfl; go_simp; exact hKO _ W (.refl W) rfl
          ·have e25 := isOf hp.1; have e28 := isOf hp.2.1; simp only [e25, e28] at hKO; go_simp
           refine (Try.adamOne K HK.out _).mono ?_
           rintro e W1 ⟨rfl, hE⟩
           exact hKO _ W1 hE rfl
          ·have e25 := isOf hp.1; have e27 := isOf hp.2.1; have e29 := isOf hp.2.2.1; simp only [e25, e27, e29] at hKO; go_simp; exact hKO _ W (Ext.refl W) (by first | rfl | exact congrArg Value.bool (decide_eq_true H5.out))
         intro vs W3 hS hp
         clear szw3 E0 p2 p3
         obtain ⟨⟨E0, p2, p3⟩, sz3⟩ := hS
         obtain ⟨h3_0, h3_1, h3_2, h3_3, h3_4, h3_5, h3_6, h3_7, h3_8, h3_9, h3_10, h3_11, h3_12, h3_13, h3_14, h3_15, h3_16, h3_17, h3_18, h3_19, h3_20, h3_21, h3_22, h3_23, h3_24, h3_25, h3_26, h3_27, h3_28, h3_29, h3_30, h3_31, h3_32, -⟩ := hp
         simp only [isOf h3_0, isOf h3_1, isOf h3_2, isOf h3_3, isOf h3_4, isOf h3_5, isOf h3_6, isOf h3_7, isOf h3_8, isOf h3_9, isOf h3_10, isOf h3_11, isOf h3_12, isOf h3_13, isOf h3_14, isOf h3_15, isOf h3_16, isOf h3_17, isOf h3_18, isOf h3_19, isOf h3_20, isOf h3_21, isOf h3_22, isOf h3_23, isOf h3_24, isOf h3_25, isOf h3_26, isOf h3_27, isOf h3_28, isOf h3_29, isOf h3_30, isOf h3_31, isOf h3_32]
         clear h3_0 h3_1 h3_2 h3_3 h3_4 h3_5 h3_6 h3_7 h3_8 h3_9 h3_10 h3_11 h3_12 h3_13 h3_14 h3_15 h3_16 h3_17 h3_18 h3_19 h3_20 h3_21 h3_22 h3_23 h3_24 h3_25 h3_26 h3_27 h3_28 h3_29 h3_30 h3_31 h3_32
         obtain ⟨k2a, k2b, k2c, k2d, k2e, k2f⟩ := p2.c6
         have k3a := p3.cell 0 (v := .int .i64 (K : Int)) rfl
         go_wp2; go_ret
         exact ⟨ret_b HR.out.symm, E0⟩
        ·have H5 := Lib.hid g5
         clear g5
         have HR : Hid (rightA ⟨lr, b1, b2, eps, wd, ap⟩ (K : Int) = false) := Lib.hid (by rw [rightA_nat HK.out]; simp [H0.out, H1.out, H2.out, H3.out, H4.out, H5.out])
         have ltp2 := p2.lt; have ltp3 := p3.lt; have szw4 := Ext.size E0
         refine region_gk [isV (.pointer (some ⟨w.heap.size, 0, none⟩)), isV (.int .i64 lr), isV (.bool true), isV (.bool true), isV (.pointer (some ⟨w.heap.size, 3, none⟩)), isV (.int .i64 eps), isV (.bool true), isV (.bool true), isV (.bool true), isV (.func (.func 43) #[] #[.pointer (some ⟨w.heap.size + 1, 0, none⟩)]), isV (.pointer (some ⟨w.heap.size, 1, none⟩)), isV (.int .i64 b1), isV (.bool true), isV (.bool true), isV (.bool true), isV (.func (.func 43) #[] #[.pointer (some ⟨w.heap.size + 1, 0, none⟩)]), isV (.pointer (some ⟨w.heap.size, 2, none⟩)), isV (.int .i64 b2), isV (.bool true), isV (.bool true), isV (.bool true), isV (.pointer (some ⟨w.heap.size, 4, none⟩)), isV (.int .i64 wd), isV (.bool true), isV (.bool true), isV (.bool true), isV (.pointer (some ⟨w.heap.size, 4, none⟩)), isV (.int .i64 wd), isV (.int .i64 (K : Int)), isV (.int .i64 (oneZ K)), isV (.bool false), isV (.bool false),
           .one fun v _ => v = .bool false] ⟨Good.is _, Good.is _, Good.is _, Good.is _, Good.is _, Good.is _, Good.is _, Good.is _, Good.is _, Good.is _, Good.is _, Good.is _, Good.is _, Good.is _, Good.is _, Good.is _, Good.is _, Good.is _, Good.is _, Good.is _, Good.is _, Good.is _, Good.is _, Good.is _, Good.is _, Good.is _, Good.is _, Good.is _, Good.is _, Good.is _, Good.is _, Good.is _, Good.is _, trivial⟩ (E0.s.k (p2.s.k (p3.s))) (A := ?A4) ?hA4 ?howe4 ?hfin4
         case hA4 =>
          intro vs
          simp only [putAll, Act.put, sA, sZ, sS, Nat.zero_add, Nat.reduceAdd]
          exact rfl
         case howe4 =>
          clear E0 p2 p3
          intro hf
          refine ⟨oP0 0 [] hf rfl, oE 1 [0] hf rfl ?_, oE 2 [1] hf rfl ?_, oP1 3 [2] hf rfl, oP1 4 [3] hf rfl, oE 5 [3, 4] hf rfl ?_, oE 6 [3, 5] hf rfl ?_, oP2 7 [3, 6] hf rfl, oP1 8 [7] hf rfl, oP1 9 [8] hf rfl, oP1 10 [8] hf rfl, oE 11 [8, 10] hf rfl ?_, oE 12 [8, 9, 11] hf rfl ?_, oP2 13 [8, 12] hf rfl, oP1 14 [13] hf rfl, oP1 15 [14] hf rfl, oP1 16 [14] hf rfl, oE 17 [14, 16] hf rfl ?_, oE 18 [14, 15, 17] hf rfl ?_, oP2 19 [14, 18] hf rfl, oP1 20 [19] hf rfl, oP1 21 [20] hf rfl, oE 22 [20, 21] hf rfl ?_, oE 23 [20, 22] hf rfl ?_, oP2 24 [20, 23] hf rfl, oP1 25 [24] hf rfl, oP1 26 [25] hf rfl, oE 27 [25, 26] hf rfl ?_, oE 28 [25] hf rfl ?_, oE 29 [25, 28] hf rfl ?_, oE 30 [25, 27, 29] hf rfl ?_, oP2 31 [25, 30] hf rfl, oP1 32 [31] hf rfl, trivial⟩
          all_goals intro vs W hS hp hx KO hKO
          all_goals simp only [Act.put, sA, sZ, sS] at hKO
          ·have e0 := isOf hp.1; simp only [e0] at hKO; have fc0 := BxA.cell (hS.1.2.1) 0 (v := .int .i64 lr) rfl; go_simp; exact hKO _ W (.refl W) rfl
          ·have e1 := isOf hp.1; simp only [e1] at hKO; go_simp; exact hKO _ W (Ext.refl W) (by first | rfl | exact congrArg Value.bool (decide_eq_true H0.out))
          ·have e3 := isOf hp.1; have e4 := isOf hp.2.1; simp only [e3, e4] at hKO; have fc3 := BxA.cell (hS.1.2.1) 3 (v := .int .i64 eps) rfl; go_simp; exact hKO _ W (.refl W) rfl
          ·have e3 := isOf hp.1; have e5 := isOf hp.2.1; simp only [e3, e5] at hKO; go_simp; exact hKO _ W (Ext.refl W) (by first | rfl | exact congrArg Value.bool (decide_eq_true H1.out))
          ·have e8 := isOf hp.1; have e10 := isOf hp.2.1; simp only [e8, e10] at hKO; have fc1 := BxA.cell (hS.1.2.1) 1 (v := .int .i64 b1) rfl; go_simp; exact hKO _ W (.refl W) rfl
          ·have e8 := isOf hp.1; have e9 := isOf hp.2.1; have e11 := isOf hp.2.2.1; simp only [e8, e9, e11] at hKO; go_simp
           refine (Try.adamBeta K HK.out b1 hS.1.2.2).mono ?_
           rintro e W1 ⟨rfl, hE⟩
           rw [H2.out]
           exact hKO _ W1 hE rfl
          ·have e14 := isOf hp.1; have e16 := isOf hp.2.1; simp only [e14, e16] at hKO; have fc2 := BxA.cell (hS.1.2.1) 2 (v := .int .i64 b2) rfl; go_simp; exact hKO _ W (.refl W) rfl
          ·have e14 := isOf hp.1; have e15 := isOf hp.2.1; have e17 := isOf hp.2.2.1; simp only [e14, e15, e17] at hKO; go_simp
           refine (Try.adamBeta K HK.out b2 hS.1.2.2).mono ?_
           rintro e W1 ⟨rfl, hE⟩
           rw [H3.out]
           exact hKO _ W1 hE rfl
          ·have e20 := isOf hp.1; have e21 := isOf hp.2.1; simp only [e20, e21] at hKO; have fc4 := BxA.cell (hS.1.2.1) 4 (v := .int .i64 wd) rfl; go_simp; exact hKO _ W (.refl W) rfl
          ·have e20 := isOf hp.1; have e22 := isOf hp.2.1; simp only [e20, e22] at hKO; go_simp; exact hKO _ W (Ext.refl W) (by first | rfl | exact congrArg Value.bool (decide_eq_true H4.out))
          ·have e25 := isOf hp.1; have e26 := isOf hp.2.1; simp only [e25, e26] at hKO; have fc4 := BxA.cell (hS.1.2.1) 4 (v := .int .i64 wd) rfl; go_simp; exact hKO _ W (.refl W) rfl
          ·have e25 := isOf hp.1; simp only [e25] at hKO; have fc0 := BxA.cell (hS.1.2.2) 0 (v := .int .i64 (K : Int)) rfl; go_simp; exact hKO _ W (.refl W) rfl
          ·have e25 := isOf hp.1; have e28 := isOf hp.2.1; simp only [e25, e28] at hKO; go_simp
           refine (Try.adamOne K HK.out _).mono ?_
           rintro e W1 ⟨rfl, hE⟩
           exact hKO _ W1 hE rfl
          ·have e25 := isOf hp.1; have e27 := isOf hp.2.1; have e29 := isOf hp.2.2.1; simp only [e25, e27, e29] at hKO; go_simp; exact hKO _ W (Ext.refl W) (by first | rfl | exact congrArg Value.bool (decide_eq_false H5.out))
         intro vs W4 hS hp
         clear szw4 E0 p2 p3
         obtain ⟨⟨E0, p2, p3⟩, sz4⟩ := hS
         obtain ⟨h4_0, h4_1, h4_2, h4_3, h4_4, h4_5, h4_6, h4_7, h4_8, h4_9, h4_10, h4_11, h4_12, h4_13, h4_14, h4_15, h4_16, h4_17, h4_18, h4_19, h4_20, h4_21, h4_22, h4_23, h4_24, h4_25, h4_26, h4_27, h4_28, h4_29, h4_30, h4_31, h4_32, -⟩ := hp
         simp only [isOf h4_0, isOf h4_1, isOf h4_2, isOf h4_3, isOf h4_4, isOf h4_5, isOf h4_6, isOf h4_7, isOf h4_8, isOf h4_9, isOf h4_10, isOf h4_11, isOf h4_12, isOf h4_13, isOf h4_14, isOf h4_15, isOf h4_16, isOf h4_17, isOf h4_18, isOf h4_19, isOf h4_20, isOf h4_21, isOf h4_22, isOf h4_23, isOf h4_24, isOf h4_25, isOf h4_26, isOf h4_27, isOf h4_28, isOf h4_29, isOf h4_30, isOf h4_31, isOf h4_32]
         clear h4_0 h4_1 h4_2 h4_3 h4_4 h4_5 h4_6 h4_7 h4_8 h4_9 h4_10 h4_11 h4_12 h4_13 h4_14 h4_15 h4_16 h4_17 h4_18 h4_19 h4_20 h4_21 h4_22 h4_23 h4_24 h4_25 h4_26 h4_27 h4_28 h4_29 h4_30 h4_31 h4_32
         obtain ⟨k2a, k2b, k2c, k2d, k2e, k2f⟩ := p2.c6
         have k3a := p3.cell 0 (v := .int .i64 (K : Int)) rfl
         go_wp2; go_ret
         exact ⟨ret_b HR.out.symm, E0⟩
       ·have H4 := Lib.hid g4
        clear g4
        have HR : Hid (rightA ⟨lr, b1, b2, eps, wd, ap⟩ (K : Int) = false) := Lib.hid (by rw [rightA_nat HK.out]; simp [H0.out, H1.out, H2.out, H3.out, H4.out])
        have ltp2 := p2.lt; have ltp3 := p3.lt; have szw5 := Ext.size E0
        refine region_gk [isV (.pointer (some ⟨w.heap.size, 0, none⟩)), isV (.int .i64 lr), isV (.bool true), isV (.bool true), isV (.pointer (some ⟨w.heap.size, 3, none⟩)), isV (.int .i64 eps), isV (.bool true), isV (.bool true), isV (.bool true), isV (.func (.func 43) #[] #[.pointer (some ⟨w.heap.size + 1, 0, none⟩)]), isV (.pointer (some ⟨w.heap.size, 1, none⟩)), isV (.int .i64 b1), isV (.bool true), isV (.bool true), isV (.bool true), isV (.func (.func 43) #[] #[.pointer (some ⟨w.heap.size + 1, 0, none⟩)]), isV (.pointer (some ⟨w.heap.size, 2, none⟩)), isV (.int .i64 b2), isV (.bool true), isV (.bool true), isV (.bool true), isV (.pointer (some ⟨w.heap.size, 4, none⟩)), isV (.int .i64 wd), isV (.bool false), isV (.bool false), isV (.bool false), isV (undef), isV (undef), isV (undef), isV (undef), isV (undef), isV (.bool false),
          .one fun v _ => v = .bool false] ⟨Good.is _, Good.is _, Good.is _, Good.is _, Good.is _, Good.is _, Good.is _, Good.is _, Good.is _, Good.is _, Good.is _, Good.is _, Good.is _, Good.is _, Good.is _, Good.is _, Good.is _, Good.is _, Good.is _, Good.is _, Good.is _, Good.is _, Good.is _, Good.is _, Good.is _, Good.is _, Good.is _, Good.is _, Good.is _, Good.is _, Good.is _, Good.is _, Good.is _, trivial⟩ (E0.s.k (p2.s.k (p3.s))) (A := ?A5) ?hA5 ?howe5 ?hfin5
        case hA5 =>
         intro vs
         simp only [putAll, Act.put, sA, sZ, sS, Nat.zero_add, Nat.reduceAdd]
         exact rfl
        case howe5 =>
         clear E0 p2 p3
         intro hf
         refine ⟨oP0 0 [] hf rfl, oE 1 [0] hf rfl ?_, oE 2 [1] hf rfl ?_, oP1 3 [2] hf rfl, oP1 4 [3] hf rfl, oE 5 [3, 4] hf rfl ?_, oE 6 [3, 5] hf rfl ?_, oP2 7 [3, 6] hf rfl, oP1 8 [7] hf rfl, oP1 9 [8] hf rfl, oP1 10 [8] hf rfl, oE 11 [8, 10] hf rfl ?_, oE 12 [8, 9, 11] hf rfl ?_, oP2 13 [8, 12] hf rfl, oP1 14 [13] hf rfl, oP1 15 [14] hf rfl, oP1 16 [14] hf rfl, oE 17 [14, 16] hf rfl ?_, oE 18 [14, 15, 17] hf rfl ?_, oP2 19 [14, 18] hf rfl, oP1 20 [19] hf rfl, oP1 21 [20] hf rfl, oE 22 [20, 21] hf rfl ?_, oE 23 [20, 22] hf rfl ?_, oP2 24 [20, 23] hf rfl, oP1 25 [24] hf rfl, oP1 26 [25] hf rfl, oP1 27 [25] hf rfl, oP1 28 [25] hf rfl, oP1 29 [25] hf rfl, oP1 30 [25] hf rfl, oP2 31 [25, 30] hf rfl, oP1 32 [31] hf rfl, trivial⟩
         all_goals intro vs W hS hp hx KO hKO
         all_goals simp only [Act.put, sA, sZ, sS] at hKO
         ·have e0 := isOf hp.1; simp only [e0] at hKO; have fc0 := BxA.cell (hS.1.2.1) 0 (v := .int .i64 lr) rfl; go_simp; exact hKO _ W (.refl W) rfl
         ·have e1 := isOf hp.1; simp only [e1] at hKO; go_simp; exact hKO _ W (Ext.refl W) (by first | rfl | exact congrArg Value.bool (decide_eq_true H0.out))
         ·have e3 := isOf hp.1; have e4 := isOf hp.2.1; simp only [e3, e4] at hKO; have fc3 := BxA.cell (hS.1.2.1) 3 (v := .int .i64 eps) rfl; go_simp; exact hKO _ W (.refl W) rfl
         ·have e3 := isOf hp.1; have e5 := isOf hp.2.1; simp only [e3, e5] at hKO; go_simp; exact hKO _ W (Ext.refl W) (by first | rfl | exact congrArg Value.bool (decide_eq_true H1.out))
         ·have e8 := isOf hp.1; have e10 := isOf hp.2.1; simp only [e8, e10] at hKO; have fc1 := BxA.cell (hS.1.2.1) 1 (v := .int .i64 b1) rfl; go_simp; exact hKO _ W (.refl W) rfl
         ·have e8 := isOf hp.1; have e9 := isOf hp.2.1; have e11 := isOf hp.2.2.1; simp only [e8, e9, e11] at hKO; go_simp
          refine (Try.adamBeta K HK.out b1 hS.1.2.2).mono ?_
          rintro e W1 ⟨rfl, hE⟩
          rw [H2.out]
          exact hKO _ W1 hE rfl
         ·have e14 := isOf hp.1; have e16 := isOf hp.2.1; simp only [e14, e16] at hKO; have fc2 := BxA.cell (hS.1.2.1) 2 (v := .int .i64 b2) rfl; go_simp; exact hKO _ W (.refl W) rfl
         ·have e14 := isOf hp.1; have e15 := isOf hp.2.1; have e17 := isOf hp.2.2.1; simp only [e14, e15, e17] at hKO; go_simp
          refine (Try.adamBeta K HK.out b2 hS.1.2.2).mono ?_
          rintro e W1 ⟨rfl, hE⟩
          rw [H3.out]
          exact hKO _ W1 hE rfl
         ·have e20 := isOf hp.1; have e21 := isOf hp.2.1; simp only [e20, e21] at hKO; have fc4 := BxA.cell (hS.1.2.1) 4 (v := .int .i64 wd) rfl; go_simp; exact hKO _ W (.refl W) rfl
         ·have e20 := isOf hp.1; have e22 := isOf hp.2.1; simp only [e20, e22] at hKO; go_simp; exact hKO _ W (Ext.refl W) (by first | rfl | exact congrArg Value.bool (decide_eq_false H4.out))
        intro vs W5 hS hp
        clear szw5 E0 p2 p3
        obtain ⟨⟨E0, p2, p3⟩, sz5⟩ := hS
        obtain ⟨h5_0, h5_1, h5_2, h5_3, h5_4, h5_5, h5_6, h5_7, h5_8, h5_9, h5_10, h5_11, h5_12, h5_13, h5_14, h5_15, h5_16, h5_17, h5_18, h5_19, h5_20, h5_21, h5_22, h5_23, h5_24, h5_25, h5_26, h5_27, h5_28, h5_29, h5_30, h5_31, h5_32, -⟩ := hp
        simp only [isOf h5_0, isOf h5_1, isOf h5_2, isOf h5_3, isOf h5_4, isOf h5_5, isOf h5_6, isOf h5_7, isOf h5_8, isOf h5_9, isOf h5_10, isOf h5_11, isOf h5_12, isOf h5_13, isOf h5_14, isOf h5_15, isOf h5_16, isOf h5_17, isOf h5_18, isOf h5_19, isOf h5_20, isOf h5_21, isOf h5_22, isOf h5_23, isOf h5_24, isOf h5_25, isOf h5_26, isOf h5_27, isOf h5_28, isOf h5_29, isOf h5_30, isOf h5_31, isOf h5_32]
        clear h5_0 h5_1 h5_2 h5_3 h5_4 h5_5 h5_6 h5_7 h5_8 h5_9 h5_10 h5_11 h5_12 h5_13 h5_14 h5_15 h5_16 h5_17 h5_18 h5_19 h5_20 h5_21 h5_22 h5_23 h5_24 h5_25 h5_26 h5_27 h5_28 h5_29 h5_30 h5_31 h5_32
        obtain ⟨k2a, k2b, k2c, k2d, k2e, k2f⟩ := p2.c6
        have k3a := p3.cell 0 (v := .int .i64 (K : Int)) rfl
        go_wp2; go_ret
        exact ⟨ret_b HR.out.symm, E0⟩
    ·have H1 := Lib.hid g1
     clear g1
     have HR : Hid (rightA ⟨lr, b1, b2, eps, wd, ap⟩ (K : Int) = false) := Lib.hid (by rw [rightA_nat HK.out]; simp [H0.out, H1.out])
     have ltp2 := p2.lt; have ltp3 := p3.lt; have szw6 := Ext.size E0
     refine region_gk [isV (.pointer (some ⟨w.heap.size, 0, none⟩)), isV (.int .i64 lr), isV (.bool true), isV (.bool true), isV (.pointer (some ⟨w.heap.size, 3, none⟩)), isV (.int .i64 eps), isV (.bool false), isV (.bool false), isV (.bool false), isV (undef), isV (undef), isV (undef), isV (undef), isV (.bool false), isV (.bool false), isV (undef), isV (undef), isV (undef), isV (undef), isV (.bool false), isV (.bool false), isV (undef), isV (undef), isV (undef), isV (.bool false), isV (.bool false), isV (undef), isV (undef), isV (undef), isV (undef), isV (undef), isV (.bool false),
       .one fun v _ => v = .bool false] ⟨Good.is _, Good.is _, Good.is _, Good.is _, Good.is _, Good.is _, Good.is _, Good.is _, Good.is _, Good.is _, Good.is _, Good.is _, Good.is _, Good.is _, Good.is _, Good.is _, Good.is _, Good.is _, Good.is _, Good.is _, Good.is _, Good.is _, Good.is _, Good.is _, Good.is _, Good.is _, Good.is _, Good.is _, Good.is _, Good.is _, Good.is _, Good.is _, Good.is _, trivial⟩ (E0.s.k (p2.s.k (p3.s))) (A := ?A6) ?hA6 ?howe6 ?hfin6
     case hA6 =>
      intro vs
      simp only [putAll, Act.put, sA, sZ, sS, Nat.zero_add, Nat.reduceAdd]
      exact rfl
     case howe6 =>
      clear E0 p2 p3
      intro hf
      refine ⟨oP0 0 [] hf rfl, oE 1 [0] hf rfl ?_, oE 2 [1] hf rfl ?_, oP1 3 [2] hf rfl, oP1 4 [3] hf rfl, oE 5 [3, 4] hf rfl ?_, oE 6 [3, 5] hf rfl ?_, oP2 7 [3, 6] hf rfl, oP1 8 [7] hf rfl, oP1 9 [8] hf rfl, oP1 10 [8] hf rfl, oP1 11 [8] hf rfl, oP1 12 [8] hf rfl, oP2 13 [8, 12] hf rfl, oP1 14 [13] hf rfl, oP1 15 [14] hf rfl, oP1 16 [14] hf rfl, oP1 17 [14] hf rfl, oP1 18 [14] hf rfl, oP2 19 [14, 18] hf rfl, oP1 20 [19] hf rfl, oP1 21 [20] hf rfl, oP1 22 [20] hf rfl, oP1 23 [20] hf rfl, oP2 24 [20, 23] hf rfl, oP1 25 [24] hf rfl, oP1 26 [25] hf rfl, oP1 27 [25] hf rfl, oP1 28 [25] hf rfl, oP1 29 [25] hf rfl, oP1 30 [25] hf rfl, oP2 31 [25, 30] hf rfl, oP1 32 [31] hf rfl, trivial⟩
      all_goals intro vs W hS hp hx KO hKO
      all_goals simp only [Act.put, sA, sZ, sS] at hKO
      ·have e0 := isOf hp.1; simp only [e0] at hKO; have fc0 := BxA.cell (hS.1.2.1) 0 (v := .int .i64 lr) rfl; go_simp; exact hKO _ W (.refl W) rfl
      ·have e1 := isOf hp.1; simp only [e1] at hKO; go_simp; exact hKO _ W (Ext.refl W) (by first | rfl | exact congrArg Value.bool (decide_eq_true H0.out))
      ·have e3 := isOf hp.1; have e4 := isOf hp.2.1; simp only [e3, e4] at hKO; have fc3 := BxA.cell (hS.1.2.1) 3 (v := .int .i64 eps) rfl; go_simp; exact hKO _ W (.refl W) rfl
      ·have e3 := isOf hp.1; have e5 := isOf hp.2.1; simp only [e3, e5] at hKO; go_simp; exact hKO _ W (Ext.refl W) (by first | rfl | exact congrArg Value.bool (decide_eq_false H1.out))
     intro vs W6 hS hp
     clear szw6 E0 p2 p3
     obtain ⟨⟨E0, p2, p3⟩, sz6⟩ := hS
     obtain ⟨h6_0, h6_1, h6_2, h6_3, h6_4, h6_5, h6_6, h6_7, h6_8, h6_9, h6_10, h6_11, h6_12, h6_13, h6_14, h6_15, h6_16, h6_17, h6_18, h6_19, h6_20, h6_21, h6_22, h6_23, h6_24, h6_25, h6_26, h6_27, h6_28, h6_29, h6_30, h6_31, h6_32, -⟩ := hp
     simp only [isOf h6_0, isOf h6_1, isOf h6_2, isOf h6_3, isOf h6_4, isOf h6_5, isOf h6_6, isOf h6_7, isOf h6_8, isOf h6_9, isOf h6_10, isOf h6_11, isOf h6_12, isOf h6_13, isOf h6_14, isOf h6_15, isOf h6_16, isOf h6_17, isOf h6_18, isOf h6_19, isOf h6_20, isOf h6_21, isOf h6_22, isOf h6_23, isOf h6_24, isOf h6_25, isOf h6_26, isOf h6_27, isOf h6_28, isOf h6_29, isOf h6_30, isOf h6_31, isOf h6_32]
     clear h6_0 h6_1 h6_2 h6_3 h6_4 h6_5 h6_6 h6_7 h6_8 h6_9 h6_10 h6_11 h6_12 h6_13 h6_14 h6_15 h6_16 h6_17 h6_18 h6_19 h6_20 h6_21 h6_22 h6_23 h6_24 h6_25 h6_26 h6_27 h6_28 h6_29 h6_30 h6_31 h6_32
     obtain ⟨k2a, k2b, k2c, k2d, k2e, k2f⟩ := p2.c6
     have k3a := p3.cell 0 (v := .int .i64 (K : Int)) rfl
     go_wp2; go_ret
     exact ⟨ret_b HR.out.symm, E0⟩
   ·have H0 := Lib.hid g0
    clear g0
    have HR : Hid (rightA ⟨lr, b1, b2, eps, wd, ap⟩ (K : Int) = false) := Lib.hid (by rw [rightA_nat HK.out]; simp [H0.out])
    have ltp2 := p2.lt; have ltp3 := p3.lt; have szw7 := Ext.size E0
    refine region_gk [isV (.pointer (some ⟨w.heap.size, 0, none⟩)), isV (.int .i64 lr), isV (.bool false), isV (.bool false), isV (undef), isV (undef), isV (undef), isV (.bool false), isV (.bool false), isV (undef), isV (undef), isV (undef), isV (undef), isV (.bool false), isV (.bool false), isV (undef), isV (undef), isV (undef), isV (undef), isV (.bool false), isV (.bool false), isV (undef), isV (undef), isV (undef), isV (.bool false), isV (.bool false), isV (undef), isV (undef), isV (undef), isV (undef), isV (undef), isV (.bool false),
      .one fun v _ => v = .bool false] ⟨Good.is _, Good.is _, Good.is _, Good.is _, Good.is _, Good.is _, Good.is _, Good.is _, Good.is _, Good.is _, Good.is _, Good.is _, Good.is _, Good.is _, Good.is _, Good.is _, Good.is _, Good.is _, Good.is _, Good.is _, Good.is _, Good.is _, Good.is _, Good.is _, Good.is _, Good.is _, Good.is _, Good.is _, Good.is _, Good.is _, Good.is _, Good.is _, Good.is _, trivial⟩ (E0.s.k (p2.s.k (p3.s))) (A := ?A7) ?hA7 ?howe7 ?hfin7
    case hA7 =>
     intro vs
     simp only [putAll, Act.put, sA, sZ, sS, Nat.zero_add, Nat.reduceAdd]
     exact rfl
    case howe7 =>
     clear E0 p2 p3
     intro hf
     refine ⟨oP0 0 [] hf rfl, oE 1 [0] hf rfl ?_, oE 2 [1] hf rfl ?_, oP1 3 [2] hf rfl, oP1 4 [3] hf rfl, oP1 5 [3] hf rfl, oP1 6 [3] hf rfl, oP2 7 [3, 6] hf rfl, oP1 8 [7] hf rfl, oP1 9 [8] hf rfl, oP1 10 [8] hf rfl, oP1 11 [8] hf rfl, oP1 12 [8] hf rfl, oP2 13 [8, 12] hf rfl, oP1 14 [13] hf rfl, oP1 15 [14] hf rfl, oP1 16 [14] hf rfl, oP1 17 [14] hf rfl, oP1 18 [14] hf rfl, oP2 19 [14, 18] hf rfl, oP1 20 [19] hf rfl, oP1 21 [20] hf rfl, oP1 22 [20] hf rfl, oP1 23 [20] hf rfl, oP2 24 [20, 23] hf rfl, oP1 25 [24] hf rfl, oP1 26 [25] hf rfl, oP1 27 [25] hf rfl, oP1 28 [25] hf rfl, oP1 29 [25] hf rfl, oP1 30 [25] hf rfl, oP2 31 [25, 30] hf rfl, oP1 32 [31] hf rfl, trivial⟩
     all_goals intro vs W hS hp hx KO hKO
     all_goals simp only [Act.put, sA, sZ, sS] at hKO
     ·have e0 := isOf hp.1; simp only [e0] at hKO; have fc0 := BxA.cell (hS.1.2.1) 0 (v := .int .i64 lr) rfl; go_simp; exact hKO _ W (.refl W) rfl
     ·have e1 := isOf hp.1; simp only [e1] at hKO; go_simp; exact hKO _ W (Ext.refl W) (by first | rfl | exact congrArg Value.bool (decide_eq_false H0.out))
    intro vs W7 hS hp
    clear szw7 E0 p2 p3
    obtain ⟨⟨E0, p2, p3⟩, sz7⟩ := hS
    obtain ⟨h7_0, h7_1, h7_2, h7_3, h7_4, h7_5, h7_6, h7_7, h7_8, h7_9, h7_10, h7_11, h7_12, h7_13, h7_14, h7_15, h7_16, h7_17, h7_18, h7_19, h7_20, h7_21, h7_22, h7_23, h7_24, h7_25, h7_26, h7_27, h7_28, h7_29, h7_30, h7_31, h7_32, -⟩ := hp
    simp only [isOf h7_0, isOf h7_1, isOf h7_2, isOf h7_3, isOf h7_4, isOf h7_5, isOf h7_6, isOf h7_7, isOf h7_8, isOf h7_9, isOf h7_10, isOf h7_11, isOf h7_12, isOf h7_13, isOf h7_14, isOf h7_15, isOf h7_16, isOf h7_17, isOf h7_18, isOf h7_19, isOf h7_20, isOf h7_21, isOf h7_22, isOf h7_23, isOf h7_24, isOf h7_25, isOf h7_26, isOf h7_27, isOf h7_28, isOf h7_29, isOf h7_30, isOf h7_31, isOf h7_32]
    clear h7_0 h7_1 h7_2 h7_3 h7_4 h7_5 h7_6 h7_7 h7_8 h7_9 h7_10 h7_11 h7_12 h7_13 h7_14 h7_15 h7_16 h7_17 h7_18 h7_19 h7_20 h7_21 h7_22 h7_23 h7_24 h7_25 h7_26 h7_27 h7_28 h7_29 h7_30 h7_31 h7_32
    obtain ⟨k2a, k2b, k2c, k2d, k2e, k2f⟩ := p2.c6
    have k3a := p3.cell 0 (v := .int .i64 (K : Int)) rfl
    go_wp2; go_ret
    exact ⟨ret_b HR.out.symm, E0⟩


end Go.Rt

namespace Go.Rt
open Go Go.RowKit Go.Proofs

/-- three new rows of n, told place by place -/
def RowsAt (w w' : World) (v : Value) (n : Nat) (f1 f2 f3 : Nat → Int) : Prop :=
 ∃ g1 g2 g3, v = .agg (Three.val n g1 g2 g3) ∧ Iw w.heap.size w'.heap.size w' (some ⟨g1, 0, none⟩) n n (outL n f1) ∧ Iw w.heap.size w'.heap.size w' (some ⟨g2, 0, none⟩) n n (outL n f2) ∧ Iw w.heap.size w'.heap.size w' (some ⟨g3, 0, none⟩) n n (outL n f3)

theorem placeIn {K : Nat} {A : AdamP} {p0 p1 w m v g : Int} (hR : rightA A (K : Int) = true) (h1 : I64 A.lr) (h2 : I64 A.eps) (h3 : I64 A.wd) (hp0 : mayB K p0 = true) (hp1 : mayB K p1 = true) (hw : I64 w) (hm : I64 m) (hv0 : 0 ≤ v) (hv : I64 v) (hg : I64 g) : PlaceIn K A p0 p1 w m v g := by
 have h := rightA_iff.1 hR
 rw [Int.toNat_natCast] at h
 have k0 := mayB_iff.1 hp0
 have k1 := mayB_iff.1 hp1
 exact ⟨by omega, h1, h.2.2.2.1, h2, by omega, by omega, by omega, by omega, h3, k0.1, k0.2, k1.1, k1.2, hw, hm, hv0, hv, hg⟩

set_option maxRecDepth 100000 in
set_option maxHeartbeats 8000000 in
theorem Try.adamStepNo (lr b1 b2 eps wd p0 p1 : Int) (ap : Bool) (f : Int) {n0 n1 n2 n3 : Nat} {a0 : Option Addr} {c0 : Nat}  {a1 : Option Addr} {c1 : Nat}  {a2 : Option Addr} {c2 : Nat}  {a3 : Option Addr} {c3 : Nat} (w : World) (hR : rightA ⟨lr, b1, b2, eps, wd, ap⟩ f = false) :
  Calls Try.prog 14 #[.agg #[.int .i64 lr, .int .i64 b1, .int .i64 b2, .int .i64 eps, .int .i64 wd, .bool ap], .int .i64 f, .agg #[.int .i64 p0, .int .i64 p1], .agg #[.slice a0 n0 c0, .slice a1 n1 c1, .slice a2 n2 c2, .slice a3 n3 c3]] w fun e w' => e = .returned (.tuple #[.agg #[.slice none 0 0, .slice none 0 0, .slice none 0 0, .slice none 0 0], .int .i64 1]) ∧ Ext w w' := by
 have hmf : ∀ (fn : Fn) (first cap : Array Value) (W : World), (Instr.makeFunc fn first cap).run Try.prog W = .ok (.func fn first cap) W := fun _ _ _ _ => rfl
 obtain ⟨W0, hW0, E0, p4, p5, p6, p7, p8⟩ := boxed5 w 42 #[.int .i64 lr, .int .i64 b1, .int .i64 b2, .int .i64 eps, .int .i64 wd, .bool ap] 3 #[.int .i64 f] 43 #[.int .i64 p0, .int .i64 p1] 27 #[.slice a0 n0 c0, .slice a1 n1 c1, .slice a2 n2 c2, .slice a3 n3 c3] 27 #[.slice none 0 0, .slice none 0 0, .slice none 0 0, .slice none 0 0]
 replace p6 := p6.b2
 go_enter Try.func14, Try.ntmps14
 obtain ⟨k4a, k4b, k4c, k4d, k4e, k4f⟩ := p4.c6
 have k5a := p5.cell 0 (v := .int .i64 f) rfl
 obtain ⟨k6a, k6b⟩ := p6.c2
 obtain ⟨k7a, k7b, k7c, k7d⟩ := p7.c4
 obtain ⟨k8a, k8b, k8c, k8d⟩ := p8.c4
 go_wp2_with fail
 rw [← hW0]
 clear hW0; clear k4a k4b k4c k4d k4e k4f k5a k6a k6b k7a k7b k7c k7d k8a k8b k8c k8d
 refine (Try.adamRight lr b1 b2 eps wd f ap _).mono ?_
 rintro e Wc ⟨rfl, hE⟩
 rw [hR]; replace E0 := (Ext.trans E0 hE); replace p4 := (p4.ext hE); replace p5 := (p5.ext hE); replace p6 := (p6.ext hE); replace p7 := (p7.ext hE); replace p8 := (p8.ext hE); clear hE
 have z80 : Wc.frozen? ⟨w.heap.size + 1 + 1 + 1 + 1, 0, none⟩ = false := by simp [World.frozen?, show Wc.heap[w.heap.size + 1 + 1 + 1 + 1]? = _ from p8]
 have z81 : Wc.frozen? ⟨w.heap.size + 1 + 1 + 1 + 1, 1, none⟩ = false := by simp [World.frozen?, show Wc.heap[w.heap.size + 1 + 1 + 1 + 1]? = _ from p8]
 have z82 : Wc.frozen? ⟨w.heap.size + 1 + 1 + 1 + 1, 2, none⟩ = false := by simp [World.frozen?, show Wc.heap[w.heap.size + 1 + 1 + 1 + 1]? = _ from p8]
 have z83 : Wc.frozen? ⟨w.heap.size + 1 + 1 + 1 + 1, 3, none⟩ = false := by simp [World.frozen?, show Wc.heap[w.heap.size + 1 + 1 + 1 + 1]? = _ from p8]
 obtain ⟨k4a, k4b, k4c, k4d, k4e, k4f⟩ := p4.c6
 have k5a := p5.cell 0 (v := .int .i64 f) rfl
 obtain ⟨k6a, k6b⟩ := p6.c2
 obtain ⟨k7a, k7b, k7c, k7d⟩ := p7.c4
 obtain ⟨k8a, k8b, k8c, k8d⟩ := p8.c4
 go_wp2; clear k4a k4b k4c k4d k4e k4f k5a k6a k6b k7a k7b k7c k7d k8a k8b k8c k8d
 obtain ⟨W2, hW2, hw, hq⟩ := (Form4.of p8).put none 0 0 none 0 0 none 0 0 none 0 0
 rw [← hW2]
 obtain ⟨k80, k81, k82, k83⟩ := hq.c4
 exact bodyPost_ret (v := .tuple #[.agg #[.slice none 0 0, .slice none 0 0, .slice none 0 0, .slice none 0 0], .int .i64 1]) (by simp [results, Try.results14, go_sem, k80, k81, k82, k83]) rfl ⟨rfl, Ext.wr E0 hw (by omega)⟩

set_option maxRecDepth 100000 in
set_option maxHeartbeats 8000000 in
theorem Try.adamStepArg (lr b1 b2 eps wd p0 p1 : Int) (ap : Bool) (K : Nat) {n0 n1 n2 n3 : Nat} {a0 : Option Addr} {c0 : Nat}  {a1 : Option Addr} {c1 : Nat}  {a2 : Option Addr} {c2 : Nat}  {a3 : Option Addr} {c3 : Nat} {lv : List Int} (w : World) (hR : rightA ⟨lr, b1, b2, eps, wd, ap⟩ (K : Int) = true) (hiv : Iw 0 w.heap.size w a2 n2 c2 lv) (hB : mayB K p0 = false ∨ mayB K p1 = false ∨ negB lv = true) :
  Calls Try.prog 14 #[.agg #[.int .i64 lr, .int .i64 b1, .int .i64 b2, .int .i64 eps, .int .i64 wd, .bool ap], .int .i64 (K : Int), .agg #[.int .i64 p0, .int .i64 p1], .agg #[.slice a0 n0 c0, .slice a1 n1 c1, .slice a2 n2 c2, .slice a3 n3 c3]] w fun e w' => e = .returned (.tuple #[.agg #[.slice none 0 0, .slice none 0 0, .slice none 0 0, .slice none 0 0], .int .i64 1]) ∧ Ext w w' := by
 have HR := Lib.hid hR
 have HK : Hid (K ≤ 40) := Lib.hid (by have := rightA_iff.1 hR; omega)
 clear hR
 have hmf : ∀ (fn : Fn) (first cap : Array Value) (W : World), (Instr.makeFunc fn first cap).run Try.prog W = .ok (.func fn first cap) W := fun _ _ _ _ => rfl
 obtain ⟨W0, hW0, E0, p4, p5, p6, p7, p8⟩ := boxed5 w 42 #[.int .i64 lr, .int .i64 b1, .int .i64 b2, .int .i64 eps, .int .i64 wd, .bool ap] 3 #[.int .i64 (K : Int)] 43 #[.int .i64 p0, .int .i64 p1] 27 #[.slice a0 n0 c0, .slice a1 n1 c1, .slice a2 n2 c2, .slice a3 n3 c3] 27 #[.slice none 0 0, .slice none 0 0, .slice none 0 0, .slice none 0 0]
 replace p6 := p6.b2
 replace hiv : Iw 0 w.heap.size W0 a2 n2 c2 (lv) := hiv.ext E0
 go_enter Try.func14, Try.ntmps14
 obtain ⟨k4a, k4b, k4c, k4d, k4e, k4f⟩ := p4.c6
 have k5a := p5.cell 0 (v := .int .i64 (K : Int)) rfl
 obtain ⟨k6a, k6b⟩ := p6.c2
 obtain ⟨k7a, k7b, k7c, k7d⟩ := p7.c4
 obtain ⟨k8a, k8b, k8c, k8d⟩ := p8.c4
 go_wp2_with fail
 rw [← hW0]
 clear hW0; clear k4a k4b k4c k4d k4e k4f k5a k6a k6b k7a k7b k7c k7d k8a k8b k8c k8d
 refine (Try.adamRight lr b1 b2 eps wd (K : Int) ap _).mono ?_
 rintro e Wri ⟨rfl, hE⟩
 rw [HR.out]; replace E0 := (Ext.trans E0 hE); replace hiv := (hiv.ext hE); replace p4 := (p4.ext hE); replace p5 := (p5.ext hE); replace p6 := (p6.ext hE); replace p7 := (p7.ext hE); replace p8 := (p8.ext hE); clear hE
 obtain ⟨k4a, k4b, k4c, k4d, k4e, k4f⟩ := p4.c6
 have k5a := p5.cell 0 (v := .int .i64 (K : Int)) rfl
 obtain ⟨k6a, k6b⟩ := p6.c2
 obtain ⟨k7a, k7b, k7c, k7d⟩ := p7.c4
 obtain ⟨k8a, k8b, k8c, k8d⟩ := p8.c4
 go_wp2_with fail
 clear k4a k4b k4c k4d k4e k4f k5a k6a k6b k7a k7b k7c k7d k8a k8b k8c k8d
 refine (Try.adamBehind K HK.out p0 p5).mono ?_
 rintro e Wb0 ⟨rfl, hE⟩
 replace E0 := (Ext.trans E0 hE); replace hiv := (hiv.ext hE); replace p4 := (p4.ext hE); replace p5 := (p5.ext hE); replace p6 := (p6.ext hE); replace p7 := (p7.ext hE); replace p8 := (p8.ext hE); clear hE
 cases g0 : mayB K p0
 ·have z80 : Wb0.frozen? ⟨w.heap.size + 1 + 1 + 1 + 1, 0, none⟩ = false := by simp [World.frozen?, show Wb0.heap[w.heap.size + 1 + 1 + 1 + 1]? = _ from p8]
  have z81 : Wb0.frozen? ⟨w.heap.size + 1 + 1 + 1 + 1, 1, none⟩ = false := by simp [World.frozen?, show Wb0.heap[w.heap.size + 1 + 1 + 1 + 1]? = _ from p8]
  have z82 : Wb0.frozen? ⟨w.heap.size + 1 + 1 + 1 + 1, 2, none⟩ = false := by simp [World.frozen?, show Wb0.heap[w.heap.size + 1 + 1 + 1 + 1]? = _ from p8]
  have z83 : Wb0.frozen? ⟨w.heap.size + 1 + 1 + 1 + 1, 3, none⟩ = false := by simp [World.frozen?, show Wb0.heap[w.heap.size + 1 + 1 + 1 + 1]? = _ from p8]
  obtain ⟨k4a, k4b, k4c, k4d, k4e, k4f⟩ := p4.c6
  have k5a := p5.cell 0 (v := .int .i64 (K : Int)) rfl
  obtain ⟨k6a, k6b⟩ := p6.c2
  obtain ⟨k7a, k7b, k7c, k7d⟩ := p7.c4
  obtain ⟨k8a, k8b, k8c, k8d⟩ := p8.c4
  go_wp2; clear k4a k4b k4c k4d k4e k4f k5a k6a k6b k7a k7b k7c k7d k8a k8b k8c k8d
  obtain ⟨W2, hW2, hw, hq⟩ := (Form4.of p8).put none 0 0 none 0 0 none 0 0 none 0 0
  rw [← hW2]
  obtain ⟨k80, k81, k82, k83⟩ := hq.c4
  exact bodyPost_ret (v := .tuple #[.agg #[.slice none 0 0, .slice none 0 0, .slice none 0 0, .slice none 0 0], .int .i64 1]) (by simp [results, Try.results14, go_sem, k80, k81, k82, k83]) rfl ⟨rfl, Ext.wr E0 hw (by omega)⟩
 ·obtain ⟨k4a, k4b, k4c, k4d, k4e, k4f⟩ := p4.c6
  have k5a := p5.cell 0 (v := .int .i64 (K : Int)) rfl
  obtain ⟨k6a, k6b⟩ := p6.c2
  obtain ⟨k7a, k7b, k7c, k7d⟩ := p7.c4
  obtain ⟨k8a, k8b, k8c, k8d⟩ := p8.c4
  go_wp2_with fail
  clear k4a k4b k4c k4d k4e k4f k5a k6a k6b k7a k7b k7c k7d k8a k8b k8c k8d
  refine (Try.adamBehind K HK.out p1 p5).mono ?_
  rintro e Wb1 ⟨rfl, hE⟩
  replace E0 := (Ext.trans E0 hE); replace hiv := (hiv.ext hE); replace p4 := (p4.ext hE); replace p5 := (p5.ext hE); replace p6 := (p6.ext hE); replace p7 := (p7.ext hE); replace p8 := (p8.ext hE); clear hE
  cases g1 : mayB K p1
  ·have z80 : Wb1.frozen? ⟨w.heap.size + 1 + 1 + 1 + 1, 0, none⟩ = false := by simp [World.frozen?, show Wb1.heap[w.heap.size + 1 + 1 + 1 + 1]? = _ from p8]
   have z81 : Wb1.frozen? ⟨w.heap.size + 1 + 1 + 1 + 1, 1, none⟩ = false := by simp [World.frozen?, show Wb1.heap[w.heap.size + 1 + 1 + 1 + 1]? = _ from p8]
   have z82 : Wb1.frozen? ⟨w.heap.size + 1 + 1 + 1 + 1, 2, none⟩ = false := by simp [World.frozen?, show Wb1.heap[w.heap.size + 1 + 1 + 1 + 1]? = _ from p8]
   have z83 : Wb1.frozen? ⟨w.heap.size + 1 + 1 + 1 + 1, 3, none⟩ = false := by simp [World.frozen?, show Wb1.heap[w.heap.size + 1 + 1 + 1 + 1]? = _ from p8]
   obtain ⟨k4a, k4b, k4c, k4d, k4e, k4f⟩ := p4.c6
   have k5a := p5.cell 0 (v := .int .i64 (K : Int)) rfl
   obtain ⟨k6a, k6b⟩ := p6.c2
   obtain ⟨k7a, k7b, k7c, k7d⟩ := p7.c4
   obtain ⟨k8a, k8b, k8c, k8d⟩ := p8.c4
   go_wp2; clear k4a k4b k4c k4d k4e k4f k5a k6a k6b k7a k7b k7c k7d k8a k8b k8c k8d
   obtain ⟨W2, hW2, hw, hq⟩ := (Form4.of p8).put none 0 0 none 0 0 none 0 0 none 0 0
   rw [← hW2]
   obtain ⟨k80, k81, k82, k83⟩ := hq.c4
   exact bodyPost_ret (v := .tuple #[.agg #[.slice none 0 0, .slice none 0 0, .slice none 0 0, .slice none 0 0], .int .i64 1]) (by simp [results, Try.results14, go_sem, k80, k81, k82, k83]) rfl ⟨rfl, Ext.wr E0 hw (by omega)⟩
  ·obtain ⟨k4a, k4b, k4c, k4d, k4e, k4f⟩ := p4.c6
   have k5a := p5.cell 0 (v := .int .i64 (K : Int)) rfl
   obtain ⟨k6a, k6b⟩ := p6.c2
   obtain ⟨k7a, k7b, k7c, k7d⟩ := p7.c4
   obtain ⟨k8a, k8b, k8c, k8d⟩ := p8.c4
   go_wp2_with fail
   clear k4a k4b k4c k4d k4e k4f k5a k6a k6b k7a k7b k7c k7d k8a k8b k8c k8d
   refine (Try.adamNeg hiv).mono ?_
   rintro e Wn ⟨rfl, hE⟩
   rw [show negB lv = true by rcases hB with h | h | h; rw [h] at g0; cases g0; rw [h] at g1; cases g1; exact h]
   replace E0 := (Ext.trans E0 hE); replace hiv := (hiv.ext hE); replace p4 := (p4.ext hE); replace p5 := (p5.ext hE); replace p6 := (p6.ext hE); replace p7 := (p7.ext hE); replace p8 := (p8.ext hE); clear hE
   have z80 : Wn.frozen? ⟨w.heap.size + 1 + 1 + 1 + 1, 0, none⟩ = false := by simp [World.frozen?, show Wn.heap[w.heap.size + 1 + 1 + 1 + 1]? = _ from p8]
   have z81 : Wn.frozen? ⟨w.heap.size + 1 + 1 + 1 + 1, 1, none⟩ = false := by simp [World.frozen?, show Wn.heap[w.heap.size + 1 + 1 + 1 + 1]? = _ from p8]
   have z82 : Wn.frozen? ⟨w.heap.size + 1 + 1 + 1 + 1, 2, none⟩ = false := by simp [World.frozen?, show Wn.heap[w.heap.size + 1 + 1 + 1 + 1]? = _ from p8]
   have z83 : Wn.frozen? ⟨w.heap.size + 1 + 1 + 1 + 1, 3, none⟩ = false := by simp [World.frozen?, show Wn.heap[w.heap.size + 1 + 1 + 1 + 1]? = _ from p8]
   obtain ⟨k4a, k4b, k4c, k4d, k4e, k4f⟩ := p4.c6
   have k5a := p5.cell 0 (v := .int .i64 (K : Int)) rfl
   obtain ⟨k6a, k6b⟩ := p6.c2
   obtain ⟨k7a, k7b, k7c, k7d⟩ := p7.c4
   obtain ⟨k8a, k8b, k8c, k8d⟩ := p8.c4
   go_wp2; clear k4a k4b k4c k4d k4e k4f k5a k6a k6b k7a k7b k7c k7d k8a k8b k8c k8d
   obtain ⟨W2, hW2, hw, hq⟩ := (Form4.of p8).put none 0 0 none 0 0 none 0 0 none 0 0
   rw [← hW2]
   obtain ⟨k80, k81, k82, k83⟩ := hq.c4
   exact bodyPost_ret (v := .tuple #[.agg #[.slice none 0 0, .slice none 0 0, .slice none 0 0, .slice none 0 0], .int .i64 1]) (by simp [results, Try.results14, go_sem, k80, k81, k82, k83]) rfl ⟨rfl, Ext.wr E0 hw (by omega)⟩

set_option maxRecDepth 100000 in
set_option maxHeartbeats 8000000 in
theorem Try.adamStepShape (lr b1 b2 eps wd p0 p1 : Int) (ap : Bool) (K : Nat) {n0 n1 n2 n3 : Nat} {a0 : Option Addr} {c0 : Nat}  {a1 : Option Addr} {c1 : Nat}  {a2 : Option Addr} {c2 : Nat}  {a3 : Option Addr} {c3 : Nat} {lv : List Int} (w : World) (hR : rightA ⟨lr, b1, b2, eps, wd, ap⟩ (K : Int) = true) (h0 : mayB K p0 = true) (h1 : mayB K p1 = true) (h2 : negB lv = false) (hiv : Iw 0 w.heap.size w a2 n2 c2 lv) (hN : n1 ≠ n0 ∨ n2 ≠ n0 ∨ n3 ≠ n0) :
  Calls Try.prog 14 #[.agg #[.int .i64 lr, .int .i64 b1, .int .i64 b2, .int .i64 eps, .int .i64 wd, .bool ap], .int .i64 (K : Int), .agg #[.int .i64 p0, .int .i64 p1], .agg #[.slice a0 n0 c0, .slice a1 n1 c1, .slice a2 n2 c2, .slice a3 n3 c3]] w fun e w' => e = .returned (.tuple #[.agg #[.slice none 0 0, .slice none 0 0, .slice none 0 0, .slice none 0 0], .int .i64 5]) ∧ Ext w w' := by
 have HR := Lib.hid hR
 have HK : Hid (K ≤ 40) := Lib.hid (by have := rightA_iff.1 hR; omega)
 have H0 := Lib.hid h0
 have H1 := Lib.hid h1
 have H2 := Lib.hid h2
 clear hR h0 h1 h2
 have hmf : ∀ (fn : Fn) (first cap : Array Value) (W : World), (Instr.makeFunc fn first cap).run Try.prog W = .ok (.func fn first cap) W := fun _ _ _ _ => rfl
 obtain ⟨W0, hW0, E0, p4, p5, p6, p7, p8⟩ := boxed5 w 42 #[.int .i64 lr, .int .i64 b1, .int .i64 b2, .int .i64 eps, .int .i64 wd, .bool ap] 3 #[.int .i64 (K : Int)] 43 #[.int .i64 p0, .int .i64 p1] 27 #[.slice a0 n0 c0, .slice a1 n1 c1, .slice a2 n2 c2, .slice a3 n3 c3] 27 #[.slice none 0 0, .slice none 0 0, .slice none 0 0, .slice none 0 0]
 replace p6 := p6.b2
 replace hiv : Iw 0 w.heap.size W0 a2 n2 c2 (lv) := hiv.ext E0
 go_enter Try.func14, Try.ntmps14
 obtain ⟨k4a, k4b, k4c, k4d, k4e, k4f⟩ := p4.c6
 have k5a := p5.cell 0 (v := .int .i64 (K : Int)) rfl
 obtain ⟨k6a, k6b⟩ := p6.c2
 obtain ⟨k7a, k7b, k7c, k7d⟩ := p7.c4
 obtain ⟨k8a, k8b, k8c, k8d⟩ := p8.c4
 go_wp2_with fail
 rw [← hW0]
 clear hW0; clear k4a k4b k4c k4d k4e k4f k5a k6a k6b k7a k7b k7c k7d k8a k8b k8c k8d
 refine (Try.adamRight lr b1 b2 eps wd (K : Int) ap _).mono ?_
 rintro e Wri ⟨rfl, hE⟩
 rw [HR.out]; replace E0 := (Ext.trans E0 hE); replace hiv := (hiv.ext hE); replace p4 := (p4.ext hE); replace p5 := (p5.ext hE); replace p6 := (p6.ext hE); replace p7 := (p7.ext hE); replace p8 := (p8.ext hE); clear hE
 obtain ⟨k4a, k4b, k4c, k4d, k4e, k4f⟩ := p4.c6
 have k5a := p5.cell 0 (v := .int .i64 (K : Int)) rfl
 obtain ⟨k6a, k6b⟩ := p6.c2
 obtain ⟨k7a, k7b, k7c, k7d⟩ := p7.c4
 obtain ⟨k8a, k8b, k8c, k8d⟩ := p8.c4
 go_wp2_with fail
 clear k4a k4b k4c k4d k4e k4f k5a k6a k6b k7a k7b k7c k7d k8a k8b k8c k8d
 refine (Try.adamBehind K HK.out p0 p5).mono ?_
 rintro e Wb0 ⟨rfl, hE⟩
 rw [H0.out]; replace E0 := (Ext.trans E0 hE); replace hiv := (hiv.ext hE); replace p4 := (p4.ext hE); replace p5 := (p5.ext hE); replace p6 := (p6.ext hE); replace p7 := (p7.ext hE); replace p8 := (p8.ext hE); clear hE
 obtain ⟨k4a, k4b, k4c, k4d, k4e, k4f⟩ := p4.c6
 have k5a := p5.cell 0 (v := .int .i64 (K : Int)) rfl
 obtain ⟨k6a, k6b⟩ := p6.c2
 obtain ⟨k7a, k7b, k7c, k7d⟩ := p7.c4
 obtain ⟨k8a, k8b, k8c, k8d⟩ := p8.c4
 go_wp2_with fail
 clear k4a k4b k4c k4d k4e k4f k5a k6a k6b k7a k7b k7c k7d k8a k8b k8c k8d
 refine (Try.adamBehind K HK.out p1 p5).mono ?_
 rintro e Wb1 ⟨rfl, hE⟩
 rw [H1.out]; replace E0 := (Ext.trans E0 hE); replace hiv := (hiv.ext hE); replace p4 := (p4.ext hE); replace p5 := (p5.ext hE); replace p6 := (p6.ext hE); replace p7 := (p7.ext hE); replace p8 := (p8.ext hE); clear hE
 obtain ⟨k4a, k4b, k4c, k4d, k4e, k4f⟩ := p4.c6
 have k5a := p5.cell 0 (v := .int .i64 (K : Int)) rfl
 obtain ⟨k6a, k6b⟩ := p6.c2
 obtain ⟨k7a, k7b, k7c, k7d⟩ := p7.c4
 obtain ⟨k8a, k8b, k8c, k8d⟩ := p8.c4
 go_wp2_with fail
 clear k4a k4b k4c k4d k4e k4f k5a k6a k6b k7a k7b k7c k7d k8a k8b k8c k8d
 refine (Try.adamNeg hiv).mono ?_
 rintro e Wn ⟨rfl, hE⟩
 rw [H2.out]; replace E0 := (Ext.trans E0 hE); replace hiv := (hiv.ext hE); replace p4 := (p4.ext hE); replace p5 := (p5.ext hE); replace p6 := (p6.ext hE); replace p7 := (p7.ext hE); replace p8 := (p8.ext hE); clear hE
 by_cases e0 : n1 = n0
 ·subst e0
  by_cases e1 : n2 = n1
  ·subst e1
   have NE : ((n3 : Int) != (n2 : Int)) = true := bne_iff_ne.2 (by omega)
   clear hN
   have z80 : Wn.frozen? ⟨w.heap.size + 1 + 1 + 1 + 1, 0, none⟩ = false := by simp [World.frozen?, show Wn.heap[w.heap.size + 1 + 1 + 1 + 1]? = _ from p8]
   have z81 : Wn.frozen? ⟨w.heap.size + 1 + 1 + 1 + 1, 1, none⟩ = false := by simp [World.frozen?, show Wn.heap[w.heap.size + 1 + 1 + 1 + 1]? = _ from p8]
   have z82 : Wn.frozen? ⟨w.heap.size + 1 + 1 + 1 + 1, 2, none⟩ = false := by simp [World.frozen?, show Wn.heap[w.heap.size + 1 + 1 + 1 + 1]? = _ from p8]
   have z83 : Wn.frozen? ⟨w.heap.size + 1 + 1 + 1 + 1, 3, none⟩ = false := by simp [World.frozen?, show Wn.heap[w.heap.size + 1 + 1 + 1 + 1]? = _ from p8]
   obtain ⟨k4a, k4b, k4c, k4d, k4e, k4f⟩ := p4.c6
   have k5a := p5.cell 0 (v := .int .i64 (K : Int)) rfl
   obtain ⟨k6a, k6b⟩ := p6.c2
   obtain ⟨k7a, k7b, k7c, k7d⟩ := p7.c4
   obtain ⟨k8a, k8b, k8c, k8d⟩ := p8.c4
   go_wp2; clear k4a k4b k4c k4d k4e k4f k5a k6a k6b k7a k7b k7c k7d k8a k8b k8c k8d
   obtain ⟨W2, hW2, hw, hq⟩ := (Form4.of p8).put none 0 0 none 0 0 none 0 0 none 0 0
   rw [← hW2]
   obtain ⟨k80, k81, k82, k83⟩ := hq.c4
   exact bodyPost_ret (v := .tuple #[.agg #[.slice none 0 0, .slice none 0 0, .slice none 0 0, .slice none 0 0], .int .i64 5]) (by simp [results, Try.results14, go_sem, k80, k81, k82, k83]) rfl ⟨rfl, Ext.wr E0 hw (by omega)⟩
  ·have NE : ((n2 : Int) != (n1 : Int)) = true := bne_iff_ne.2 (by omega)
   clear e1 hN
   have z80 : Wn.frozen? ⟨w.heap.size + 1 + 1 + 1 + 1, 0, none⟩ = false := by simp [World.frozen?, show Wn.heap[w.heap.size + 1 + 1 + 1 + 1]? = _ from p8]
   have z81 : Wn.frozen? ⟨w.heap.size + 1 + 1 + 1 + 1, 1, none⟩ = false := by simp [World.frozen?, show Wn.heap[w.heap.size + 1 + 1 + 1 + 1]? = _ from p8]
   have z82 : Wn.frozen? ⟨w.heap.size + 1 + 1 + 1 + 1, 2, none⟩ = false := by simp [World.frozen?, show Wn.heap[w.heap.size + 1 + 1 + 1 + 1]? = _ from p8]
   have z83 : Wn.frozen? ⟨w.heap.size + 1 + 1 + 1 + 1, 3, none⟩ = false := by simp [World.frozen?, show Wn.heap[w.heap.size + 1 + 1 + 1 + 1]? = _ from p8]
   obtain ⟨k4a, k4b, k4c, k4d, k4e, k4f⟩ := p4.c6
   have k5a := p5.cell 0 (v := .int .i64 (K : Int)) rfl
   obtain ⟨k6a, k6b⟩ := p6.c2
   obtain ⟨k7a, k7b, k7c, k7d⟩ := p7.c4
   obtain ⟨k8a, k8b, k8c, k8d⟩ := p8.c4
   go_wp2; clear k4a k4b k4c k4d k4e k4f k5a k6a k6b k7a k7b k7c k7d k8a k8b k8c k8d
   obtain ⟨W2, hW2, hw, hq⟩ := (Form4.of p8).put none 0 0 none 0 0 none 0 0 none 0 0
   rw [← hW2]
   obtain ⟨k80, k81, k82, k83⟩ := hq.c4
   exact bodyPost_ret (v := .tuple #[.agg #[.slice none 0 0, .slice none 0 0, .slice none 0 0, .slice none 0 0], .int .i64 5]) (by simp [results, Try.results14, go_sem, k80, k81, k82, k83]) rfl ⟨rfl, Ext.wr E0 hw (by omega)⟩
 ·have NE : ((n1 : Int) != (n0 : Int)) = true := bne_iff_ne.2 (by omega)
  clear e0 hN
  have z80 : Wn.frozen? ⟨w.heap.size + 1 + 1 + 1 + 1, 0, none⟩ = false := by simp [World.frozen?, show Wn.heap[w.heap.size + 1 + 1 + 1 + 1]? = _ from p8]
  have z81 : Wn.frozen? ⟨w.heap.size + 1 + 1 + 1 + 1, 1, none⟩ = false := by simp [World.frozen?, show Wn.heap[w.heap.size + 1 + 1 + 1 + 1]? = _ from p8]
  have z82 : Wn.frozen? ⟨w.heap.size + 1 + 1 + 1 + 1, 2, none⟩ = false := by simp [World.frozen?, show Wn.heap[w.heap.size + 1 + 1 + 1 + 1]? = _ from p8]
  have z83 : Wn.frozen? ⟨w.heap.size + 1 + 1 + 1 + 1, 3, none⟩ = false := by simp [World.frozen?, show Wn.heap[w.heap.size + 1 + 1 + 1 + 1]? = _ from p8]
  obtain ⟨k4a, k4b, k4c, k4d, k4e, k4f⟩ := p4.c6
  have k5a := p5.cell 0 (v := .int .i64 (K : Int)) rfl
  obtain ⟨k6a, k6b⟩ := p6.c2
  obtain ⟨k7a, k7b, k7c, k7d⟩ := p7.c4
  obtain ⟨k8a, k8b, k8c, k8d⟩ := p8.c4
  go_wp2; clear k4a k4b k4c k4d k4e k4f k5a k6a k6b k7a k7b k7c k7d k8a k8b k8c k8d
  obtain ⟨W2, hW2, hw, hq⟩ := (Form4.of p8).put none 0 0 none 0 0 none 0 0 none 0 0
  rw [← hW2]
  obtain ⟨k80, k81, k82, k83⟩ := hq.c4
  exact bodyPost_ret (v := .tuple #[.agg #[.slice none 0 0, .slice none 0 0, .slice none 0 0, .slice none 0 0], .int .i64 5]) (by simp [results, Try.results14, go_sem, k80, k81, k82, k83]) rfl ⟨rfl, Ext.wr E0 hw (by omega)⟩

set_option maxRecDepth 100000 in
set_option maxHeartbeats 8000000 in
theorem Try.adamStepGo (lr b1 b2 eps wd p0 p1 : Int) (ap : Bool) (K : Nat) {n : Nat} {a0 : Option Addr} {c0 : Nat}  {a1 : Option Addr} {c1 : Nat}  {a2 : Option Addr} {c2 : Nat}  {a3 : Option Addr} {c3 : Nat} {lw lm lv lg : List Int} (w : World) (hR : rightA ⟨lr, b1, b2, eps, wd, ap⟩ (K : Int) = true) (h0 : mayB K p0 = true) (h1 : mayB K p1 = true) (h2 : negB lv = false) (hn : n ≤ 40) (q1 : I64 lr) (q2 : I64 eps) (q3 : I64 wd) (hi0 : Iw 0 w.heap.size w a0 n c0 lw) (hi1 : Iw 0 w.heap.size w a1 n c1 lm) (hiv : Iw 0 w.heap.size w a2 n c2 lv) (hi3 : Iw 0 w.heap.size w a3 n c3 lg) :
  Calls Try.prog 14 #[.agg #[.int .i64 lr, .int .i64 b1, .int .i64 b2, .int .i64 eps, .int .i64 wd, .bool ap], .int .i64 (K : Int), .agg #[.int .i64 p0, .int .i64 p1], .agg #[.slice a0 n c0, .slice a1 n c1, .slice a2 n c2, .slice a3 n c3]] w fun e w' => Ext w w' ∧ (((∀ i, i < n → (fun i : Nat => placeO K ⟨lr, b1, b2, eps, wd, ap⟩ p0 p1 (atL lw i) (atL lm i) (atL lv i) (atL lg i)) i ≠ none) ∧ ∃ v, e = .returned (.tuple #[v, .int .i64 0]) ∧ RowsAt w w' v n (fun i => p1of ((fun i : Nat => placeO K ⟨lr, b1, b2, eps, wd, ap⟩ p0 p1 (atL lw i) (atL lm i) (atL lv i) (atL lg i)) i)) (fun i => p2of ((fun i : Nat => placeO K ⟨lr, b1, b2, eps, wd, ap⟩ p0 p1 (atL lw i) (atL lm i) (atL lv i) (atL lg i)) i)) (fun i => p3of ((fun i : Nat => placeO K ⟨lr, b1, b2, eps, wd, ap⟩ p0 p1 (atL lw i) (atL lm i) (atL lv i) (atL lg i)) i))) ∨
   ((∃ i, i < n ∧ (fun i : Nat => placeO K ⟨lr, b1, b2, eps, wd, ap⟩ p0 p1 (atL lw i) (atL lm i) (atL lv i) (atL lg i)) i = none) ∧ e = .returned (.tuple #[.agg #[.slice none 0 0, .slice none 0 0, .slice none 0 0, .slice none 0 0], .int .i64 2]))) := by
 have HIN : Hid (∀ i, i < n → PlaceIn K ⟨lr, b1, b2, eps, wd, ap⟩ p0 p1 (atL lw i) (atL lm i) (atL lv i) (atL lg i)) := Lib.hid (fun i hi => placeIn hR q1 q2 q3 h0 h1 (hi0.i64 hi) (hi1.i64 hi) (negB_at h2 (by rw [hiv.len]; exact hi)) (hiv.i64 hi) (hi3.i64 hi))
 have HNN := Lib.hid hn
 have HR := Lib.hid hR
 have HK : Hid (K ≤ 40) := Lib.hid (by have := rightA_iff.1 hR; omega)
 have H0 := Lib.hid h0
 have H1 := Lib.hid h1
 have H2 := Lib.hid h2
 clear hR h0 h1 h2
 obtain ⟨pl, hpl⟩ : ∃ pl : Nat → Option (Int × Int × Int), pl = (fun i : Nat => placeO K ⟨lr, b1, b2, eps, wd, ap⟩ p0 p1 (atL lw i) (atL lm i) (atL lv i) (atL lg i)) := ⟨_, rfl⟩
 rw [← hpl]
 have HPL := Lib.hid hpl
 clear hpl q1 q2 q3 hn
 have hmf : ∀ (fn : Fn) (first cap : Array Value) (W : World), (Instr.makeFunc fn first cap).run Try.prog W = .ok (.func fn first cap) W := fun _ _ _ _ => rfl
 obtain ⟨W0, hW0, E0, p4, p5, p6, p7, p8⟩ := boxed5 w 42 #[.int .i64 lr, .int .i64 b1, .int .i64 b2, .int .i64 eps, .int .i64 wd, .bool ap] 3 #[.int .i64 (K : Int)] 43 #[.int .i64 p0, .int .i64 p1] 27 #[.slice a0 n c0, .slice a1 n c1, .slice a2 n c2, .slice a3 n c3] 27 #[.slice none 0 0, .slice none 0 0, .slice none 0 0, .slice none 0 0]
 replace p6 := p6.b2
 replace hi0 : Iw 0 w.heap.size W0 a0 n c0 (lw) := hi0.ext E0
 replace hi1 : Iw 0 w.heap.size W0 a1 n c1 (lm) := hi1.ext E0
 replace hiv : Iw 0 w.heap.size W0 a2 n c2 (lv) := hiv.ext E0
 replace hi3 : Iw 0 w.heap.size W0 a3 n c3 (lg) := hi3.ext E0
 go_enter Try.func14, Try.ntmps14
 obtain ⟨k4a, k4b, k4c, k4d, k4e, k4f⟩ := p4.c6
 have k5a := p5.cell 0 (v := .int .i64 (K : Int)) rfl
 obtain ⟨k6a, k6b⟩ := p6.c2
 obtain ⟨k7a, k7b, k7c, k7d⟩ := p7.c4
 obtain ⟨k8a, k8b, k8c, k8d⟩ := p8.c4
 go_wp2_with fail
 rw [← hW0]
 clear hW0; clear k4a k4b k4c k4d k4e k4f k5a k6a k6b k7a k7b k7c k7d k8a k8b k8c k8d
 refine (Try.adamRight lr b1 b2 eps wd (K : Int) ap _).mono ?_
 rintro e Wri ⟨rfl, hE⟩
 rw [HR.out]; replace E0 := (Ext.trans E0 hE); replace hi0 := (hi0.ext hE); replace hi1 := (hi1.ext hE); replace hiv := (hiv.ext hE); replace hi3 := (hi3.ext hE); replace p4 := (p4.ext hE); replace p5 := (p5.ext hE); replace p6 := (p6.ext hE); replace p7 := (p7.ext hE); replace p8 := (p8.ext hE); clear hE
 obtain ⟨k4a, k4b, k4c, k4d, k4e, k4f⟩ := p4.c6
 have k5a := p5.cell 0 (v := .int .i64 (K : Int)) rfl
 obtain ⟨k6a, k6b⟩ := p6.c2
 obtain ⟨k7a, k7b, k7c, k7d⟩ := p7.c4
 obtain ⟨k8a, k8b, k8c, k8d⟩ := p8.c4
 go_wp2_with fail
 clear k4a k4b k4c k4d k4e k4f k5a k6a k6b k7a k7b k7c k7d k8a k8b k8c k8d
 refine (Try.adamBehind K HK.out p0 p5).mono ?_
 rintro e Wb0 ⟨rfl, hE⟩
 rw [H0.out]; replace E0 := (Ext.trans E0 hE); replace hi0 := (hi0.ext hE); replace hi1 := (hi1.ext hE); replace hiv := (hiv.ext hE); replace hi3 := (hi3.ext hE); replace p4 := (p4.ext hE); replace p5 := (p5.ext hE); replace p6 := (p6.ext hE); replace p7 := (p7.ext hE); replace p8 := (p8.ext hE); clear hE
 obtain ⟨k4a, k4b, k4c, k4d, k4e, k4f⟩ := p4.c6
 have k5a := p5.cell 0 (v := .int .i64 (K : Int)) rfl
 obtain ⟨k6a, k6b⟩ := p6.c2
 obtain ⟨k7a, k7b, k7c, k7d⟩ := p7.c4
 obtain ⟨k8a, k8b, k8c, k8d⟩ := p8.c4
 go_wp2_with fail
 clear k4a k4b k4c k4d k4e k4f k5a k6a k6b k7a k7b k7c k7d k8a k8b k8c k8d
 refine (Try.adamBehind K HK.out p1 p5).mono ?_
 rintro e Wb1 ⟨rfl, hE⟩
 rw [H1.out]; replace E0 := (Ext.trans E0 hE); replace hi0 := (hi0.ext hE); replace hi1 := (hi1.ext hE); replace hiv := (hiv.ext hE); replace hi3 := (hi3.ext hE); replace p4 := (p4.ext hE); replace p5 := (p5.ext hE); replace p6 := (p6.ext hE); replace p7 := (p7.ext hE); replace p8 := (p8.ext hE); clear hE
 obtain ⟨k4a, k4b, k4c, k4d, k4e, k4f⟩ := p4.c6
 have k5a := p5.cell 0 (v := .int .i64 (K : Int)) rfl
 obtain ⟨k6a, k6b⟩ := p6.c2
 obtain ⟨k7a, k7b, k7c, k7d⟩ := p7.c4
 obtain ⟨k8a, k8b, k8c, k8d⟩ := p8.c4
 go_wp2_with fail
 clear k4a k4b k4c k4d k4e k4f k5a k6a k6b k7a k7b k7c k7d k8a k8b k8c k8d
 refine (Try.adamNeg hiv).mono ?_
 rintro e Wn ⟨rfl, hE⟩
 rw [H2.out]; replace E0 := (Ext.trans E0 hE); replace hi0 := (hi0.ext hE); replace hi1 := (hi1.ext hE); replace hiv := (hiv.ext hE); replace hi3 := (hi3.ext hE); replace p4 := (p4.ext hE); replace p5 := (p5.ext hE); replace p6 := (p6.ext hE); replace p7 := (p7.ext hE); replace p8 := (p8.ext hE); clear hE
 obtain ⟨k4a, k4b, k4c, k4d, k4e, k4f⟩ := p4.c6
 have k5a := p5.cell 0 (v := .int .i64 (K : Int)) rfl
 obtain ⟨k6a, k6b⟩ := p6.c2
 obtain ⟨k7a, k7b, k7c, k7d⟩ := p7.c4
 obtain ⟨k8a, k8b, k8c, k8d⟩ := p8.c4
 go_wp2_with fail
 clear k4a k4b k4c k4d k4e k4f k5a k6a k6b k7a k7b k7c k7d k8a k8b k8c k8d
 have szc := Ext.size E0
 refine (Try.adamPlaces _ HNN.out (hi0.mono (Nat.le_refl _) szc) (hi1.mono (Nat.le_refl _) szc) (hiv.mono (Nat.le_refl _) szc) (hi3.mono (Nat.le_refl _) szc) HIN.out).mono ?_
 rintro e Wp ⟨hE, hR | hR⟩
 ·obtain ⟨hall, g1, g2, g3, rfl, i1, i2, i3⟩ := hR
  rw [← HPL.out] at hall i1 i2 i3
  have HALL := Lib.hid hall
  clear hall
  have lt8c := BxA.lt p8
  replace E0 := (Ext.trans E0 hE); replace hi0 := (hi0.ext hE); replace hi1 := (hi1.ext hE); replace hiv := (hiv.ext hE); replace hi3 := (hi3.ext hE); replace p4 := (p4.ext hE); replace p5 := (p5.ext hE); replace p6 := (p6.ext hE); replace p7 := (p7.ext hE); replace p8 := (p8.ext hE)
  have szp := Ext.size hE
  clear hE
  have z80 : Wp.frozen? ⟨w.heap.size + 1 + 1 + 1 + 1, 0, none⟩ = false := by simp [World.frozen?, show Wp.heap[w.heap.size + 1 + 1 + 1 + 1]? = _ from p8]
  have z81 : Wp.frozen? ⟨w.heap.size + 1 + 1 + 1 + 1, 1, none⟩ = false := by simp [World.frozen?, show Wp.heap[w.heap.size + 1 + 1 + 1 + 1]? = _ from p8]
  have z82 : Wp.frozen? ⟨w.heap.size + 1 + 1 + 1 + 1, 2, none⟩ = false := by simp [World.frozen?, show Wp.heap[w.heap.size + 1 + 1 + 1 + 1]? = _ from p8]
  have z83 : Wp.frozen? ⟨w.heap.size + 1 + 1 + 1 + 1, 3, none⟩ = false := by simp [World.frozen?, show Wp.heap[w.heap.size + 1 + 1 + 1 + 1]? = _ from p8]
  simp only [Three.val]
  obtain ⟨k4a, k4b, k4c, k4d, k4e, k4f⟩ := p4.c6
  have k5a := p5.cell 0 (v := .int .i64 (K : Int)) rfl
  obtain ⟨k6a, k6b⟩ := p6.c2
  obtain ⟨k7a, k7b, k7c, k7d⟩ := p7.c4
  obtain ⟨k8a, k8b, k8c, k8d⟩ := p8.c4
  go_wp2; clear k4a k4b k4c k4d k4e k4f k5a k6a k6b k7a k7b k7c k7d k8a k8b k8c k8d
  obtain ⟨W2, hW2, hw, hq⟩ := (Form4.of p8).put (some ⟨g1, 0, none⟩) n n (some ⟨g2, 0, none⟩) n n (some ⟨g3, 0, none⟩) n n none 0 0
  rw [← hW2]
  have szw := hw.apart.size
  obtain ⟨k80, k81, k82, k83⟩ := hq.c4
  exact bodyPost_ret (v := .tuple #[.agg #[.slice (some ⟨g1, 0, none⟩) n n, .slice (some ⟨g2, 0, none⟩) n n, .slice (some ⟨g3, 0, none⟩) n n, .slice none 0 0], .int .i64 0]) (by simp [results, Try.results14, go_sem, k80, k81, k82, k83]) rfl ⟨Ext.wr E0 hw (by omega), .inl ⟨HALL.out, _, rfl, g1, g2, g3, rfl, (i1.wr hw (by omega)).mono (by omega) szw, (i2.wr hw (by omega)).mono (by omega) szw, (i3.wr hw (by omega)).mono (by omega) szw⟩⟩
 ·obtain ⟨hall, rfl⟩ := hR
  rw [← HPL.out] at hall
  have HALL := Lib.hid hall
  clear hall
  have lt8c := BxA.lt p8
  replace E0 := (Ext.trans E0 hE); replace hi0 := (hi0.ext hE); replace hi1 := (hi1.ext hE); replace hiv := (hiv.ext hE); replace hi3 := (hi3.ext hE); replace p4 := (p4.ext hE); replace p5 := (p5.ext hE); replace p6 := (p6.ext hE); replace p7 := (p7.ext hE); replace p8 := (p8.ext hE)
  have szp := Ext.size hE
  clear hE
  have z80 : Wp.frozen? ⟨w.heap.size + 1 + 1 + 1 + 1, 0, none⟩ = false := by simp [World.frozen?, show Wp.heap[w.heap.size + 1 + 1 + 1 + 1]? = _ from p8]
  have z81 : Wp.frozen? ⟨w.heap.size + 1 + 1 + 1 + 1, 1, none⟩ = false := by simp [World.frozen?, show Wp.heap[w.heap.size + 1 + 1 + 1 + 1]? = _ from p8]
  have z82 : Wp.frozen? ⟨w.heap.size + 1 + 1 + 1 + 1, 2, none⟩ = false := by simp [World.frozen?, show Wp.heap[w.heap.size + 1 + 1 + 1 + 1]? = _ from p8]
  have z83 : Wp.frozen? ⟨w.heap.size + 1 + 1 + 1 + 1, 3, none⟩ = false := by simp [World.frozen?, show Wp.heap[w.heap.size + 1 + 1 + 1 + 1]? = _ from p8]
  obtain ⟨k4a, k4b, k4c, k4d, k4e, k4f⟩ := p4.c6
  have k5a := p5.cell 0 (v := .int .i64 (K : Int)) rfl
  obtain ⟨k6a, k6b⟩ := p6.c2
  obtain ⟨k7a, k7b, k7c, k7d⟩ := p7.c4
  obtain ⟨k8a, k8b, k8c, k8d⟩ := p8.c4
  go_wp2; clear k4a k4b k4c k4d k4e k4f k5a k6a k6b k7a k7b k7c k7d k8a k8b k8c k8d
  obtain ⟨W2, hW2, hw, hq⟩ := (Form4.of p8).put none 0 0 none 0 0 none 0 0 none 0 0
  rw [← hW2]
  have szw := hw.apart.size
  obtain ⟨k80, k81, k82, k83⟩ := hq.c4
  exact bodyPost_ret (v := .tuple #[.agg #[.slice none 0 0, .slice none 0 0, .slice none 0 0, .slice none 0 0], .int .i64 2]) (by simp [results, Try.results14, go_sem, k80, k81, k82, k83]) rfl ⟨Ext.wr E0 hw (by omega), .inr ⟨HALL.out, rfl⟩⟩


end Go.Rt

namespace Go.Rt
open Go Go.RowKit Go.Proofs

set_option maxRecDepth 100000 in
set_option maxHeartbeats 4000000 in
theorem Try.adamPowers (lr b1 b2 eps wd p0 p1 : Int) {x y : Int} (ap : Bool) (K : Nat) (hK : K ≤ 40) (h0 : I64 p0) (h1 : I64 p1) (h2 : I64 b1) (h3 : I64 b2) (hx : mulO K p0 b1 = some x) (hy : mulO K p1 b2 = some y) (w : World) :
  Calls Try.prog 22 #[.agg #[.int .i64 lr, .int .i64 b1, .int .i64 b2, .int .i64 eps, .int .i64 wd, .bool ap], .int .i64 (K : Int), .agg #[.int .i64 p0, .int .i64 p1]] w fun e w' => e = .returned (.agg #[.int .i64 x, .int .i64 y]) ∧ Ext w w' := by
 obtain ⟨k1, k2⟩ := okZ_some hx
 obtain ⟨k3, k4⟩ := okZ_some hy
 have HV1 : Hid (fitV (mulZ K p0 b1) = x) := Lib.hid ((fitV_in k1).trans k2)
 have HE1 : Hid (fitE (mulZ K p0 b1) = 0) := Lib.hid (fitE_in k1)
 have HV2 : Hid (fitV (mulZ K p1 b2) = y) := Lib.hid ((fitV_in k3).trans k4)
 have HE2 : Hid (fitE (mulZ K p1 b2) = 0) := Lib.hid (fitE_in k3)
 have HK := Lib.hid hK
 have HI := Lib.hid (And.intro (And.intro h0 h1) (And.intro h2 h3))
 clear hx hy k1 k2 k3 k4 hK h0 h1 h2 h3
 obtain ⟨W0, hW0, E0, p3, p5, p6⟩ := boxed3 w 42 #[.int .i64 lr, .int .i64 b1, .int .i64 b2, .int .i64 eps, .int .i64 wd, .bool ap] 43 #[.int .i64 p0, .int .i64 p1] 43 #[.int .i64 0, .int .i64 0]
 replace p5 := p5.b2
 replace p6 := p6.b2
 go_enter Try.func22, Try.ntmps22
 obtain ⟨k3a, k3b, k3c, k3d, k3e, k3f⟩ := p3.c6
 obtain ⟨k5a, k5b⟩ := p5.c2
 obtain ⟨k6a, k6b⟩ := p6.c2
 go_upto_region 1 with (fail)
 rw [← hW0]
 clear hW0; clear k3a k3b k3c k3d k3e k3f k5a k5b k6a k6b; have ltp3 := p3.lt; have ltp5 := p5.lt; have ltp6 := p6.lt; have szw1 := Ext.size E0
 refine region_gk [isV (.pointer (some ⟨w.heap.size + 1, 0, none⟩)), isV (.int .i64 p0), isV (.pointer (some ⟨w.heap.size, 1, none⟩)), isV (.int .i64 b1), isV (.int .i64 (K : Int)), isV (.tuple #[.int .i64 x, .int .i64 0]), isV (.tuple #[.int .i64 x, .int .i64 0]), isV (.int .i64 x), isV (.int .i64 0), isV (.int .i64 x),
   .one fun v _ => v = .int .i64 0] ⟨Good.is _, Good.is _, Good.is _, Good.is _, Good.is _, Good.is _, Good.is _, Good.is _, Good.is _, Good.is _, Good.is _, trivial⟩ (E0.s.k (p3.s.k (p5.s.k (p6.s)))) (A := ?A1) ?hA1 ?howe1 ?hfin1
 case hA1 =>
  intro vs
  simp only [putAll, Act.put, sA, sZ, sS, Nat.zero_add, Nat.reduceAdd]
  exact rfl
 case howe1 =>
  clear E0 p3 p5 p6
  intro hf
  refine ⟨oP0 0 [] hf rfl, oE 1 [0] hf rfl ?_, oP0 2 [] hf rfl, oE 3 [2] hf rfl ?_, oP0 4 [] hf rfl, oE 5 [1, 3, 4] hf rfl ?_, oP1 6 [5] hf rfl, oP1 7 [6] hf rfl, oP1 8 [6] hf rfl, oP1 9 [7] hf rfl, oP1 10 [8] hf rfl, trivial⟩
  all_goals intro vs W hS hp hx KO hKO
  all_goals simp only [Act.put, sA, sZ, sS] at hKO
  ·have e0 := isOf hp.1; simp only [e0] at hKO; have fc0 := hS.1.2.2.1.cell0; go_simp; exact hKO _ W (.refl W) rfl
  ·have e2 := isOf hp.1; simp only [e2] at hKO; have fc1 := BxA.cell (hS.1.2.1) 1 (v := .int .i64 b1) rfl; go_simp; exact hKO _ W (.refl W) rfl
  ·have e1 := isOf hp.1; have e3 := isOf hp.2.1; have e4 := isOf hp.2.2.1; simp only [e1, e3, e4] at hKO; go_simp
   refine (Try.fixMulV p0 b1 K HK.out _ HI.out.1.1.1 HI.out.1.1.2 HI.out.2.1.1 HI.out.2.1.2 HV1.out HE1.out).mono ?_
   rintro e W1 ⟨rfl, hE⟩
   exact hKO _ W1 hE rfl
 intro vs W1 hS hp
 clear szw1 E0 p3 p5 p6
 obtain ⟨⟨E0, p3, p5, p6⟩, sz1⟩ := hS
 obtain ⟨h1_0, h1_1, h1_2, h1_3, h1_4, h1_5, h1_6, h1_7, h1_8, h1_9, h1_10, -⟩ := hp
 simp only [isOf h1_0, isOf h1_1, isOf h1_2, isOf h1_3, isOf h1_4, isOf h1_5, isOf h1_6, isOf h1_7, isOf h1_8, isOf h1_9, isOf h1_10]
 clear h1_0 h1_1 h1_2 h1_3 h1_4 h1_5 h1_6 h1_7 h1_8 h1_9 h1_10
 obtain ⟨k3a, k3b, k3c, k3d, k3e, k3f⟩ := p3.c6
 obtain ⟨k5a, k5b⟩ := p5.c2
 obtain ⟨k6a, k6b⟩ := p6.c2
 go_upto_region 2 with (fail)
 clear k3a k3b k3c k3d k3e k3f k5a k5b k6a k6b; have szw2 := Ext.size E0
 refine region_gk [isV (.pointer (some ⟨w.heap.size + 1, 1, none⟩)), isV (.int .i64 p1), isV (.pointer (some ⟨w.heap.size, 2, none⟩)), isV (.int .i64 b2), isV (.int .i64 (K : Int)), isV (.tuple #[.int .i64 y, .int .i64 0]), isV (.tuple #[.int .i64 y, .int .i64 0]), isV (.int .i64 y), isV (.int .i64 0), isV (.int .i64 y),
   .one fun v _ => v = .int .i64 0] ⟨Good.is _, Good.is _, Good.is _, Good.is _, Good.is _, Good.is _, Good.is _, Good.is _, Good.is _, Good.is _, Good.is _, trivial⟩ (E0.s.k (p3.s.k (p5.s.k (p6.s)))) (A := ?A2) ?hA2 ?howe2 ?hfin2
 case hA2 =>
  intro vs
  simp only [putAll, Act.put, sA, sZ, sS, Nat.zero_add, Nat.reduceAdd]
  exact rfl
 case howe2 =>
  clear E0 p3 p5 p6
  intro hf
  refine ⟨oP0 0 [] hf rfl, oE 1 [0] hf rfl ?_, oP0 2 [] hf rfl, oE 3 [2] hf rfl ?_, oP0 4 [] hf rfl, oE 5 [1, 3, 4] hf rfl ?_, oP1 6 [5] hf rfl, oP1 7 [6] hf rfl, oP1 8 [6] hf rfl, oP1 9 [7] hf rfl, oP1 10 [8] hf rfl, trivial⟩
  all_goals intro vs W hS hp hx KO hKO
  all_goals simp only [Act.put, sA, sZ, sS] at hKO
  ·have e0 := isOf hp.1; simp only [e0] at hKO; have fc1 := hS.1.2.2.1.cell1; go_simp; exact hKO _ W (.refl W) rfl
  ·have e2 := isOf hp.1; simp only [e2] at hKO; have fc2 := BxA.cell (hS.1.2.1) 2 (v := .int .i64 b2) rfl; go_simp; exact hKO _ W (.refl W) rfl
  ·have e1 := isOf hp.1; have e3 := isOf hp.2.1; have e4 := isOf hp.2.2.1; simp only [e1, e3, e4] at hKO; go_simp
   refine (Try.fixMulV p1 b2 K HK.out _ HI.out.1.2.1 HI.out.1.2.2 HI.out.2.2.1 HI.out.2.2.2 HV2.out HE2.out).mono ?_
   rintro e W1 ⟨rfl, hE⟩
   exact hKO _ W1 hE rfl
 intro vs W2 hS hp
 clear szw2 E0 p3 p5 p6
 obtain ⟨⟨E0, p3, p5, p6⟩, sz2⟩ := hS
 obtain ⟨h2_0, h2_1, h2_2, h2_3, h2_4, h2_5, h2_6, h2_7, h2_8, h2_9, h2_10, -⟩ := hp
 simp only [isOf h2_0, isOf h2_1, isOf h2_2, isOf h2_3, isOf h2_4, isOf h2_5, isOf h2_6, isOf h2_7, isOf h2_8, isOf h2_9, isOf h2_10]
 clear h2_0 h2_1 h2_2 h2_3 h2_4 h2_5 h2_6 h2_7 h2_8 h2_9 h2_10
 have r6 : RowI W2 (w.heap.size + 1 + 1) 43 [0, 0] := p6
 have z60 := r6.froz 0
 have z61 := r6.froz 1
 obtain ⟨k3a, k3b, k3c, k3d, k3e, k3f⟩ := p3.c6
 obtain ⟨k5a, k5b⟩ := p5.c2
 obtain ⟨k6a, k6b⟩ := p6.c2
 go_wp2; clear k3a k3b k3c k3d k3e k3f k5a k5b k6a k6b
 have hw1 := Wr.row r6 0 x
 have r7 := r6.set 0 x
 have hw2 := Wr.row r7 1 y
 have r8 := r7.set 1 y
 have k80 := BxA.cell r8 0 (v := .int .i64 x) rfl
 have k81 := BxA.cell r8 1 (v := .int .i64 y) rfl
 exact bodyPost_ret (v := .agg #[.int .i64 x, .int .i64 y]) (by simp [results, Try.results22, go_sem, k80, k81]) rfl ⟨rfl, Ext.wr (Ext.wr E0 hw1 (by omega)) hw2 (by omega)⟩

theorem mulZ_nat (K a b : Nat) : mulZ K (a : Int) (b : Int) = ((nearN (a * b) (2 ^ K) : Nat) : Int) := by
 have h := near_ratio (a * b) (2 ^ K) (Nat.pow_pos (by omega))
 rw [← h]
 rfl

theorem divZ_nat (K a : Nat) {b : Nat} (hb : 0 < b) : divZ K (a : Int) (b : Int) = ((nearN (a * 2 ^ K) b : Nat) : Int) := by
 have h := near_ratio (a * 2 ^ K) b hb
 rw [← h]
 rfl

theorem mulO_nat {K a b c : Nat} (h : nearN (a * b) (2 ^ K) = c) (hc : c < 9223372036854775808) : mulO K (a : Int) (b : Int) = some (c : Int) := by
 unfold mulO
 rw [mulZ_nat, h]
 exact okZ_in (by omega) (by omega)

theorem divO_nat {K a b c : Nat} (hb : 0 < b) (h : nearN (a * 2 ^ K) b = c) (hc : c < 9223372036854775808) : divO K (a : Int) (b : Int) = some (c : Int) := by
 unfold divO
 rw [divZ_nat K a hb, h]
 exact okZ_in (by omega) (by omega)

theorem mix_of {K : Nat} {be a b x y z c : Int} (h0 : oneZ K - be = c) (h1 : mulO K be a = some x) (h2 : mulO K c b = some y) (h3 : addO x y = some z) : mixO K be a b = some z := by
 unfold mixO
 rw [h0, h1, Option.bind_some, h2, Option.bind_some, h3]

theorem place_of {K : Nat} {A : AdamP} {p0 p1 w m v g d m' q v' c0 c1 x y r s u t n n' : Int} (h1 : gradO K A w g = some d) (h2 : mixO K A.b1 m d = some m') (h3 : mulO K d d = some q) (h4 : mixO K A.b2 v q = some v') (k0 : oneZ K - p0 = c0) (k1 : oneZ K - p1 = c1)
  (h5 : divO K m' c0 = some x) (h6 : divO K v' c1 = some y) (hr : rootW K y = r) (h7 : addO r A.eps = some s) (h8 : divO K x s = some u) (h9 : mulO K A.lr u = some t) (h10 : subO w t = some n) (h11 : lessO K A w n = some n') :
  placeO K A p0 p1 w m v g = some (n', m', v') := by
 unfold placeO
 rw [h1, Option.bind_some, h2, Option.bind_some, h3, Option.bind_some, h4, Option.bind_some, k0, k1, h5, Option.bind_some, h6, Option.bind_some, hr, h7, Option.bind_some, h8, Option.bind_some, h9, Option.bind_some, h10, Option.bind_some, h11, Option.bind_some]

theorem place18 : placeO 8 ⟨16, 128, 128, 1, 0, false⟩ 128 128 256 0 0 256 = some (240, 128, 128) := by
 have hr : rootW 8 256 = 256 := by
  unfold rootW
  rw [show (256 : Int).toNat * 2 ^ 8 = 65536 from rfl, show rt 65536 2 = 256 from rt_eq (by omega) ⟨by decide, by decide⟩]
  rfl
 have m0 : mulO 8 0 256 = some 0 := mulO_nat (K := 8) (a := 0) (b := 256) (c := 0) (by decide) (by omega)
 have m1 : mulO 8 128 0 = some 0 := mulO_nat (K := 8) (a := 128) (b := 0) (c := 0) (by decide) (by omega)
 have m2 : mulO 8 128 256 = some 128 := mulO_nat (K := 8) (a := 128) (b := 256) (c := 128) (by decide) (by omega)
 have m3 : mulO 8 256 256 = some 256 := mulO_nat (K := 8) (a := 256) (b := 256) (c := 256) (by decide) (by omega)
 have d1 : divO 8 128 128 = some 256 := divO_nat (K := 8) (a := 128) (b := 128) (c := 256) (by omega) (by decide) (by omega)
 have d2 : divO 8 256 257 = some 255 := divO_nat (K := 8) (a := 256) (b := 257) (c := 255) (by omega) (by decide) (by omega)
 have m4 : mulO 8 16 255 = some 16 := mulO_nat (K := 8) (a := 16) (b := 255) (c := 16) (by decide) (by omega)
 have e1 : addO 256 0 = some 256 := okZ_in (by omega) (by omega)
 have e2 : addO 0 128 = some 128 := okZ_in (by omega) (by omega)
 have e5 : addO 256 1 = some 257 := okZ_in (by omega) (by omega)
 have e8 : subO 256 16 = some 240 := okZ_in (by omega) (by omega)
 have g1 : gradO 8 ⟨16, 128, 128, 1, 0, false⟩ 256 256 = some 256 := by
  have h : gradO 8 ⟨16, 128, 128, 1, 0, false⟩ 256 256 = (mulO 8 0 256).bind fun t => addO 256 t := rfl
  rw [h, m0]
  exact e1
 exact place_of g1 (mix_of (show oneZ 8 - 128 = 128 from rfl) m1 m2 e2) m3 (mix_of (show oneZ 8 - 128 = 128 from rfl) m1 m2 e2) rfl rfl d1 d1 hr e5 d2 m4 e8 rfl

set_option maxRecDepth 100000 in
set_option maxHeartbeats 8000000 in
theorem Try.alive18 (w : World) : Calls Try.prog 13 #[] w fun e w' => e = .returned (.bool true) ∧ Ext w w' := by
 have HR : Hid (rightA ⟨16, 128, 128, 1, 0, false⟩ ((8 : Nat) : Int) = true) := Lib.hid (by decide +kernel)
 have HM : Hid (mayB 8 128 = true ∧ mayB 8 256 = false) := Lib.hid (by decide +kernel)
 have HP1 : Hid (mulO 8 256 128 = some 128) := Lib.hid (mulO_nat (K := 8) (a := 256) (b := 128) (c := 128) (by decide) (by omega))
 have HI : Hid (I64 16 ∧ I64 1 ∧ I64 0 ∧ I64 128 ∧ I64 256) := Lib.hid (by unfold I64; omega)
 have heq : ∀ W, (Op.equalIn 10000 43 (.agg #[.int .i64 128, .int .i64 128]) (.agg #[.int .i64 128, .int .i64 128])).run Try.prog W = .ok true W := fun W => by
  have := run_eqPair (P := Try.prog) (t := 43) (e := 2) (k := .i64) 9998 Try.underlying43 (by kernel_rfl) (by kernel_rfl) Try.underlying2 128 128 128 128 W
  simpa using this
 go_enter Try.func13, Try.ntmps13
 have E0 := Ext.refl w
 go_upto_region 2 with (fail)
 have p1 := BxA.new w 42 #[.int .i64 16, .int .i64 128, .int .i64 128, .int .i64 1, .int .i64 0, .bool false]
 have hE := Ext.alloc1 w (.cells #[.int .i64 16, .int .i64 128, .int .i64 128, .int .i64 1, .int .i64 0, .bool false] 42)
 have hsz := Ext.size E0
 obtain ⟨U1, hU1⟩ : ∃ U1, U1 = w.alloc (.cells #[.int .i64 16, .int .i64 128, .int .i64 128, .int .i64 1, .int .i64 0, .bool false] 42) := ⟨_, rfl⟩
 rw [← hU1] at p1 hE ⊢
 clear hU1; replace E0 := (Ext.trans E0 hE); clear hE
 obtain ⟨g1, hg1⟩ : ∃ g, g = w.heap.size := ⟨_, rfl⟩
 rw [← hg1] at p1 hsz ⊢
 clear hg1 hsz
 obtain ⟨k1a, k1b, k1c, k1d, k1e, k1f⟩ := p1.c6
 go_wp2_with fail
 clear k1a k1b k1c k1d k1e k1f
 refine (Try.adamPowers 16 128 128 1 0 256 256 false 8 (by omega) HI.out.2.2.2.2 HI.out.2.2.2.2 HI.out.2.2.2.1 HI.out.2.2.2.1 HP1.out HP1.out _).mono ?_
 rintro e Wp ⟨rfl, hE⟩
 replace E0 := (Ext.trans E0 hE); replace p1 := (p1.ext hE); clear hE
 obtain ⟨k1a, k1b, k1c, k1d, k1e, k1f⟩ := p1.c6
 go_upto_region 3 with (fail)
 clear k1a k1b k1c k1d k1e k1f
 have p2 := BxA.new Wp 43 #[.int .i64 128, .int .i64 128]
 have hE := Ext.alloc1 Wp (.cells #[.int .i64 128, .int .i64 128] 43)
 have hsz := Ext.size E0
 obtain ⟨U2, hU2⟩ : ∃ U2, U2 = Wp.alloc (.cells #[.int .i64 128, .int .i64 128] 43) := ⟨_, rfl⟩
 rw [← hU2] at p2 hE ⊢
 clear hU2; replace E0 := (Ext.trans E0 hE); replace p1 := (p1.ext hE); clear hE
 obtain ⟨g2, hg2⟩ : ∃ g, g = Wp.heap.size := ⟨_, rfl⟩
 rw [← hg2] at p2 hsz ⊢
 clear hg2 hsz
 replace p2 : Bx2 U2 g2 43 (.int .i64 128) (.int .i64 128) := p2
 obtain ⟨k1a, k1b, k1c, k1d, k1e, k1f⟩ := p1.c6
 obtain ⟨k2a, k2b⟩ := p2.c2
 go_wp2_with fail
 clear k1a k1b k1c k1d k1e k1f k2a k2b
 obtain ⟨Wb, hWb⟩ : ∃ Wb, Wb = ((((U2.alloc (.cells #[.int .i64 256] 2)).alloc (.cells #[.int .i64 0] 2)).alloc (.cells #[.int .i64 0] 2)).alloc (.cells #[.int .i64 256] 2)) := ⟨_, rfl⟩
 have hE : Ext U2 Wb := by rw [hWb]; exact ((((Ext.alloc1 U2 (.cells #[.int .i64 256] 2)).alloc (.cells #[.int .i64 0] 2)).alloc (.cells #[.int .i64 0] 2)).alloc (.cells #[.int .i64 256] 2))
 have r0 : RowI Wb (U2.heap.size) 2 [256] := by rw [hWb]; exact (BxA.new U2 2 #[.int .i64 256]).ext (((Ext.alloc1 (U2.alloc (.cells #[.int .i64 256] 2)) (.cells #[.int .i64 0] 2)).alloc (.cells #[.int .i64 0] 2)).alloc (.cells #[.int .i64 256] 2))
 have r1 : RowI Wb (U2.heap.size + 1) 2 [0] := by rw [hWb]; simpa [RowI] using (BxA.new (U2.alloc (.cells #[.int .i64 256] 2)) 2 #[.int .i64 0]).ext ((Ext.alloc1 ((U2.alloc (.cells #[.int .i64 256] 2)).alloc (.cells #[.int .i64 0] 2)) (.cells #[.int .i64 0] 2)).alloc (.cells #[.int .i64 256] 2))
 have r2 : RowI Wb (U2.heap.size + 1 + 1) 2 [0] := by rw [hWb]; simpa [RowI] using (BxA.new ((U2.alloc (.cells #[.int .i64 256] 2)).alloc (.cells #[.int .i64 0] 2)) 2 #[.int .i64 0]).ext (Ext.alloc1 (((U2.alloc (.cells #[.int .i64 256] 2)).alloc (.cells #[.int .i64 0] 2)).alloc (.cells #[.int .i64 0] 2)) (.cells #[.int .i64 256] 2))
 have r3 : RowI Wb (U2.heap.size + 1 + 1 + 1) 2 [256] := by rw [hWb]; simpa [RowI] using (BxA.new (((U2.alloc (.cells #[.int .i64 256] 2)).alloc (.cells #[.int .i64 0] 2)).alloc (.cells #[.int .i64 0] 2)) 2 #[.int .i64 256])
 rw [← hWb]
 clear hWb; replace E0 := (Ext.trans E0 hE); replace p1 := (p1.ext hE); replace p2 := (p2.ext hE); clear hE
 have i0 := (r0.iw (n := 1) (fun x hx => by simp at hx; subst hx; exact ⟨by omega, by omega⟩) rfl (by omega)).mono (Nat.zero_le _) r0.lt
 have i1 := (r1.iw (n := 1) (fun x hx => by simp at hx; subst hx; exact ⟨by omega, by omega⟩) rfl (by omega)).mono (Nat.zero_le _) r1.lt
 have i2 := (r2.iw (n := 1) (fun x hx => by simp at hx; subst hx; exact ⟨by omega, by omega⟩) rfl (by omega)).mono (Nat.zero_le _) r2.lt
 have i3 := (r3.iw (n := 1) (fun x hx => by simp at hx; subst hx; exact ⟨by omega, by omega⟩) rfl (by omega)).mono (Nat.zero_le _) r3.lt
 have hnb : negB [0] = false := by decide
 have szb := Ext.size E0
 refine (Try.adamStepGo 16 128 128 1 0 128 128 false 8 _ HR.out HM.out.1 HM.out.1 hnb (by omega) HI.out.1 HI.out.2.1 HI.out.2.2.1 i0 i1 i2 i3).mono ?_
 rintro e Wp2 ⟨hE, hR | hR⟩
 ·obtain ⟨-, vz, rfl, g1r, g2r, g3r, rfl, j1, j2, j3⟩ := hR
  clear i0 i1 i2 i3 r0 r1 r2 r3 hnb szb
  have l1 : outL 1 (fun i => p1of (placeO 8 ⟨16, 128, 128, 1, 0, false⟩ 128 128 (atL [256] i) (atL [0] i) (atL [0] i) (atL [256] i))) = [240] := by
   show [p1of (placeO 8 ⟨16, 128, 128, 1, 0, false⟩ 128 128 256 0 0 256)] = [240]
   rw [place18]
   rfl
  rw [l1] at j1
  clear l1
  have m1 : Wp2.cell? ⟨g1r, 0, none⟩ = some (.int .i64 240) := by have h9 := j1.cell (i := 0) (by omega); simpa [atL] using h9
  have l2 : outL 1 (fun i => p2of (placeO 8 ⟨16, 128, 128, 1, 0, false⟩ 128 128 (atL [256] i) (atL [0] i) (atL [0] i) (atL [256] i))) = [128] := by
   show [p2of (placeO 8 ⟨16, 128, 128, 1, 0, false⟩ 128 128 256 0 0 256)] = [128]
   rw [place18]
   rfl
  rw [l2] at j2
  clear l2
  have m2 : Wp2.cell? ⟨g2r, 0, none⟩ = some (.int .i64 128) := by have h9 := j2.cell (i := 0) (by omega); simpa [atL] using h9
  have l3 : outL 1 (fun i => p3of (placeO 8 ⟨16, 128, 128, 1, 0, false⟩ 128 128 (atL [256] i) (atL [0] i) (atL [0] i) (atL [256] i))) = [128] := by
   show [p3of (placeO 8 ⟨16, 128, 128, 1, 0, false⟩ 128 128 256 0 0 256)] = [128]
   rw [place18]
   rfl
  rw [l3] at j3
  clear l3
  have m3 : Wp2.cell? ⟨g3r, 0, none⟩ = some (.int .i64 128) := by have h9 := j3.cell (i := 0) (by omega); simpa [atL] using h9
  replace E0 := (Ext.trans E0 hE); replace p1 := (p1.ext hE); replace p2 := (p2.ext hE); clear hE j1 j2 j3
  simp only [Three.val]
  obtain ⟨k1a, k1b, k1c, k1d, k1e, k1f⟩ := p1.c6
  obtain ⟨k2a, k2b⟩ := p2.c2
  go_upto_region 4 with (fail)
  clear k1a k1b k1c k1d k1e k1f k2a k2b
  have p3 := BxA.new Wp2 27 #[.slice (some ⟨g1r, 0, none⟩) 1 1, .slice (some ⟨g2r, 0, none⟩) 1 1, .slice (some ⟨g3r, 0, none⟩) 1 1, .slice none 0 0]
  have hE := Ext.alloc1 Wp2 (.cells #[.slice (some ⟨g1r, 0, none⟩) 1 1, .slice (some ⟨g2r, 0, none⟩) 1 1, .slice (some ⟨g3r, 0, none⟩) 1 1, .slice none 0 0] 27)
  have hsz := Ext.size E0
  obtain ⟨U3, hU3⟩ : ∃ U3, U3 = Wp2.alloc (.cells #[.slice (some ⟨g1r, 0, none⟩) 1 1, .slice (some ⟨g2r, 0, none⟩) 1 1, .slice (some ⟨g3r, 0, none⟩) 1 1, .slice none 0 0] 27) := ⟨_, rfl⟩
  rw [← hU3] at p3 hE ⊢
  clear hU3; replace E0 := (Ext.trans E0 hE); replace p1 := (p1.ext hE); replace p2 := (p2.ext hE)
  replace m1 := (hE.cell m1)
  replace m2 := (hE.cell m2)
  replace m3 := (hE.cell m3)
  clear hE
  obtain ⟨g3, hg3⟩ : ∃ g, g = Wp2.heap.size := ⟨_, rfl⟩
  rw [← hg3] at p3 hsz ⊢
  clear hg3 hsz
  obtain ⟨k1a, k1b, k1c, k1d, k1e, k1f⟩ := p1.c6
  obtain ⟨k2a, k2b⟩ := p2.c2
  obtain ⟨k3a, k3b, k3c, k3d⟩ := p3.c4
  go_wp2_with fail
  clear k1a k1b k1c k1d k1e k1f k2a k2b k3a k3b k3c k3d
  refine (Try.adamStepArg 16 128 128 1 0 256 0 false 8 (lv := []) _ HR.out (Iw.nil _ _ _) (.inl HM.out.2)).mono ?_
  rintro e Wq ⟨rfl, hE⟩
  replace E0 := (Ext.trans E0 hE); replace p1 := (p1.ext hE); replace p2 := (p2.ext hE)
  replace m1 := (hE.cell m1)
  replace m2 := (hE.cell m2)
  replace m3 := (hE.cell m3)
  replace p3 := (p3.ext hE); clear hE
  obtain ⟨k1a, k1b, k1c, k1d, k1e, k1f⟩ := p1.c6
  obtain ⟨k2a, k2b⟩ := p2.c2
  obtain ⟨k3a, k3b, k3c, k3d⟩ := p3.c4
  go_upto_region 5 with (fail)
  clear k1a k1b k1c k1d k1e k1f k2a k2b k3a k3b k3c k3d
  have p5 := BxA.new Wq 27 #[.slice none 0 0, .slice none 0 0, .slice none 0 0, .slice none 0 0]
  have hE := Ext.alloc1 Wq (.cells #[.slice none 0 0, .slice none 0 0, .slice none 0 0, .slice none 0 0] 27)
  have hsz := Ext.size E0
  obtain ⟨U5, hU5⟩ : ∃ U5, U5 = Wq.alloc (.cells #[.slice none 0 0, .slice none 0 0, .slice none 0 0, .slice none 0 0] 27) := ⟨_, rfl⟩
  rw [← hU5] at p5 hE ⊢
  clear hU5; replace E0 := (Ext.trans E0 hE); replace p1 := (p1.ext hE); replace p2 := (p2.ext hE)
  replace m1 := (hE.cell m1)
  replace m2 := (hE.cell m2)
  replace m3 := (hE.cell m3)
  replace p3 := (p3.ext hE); clear hE
  obtain ⟨g5, hg5⟩ : ∃ g, g = Wq.heap.size := ⟨_, rfl⟩
  rw [← hg5] at p5 hsz ⊢
  clear hg5 hsz
  obtain ⟨k1a, k1b, k1c, k1d, k1e, k1f⟩ := p1.c6
  obtain ⟨k2a, k2b⟩ := p2.c2
  obtain ⟨k3a, k3b, k3c, k3d⟩ := p3.c4
  obtain ⟨k5a, k5b, k5c, k5d⟩ := p5.c4
  go_wp2_with fail
  clear k1a k1b k1c k1d k1e k1f k2a k2b k3a k3b k3c k3d k5a k5b k5c k5d
  refine (Try.adamRight 16 128 128 1 0 8 false _).mono ?_
  rintro e Wz ⟨rfl, hE⟩
  rw [show rightA ⟨16, 128, 128, 1, 0, false⟩ 8 = true from HR.out]
  replace E0 := Ext.trans E0 hE; go_wp2; go_ret
  exact ⟨rfl, E0⟩
 ·obtain ⟨⟨i, hi, hn⟩, -⟩ := hR
  obtain rfl : i = 0 := by omega
  have h9 : placeO 8 ⟨16, 128, 128, 1, 0, false⟩ 128 128 256 0 0 256 = none := hn
  rw [place18] at h9
  cases h9


end Go.Rt
