/-
 Adam: which are right, and a step of rows, or why there is none, by the program.
-/
import Derived.Test.YtlkinepafpbhhaaGreatSqz
import Derived.Test.YtlkinepafpbhhaaGreatAdamC
namespace Go.Rt
open Go Go.RowKit Go.Proofs

theorem grow_all {p : Nat → Prop} {k : Nat} (h : ∀ j, j < k → p j) (hk : p k) : ∀ j, j < k + 1 → p j := fun j hj => by
 rcases Nat.lt_or_ge j k with h1 | h1
 ·exact h j h1
 ·obtain rfl : j = k := by omega
  exact hk

theorem mayB_iff {K : Nat} {p : Int} : mayB K p = true ↔ (0 ≤ p ∧ p < oneZ K) := by unfold mayB; exact decide_eq_true_iff

theorem rightA_nat {A : AdamP} {K : Nat} (hK : K ≤ 40) : rightA A (K : Int) = (decide (0 ≤ A.lr) && decide (0 < A.eps) && mayB K A.b1 && mayB K A.b2 && decide (0 ≤ A.wd) && decide (A.wd ≤ oneZ K)) := by
 rw [Bool.eq_iff_iff, rightA_iff]
 simp only [Bool.and_eq_true, decide_eq_true_iff, mayB_iff, Int.toNat_natCast]
 omega

theorem rightA_low {A : AdamP} {f : Int} (h : f < 0 ∨ 40 < f) : rightA A f = false := Bool.eq_false_iff.2 (fun k => by have := rightA_iff.1 k; omega)

/-- is one below nought? -/
def negB (l : List Int) : Bool := l.any fun x => decide (x < 0)

theorem negB_true {l : List Int} {i : Nat} (hi : i < l.length) (h : atL l i < 0) : negB l = true := by
 unfold negB
 rw [List.any_eq_true]
 exact ⟨atL l i, atL_mem hi, decide_eq_true h⟩

theorem negB_false {l : List Int} (h : ∀ i, i < l.length → ¬ atL l i < 0) : negB l = false := by
 unfold negB
 rw [List.any_eq_false]
 intro x hx
 obtain ⟨i, hi, rfl⟩ := List.getElem_of_mem hx
 have := h i hi
 rw [atL_eq hi] at this
 simpa using this

theorem negB_at {l : List Int} (h : negB l = false) {i : Nat} (hi : i < l.length) : 0 ≤ atL l i := by
 unfold negB at h
 rw [List.any_eq_false] at h
 have := h _ (atL_mem hi)
 simp at this
 omega

set_option maxRecDepth 100000 in
set_option maxHeartbeats 4000000 in
theorem Tryz.adamBeta {g : Nat} (K : Nat) (hK : K ≤ 40) (p : Int) {w : World} (hb : BxA w g 3 #[.int .i64 (K : Int)]) :
  Calls Tryz.prog 26 #[.int .i64 p, .pointer (some ⟨g, 0, none⟩)] w fun e w' => e = .returned (.bool (mayB K p)) ∧ Ext w w' := by
 have hc := hb.cell 0 (v := .int .i64 (K : Int)) rfl
 clear hb
 by_cases h0 : 0 ≤ p
 ·have h0d : decide (0 ≤ p) = true := decide_eq_true h0
  by_cases h1 : p < oneZ K
  ·have HR : Hid (mayB K p = true) := Lib.hid (mayB_iff.2 ⟨h0, h1⟩)
   go_enter Tryz.func26, Tryz.ntmps26
   go_wp2_with fail
   refine (Tryz.adamOne K hK _).mono ?_
   rintro e W ⟨rfl, hE⟩
   go_wp2; go_ret
   exact ⟨by rw [HR.out]; rfl, hE⟩
  ·have HR : Hid (mayB K p = false) := Lib.hid (Bool.eq_false_iff.2 (fun h => h1 (mayB_iff.1 h).2))
   have h1d : decide (p < oneZ K) = false := decide_eq_false h1
   go_enter Tryz.func26, Tryz.ntmps26
   go_wp2_with fail
   refine (Tryz.adamOne K hK _).mono ?_
   rintro e W ⟨rfl, hE⟩
   go_wp2; go_ret
   exact ⟨by rw [HR.out]; rfl, hE⟩
 ·have HR : Hid (mayB K p = false) := Lib.hid (Bool.eq_false_iff.2 (fun h => h0 (mayB_iff.1 h).1))
  have h0d : decide (0 ≤ p) = false := decide_eq_false h0
  go_enter Tryz.func26, Tryz.ntmps26
  go_wp2; go_ret
  exact ⟨by rw [HR.out]; rfl, Ext.refl _⟩

set_option maxRecDepth 100000 in
set_option maxHeartbeats 4000000 in
theorem Tryz.adamBehind {g : Nat} (K : Nat) (hK : K ≤ 40) (p : Int) {w : World} (hb : BxA w g 3 #[.int .i64 (K : Int)]) :
  Calls Tryz.prog 20 #[.int .i64 p, .pointer (some ⟨g, 0, none⟩)] w fun e w' => e = .returned (.bool (mayB K p)) ∧ Ext w w' := by
 have hc := hb.cell 0 (v := .int .i64 (K : Int)) rfl
 clear hb
 by_cases h0 : 0 ≤ p
 ·have h0d : decide (0 ≤ p) = true := decide_eq_true h0
  by_cases h1 : p < oneZ K
  ·have HR : Hid (mayB K p = true) := Lib.hid (mayB_iff.2 ⟨h0, h1⟩)
   go_enter Tryz.func20, Tryz.ntmps20
   go_wp2_with fail
   refine (Tryz.adamOne K hK _).mono ?_
   rintro e W ⟨rfl, hE⟩
   go_wp2; go_ret
   exact ⟨by rw [HR.out]; rfl, hE⟩
  ·have HR : Hid (mayB K p = false) := Lib.hid (Bool.eq_false_iff.2 (fun h => h1 (mayB_iff.1 h).2))
   have h1d : decide (p < oneZ K) = false := decide_eq_false h1
   go_enter Tryz.func20, Tryz.ntmps20
   go_wp2_with fail
   refine (Tryz.adamOne K hK _).mono ?_
   rintro e W ⟨rfl, hE⟩
   go_wp2; go_ret
   exact ⟨by rw [HR.out]; rfl, hE⟩
 ·have HR : Hid (mayB K p = false) := Lib.hid (Bool.eq_false_iff.2 (fun h => h0 (mayB_iff.1 h).1))
  have h0d : decide (0 ≤ p) = false := decide_eq_false h0
  go_enter Tryz.func20, Tryz.ntmps20
  go_wp2; go_ret
  exact ⟨by rw [HR.out]; rfl, Ext.refl _⟩

set_option maxRecDepth 100000 in
set_option maxHeartbeats 4000000 in
theorem Tryz.adamBelow (p : Int) (w : World) : Calls Tryz.prog 19 #[.int .i64 p] w fun e w' => e = .returned (.bool (decide (p < 0))) ∧ Ext w w' := by
 go_enter Tryz.func19, Tryz.ntmps19
 go_wp2
 all_goals go_ret
 all_goals exact ⟨rfl, Ext.refl _⟩

set_option maxRecDepth 100000 in
set_option maxHeartbeats 4000000 in
theorem Tryz.adamNegAt {lo hi : Nat} {a : Option Addr} {n c : Nat} {l : List Int} {w : World} (h : Iw lo hi w a n c l) :
  Calls Tryz.prog 40 #[.slice a n c, .func (.func 19) #[] #[]] w fun e w' => ∃ r : Int, e = .returned (.int .i64 r) ∧ decide (0 ≤ r) = negB l ∧ Ext w w' := by
 have hcap := h.cap
 have hlen := h.len
 have hn : n ≤ 9223372036854775807 := by omega
 have HL := Lib.hid hlen
 clear hcap hlen
 go_enter Tryz.func40, Tryz.ntmps40
 go_wp2_with fail
 go_loopw [8] (fun i wr => ∃ k : Nat, i = .int .i64 (k : Int) ∧ k ≤ n ∧ Hid (∀ j, j < k → ¬ atL l j < 0) ∧ Ext w wr) (fun i _ => n - (intOf i).toNat)
 case atStart => exact ⟨0, rfl, by omega, Lib.hid (fun j hj => absurd hj (by omega)), Ext.refl w⟩
 case round =>
  obtain ⟨k, rfl, hk, HA, hX⟩ := hrel
  by_cases hlt : k < n
  ·have hltI : (k : Int) < (n : Int) := by omega
   have h2 := h.ext hX
   obtain ⟨b, o, rfl, -, -⟩ := h2.some (by omega)
   have hc := h2.cell hlt
   have hk63 : (k : Int) < 9223372036854775807 := by omega
   clear h h2
   by_cases hneg : atL l k < 0
   ·have HX : Hid (decide (atL l k < 0) = true) := Lib.hid (decide_eq_true hneg)
    have HR : Hid (decide (0 ≤ (k : Int)) = negB l) := Lib.hid (by rw [negB_true (by rw [HL.out]; exact hlt) hneg]; exact decide_eq_true (by omega))
    clear hneg
    go_wp2_with fail
    refine (Tryz.adamBelow _ _).mono ?_
    rintro e W ⟨rfl, hE⟩
    rw [HX.out]; go_wp2; go_ret
    exact ⟨_, rfl, HR.out, hX.trans hE⟩
   ·have HX : Hid (decide (atL l k < 0) = false) := Lib.hid (decide_eq_false hneg)
    have HN := Lib.hid hneg
    clear hneg
    go_wp2_with fail
    refine (Tryz.adamBelow _ _).mono ?_
    rintro e W ⟨rfl, hE⟩
    rw [HX.out]; go_wp2
    go_roundw
    case rel => exact ⟨k + 1, by go_num, by omega, Lib.hid (grow_all (p := fun j => ¬ atL l j < 0) (fun j hj => by have := HA.out j hj; omega) (by have := HN.out; omega)), hX.trans hE⟩
    case measure => simp [intOf]; omega
  ·have hge : ¬ (k : Int) < (n : Int) := by omega
   have HR : Hid (decide (0 ≤ (-1 : Int)) = negB l) := Lib.hid (by rw [negB_false (fun i hi => HA.out i (by have := HL.out; omega))]; rfl)
   clear h; go_wp2; go_ret
   exact ⟨_, rfl, HR.out, hX⟩

set_option maxRecDepth 100000 in
set_option maxHeartbeats 4000000 in
theorem Tryz.adamNeg {lo hi : Nat} {a : Option Addr} {n c : Nat} {l : List Int} {w : World} (h : Iw lo hi w a n c l) :
  Calls Tryz.prog 22 #[.slice a n c, .func (.func 19) #[] #[]] w fun e w' => e = .returned (.bool (negB l)) ∧ Ext w w' := by
 go_enter Tryz.func22, Tryz.ntmps22
 go_wp2_with fail
 refine (Tryz.adamNegAt h).mono ?_
 rintro e W ⟨r, rfl, hr, hE⟩
 have HR := Lib.hid hr
 clear hr h; go_wp2
 all_goals go_ret
 all_goals exact ⟨by rw [← HR.out]; simp_all, hE⟩

set_option maxRecDepth 100000 in
set_option maxHeartbeats 16000000 in
theorem Tryz.adamRight (lr b1 b2 eps wd f : Int) (ap : Bool) (w : World) :
  Calls Tryz.prog 10 #[.agg #[.int .i64 lr, .int .i64 b1, .int .i64 b2, .int .i64 eps, .int .i64 wd, .bool ap], .int .i64 f] w fun e w' => e = .returned (.bool (rightA ⟨lr, b1, b2, eps, wd, ap⟩ f)) ∧ Ext w w' := by
 by_cases h1 : f < 0
 ·have hd1 : decide (f < 0) = true := decide_eq_true h1
  have HR : Hid (rightA ⟨lr, b1, b2, eps, wd, ap⟩ f = false) := Lib.hid (rightA_low (.inl h1))
  obtain ⟨W0, hW0⟩ : ∃ W0, W0 = ((w.alloc (.cells #[.int .i64 lr, .int .i64 b1, .int .i64 b2, .int .i64 eps, .int .i64 wd, .bool ap] 23)).alloc (.cells #[.int .i64 f] 3)) := ⟨_, rfl⟩
  have E0 : Ext w W0 := by rw [hW0]; exact ((Ext.alloc1 w (.cells #[.int .i64 lr, .int .i64 b1, .int .i64 b2, .int .i64 eps, .int .i64 wd, .bool ap] 23)).alloc (.cells #[.int .i64 f] 3))
  have p2 : BxA W0 w.heap.size 23 #[.int .i64 lr, .int .i64 b1, .int .i64 b2, .int .i64 eps, .int .i64 wd, .bool ap] := by rw [hW0]; exact (BxA.new w 23 #[.int .i64 lr, .int .i64 b1, .int .i64 b2, .int .i64 eps, .int .i64 wd, .bool ap]).ext (Ext.alloc1 (w.alloc (.cells #[.int .i64 lr, .int .i64 b1, .int .i64 b2, .int .i64 eps, .int .i64 wd, .bool ap] 23)) (.cells #[.int .i64 f] 3))
  have p3 : BxA W0 (w.heap.size + 1) 3 #[.int .i64 f] := by rw [hW0]; simpa using (BxA.new (w.alloc (.cells #[.int .i64 lr, .int .i64 b1, .int .i64 b2, .int .i64 eps, .int .i64 wd, .bool ap] 23)) 3 #[.int .i64 f])
  go_enter Tryz.func10, Tryz.ntmps10
  obtain ⟨kp2_0, kp2_1, kp2_2, kp2_3, kp2_4, kp2_5⟩ := p2.c6
  have kp3_0 := p3.cell 0 (v := .int .i64 f) rfl
  go_wp2; go_ret
  rw [hW0] at E0
  exact ⟨ret_b HR.out.symm, E0⟩
 ·by_cases h2 : 40 < f
  ·have hd1 : decide (f < 0) = false := decide_eq_false h1
   have hd2 : decide (40 < f) = true := decide_eq_true h2
   have HR : Hid (rightA ⟨lr, b1, b2, eps, wd, ap⟩ f = false) := Lib.hid (rightA_low (.inr h2))
   obtain ⟨W0, hW0⟩ : ∃ W0, W0 = ((w.alloc (.cells #[.int .i64 lr, .int .i64 b1, .int .i64 b2, .int .i64 eps, .int .i64 wd, .bool ap] 23)).alloc (.cells #[.int .i64 f] 3)) := ⟨_, rfl⟩
   have E0 : Ext w W0 := by rw [hW0]; exact ((Ext.alloc1 w (.cells #[.int .i64 lr, .int .i64 b1, .int .i64 b2, .int .i64 eps, .int .i64 wd, .bool ap] 23)).alloc (.cells #[.int .i64 f] 3))
   have p2 : BxA W0 w.heap.size 23 #[.int .i64 lr, .int .i64 b1, .int .i64 b2, .int .i64 eps, .int .i64 wd, .bool ap] := by rw [hW0]; exact (BxA.new w 23 #[.int .i64 lr, .int .i64 b1, .int .i64 b2, .int .i64 eps, .int .i64 wd, .bool ap]).ext (Ext.alloc1 (w.alloc (.cells #[.int .i64 lr, .int .i64 b1, .int .i64 b2, .int .i64 eps, .int .i64 wd, .bool ap] 23)) (.cells #[.int .i64 f] 3))
   have p3 : BxA W0 (w.heap.size + 1) 3 #[.int .i64 f] := by rw [hW0]; simpa using (BxA.new (w.alloc (.cells #[.int .i64 lr, .int .i64 b1, .int .i64 b2, .int .i64 eps, .int .i64 wd, .bool ap] 23)) 3 #[.int .i64 f])
   go_enter Tryz.func10, Tryz.ntmps10
   obtain ⟨kp2_0, kp2_1, kp2_2, kp2_3, kp2_4, kp2_5⟩ := p2.c6
   have kp3_0 := p3.cell 0 (v := .int .i64 f) rfl
   go_wp2; go_ret
   rw [hW0] at E0
   exact ⟨ret_b HR.out.symm, E0⟩
  ·obtain ⟨K, rfl⟩ := Int.eq_ofNat_of_zero_le (show 0 ≤ f by omega)
   have hK : K ≤ 40 := by omega
   have HK := Lib.hid hK
   have hk1 : ¬ (K : Int) < 0 := by omega
   have hk2 : ¬ (40 : Int) < (K : Int) := by omega
   clear h1 h2 hK
   have hmf : ∀ (fn : Fn) (first cap : Array Value) (W : World), (Instr.makeFunc fn first cap).run Tryz.prog W = .ok (.func fn first cap) W := fun _ _ _ _ => rfl
   obtain ⟨W0, hW0⟩ : ∃ W0, W0 = ((w.alloc (.cells #[.int .i64 lr, .int .i64 b1, .int .i64 b2, .int .i64 eps, .int .i64 wd, .bool ap] 23)).alloc (.cells #[.int .i64 (K : Int)] 3)) := ⟨_, rfl⟩
   have E0 : Ext w W0 := by rw [hW0]; exact ((Ext.alloc1 w (.cells #[.int .i64 lr, .int .i64 b1, .int .i64 b2, .int .i64 eps, .int .i64 wd, .bool ap] 23)).alloc (.cells #[.int .i64 (K : Int)] 3))
   have p2 : BxA W0 w.heap.size 23 #[.int .i64 lr, .int .i64 b1, .int .i64 b2, .int .i64 eps, .int .i64 wd, .bool ap] := by rw [hW0]; exact (BxA.new w 23 #[.int .i64 lr, .int .i64 b1, .int .i64 b2, .int .i64 eps, .int .i64 wd, .bool ap]).ext (Ext.alloc1 (w.alloc (.cells #[.int .i64 lr, .int .i64 b1, .int .i64 b2, .int .i64 eps, .int .i64 wd, .bool ap] 23)) (.cells #[.int .i64 (K : Int)] 3))
   have p3 : BxA W0 (w.heap.size + 1) 3 #[.int .i64 (K : Int)] := by rw [hW0]; simpa using (BxA.new (w.alloc (.cells #[.int .i64 lr, .int .i64 b1, .int .i64 b2, .int .i64 eps, .int .i64 wd, .bool ap] 23)) 3 #[.int .i64 (K : Int)])
   go_enter Tryz.func10, Tryz.ntmps10
   obtain ⟨kp2_0, kp2_1, kp2_2, kp2_3, kp2_4, kp2_5⟩ := p2.c6
   have kp3_0 := p3.cell 0 (v := .int .i64 (K : Int)) rfl
   go_upto_region 4 with (fail)
   rw [← hW0]
   clear hW0; clear kp2_0 kp2_1 kp2_2 kp2_3 kp2_4 kp2_5 kp3_0
   by_cases g0 : 0 ≤ lr
   ·have H0 := Lib.hid g0
    clear g0
    by_cases g1 : 0 < eps
    ·have H1 := Lib.hid g1
     clear g1
     cases g2 : mayB K b1
     ·have H2 := Lib.hid g2
      clear g2
      have HR : Hid (rightA ⟨lr, b1, b2, eps, wd, ap⟩ (K : Int) = false) := Lib.hid (by rw [rightA_nat HK.out]; simp [H0.out, H1.out, H2.out])
      have ltp2 := p2.lt; have ltp3 := p3.lt; have szw1 := Ext.size E0
      refine region_gs [.one fun v _ => v = .pointer (some ⟨w.heap.size, 0, none⟩),
        .one fun v _ => v = .int .i64 lr,
        .one fun v _ => v = .bool true,
        .one fun v _ => v = .bool true,
        .one fun v _ => v = .pointer (some ⟨w.heap.size, 3, none⟩),
        .one fun v _ => v = .int .i64 eps,
        .one fun v _ => v = .bool true,
        .one fun v _ => v = .bool true,
        .one fun v _ => v = .bool true,
        .one fun v _ => v = .func (.func 26) #[] #[.pointer (some ⟨w.heap.size + 1, 0, none⟩)],
        .one fun v _ => v = .pointer (some ⟨w.heap.size, 1, none⟩),
        .one fun v _ => v = .int .i64 b1,
        .one fun v _ => v = .bool false,
        .one fun v _ => v = .bool false,
        .one fun v _ => v = .bool false,
        .one fun v _ => v = undef,
        .one fun v _ => v = undef,
        .one fun v _ => v = undef,
        .one fun v _ => v = undef,
        .one fun v _ => v = .bool false,
        .one fun v _ => v = .bool false,
        .one fun v _ => v = undef,
        .one fun v _ => v = undef,
        .one fun v _ => v = undef,
        .one fun v _ => v = .bool false,
        .one fun v _ => v = .bool false,
        .one fun v _ => v = undef,
        .one fun v _ => v = undef,
        .one fun v _ => v = undef,
        .one fun v _ => v = undef,
        .one fun v _ => v = undef,
        .one fun v _ => v = .bool false,
        .one fun v _ => v = .bool false]
       (fun W => Ext w W ∧ BxA W w.heap.size 23 #[.int .i64 lr, .int .i64 b1, .int .i64 b2, .int .i64 eps, .int .i64 wd, .bool ap] ∧ BxA W (w.heap.size + 1) 3 #[.int .i64 (K : Int)] ∧ W0.heap.size ≤ W.heap.size) ⟨Good.is _, Good.is _, Good.is _, Good.is _, Good.is _, Good.is _, Good.is _, Good.is _, Good.is _, Good.is _, Good.is _, Good.is _, Good.is _, Good.is _, Good.is _, Good.is _, Good.is _, Good.is _, Good.is _, Good.is _, Good.is _, Good.is _, Good.is _, Good.is _, Good.is _, Good.is _, Good.is _, Good.is _, Good.is _, Good.is _, Good.is _, Good.is _, Good.is _, trivial⟩
       ⟨E0, p2, p3, Nat.le_refl _⟩ (A := ?A1) ?hA1 ?howe1 ?hfin1
      case hA1 =>
       intro vs
       simp only [putAll, Act.put, sA, sZ, sS, Nat.zero_add, Nat.reduceAdd]
       exact rfl
      case howe1 =>
       clear E0 p2 p3
       intro hf
       refine ⟨oE 0 [] hf rfl ?_, oE 1 [0] hf rfl ?_, oE 2 [1] hf rfl ?_, oE 3 [2] hf rfl ?_, oE 4 [3] hf rfl ?_, oE 5 [3, 4] hf rfl ?_, oE 6 [3, 5] hf rfl ?_, oE 7 [3, 6] hf rfl ?_, oE 8 [7] hf rfl ?_, oE 9 [8] hf rfl ?_, oE 10 [8] hf rfl ?_, oE 11 [8, 10] hf rfl ?_, oE 12 [8, 9, 11] hf rfl ?_, oE 13 [8, 12] hf rfl ?_, oE 14 [13] hf rfl ?_, oE 15 [14] hf rfl ?_, oE 16 [14] hf rfl ?_, oE 17 [14] hf rfl ?_, oE 18 [14] hf rfl ?_, oE 19 [14, 18] hf rfl ?_, oE 20 [19] hf rfl ?_, oE 21 [20] hf rfl ?_, oE 22 [20] hf rfl ?_, oE 23 [20] hf rfl ?_, oE 24 [20, 23] hf rfl ?_, oE 25 [24] hf rfl ?_, oE 26 [25] hf rfl ?_, oE 27 [25] hf rfl ?_, oE 28 [25] hf rfl ?_, oE 29 [25] hf rfl ?_, oE 30 [25] hf rfl ?_, oE 31 [25, 30] hf rfl ?_, oE 32 [31] hf rfl ?_, trivial⟩
       all_goals intro vs W hS hp hx KO hKO
       all_goals simp only [Act.put, sA, sZ, sS] at hKO
       ·go_simp; exact hKO _ W (.refl W) rfl
       ·have e0 := isOf hp.1; simp only [e0] at hKO; have fc0 := BxA.cell (hS.2.1) 0 (v := .int .i64 lr) rfl; go_simp; exact hKO _ W (.refl W) rfl
       ·have e1 := isOf hp.1; simp only [e1] at hKO; go_simp; exact hKO _ W (Ext.refl W) (by first | rfl | exact congrArg Value.bool (decide_eq_true H0.out))
       ·have e2 := isOf hp.1; simp only [e2] at hKO; go_simp; exact hKO _ W (.refl W) rfl
       ·have e3 := isOf hp.1; simp only [e3] at hKO; go_simp; exact hKO _ W (.refl W) rfl
       ·have e3 := isOf hp.1; have e4 := isOf hp.2.1; simp only [e3, e4] at hKO; have fc3 := BxA.cell (hS.2.1) 3 (v := .int .i64 eps) rfl; go_simp; exact hKO _ W (.refl W) rfl
       ·have e3 := isOf hp.1; have e5 := isOf hp.2.1; simp only [e3, e5] at hKO; go_simp; exact hKO _ W (Ext.refl W) (by first | rfl | exact congrArg Value.bool (decide_eq_true H1.out))
       ·have e3 := isOf hp.1; have e6 := isOf hp.2.1; simp only [e3, e6] at hKO; go_simp; exact hKO _ W (.refl W) rfl
       ·have e7 := isOf hp.1; simp only [e7] at hKO; go_simp; exact hKO _ W (.refl W) rfl
       ·have e8 := isOf hp.1; simp only [e8] at hKO; go_simp; exact hKO _ W (.refl W) rfl
       ·have e8 := isOf hp.1; simp only [e8] at hKO; go_simp; exact hKO _ W (.refl W) rfl
       ·have e8 := isOf hp.1; have e10 := isOf hp.2.1; simp only [e8, e10] at hKO; have fc1 := BxA.cell (hS.2.1) 1 (v := .int .i64 b1) rfl; go_simp; exact hKO _ W (.refl W) rfl
       ·have e8 := isOf hp.1; have e9 := isOf hp.2.1; have e11 := isOf hp.2.2.1; simp only [e8, e9, e11] at hKO; go_simp
        refine (Tryz.adamBeta K HK.out b1 hS.2.2.1).mono ?_
        rintro e W1 ⟨rfl, hE⟩
        rw [H2.out]
        exact hKO _ W1 hE rfl
       ·have e8 := isOf hp.1; have e12 := isOf hp.2.1; simp only [e8, e12] at hKO; go_simp; exact hKO _ W (.refl W) rfl
       ·have e13 := isOf hp.1; simp only [e13] at hKO; go_simp; exact hKO _ W (.refl W) rfl
       ·have e14 := isOf hp.1; simp only [e14] at hKO; go_simp; exact hKO _ W (.refl W) rfl
       ·have e14 := isOf hp.1; simp only [e14] at hKO; go_simp; exact hKO _ W (.refl W) rfl
       ·have e14 := isOf hp.1; simp only [e14] at hKO; go_simp; exact hKO _ W (.refl W) rfl
       ·have e14 := isOf hp.1; simp only [e14] at hKO; go_simp; exact hKO _ W (.refl W) rfl
       ·have e14 := isOf hp.1; have e18 := isOf hp.2.1; simp only [e14, e18] at hKO; go_simp; exact hKO _ W (.refl W) rfl
       ·have e19 := isOf hp.1; simp only [e19] at hKO; go_simp; exact hKO _ W (.refl W) rfl
       ·have e20 := isOf hp.1; simp only [e20] at hKO; go_simp; exact hKO _ W (.refl W) rfl
       ·have e20 := isOf hp.1; simp only [e20] at hKO; go_simp; exact hKO _ W (.refl W) rfl
       ·have e20 := isOf hp.1; simp only [e20] at hKO; go_simp; exact hKO _ W (.refl W) rfl
       ·have e20 := isOf hp.1; have e23 := isOf hp.2.1; simp only [e20, e23] at hKO; go_simp; exact hKO _ W (.refl W) rfl
       ·have e24 := isOf hp.1; simp only [e24] at hKO; go_simp; exact hKO _ W (.refl W) rfl
       ·have e25 := isOf hp.1; simp only [e25] at hKO; go_simp; exact hKO _ W (.refl W) rfl
       ·have e25 := isOf hp.1; simp only [e25] at hKO; go_simp; exact hKO _ W (.refl W) rfl
       ·have e25 := isOf hp.1; simp only [e25] at hKO; go_simp; exact hKO _ W (.refl W) rfl
       ·have e25 := isOf hp.1; simp only [e25] at hKO; go_simp; exact hKO _ W (.refl W) rfl
       ·have e25 := isOf hp.1; simp only [e25] at hKO; go_simp; exact hKO _ W (.refl W) rfl
       ·have e25 := isOf hp.1; have e30 := isOf hp.2.1; simp only [e25, e30] at hKO; go_simp; exact hKO _ W (.refl W) rfl
       ·have e31 := isOf hp.1; simp only [e31] at hKO; go_simp; exact hKO _ W (.refl W) rfl
      intro vs W1 hS hp
      clear szw1 E0 p2 p3
      obtain ⟨E0, p2, p3, sz1⟩ := hS
      obtain ⟨h1_0, h1_1, h1_2, h1_3, h1_4, h1_5, h1_6, h1_7, h1_8, h1_9, h1_10, h1_11, h1_12, h1_13, h1_14, h1_15, h1_16, h1_17, h1_18, h1_19, h1_20, h1_21, h1_22, h1_23, h1_24, h1_25, h1_26, h1_27, h1_28, h1_29, h1_30, h1_31, h1_32, -⟩ := hp
      replace h1_0 : vs 0 = .pointer (some ⟨w.heap.size, 0, none⟩) := h1_0
      replace h1_1 : vs 1 = .int .i64 lr := h1_1
      replace h1_2 : vs 2 = .bool true := h1_2
      replace h1_3 : vs 3 = .bool true := h1_3
      replace h1_4 : vs 4 = .pointer (some ⟨w.heap.size, 3, none⟩) := h1_4
      replace h1_5 : vs 5 = .int .i64 eps := h1_5
      replace h1_6 : vs 6 = .bool true := h1_6
      replace h1_7 : vs 7 = .bool true := h1_7
      replace h1_8 : vs 8 = .bool true := h1_8
      replace h1_9 : vs 9 = .func (.func 26) #[] #[.pointer (some ⟨w.heap.size + 1, 0, none⟩)] := h1_9
      replace h1_10 : vs 10 = .pointer (some ⟨w.heap.size, 1, none⟩) := h1_10
      replace h1_11 : vs 11 = .int .i64 b1 := h1_11
      replace h1_12 : vs 12 = .bool false := h1_12
      replace h1_13 : vs 13 = .bool false := h1_13
      replace h1_14 : vs 14 = .bool false := h1_14
      replace h1_15 : vs 15 = undef := h1_15
      replace h1_16 : vs 16 = undef := h1_16
      replace h1_17 : vs 17 = undef := h1_17
      replace h1_18 : vs 18 = undef := h1_18
      replace h1_19 : vs 19 = .bool false := h1_19
      replace h1_20 : vs 20 = .bool false := h1_20
      replace h1_21 : vs 21 = undef := h1_21
      replace h1_22 : vs 22 = undef := h1_22
      replace h1_23 : vs 23 = undef := h1_23
      replace h1_24 : vs 24 = .bool false := h1_24
      replace h1_25 : vs 25 = .bool false := h1_25
      replace h1_26 : vs 26 = undef := h1_26
      replace h1_27 : vs 27 = undef := h1_27
      replace h1_28 : vs 28 = undef := h1_28
      replace h1_29 : vs 29 = undef := h1_29
      replace h1_30 : vs 30 = undef := h1_30
      replace h1_31 : vs 31 = .bool false := h1_31
      replace h1_32 : vs 32 = .bool false := h1_32
      simp only [h1_0, h1_1, h1_2, h1_3, h1_4, h1_5, h1_6, h1_7, h1_8, h1_9, h1_10, h1_11, h1_12, h1_13, h1_14, h1_15, h1_16, h1_17, h1_18, h1_19, h1_20, h1_21, h1_22, h1_23, h1_24, h1_25, h1_26, h1_27, h1_28, h1_29, h1_30, h1_31, h1_32]
      clear h1_0 h1_1 h1_2 h1_3 h1_4 h1_5 h1_6 h1_7 h1_8 h1_9 h1_10 h1_11 h1_12 h1_13 h1_14 h1_15 h1_16 h1_17 h1_18 h1_19 h1_20 h1_21 h1_22 h1_23 h1_24 h1_25 h1_26 h1_27 h1_28 h1_29 h1_30 h1_31 h1_32
      obtain ⟨kp2_0, kp2_1, kp2_2, kp2_3, kp2_4, kp2_5⟩ := p2.c6
      have kp3_0 := p3.cell 0 (v := .int .i64 (K : Int)) rfl
      go_wp2; go_ret
      exact ⟨ret_b HR.out.symm, E0⟩
     ·have H2 := Lib.hid g2
      clear g2
      cases g3 : mayB K b2
      ·have H3 := Lib.hid g3
       clear g3
       have HR : Hid (rightA ⟨lr, b1, b2, eps, wd, ap⟩ (K : Int) = false) := Lib.hid (by rw [rightA_nat HK.out]; simp [H0.out, H1.out, H2.out, H3.out])
       have ltp2 := p2.lt; have ltp3 := p3.lt; have szw2 := Ext.size E0
       refine region_gs [.one fun v _ => v = .pointer (some ⟨w.heap.size, 0, none⟩),
         .one fun v _ => v = .int .i64 lr,
         .one fun v _ => v = .bool true,
         .one fun v _ => v = .bool true,
         .one fun v _ => v = .pointer (some ⟨w.heap.size, 3, none⟩),
         .one fun v _ => v = .int .i64 eps,
         .one fun v _ => v = .bool true,
         .one fun v _ => v = .bool true,
         .one fun v _ => v = .bool true,
         .one fun v _ => v = .func (.func 26) #[] #[.pointer (some ⟨w.heap.size + 1, 0, none⟩)],
         .one fun v _ => v = .pointer (some ⟨w.heap.size, 1, none⟩),
         .one fun v _ => v = .int .i64 b1,
         .one fun v _ => v = .bool true,
         .one fun v _ => v = .bool true,
         .one fun v _ => v = .bool true,
         .one fun v _ => v = .func (.func 26) #[] #[.pointer (some ⟨w.heap.size + 1, 0, none⟩)],
         .one fun v _ => v = .pointer (some ⟨w.heap.size, 2, none⟩),
         .one fun v _ => v = .int .i64 b2,
         .one fun v _ => v = .bool false,
         .one fun v _ => v = .bool false,
         .one fun v _ => v = .bool false,
         .one fun v _ => v = undef,
         .one fun v _ => v = undef,
         .one fun v _ => v = undef,
         .one fun v _ => v = .bool false,
         .one fun v _ => v = .bool false,
         .one fun v _ => v = undef,
         .one fun v _ => v = undef,
         .one fun v _ => v = undef,
         .one fun v _ => v = undef,
         .one fun v _ => v = undef,
         .one fun v _ => v = .bool false,
         .one fun v _ => v = .bool false]
        (fun W => Ext w W ∧ BxA W w.heap.size 23 #[.int .i64 lr, .int .i64 b1, .int .i64 b2, .int .i64 eps, .int .i64 wd, .bool ap] ∧ BxA W (w.heap.size + 1) 3 #[.int .i64 (K : Int)] ∧ W0.heap.size ≤ W.heap.size) ⟨Good.is _, Good.is _, Good.is _, Good.is _, Good.is _, Good.is _, Good.is _, Good.is _, Good.is _, Good.is _, Good.is _, Good.is _, Good.is _, Good.is _, Good.is _, Good.is _, Good.is _, Good.is _, Good.is _, Good.is _, Good.is _, Good.is _, Good.is _, Good.is _, Good.is _, Good.is _, Good.is _, Good.is _, Good.is _, Good.is _, Good.is _, Good.is _, Good.is _, trivial⟩
        ⟨E0, p2, p3, Nat.le_refl _⟩ (A := ?A2) ?hA2 ?howe2 ?hfin2
       case hA2 =>
        intro vs
        simp only [putAll, Act.put, sA, sZ, sS, Nat.zero_add, Nat.reduceAdd]
        exact rfl
       case howe2 =>
        clear E0 p2 p3
        intro hf
        refine ⟨oE 0 [] hf rfl ?_, oE 1 [0] hf rfl ?_, oE 2 [1] hf rfl ?_, oE 3 [2] hf rfl ?_, oE 4 [3] hf rfl ?_, oE 5 [3, 4] hf rfl ?_, oE 6 [3, 5] hf rfl ?_, oE 7 [3, 6] hf rfl ?_, oE 8 [7] hf rfl ?_, oE 9 [8] hf rfl ?_, oE 10 [8] hf rfl ?_, oE 11 [8, 10] hf rfl ?_, oE 12 [8, 9, 11] hf rfl ?_, oE 13 [8, 12] hf rfl ?_, oE 14 [13] hf rfl ?_, oE 15 [14] hf rfl ?_, oE 16 [14] hf rfl ?_, oE 17 [14, 16] hf rfl ?_, oE 18 [14, 15, 17] hf rfl ?_, oE 19 [14, 18] hf rfl ?_, oE 20 [19] hf rfl ?_, oE 21 [20] hf rfl ?_, oE 22 [20] hf rfl ?_, oE 23 [20] hf rfl ?_, oE 24 [20, 23] hf rfl ?_, oE 25 [24] hf rfl ?_, oE 26 [25] hf rfl ?_, oE 27 [25] hf rfl ?_, oE 28 [25] hf rfl ?_, oE 29 [25] hf rfl ?_, oE 30 [25] hf rfl ?_, oE 31 [25, 30] hf rfl ?_, oE 32 [31] hf rfl ?_, trivial⟩
        all_goals intro vs W hS hp hx KO hKO
        all_goals simp only [Act.put, sA, sZ, sS] at hKO
        ·go_simp; exact hKO _ W (.refl W) rfl
        ·have e0 := isOf hp.1; simp only [e0] at hKO; have fc0 := BxA.cell (hS.2.1) 0 (v := .int .i64 lr) rfl; go_simp; exact hKO _ W (.refl W) rfl
        ·have e1 := isOf hp.1; simp only [e1] at hKO; go_simp; exact hKO _ W (Ext.refl W) (by first | rfl | exact congrArg Value.bool (decide_eq_true H0.out))
        ·have e2 := isOf hp.1; simp only [e2] at hKO; go_simp; exact hKO _ W (.refl W) rfl
        ·have e3 := isOf hp.1; simp only [e3] at hKO; go_simp; exact hKO _ W (.refl W) rfl
        ·have e3 := isOf hp.1; have e4 := isOf hp.2.1; simp only [e3, e4] at hKO; have fc3 := BxA.cell (hS.2.1) 3 (v := .int .i64 eps) rfl; go_simp; exact hKO _ W (.refl W) rfl
        ·have e3 := isOf hp.1; have e5 := isOf hp.2.1; simp only [e3, e5] at hKO; go_simp; exact hKO _ W (Ext.refl W) (by first | rfl | exact congrArg Value.bool (decide_eq_true H1.out))
        ·have e3 := isOf hp.1; have e6 := isOf hp.2.1; simp only [e3, e6] at hKO; go_simp; exact hKO _ W (.refl W) rfl
        ·have e7 := isOf hp.1; simp only [e7] at hKO; go_simp; exact hKO _ W (.refl W) rfl
        ·have e8 := isOf hp.1; simp only [e8] at hKO; go_simp; exact hKO _ W (.refl W) rfl
        ·have e8 := isOf hp.1; simp only [e8] at hKO; go_simp; exact hKO _ W (.refl W) rfl
        ·have e8 := isOf hp.1; have e10 := isOf hp.2.1; simp only [e8, e10] at hKO; have fc1 := BxA.cell (hS.2.1) 1 (v := .int .i64 b1) rfl; go_simp; exact hKO _ W (.refl W) rfl
        ·have e8 := isOf hp.1; have e9 := isOf hp.2.1; have e11 := isOf hp.2.2.1; simp only [e8, e9, e11] at hKO; go_simp
         refine (Tryz.adamBeta K HK.out b1 hS.2.2.1).mono ?_
         rintro e W1 ⟨rfl, hE⟩
         rw [H2.out]
         exact hKO _ W1 hE rfl
        ·have e8 := isOf hp.1; have e12 := isOf hp.2.1; simp only [e8, e12] at hKO; go_simp; exact hKO _ W (.refl W) rfl
        ·have e13 := isOf hp.1; simp only [e13] at hKO; go_simp; exact hKO _ W (.refl W) rfl
        ·have e14 := isOf hp.1; simp only [e14] at hKO; go_simp; exact hKO _ W (.refl W) rfl
        ·have e14 := isOf hp.1; simp only [e14] at hKO; go_simp; exact hKO _ W (.refl W) rfl
        ·have e14 := isOf hp.1; have e16 := isOf hp.2.1; simp only [e14, e16] at hKO; have fc2 := BxA.cell (hS.2.1) 2 (v := .int .i64 b2) rfl; go_simp; exact hKO _ W (.refl W) rfl
        ·have e14 := isOf hp.1; have e15 := isOf hp.2.1; have e17 := isOf hp.2.2.1; simp only [e14, e15, e17] at hKO; go_simp
         refine (Tryz.adamBeta K HK.out b2 hS.2.2.1).mono ?_
         rintro e W1 ⟨rfl, hE⟩
         rw [H3.out]
         exact hKO _ W1 hE rfl
        ·have e14 := isOf hp.1; have e18 := isOf hp.2.1; simp only [e14, e18] at hKO; go_simp; exact hKO _ W (.refl W) rfl
        ·have e19 := isOf hp.1; simp only [e19] at hKO; go_simp; exact hKO _ W (.refl W) rfl
        ·have e20 := isOf hp.1; simp only [e20] at hKO; go_simp; exact hKO _ W (.refl W) rfl
        ·have e20 := isOf hp.1; simp only [e20] at hKO; go_simp; exact hKO _ W (.refl W) rfl
        ·have e20 := isOf hp.1; simp only [e20] at hKO; go_simp; exact hKO _ W (.refl W) rfl
        ·have e20 := isOf hp.1; have e23 := isOf hp.2.1; simp only [e20, e23] at hKO; go_simp; exact hKO _ W (.refl W) rfl
        ·have e24 := isOf hp.1; simp only [e24] at hKO; go_simp; exact hKO _ W (.refl W) rfl
        ·have e25 := isOf hp.1; simp only [e25] at hKO; go_simp; exact hKO _ W (.refl W) rfl
        ·have e25 := isOf hp.1; simp only [e25] at hKO; go_simp; exact hKO _ W (.refl W) rfl
        ·have e25 := isOf hp.1; simp only [e25] at hKO; go_simp; exact hKO _ W (.refl W) rfl
        ·have e25 := isOf hp.1; simp only [e25] at hKO; go_simp; exact hKO _ W (.refl W) rfl
        ·have e25 := isOf hp.1; simp only [e25] at hKO; go_simp; exact hKO _ W (.refl W) rfl
        ·have e25 := isOf hp.1; have e30 := isOf hp.2.1; simp only [e25, e30] at hKO; go_simp; exact hKO _ W (.refl W) rfl
        ·have e31 := isOf hp.1; simp only [e31] at hKO; go_simp; exact hKO _ W (.refl W) rfl
       intro vs W2 hS hp
       clear szw2 E0 p2 p3
       obtain ⟨E0, p2, p3, sz2⟩ := hS
       obtain ⟨h2_0, h2_1, h2_2, h2_3, h2_4, h2_5, h2_6, h2_7, h2_8, h2_9, h2_10, h2_11, h2_12, h2_13, h2_14, h2_15, h2_16, h2_17, h2_18, h2_19, h2_20, h2_21, h2_22, h2_23, h2_24, h2_25, h2_26, h2_27, h2_28, h2_29, h2_30, h2_31, h2_32, -⟩ := hp
       replace h2_0 : vs 0 = .pointer (some ⟨w.heap.size, 0, none⟩) := h2_0
       replace h2_1 : vs 1 = .int .i64 lr := h2_1
       replace h2_2 : vs 2 = .bool true := h2_2
       replace h2_3 : vs 3 = .bool true := h2_3
       replace h2_4 : vs 4 = .pointer (some ⟨w.heap.size, 3, none⟩) := h2_4
       replace h2_5 : vs 5 = .int .i64 eps := h2_5
       replace h2_6 : vs 6 = .bool true := h2_6
       replace h2_7 : vs 7 = .bool true := h2_7
       replace h2_8 : vs 8 = .bool true := h2_8
       replace h2_9 : vs 9 = .func (.func 26) #[] #[.pointer (some ⟨w.heap.size + 1, 0, none⟩)] := h2_9
       replace h2_10 : vs 10 = .pointer (some ⟨w.heap.size, 1, none⟩) := h2_10
       replace h2_11 : vs 11 = .int .i64 b1 := h2_11
       replace h2_12 : vs 12 = .bool true := h2_12
       replace h2_13 : vs 13 = .bool true := h2_13
       replace h2_14 : vs 14 = .bool true := h2_14
       replace h2_15 : vs 15 = .func (.func 26) #[] #[.pointer (some ⟨w.heap.size + 1, 0, none⟩)] := h2_15
       replace h2_16 : vs 16 = .pointer (some ⟨w.heap.size, 2, none⟩) := h2_16
       replace h2_17 : vs 17 = .int .i64 b2 := h2_17
       replace h2_18 : vs 18 = .bool false := h2_18
       replace h2_19 : vs 19 = .bool false := h2_19
       replace h2_20 : vs 20 = .bool false := h2_20
       replace h2_21 : vs 21 = undef := h2_21
       replace h2_22 : vs 22 = undef := h2_22
       replace h2_23 : vs 23 = undef := h2_23
       replace h2_24 : vs 24 = .bool false := h2_24
       replace h2_25 : vs 25 = .bool false := h2_25
       replace h2_26 : vs 26 = undef := h2_26
       replace h2_27 : vs 27 = undef := h2_27
       replace h2_28 : vs 28 = undef := h2_28
       replace h2_29 : vs 29 = undef := h2_29
       replace h2_30 : vs 30 = undef := h2_30
       replace h2_31 : vs 31 = .bool false := h2_31
       replace h2_32 : vs 32 = .bool false := h2_32
       simp only [h2_0, h2_1, h2_2, h2_3, h2_4, h2_5, h2_6, h2_7, h2_8, h2_9, h2_10, h2_11, h2_12, h2_13, h2_14, h2_15, h2_16, h2_17, h2_18, h2_19, h2_20, h2_21, h2_22, h2_23, h2_24, h2_25, h2_26, h2_27, h2_28, h2_29, h2_30, h2_31, h2_32]
       clear h2_0 h2_1 h2_2 h2_3 h2_4 h2_5 h2_6 h2_7 h2_8 h2_9 h2_10 h2_11 h2_12 h2_13 h2_14 h2_15 h2_16 h2_17 h2_18 h2_19 h2_20 h2_21 h2_22 h2_23 h2_24 h2_25 h2_26 h2_27 h2_28 h2_29 h2_30 h2_31 h2_32
       obtain ⟨kp2_0, kp2_1, kp2_2, kp2_3, kp2_4, kp2_5⟩ := p2.c6
       have kp3_0 := p3.cell 0 (v := .int .i64 (K : Int)) rfl
       go_wp2; go_ret
       exact ⟨ret_b HR.out.symm, E0⟩
      ·have H3 := Lib.hid g3
       clear g3
       by_cases g4 : 0 ≤ wd
       ·have H4 := Lib.hid g4
        clear g4
        by_cases g5 : wd ≤ oneZ K
        ·have H5 := Lib.hid g5
         clear g5
         have HR : Hid (rightA ⟨lr, b1, b2, eps, wd, ap⟩ (K : Int) = true) := Lib.hid (by rw [rightA_nat HK.out]; simp [H0.out, H1.out, H2.out, H3.out, H4.out, H5.out])
         have ltp2 := p2.lt; have ltp3 := p3.lt; have szw3 := Ext.size E0
         refine region_gs [.one fun v _ => v = .pointer (some ⟨w.heap.size, 0, none⟩),
           .one fun v _ => v = .int .i64 lr,
           .one fun v _ => v = .bool true,
           .one fun v _ => v = .bool true,
           .one fun v _ => v = .pointer (some ⟨w.heap.size, 3, none⟩),
           .one fun v _ => v = .int .i64 eps,
           .one fun v _ => v = .bool true,
           .one fun v _ => v = .bool true,
           .one fun v _ => v = .bool true,
           .one fun v _ => v = .func (.func 26) #[] #[.pointer (some ⟨w.heap.size + 1, 0, none⟩)],
           .one fun v _ => v = .pointer (some ⟨w.heap.size, 1, none⟩),
           .one fun v _ => v = .int .i64 b1,
           .one fun v _ => v = .bool true,
           .one fun v _ => v = .bool true,
           .one fun v _ => v = .bool true,
           .one fun v _ => v = .func (.func 26) #[] #[.pointer (some ⟨w.heap.size + 1, 0, none⟩)],
           .one fun v _ => v = .pointer (some ⟨w.heap.size, 2, none⟩),
           .one fun v _ => v = .int .i64 b2,
           .one fun v _ => v = .bool true,
           .one fun v _ => v = .bool true,
           .one fun v _ => v = .bool true,
           .one fun v _ => v = .pointer (some ⟨w.heap.size, 4, none⟩),
           .one fun v _ => v = .int .i64 wd,
           .one fun v _ => v = .bool true,
           .one fun v _ => v = .bool true,
           .one fun v _ => v = .bool true,
           .one fun v _ => v = .pointer (some ⟨w.heap.size, 4, none⟩),
           .one fun v _ => v = .int .i64 wd,
           .one fun v _ => v = .int .i64 (K : Int),
           .one fun v _ => v = .int .i64 (oneZ K),
           .one fun v _ => v = .bool true,
           .one fun v _ => v = .bool true,
           .one fun v _ => v = .bool true]
          (fun W => Ext w W ∧ BxA W w.heap.size 23 #[.int .i64 lr, .int .i64 b1, .int .i64 b2, .int .i64 eps, .int .i64 wd, .bool ap] ∧ BxA W (w.heap.size + 1) 3 #[.int .i64 (K : Int)] ∧ W0.heap.size ≤ W.heap.size) ⟨Good.is _, Good.is _, Good.is _, Good.is _, Good.is _, Good.is _, Good.is _, Good.is _, Good.is _, Good.is _, Good.is _, Good.is _, Good.is _, Good.is _, Good.is _, Good.is _, Good.is _, Good.is _, Good.is _, Good.is _, Good.is _, Good.is _, Good.is _, Good.is _, Good.is _, Good.is _, Good.is _, Good.is _, Good.is _, Good.is _, Good.is _, Good.is _, Good.is _, trivial⟩
          ⟨E0, p2, p3, Nat.le_refl _⟩ (A := ?A3) ?hA3 ?howe3 ?hfin3
         case hA3 =>
          intro vs
          simp only [putAll, Act.put, sA, sZ, sS, Nat.zero_add, Nat.reduceAdd]
          exact rfl
         case howe3 =>
          clear E0 p2 p3
          intro hf
          refine ⟨oE 0 [] hf rfl ?_, oE 1 [0] hf rfl ?_, oE 2 [1] hf rfl ?_, oE 3 [2] hf rfl ?_, oE 4 [3] hf rfl ?_, oE 5 [3, 4] hf rfl ?_, oE 6 [3, 5] hf rfl ?_, oE 7 [3, 6] hf rfl ?_, oE 8 [7] hf rfl ?_, oE 9 [8] hf rfl ?_, oE 10 [8] hf rfl ?_, oE 11 [8, 10] hf rfl ?_, oE 12 [8, 9, 11] hf rfl ?_, oE 13 [8, 12] hf rfl ?_, oE 14 [13] hf rfl ?_, oE 15 [14] hf rfl ?_, oE 16 [14] hf rfl ?_, oE 17 [14, 16] hf rfl ?_, oE 18 [14, 15, 17] hf rfl ?_, oE 19 [14, 18] hf rfl ?_, oE 20 [19] hf rfl ?_, oE 21 [20] hf rfl ?_, oE 22 [20, 21] hf rfl ?_, oE 23 [20, 22] hf rfl ?_, oE 24 [20, 23] hf rfl ?_, oE 25 [24] hf rfl ?_, oE 26 [25] hf rfl ?_, oE 27 [25, 26] hf rfl ?_, oE 28 [25] hf rfl ?_, oE 29 [25, 28] hf rfl ?_, oE 30 [25, 27, 29] hf rfl ?_, oE 31 [25, 30] hf rfl ?_, oE 32 [31] hf rfl ?_, trivial⟩
          all_goals intro vs W hS hp hx KO hKO
          all_goals simp only [Act.put, sA, sZ, sS] at hKO
          ·go_simp; exact hKO _ W (.refl W) rfl
          ·have e0 := isOf hp.1; simp only [e0] at hKO; have fc0 := BxA.cell (hS.2.1) 0 (v := .int .i64 lr) rfl; go_simp; exact hKO _ W (.refl W) rfl
          ·have e1 := isOf hp.1; simp only [e1] at hKO; go_simp; exact hKO _ W (Ext.refl W) (by first | rfl | exact congrArg Value.bool (decide_eq_true H0.out))
          ·have e2 := isOf hp.1; simp only [e2] at hKO; go_simp; exact hKO _ W (.refl W) rfl
          ·have e3 := isOf hp.1; simp only [e3] at hKO; go_simp; exact hKO _ W (.refl W) rfl
          ·have e3 := isOf hp.1; have e4 := isOf hp.2.1; simp only [e3, e4] at hKO; have fc3 := BxA.cell (hS.2.1) 3 (v := .int .i64 eps) rfl; go_simp; exact hKO _ W (.refl W) rfl
          ·have e3 := isOf hp.1; have e5 := isOf hp.2.1; simp only [e3, e5] at hKO; go_simp; exact hKO _ W (Ext.refl W) (by first | rfl | exact congrArg Value.bool (decide_eq_true H1.out))
          ·have e3 := isOf hp.1; have e6 := isOf hp.2.1; simp only [e3, e6] at hKO; go_simp; exact hKO _ W (.refl W) rfl
          ·have e7 := isOf hp.1; simp only [e7] at hKO; go_simp; exact hKO _ W (.refl W) rfl
          ·have e8 := isOf hp.1; simp only [e8] at hKO; go_simp; exact hKO _ W (.refl W) rfl
          ·have e8 := isOf hp.1; simp only [e8] at hKO; go_simp; exact hKO _ W (.refl W) rfl
          ·have e8 := isOf hp.1; have e10 := isOf hp.2.1; simp only [e8, e10] at hKO; have fc1 := BxA.cell (hS.2.1) 1 (v := .int .i64 b1) rfl; go_simp; exact hKO _ W (.refl W) rfl
          ·have e8 := isOf hp.1; have e9 := isOf hp.2.1; have e11 := isOf hp.2.2.1; simp only [e8, e9, e11] at hKO; go_simp
           refine (Tryz.adamBeta K HK.out b1 hS.2.2.1).mono ?_
           rintro e W1 ⟨rfl, hE⟩
           rw [H2.out]
           exact hKO _ W1 hE rfl
          ·have e8 := isOf hp.1; have e12 := isOf hp.2.1; simp only [e8, e12] at hKO; go_simp; exact hKO _ W (.refl W) rfl
          ·have e13 := isOf hp.1; simp only [e13] at hKO; go_simp; exact hKO _ W (.refl W) rfl
          ·have e14 := isOf hp.1; simp only [e14] at hKO; go_simp; exact hKO _ W (.refl W) rfl
          ·have e14 := isOf hp.1; simp only [e14] at hKO; go_simp; exact hKO _ W (.refl W) rfl
          ·have e14 := isOf hp.1; have e16 := isOf hp.2.1; simp only [e14, e16] at hKO; have fc2 := BxA.cell (hS.2.1) 2 (v := .int .i64 b2) rfl; go_simp; exact hKO _ W (.refl W) rfl
          ·have e14 := isOf hp.1; have e15 := isOf hp.2.1; have e17 := isOf hp.2.2.1; simp only [e14, e15, e17] at hKO; go_simp
           refine (Tryz.adamBeta K HK.out b2 hS.2.2.1).mono ?_
           rintro e W1 ⟨rfl, hE⟩
           rw [H3.out]
           exact hKO _ W1 hE rfl
          ·have e14 := isOf hp.1; have e18 := isOf hp.2.1; simp only [e14, e18] at hKO; go_simp; exact hKO _ W (.refl W) rfl
          ·have e19 := isOf hp.1; simp only [e19] at hKO; go_simp; exact hKO _ W (.refl W) rfl
          ·have e20 := isOf hp.1; simp only [e20] at hKO; go_simp; exact hKO _ W (.refl W) rfl
          ·have e20 := isOf hp.1; have e21 := isOf hp.2.1; simp only [e20, e21] at hKO; have fc4 := BxA.cell (hS.2.1) 4 (v := .int .i64 wd) rfl; go_simp; exact hKO _ W (.refl W) rfl
          ·have e20 := isOf hp.1; have e22 := isOf hp.2.1; simp only [e20, e22] at hKO; go_simp; exact hKO _ W (Ext.refl W) (by first | rfl | exact congrArg Value.bool (decide_eq_true H4.out))
          ·have e20 := isOf hp.1; have e23 := isOf hp.2.1; simp only [e20, e23] at hKO; go_simp; exact hKO _ W (.refl W) rfl
          ·have e24 := isOf hp.1; simp only [e24] at hKO; go_simp; exact hKO _ W (.refl W) rfl
          ·have e25 := isOf hp.1; simp only [e25] at hKO; go_simp; exact hKO _ W (.refl W) rfl
          ·have e25 := isOf hp.1; have e26 := isOf hp.2.1; simp only [e25, e26] at hKO; have fc4 := BxA.cell (hS.2.1) 4 (v := .int .i64 wd) rfl; go_simp; exact hKO _ W (.refl W) rfl
          ·have e25 := isOf hp.1; simp only [e25] at hKO; have fc0 := BxA.cell (hS.2.2.1) 0 (v := .int .i64 (K : Int)) rfl; go_simp; exact hKO _ W (.refl W) rfl
          ·have e25 := isOf hp.1; have e28 := isOf hp.2.1; simp only [e25, e28] at hKO; go_simp
           refine (Tryz.adamOne K HK.out _).mono ?_
           rintro e W1 ⟨rfl, hE⟩
           exact hKO _ W1 hE rfl
          ·have e25 := isOf hp.1; have e27 := isOf hp.2.1; have e29 := isOf hp.2.2.1; simp only [e25, e27, e29] at hKO; go_simp; exact hKO _ W (Ext.refl W) (by first | rfl | exact congrArg Value.bool (decide_eq_true H5.out))
          ·have e25 := isOf hp.1; have e30 := isOf hp.2.1; simp only [e25, e30] at hKO; go_simp; exact hKO _ W (.refl W) rfl
          ·have e31 := isOf hp.1; simp only [e31] at hKO; go_simp; exact hKO _ W (.refl W) rfl
         intro vs W3 hS hp
         clear szw3 E0 p2 p3
         obtain ⟨E0, p2, p3, sz3⟩ := hS
         obtain ⟨h3_0, h3_1, h3_2, h3_3, h3_4, h3_5, h3_6, h3_7, h3_8, h3_9, h3_10, h3_11, h3_12, h3_13, h3_14, h3_15, h3_16, h3_17, h3_18, h3_19, h3_20, h3_21, h3_22, h3_23, h3_24, h3_25, h3_26, h3_27, h3_28, h3_29, h3_30, h3_31, h3_32, -⟩ := hp
         replace h3_0 : vs 0 = .pointer (some ⟨w.heap.size, 0, none⟩) := h3_0
         replace h3_1 : vs 1 = .int .i64 lr := h3_1
         replace h3_2 : vs 2 = .bool true := h3_2
         replace h3_3 : vs 3 = .bool true := h3_3
         replace h3_4 : vs 4 = .pointer (some ⟨w.heap.size, 3, none⟩) := h3_4
         replace h3_5 : vs 5 = .int .i64 eps := h3_5
         replace h3_6 : vs 6 = .bool true := h3_6
         replace h3_7 : vs 7 = .bool true := h3_7
         replace h3_8 : vs 8 = .bool true := h3_8
         replace h3_9 : vs 9 = .func (.func 26) #[] #[.pointer (some ⟨w.heap.size + 1, 0, none⟩)] := h3_9
         replace h3_10 : vs 10 = .pointer (some ⟨w.heap.size, 1, none⟩) := h3_10
         replace h3_11 : vs 11 = .int .i64 b1 := h3_11
         replace h3_12 : vs 12 = .bool true := h3_12
         replace h3_13 : vs 13 = .bool true := h3_13
         replace h3_14 : vs 14 = .bool true := h3_14
         replace h3_15 : vs 15 = .func (.func 26) #[] #[.pointer (some ⟨w.heap.size + 1, 0, none⟩)] := h3_15
         replace h3_16 : vs 16 = .pointer (some ⟨w.heap.size, 2, none⟩) := h3_16
         replace h3_17 : vs 17 = .int .i64 b2 := h3_17
         replace h3_18 : vs 18 = .bool true := h3_18
         replace h3_19 : vs 19 = .bool true := h3_19
         replace h3_20 : vs 20 = .bool true := h3_20
         replace h3_21 : vs 21 = .pointer (some ⟨w.heap.size, 4, none⟩) := h3_21
         replace h3_22 : vs 22 = .int .i64 wd := h3_22
         replace h3_23 : vs 23 = .bool true := h3_23
         replace h3_24 : vs 24 = .bool true := h3_24
         replace h3_25 : vs 25 = .bool true := h3_25
         replace h3_26 : vs 26 = .pointer (some ⟨w.heap.size, 4, none⟩) := h3_26
         replace h3_27 : vs 27 = .int .i64 wd := h3_27
         replace h3_28 : vs 28 = .int .i64 (K : Int) := h3_28
         replace h3_29 : vs 29 = .int .i64 (oneZ K) := h3_29
         replace h3_30 : vs 30 = .bool true := h3_30
         replace h3_31 : vs 31 = .bool true := h3_31
         replace h3_32 : vs 32 = .bool true := h3_32
         simp only [h3_0, h3_1, h3_2, h3_3, h3_4, h3_5, h3_6, h3_7, h3_8, h3_9, h3_10, h3_11, h3_12, h3_13, h3_14, h3_15, h3_16, h3_17, h3_18, h3_19, h3_20, h3_21, h3_22, h3_23, h3_24, h3_25, h3_26, h3_27, h3_28, h3_29, h3_30, h3_31, h3_32]
         clear h3_0 h3_1 h3_2 h3_3 h3_4 h3_5 h3_6 h3_7 h3_8 h3_9 h3_10 h3_11 h3_12 h3_13 h3_14 h3_15 h3_16 h3_17 h3_18 h3_19 h3_20 h3_21 h3_22 h3_23 h3_24 h3_25 h3_26 h3_27 h3_28 h3_29 h3_30 h3_31 h3_32
         obtain ⟨kp2_0, kp2_1, kp2_2, kp2_3, kp2_4, kp2_5⟩ := p2.c6
         have kp3_0 := p3.cell 0 (v := .int .i64 (K : Int)) rfl
         go_wp2; go_ret
         exact ⟨ret_b HR.out.symm, E0⟩
        ·have H5 := Lib.hid g5
         clear g5
         have HR : Hid (rightA ⟨lr, b1, b2, eps, wd, ap⟩ (K : Int) = false) := Lib.hid (by rw [rightA_nat HK.out]; simp [H0.out, H1.out, H2.out, H3.out, H4.out, H5.out])
         have ltp2 := p2.lt; have ltp3 := p3.lt; have szw4 := Ext.size E0
         refine region_gs [.one fun v _ => v = .pointer (some ⟨w.heap.size, 0, none⟩),
           .one fun v _ => v = .int .i64 lr,
           .one fun v _ => v = .bool true,
           .one fun v _ => v = .bool true,
           .one fun v _ => v = .pointer (some ⟨w.heap.size, 3, none⟩),
           .one fun v _ => v = .int .i64 eps,
           .one fun v _ => v = .bool true,
           .one fun v _ => v = .bool true,
           .one fun v _ => v = .bool true,
           .one fun v _ => v = .func (.func 26) #[] #[.pointer (some ⟨w.heap.size + 1, 0, none⟩)],
           .one fun v _ => v = .pointer (some ⟨w.heap.size, 1, none⟩),
           .one fun v _ => v = .int .i64 b1,
           .one fun v _ => v = .bool true,
           .one fun v _ => v = .bool true,
           .one fun v _ => v = .bool true,
           .one fun v _ => v = .func (.func 26) #[] #[.pointer (some ⟨w.heap.size + 1, 0, none⟩)],
           .one fun v _ => v = .pointer (some ⟨w.heap.size, 2, none⟩),
           .one fun v _ => v = .int .i64 b2,
           .one fun v _ => v = .bool true,
           .one fun v _ => v = .bool true,
           .one fun v _ => v = .bool true,
           .one fun v _ => v = .pointer (some ⟨w.heap.size, 4, none⟩),
           .one fun v _ => v = .int .i64 wd,
           .one fun v _ => v = .bool true,
           .one fun v _ => v = .bool true,
           .one fun v _ => v = .bool true,
           .one fun v _ => v = .pointer (some ⟨w.heap.size, 4, none⟩),
           .one fun v _ => v = .int .i64 wd,
           .one fun v _ => v = .int .i64 (K : Int),
           .one fun v _ => v = .int .i64 (oneZ K),
           .one fun v _ => v = .bool false,
           .one fun v _ => v = .bool false,
           .one fun v _ => v = .bool false]
          (fun W => Ext w W ∧ BxA W w.heap.size 23 #[.int .i64 lr, .int .i64 b1, .int .i64 b2, .int .i64 eps, .int .i64 wd, .bool ap] ∧ BxA W (w.heap.size + 1) 3 #[.int .i64 (K : Int)] ∧ W0.heap.size ≤ W.heap.size) ⟨Good.is _, Good.is _, Good.is _, Good.is _, Good.is _, Good.is _, Good.is _, Good.is _, Good.is _, Good.is _, Good.is _, Good.is _, Good.is _, Good.is _, Good.is _, Good.is _, Good.is _, Good.is _, Good.is _, Good.is _, Good.is _, Good.is _, Good.is _, Good.is _, Good.is _, Good.is _, Good.is _, Good.is _, Good.is _, Good.is _, Good.is _, Good.is _, Good.is _, trivial⟩
          ⟨E0, p2, p3, Nat.le_refl _⟩ (A := ?A4) ?hA4 ?howe4 ?hfin4
         case hA4 =>
          intro vs
          simp only [putAll, Act.put, sA, sZ, sS, Nat.zero_add, Nat.reduceAdd]
          exact rfl
         case howe4 =>
          clear E0 p2 p3
          intro hf
          refine ⟨oE 0 [] hf rfl ?_, oE 1 [0] hf rfl ?_, oE 2 [1] hf rfl ?_, oE 3 [2] hf rfl ?_, oE 4 [3] hf rfl ?_, oE 5 [3, 4] hf rfl ?_, oE 6 [3, 5] hf rfl ?_, oE 7 [3, 6] hf rfl ?_, oE 8 [7] hf rfl ?_, oE 9 [8] hf rfl ?_, oE 10 [8] hf rfl ?_, oE 11 [8, 10] hf rfl ?_, oE 12 [8, 9, 11] hf rfl ?_, oE 13 [8, 12] hf rfl ?_, oE 14 [13] hf rfl ?_, oE 15 [14] hf rfl ?_, oE 16 [14] hf rfl ?_, oE 17 [14, 16] hf rfl ?_, oE 18 [14, 15, 17] hf rfl ?_, oE 19 [14, 18] hf rfl ?_, oE 20 [19] hf rfl ?_, oE 21 [20] hf rfl ?_, oE 22 [20, 21] hf rfl ?_, oE 23 [20, 22] hf rfl ?_, oE 24 [20, 23] hf rfl ?_, oE 25 [24] hf rfl ?_, oE 26 [25] hf rfl ?_, oE 27 [25, 26] hf rfl ?_, oE 28 [25] hf rfl ?_, oE 29 [25, 28] hf rfl ?_, oE 30 [25, 27, 29] hf rfl ?_, oE 31 [25, 30] hf rfl ?_, oE 32 [31] hf rfl ?_, trivial⟩
          all_goals intro vs W hS hp hx KO hKO
          all_goals simp only [Act.put, sA, sZ, sS] at hKO
          ·go_simp; exact hKO _ W (.refl W) rfl
          ·have e0 := isOf hp.1; simp only [e0] at hKO; have fc0 := BxA.cell (hS.2.1) 0 (v := .int .i64 lr) rfl; go_simp; exact hKO _ W (.refl W) rfl
          ·have e1 := isOf hp.1; simp only [e1] at hKO; go_simp; exact hKO _ W (Ext.refl W) (by first | rfl | exact congrArg Value.bool (decide_eq_true H0.out))
          ·have e2 := isOf hp.1; simp only [e2] at hKO; go_simp; exact hKO _ W (.refl W) rfl
          ·have e3 := isOf hp.1; simp only [e3] at hKO; go_simp; exact hKO _ W (.refl W) rfl
          ·have e3 := isOf hp.1; have e4 := isOf hp.2.1; simp only [e3, e4] at hKO; have fc3 := BxA.cell (hS.2.1) 3 (v := .int .i64 eps) rfl; go_simp; exact hKO _ W (.refl W) rfl
          ·have e3 := isOf hp.1; have e5 := isOf hp.2.1; simp only [e3, e5] at hKO; go_simp; exact hKO _ W (Ext.refl W) (by first | rfl | exact congrArg Value.bool (decide_eq_true H1.out))
          ·have e3 := isOf hp.1; have e6 := isOf hp.2.1; simp only [e3, e6] at hKO; go_simp; exact hKO _ W (.refl W) rfl
          ·have e7 := isOf hp.1; simp only [e7] at hKO; go_simp; exact hKO _ W (.refl W) rfl
          ·have e8 := isOf hp.1; simp only [e8] at hKO; go_simp; exact hKO _ W (.refl W) rfl
          ·have e8 := isOf hp.1; simp only [e8] at hKO; go_simp; exact hKO _ W (.refl W) rfl
          ·have e8 := isOf hp.1; have e10 := isOf hp.2.1; simp only [e8, e10] at hKO; have fc1 := BxA.cell (hS.2.1) 1 (v := .int .i64 b1) rfl; go_simp; exact hKO _ W (.refl W) rfl
          ·have e8 := isOf hp.1; have e9 := isOf hp.2.1; have e11 := isOf hp.2.2.1; simp only [e8, e9, e11] at hKO; go_simp
           refine (Tryz.adamBeta K HK.out b1 hS.2.2.1).mono ?_
           rintro e W1 ⟨rfl, hE⟩
           rw [H2.out]
           exact hKO _ W1 hE rfl
          ·have e8 := isOf hp.1; have e12 := isOf hp.2.1; simp only [e8, e12] at hKO; go_simp; exact hKO _ W (.refl W) rfl
          ·have e13 := isOf hp.1; simp only [e13] at hKO; go_simp; exact hKO _ W (.refl W) rfl
          ·have e14 := isOf hp.1; simp only [e14] at hKO; go_simp; exact hKO _ W (.refl W) rfl
          ·have e14 := isOf hp.1; simp only [e14] at hKO; go_simp; exact hKO _ W (.refl W) rfl
          ·have e14 := isOf hp.1; have e16 := isOf hp.2.1; simp only [e14, e16] at hKO; have fc2 := BxA.cell (hS.2.1) 2 (v := .int .i64 b2) rfl; go_simp; exact hKO _ W (.refl W) rfl
          ·have e14 := isOf hp.1; have e15 := isOf hp.2.1; have e17 := isOf hp.2.2.1; simp only [e14, e15, e17] at hKO; go_simp
           refine (Tryz.adamBeta K HK.out b2 hS.2.2.1).mono ?_
           rintro e W1 ⟨rfl, hE⟩
           rw [H3.out]
           exact hKO _ W1 hE rfl
          ·have e14 := isOf hp.1; have e18 := isOf hp.2.1; simp only [e14, e18] at hKO; go_simp; exact hKO _ W (.refl W) rfl
          ·have e19 := isOf hp.1; simp only [e19] at hKO; go_simp; exact hKO _ W (.refl W) rfl
          ·have e20 := isOf hp.1; simp only [e20] at hKO; go_simp; exact hKO _ W (.refl W) rfl
          ·have e20 := isOf hp.1; have e21 := isOf hp.2.1; simp only [e20, e21] at hKO; have fc4 := BxA.cell (hS.2.1) 4 (v := .int .i64 wd) rfl; go_simp; exact hKO _ W (.refl W) rfl
          ·have e20 := isOf hp.1; have e22 := isOf hp.2.1; simp only [e20, e22] at hKO; go_simp; exact hKO _ W (Ext.refl W) (by first | rfl | exact congrArg Value.bool (decide_eq_true H4.out))
          ·have e20 := isOf hp.1; have e23 := isOf hp.2.1; simp only [e20, e23] at hKO; go_simp; exact hKO _ W (.refl W) rfl
          ·have e24 := isOf hp.1; simp only [e24] at hKO; go_simp; exact hKO _ W (.refl W) rfl
          ·have e25 := isOf hp.1; simp only [e25] at hKO; go_simp; exact hKO _ W (.refl W) rfl
          ·have e25 := isOf hp.1; have e26 := isOf hp.2.1; simp only [e25, e26] at hKO; have fc4 := BxA.cell (hS.2.1) 4 (v := .int .i64 wd) rfl; go_simp; exact hKO _ W (.refl W) rfl
          ·have e25 := isOf hp.1; simp only [e25] at hKO; have fc0 := BxA.cell (hS.2.2.1) 0 (v := .int .i64 (K : Int)) rfl; go_simp; exact hKO _ W (.refl W) rfl
          ·have e25 := isOf hp.1; have e28 := isOf hp.2.1; simp only [e25, e28] at hKO; go_simp
           refine (Tryz.adamOne K HK.out _).mono ?_
           rintro e W1 ⟨rfl, hE⟩
           exact hKO _ W1 hE rfl
          ·have e25 := isOf hp.1; have e27 := isOf hp.2.1; have e29 := isOf hp.2.2.1; simp only [e25, e27, e29] at hKO; go_simp; exact hKO _ W (Ext.refl W) (by first | rfl | exact congrArg Value.bool (decide_eq_false H5.out))
          ·have e25 := isOf hp.1; have e30 := isOf hp.2.1; simp only [e25, e30] at hKO; go_simp; exact hKO _ W (.refl W) rfl
          ·have e31 := isOf hp.1; simp only [e31] at hKO; go_simp; exact hKO _ W (.refl W) rfl
         intro vs W4 hS hp
         clear szw4 E0 p2 p3
         obtain ⟨E0, p2, p3, sz4⟩ := hS
         obtain ⟨h4_0, h4_1, h4_2, h4_3, h4_4, h4_5, h4_6, h4_7, h4_8, h4_9, h4_10, h4_11, h4_12, h4_13, h4_14, h4_15, h4_16, h4_17, h4_18, h4_19, h4_20, h4_21, h4_22, h4_23, h4_24, h4_25, h4_26, h4_27, h4_28, h4_29, h4_30, h4_31, h4_32, -⟩ := hp
         replace h4_0 : vs 0 = .pointer (some ⟨w.heap.size, 0, none⟩) := h4_0
         replace h4_1 : vs 1 = .int .i64 lr := h4_1
         replace h4_2 : vs 2 = .bool true := h4_2
         replace h4_3 : vs 3 = .bool true := h4_3
         replace h4_4 : vs 4 = .pointer (some ⟨w.heap.size, 3, none⟩) := h4_4
         replace h4_5 : vs 5 = .int .i64 eps := h4_5
         replace h4_6 : vs 6 = .bool true := h4_6
         replace h4_7 : vs 7 = .bool true := h4_7
         replace h4_8 : vs 8 = .bool true := h4_8
         replace h4_9 : vs 9 = .func (.func 26) #[] #[.pointer (some ⟨w.heap.size + 1, 0, none⟩)] := h4_9
         replace h4_10 : vs 10 = .pointer (some ⟨w.heap.size, 1, none⟩) := h4_10
         replace h4_11 : vs 11 = .int .i64 b1 := h4_11
         replace h4_12 : vs 12 = .bool true := h4_12
         replace h4_13 : vs 13 = .bool true := h4_13
         replace h4_14 : vs 14 = .bool true := h4_14
         replace h4_15 : vs 15 = .func (.func 26) #[] #[.pointer (some ⟨w.heap.size + 1, 0, none⟩)] := h4_15
         replace h4_16 : vs 16 = .pointer (some ⟨w.heap.size, 2, none⟩) := h4_16
         replace h4_17 : vs 17 = .int .i64 b2 := h4_17
         replace h4_18 : vs 18 = .bool true := h4_18
         replace h4_19 : vs 19 = .bool true := h4_19
         replace h4_20 : vs 20 = .bool true := h4_20
         replace h4_21 : vs 21 = .pointer (some ⟨w.heap.size, 4, none⟩) := h4_21
         replace h4_22 : vs 22 = .int .i64 wd := h4_22
         replace h4_23 : vs 23 = .bool true := h4_23
         replace h4_24 : vs 24 = .bool true := h4_24
         replace h4_25 : vs 25 = .bool true := h4_25
         replace h4_26 : vs 26 = .pointer (some ⟨w.heap.size, 4, none⟩) := h4_26
         replace h4_27 : vs 27 = .int .i64 wd := h4_27
         replace h4_28 : vs 28 = .int .i64 (K : Int) := h4_28
         replace h4_29 : vs 29 = .int .i64 (oneZ K) := h4_29
         replace h4_30 : vs 30 = .bool false := h4_30
         replace h4_31 : vs 31 = .bool false := h4_31
         replace h4_32 : vs 32 = .bool false := h4_32
         simp only [h4_0, h4_1, h4_2, h4_3, h4_4, h4_5, h4_6, h4_7, h4_8, h4_9, h4_10, h4_11, h4_12, h4_13, h4_14, h4_15, h4_16, h4_17, h4_18, h4_19, h4_20, h4_21, h4_22, h4_23, h4_24, h4_25, h4_26, h4_27, h4_28, h4_29, h4_30, h4_31, h4_32]
         clear h4_0 h4_1 h4_2 h4_3 h4_4 h4_5 h4_6 h4_7 h4_8 h4_9 h4_10 h4_11 h4_12 h4_13 h4_14 h4_15 h4_16 h4_17 h4_18 h4_19 h4_20 h4_21 h4_22 h4_23 h4_24 h4_25 h4_26 h4_27 h4_28 h4_29 h4_30 h4_31 h4_32
         obtain ⟨kp2_0, kp2_1, kp2_2, kp2_3, kp2_4, kp2_5⟩ := p2.c6
         have kp3_0 := p3.cell 0 (v := .int .i64 (K : Int)) rfl
         go_wp2; go_ret
         exact ⟨ret_b HR.out.symm, E0⟩
       ·have H4 := Lib.hid g4
        clear g4
        have HR : Hid (rightA ⟨lr, b1, b2, eps, wd, ap⟩ (K : Int) = false) := Lib.hid (by rw [rightA_nat HK.out]; simp [H0.out, H1.out, H2.out, H3.out, H4.out])
        have ltp2 := p2.lt; have ltp3 := p3.lt; have szw5 := Ext.size E0
        refine region_gs [.one fun v _ => v = .pointer (some ⟨w.heap.size, 0, none⟩),
          .one fun v _ => v = .int .i64 lr,
          .one fun v _ => v = .bool true,
          .one fun v _ => v = .bool true,
          .one fun v _ => v = .pointer (some ⟨w.heap.size, 3, none⟩),
          .one fun v _ => v = .int .i64 eps,
          .one fun v _ => v = .bool true,
          .one fun v _ => v = .bool true,
          .one fun v _ => v = .bool true,
          .one fun v _ => v = .func (.func 26) #[] #[.pointer (some ⟨w.heap.size + 1, 0, none⟩)],
          .one fun v _ => v = .pointer (some ⟨w.heap.size, 1, none⟩),
          .one fun v _ => v = .int .i64 b1,
          .one fun v _ => v = .bool true,
          .one fun v _ => v = .bool true,
          .one fun v _ => v = .bool true,
          .one fun v _ => v = .func (.func 26) #[] #[.pointer (some ⟨w.heap.size + 1, 0, none⟩)],
          .one fun v _ => v = .pointer (some ⟨w.heap.size, 2, none⟩),
          .one fun v _ => v = .int .i64 b2,
          .one fun v _ => v = .bool true,
          .one fun v _ => v = .bool true,
          .one fun v _ => v = .bool true,
          .one fun v _ => v = .pointer (some ⟨w.heap.size, 4, none⟩),
          .one fun v _ => v = .int .i64 wd,
          .one fun v _ => v = .bool false,
          .one fun v _ => v = .bool false,
          .one fun v _ => v = .bool false,
          .one fun v _ => v = undef,
          .one fun v _ => v = undef,
          .one fun v _ => v = undef,
          .one fun v _ => v = undef,
          .one fun v _ => v = undef,
          .one fun v _ => v = .bool false,
          .one fun v _ => v = .bool false]
         (fun W => Ext w W ∧ BxA W w.heap.size 23 #[.int .i64 lr, .int .i64 b1, .int .i64 b2, .int .i64 eps, .int .i64 wd, .bool ap] ∧ BxA W (w.heap.size + 1) 3 #[.int .i64 (K : Int)] ∧ W0.heap.size ≤ W.heap.size) ⟨Good.is _, Good.is _, Good.is _, Good.is _, Good.is _, Good.is _, Good.is _, Good.is _, Good.is _, Good.is _, Good.is _, Good.is _, Good.is _, Good.is _, Good.is _, Good.is _, Good.is _, Good.is _, Good.is _, Good.is _, Good.is _, Good.is _, Good.is _, Good.is _, Good.is _, Good.is _, Good.is _, Good.is _, Good.is _, Good.is _, Good.is _, Good.is _, Good.is _, trivial⟩
         ⟨E0, p2, p3, Nat.le_refl _⟩ (A := ?A5) ?hA5 ?howe5 ?hfin5
        case hA5 =>
         intro vs
         simp only [putAll, Act.put, sA, sZ, sS, Nat.zero_add, Nat.reduceAdd]
         exact rfl
        case howe5 =>
         clear E0 p2 p3
         intro hf
         refine ⟨oE 0 [] hf rfl ?_, oE 1 [0] hf rfl ?_, oE 2 [1] hf rfl ?_, oE 3 [2] hf rfl ?_, oE 4 [3] hf rfl ?_, oE 5 [3, 4] hf rfl ?_, oE 6 [3, 5] hf rfl ?_, oE 7 [3, 6] hf rfl ?_, oE 8 [7] hf rfl ?_, oE 9 [8] hf rfl ?_, oE 10 [8] hf rfl ?_, oE 11 [8, 10] hf rfl ?_, oE 12 [8, 9, 11] hf rfl ?_, oE 13 [8, 12] hf rfl ?_, oE 14 [13] hf rfl ?_, oE 15 [14] hf rfl ?_, oE 16 [14] hf rfl ?_, oE 17 [14, 16] hf rfl ?_, oE 18 [14, 15, 17] hf rfl ?_, oE 19 [14, 18] hf rfl ?_, oE 20 [19] hf rfl ?_, oE 21 [20] hf rfl ?_, oE 22 [20, 21] hf rfl ?_, oE 23 [20, 22] hf rfl ?_, oE 24 [20, 23] hf rfl ?_, oE 25 [24] hf rfl ?_, oE 26 [25] hf rfl ?_, oE 27 [25] hf rfl ?_, oE 28 [25] hf rfl ?_, oE 29 [25] hf rfl ?_, oE 30 [25] hf rfl ?_, oE 31 [25, 30] hf rfl ?_, oE 32 [31] hf rfl ?_, trivial⟩
         all_goals intro vs W hS hp hx KO hKO
         all_goals simp only [Act.put, sA, sZ, sS] at hKO
         ·go_simp; exact hKO _ W (.refl W) rfl
         ·have e0 := isOf hp.1; simp only [e0] at hKO; have fc0 := BxA.cell (hS.2.1) 0 (v := .int .i64 lr) rfl; go_simp; exact hKO _ W (.refl W) rfl
         ·have e1 := isOf hp.1; simp only [e1] at hKO; go_simp; exact hKO _ W (Ext.refl W) (by first | rfl | exact congrArg Value.bool (decide_eq_true H0.out))
         ·have e2 := isOf hp.1; simp only [e2] at hKO; go_simp; exact hKO _ W (.refl W) rfl
         ·have e3 := isOf hp.1; simp only [e3] at hKO; go_simp; exact hKO _ W (.refl W) rfl
         ·have e3 := isOf hp.1; have e4 := isOf hp.2.1; simp only [e3, e4] at hKO; have fc3 := BxA.cell (hS.2.1) 3 (v := .int .i64 eps) rfl; go_simp; exact hKO _ W (.refl W) rfl
         ·have e3 := isOf hp.1; have e5 := isOf hp.2.1; simp only [e3, e5] at hKO; go_simp; exact hKO _ W (Ext.refl W) (by first | rfl | exact congrArg Value.bool (decide_eq_true H1.out))
         ·have e3 := isOf hp.1; have e6 := isOf hp.2.1; simp only [e3, e6] at hKO; go_simp; exact hKO _ W (.refl W) rfl
         ·have e7 := isOf hp.1; simp only [e7] at hKO; go_simp; exact hKO _ W (.refl W) rfl
         ·have e8 := isOf hp.1; simp only [e8] at hKO; go_simp; exact hKO _ W (.refl W) rfl
         ·have e8 := isOf hp.1; simp only [e8] at hKO; go_simp; exact hKO _ W (.refl W) rfl
         ·have e8 := isOf hp.1; have e10 := isOf hp.2.1; simp only [e8, e10] at hKO; have fc1 := BxA.cell (hS.2.1) 1 (v := .int .i64 b1) rfl; go_simp; exact hKO _ W (.refl W) rfl
         ·have e8 := isOf hp.1; have e9 := isOf hp.2.1; have e11 := isOf hp.2.2.1; simp only [e8, e9, e11] at hKO; go_simp
          refine (Tryz.adamBeta K HK.out b1 hS.2.2.1).mono ?_
          rintro e W1 ⟨rfl, hE⟩
          rw [H2.out]
          exact hKO _ W1 hE rfl
         ·have e8 := isOf hp.1; have e12 := isOf hp.2.1; simp only [e8, e12] at hKO; go_simp; exact hKO _ W (.refl W) rfl
         ·have e13 := isOf hp.1; simp only [e13] at hKO; go_simp; exact hKO _ W (.refl W) rfl
         ·have e14 := isOf hp.1; simp only [e14] at hKO; go_simp; exact hKO _ W (.refl W) rfl
         ·have e14 := isOf hp.1; simp only [e14] at hKO; go_simp; exact hKO _ W (.refl W) rfl
         ·have e14 := isOf hp.1; have e16 := isOf hp.2.1; simp only [e14, e16] at hKO; have fc2 := BxA.cell (hS.2.1) 2 (v := .int .i64 b2) rfl; go_simp; exact hKO _ W (.refl W) rfl
         ·have e14 := isOf hp.1; have e15 := isOf hp.2.1; have e17 := isOf hp.2.2.1; simp only [e14, e15, e17] at hKO; go_simp
          refine (Tryz.adamBeta K HK.out b2 hS.2.2.1).mono ?_
          rintro e W1 ⟨rfl, hE⟩
          rw [H3.out]
          exact hKO _ W1 hE rfl
         ·have e14 := isOf hp.1; have e18 := isOf hp.2.1; simp only [e14, e18] at hKO; go_simp; exact hKO _ W (.refl W) rfl
         ·have e19 := isOf hp.1; simp only [e19] at hKO; go_simp; exact hKO _ W (.refl W) rfl
         ·have e20 := isOf hp.1; simp only [e20] at hKO; go_simp; exact hKO _ W (.refl W) rfl
         ·have e20 := isOf hp.1; have e21 := isOf hp.2.1; simp only [e20, e21] at hKO; have fc4 := BxA.cell (hS.2.1) 4 (v := .int .i64 wd) rfl; go_simp; exact hKO _ W (.refl W) rfl
         ·have e20 := isOf hp.1; have e22 := isOf hp.2.1; simp only [e20, e22] at hKO; go_simp; exact hKO _ W (Ext.refl W) (by first | rfl | exact congrArg Value.bool (decide_eq_false H4.out))
         ·have e20 := isOf hp.1; have e23 := isOf hp.2.1; simp only [e20, e23] at hKO; go_simp; exact hKO _ W (.refl W) rfl
         ·have e24 := isOf hp.1; simp only [e24] at hKO; go_simp; exact hKO _ W (.refl W) rfl
         ·have e25 := isOf hp.1; simp only [e25] at hKO; go_simp; exact hKO _ W (.refl W) rfl
         ·have e25 := isOf hp.1; simp only [e25] at hKO; go_simp; exact hKO _ W (.refl W) rfl
         ·have e25 := isOf hp.1; simp only [e25] at hKO; go_simp; exact hKO _ W (.refl W) rfl
         ·have e25 := isOf hp.1; simp only [e25] at hKO; go_simp; exact hKO _ W (.refl W) rfl
         ·have e25 := isOf hp.1; simp only [e25] at hKO; go_simp; exact hKO _ W (.refl W) rfl
         ·have e25 := isOf hp.1; have e30 := isOf hp.2.1; simp only [e25, e30] at hKO; go_simp; exact hKO _ W (.refl W) rfl
         ·have e31 := isOf hp.1; simp only [e31] at hKO; go_simp; exact hKO _ W (.refl W) rfl
        intro vs W5 hS hp
        clear szw5 E0 p2 p3
        obtain ⟨E0, p2, p3, sz5⟩ := hS
        obtain ⟨h5_0, h5_1, h5_2, h5_3, h5_4, h5_5, h5_6, h5_7, h5_8, h5_9, h5_10, h5_11, h5_12, h5_13, h5_14, h5_15, h5_16, h5_17, h5_18, h5_19, h5_20, h5_21, h5_22, h5_23, h5_24, h5_25, h5_26, h5_27, h5_28, h5_29, h5_30, h5_31, h5_32, -⟩ := hp
        replace h5_0 : vs 0 = .pointer (some ⟨w.heap.size, 0, none⟩) := h5_0
        replace h5_1 : vs 1 = .int .i64 lr := h5_1
        replace h5_2 : vs 2 = .bool true := h5_2
        replace h5_3 : vs 3 = .bool true := h5_3
        replace h5_4 : vs 4 = .pointer (some ⟨w.heap.size, 3, none⟩) := h5_4
        replace h5_5 : vs 5 = .int .i64 eps := h5_5
        replace h5_6 : vs 6 = .bool true := h5_6
        replace h5_7 : vs 7 = .bool true := h5_7
        replace h5_8 : vs 8 = .bool true := h5_8
        replace h5_9 : vs 9 = .func (.func 26) #[] #[.pointer (some ⟨w.heap.size + 1, 0, none⟩)] := h5_9
        replace h5_10 : vs 10 = .pointer (some ⟨w.heap.size, 1, none⟩) := h5_10
        replace h5_11 : vs 11 = .int .i64 b1 := h5_11
        replace h5_12 : vs 12 = .bool true := h5_12
        replace h5_13 : vs 13 = .bool true := h5_13
        replace h5_14 : vs 14 = .bool true := h5_14
        replace h5_15 : vs 15 = .func (.func 26) #[] #[.pointer (some ⟨w.heap.size + 1, 0, none⟩)] := h5_15
        replace h5_16 : vs 16 = .pointer (some ⟨w.heap.size, 2, none⟩) := h5_16
        replace h5_17 : vs 17 = .int .i64 b2 := h5_17
        replace h5_18 : vs 18 = .bool true := h5_18
        replace h5_19 : vs 19 = .bool true := h5_19
        replace h5_20 : vs 20 = .bool true := h5_20
        replace h5_21 : vs 21 = .pointer (some ⟨w.heap.size, 4, none⟩) := h5_21
        replace h5_22 : vs 22 = .int .i64 wd := h5_22
        replace h5_23 : vs 23 = .bool false := h5_23
        replace h5_24 : vs 24 = .bool false := h5_24
        replace h5_25 : vs 25 = .bool false := h5_25
        replace h5_26 : vs 26 = undef := h5_26
        replace h5_27 : vs 27 = undef := h5_27
        replace h5_28 : vs 28 = undef := h5_28
        replace h5_29 : vs 29 = undef := h5_29
        replace h5_30 : vs 30 = undef := h5_30
        replace h5_31 : vs 31 = .bool false := h5_31
        replace h5_32 : vs 32 = .bool false := h5_32
        simp only [h5_0, h5_1, h5_2, h5_3, h5_4, h5_5, h5_6, h5_7, h5_8, h5_9, h5_10, h5_11, h5_12, h5_13, h5_14, h5_15, h5_16, h5_17, h5_18, h5_19, h5_20, h5_21, h5_22, h5_23, h5_24, h5_25, h5_26, h5_27, h5_28, h5_29, h5_30, h5_31, h5_32]
        clear h5_0 h5_1 h5_2 h5_3 h5_4 h5_5 h5_6 h5_7 h5_8 h5_9 h5_10 h5_11 h5_12 h5_13 h5_14 h5_15 h5_16 h5_17 h5_18 h5_19 h5_20 h5_21 h5_22 h5_23 h5_24 h5_25 h5_26 h5_27 h5_28 h5_29 h5_30 h5_31 h5_32
        obtain ⟨kp2_0, kp2_1, kp2_2, kp2_3, kp2_4, kp2_5⟩ := p2.c6
        have kp3_0 := p3.cell 0 (v := .int .i64 (K : Int)) rfl
        go_wp2; go_ret
        exact ⟨ret_b HR.out.symm, E0⟩
    ·have H1 := Lib.hid g1
     clear g1
     have HR : Hid (rightA ⟨lr, b1, b2, eps, wd, ap⟩ (K : Int) = false) := Lib.hid (by rw [rightA_nat HK.out]; simp [H0.out, H1.out])
     have ltp2 := p2.lt; have ltp3 := p3.lt; have szw6 := Ext.size E0
     refine region_gs [.one fun v _ => v = .pointer (some ⟨w.heap.size, 0, none⟩),
       .one fun v _ => v = .int .i64 lr,
       .one fun v _ => v = .bool true,
       .one fun v _ => v = .bool true,
       .one fun v _ => v = .pointer (some ⟨w.heap.size, 3, none⟩),
       .one fun v _ => v = .int .i64 eps,
       .one fun v _ => v = .bool false,
       .one fun v _ => v = .bool false,
       .one fun v _ => v = .bool false,
       .one fun v _ => v = undef,
       .one fun v _ => v = undef,
       .one fun v _ => v = undef,
       .one fun v _ => v = undef,
       .one fun v _ => v = .bool false,
       .one fun v _ => v = .bool false,
       .one fun v _ => v = undef,
       .one fun v _ => v = undef,
       .one fun v _ => v = undef,
       .one fun v _ => v = undef,
       .one fun v _ => v = .bool false,
       .one fun v _ => v = .bool false,
       .one fun v _ => v = undef,
       .one fun v _ => v = undef,
       .one fun v _ => v = undef,
       .one fun v _ => v = .bool false,
       .one fun v _ => v = .bool false,
       .one fun v _ => v = undef,
       .one fun v _ => v = undef,
       .one fun v _ => v = undef,
       .one fun v _ => v = undef,
       .one fun v _ => v = undef,
       .one fun v _ => v = .bool false,
       .one fun v _ => v = .bool false]
      (fun W => Ext w W ∧ BxA W w.heap.size 23 #[.int .i64 lr, .int .i64 b1, .int .i64 b2, .int .i64 eps, .int .i64 wd, .bool ap] ∧ BxA W (w.heap.size + 1) 3 #[.int .i64 (K : Int)] ∧ W0.heap.size ≤ W.heap.size) ⟨Good.is _, Good.is _, Good.is _, Good.is _, Good.is _, Good.is _, Good.is _, Good.is _, Good.is _, Good.is _, Good.is _, Good.is _, Good.is _, Good.is _, Good.is _, Good.is _, Good.is _, Good.is _, Good.is _, Good.is _, Good.is _, Good.is _, Good.is _, Good.is _, Good.is _, Good.is _, Good.is _, Good.is _, Good.is _, Good.is _, Good.is _, Good.is _, Good.is _, trivial⟩
      ⟨E0, p2, p3, Nat.le_refl _⟩ (A := ?A6) ?hA6 ?howe6 ?hfin6
     case hA6 =>
      intro vs
      simp only [putAll, Act.put, sA, sZ, sS, Nat.zero_add, Nat.reduceAdd]
      exact rfl
     case howe6 =>
      clear E0 p2 p3
      intro hf
      refine ⟨oE 0 [] hf rfl ?_, oE 1 [0] hf rfl ?_, oE 2 [1] hf rfl ?_, oE 3 [2] hf rfl ?_, oE 4 [3] hf rfl ?_, oE 5 [3, 4] hf rfl ?_, oE 6 [3, 5] hf rfl ?_, oE 7 [3, 6] hf rfl ?_, oE 8 [7] hf rfl ?_, oE 9 [8] hf rfl ?_, oE 10 [8] hf rfl ?_, oE 11 [8] hf rfl ?_, oE 12 [8] hf rfl ?_, oE 13 [8, 12] hf rfl ?_, oE 14 [13] hf rfl ?_, oE 15 [14] hf rfl ?_, oE 16 [14] hf rfl ?_, oE 17 [14] hf rfl ?_, oE 18 [14] hf rfl ?_, oE 19 [14, 18] hf rfl ?_, oE 20 [19] hf rfl ?_, oE 21 [20] hf rfl ?_, oE 22 [20] hf rfl ?_, oE 23 [20] hf rfl ?_, oE 24 [20, 23] hf rfl ?_, oE 25 [24] hf rfl ?_, oE 26 [25] hf rfl ?_, oE 27 [25] hf rfl ?_, oE 28 [25] hf rfl ?_, oE 29 [25] hf rfl ?_, oE 30 [25] hf rfl ?_, oE 31 [25, 30] hf rfl ?_, oE 32 [31] hf rfl ?_, trivial⟩
      all_goals intro vs W hS hp hx KO hKO
      all_goals simp only [Act.put, sA, sZ, sS] at hKO
      ·go_simp; exact hKO _ W (.refl W) rfl
      ·have e0 := isOf hp.1; simp only [e0] at hKO; have fc0 := BxA.cell (hS.2.1) 0 (v := .int .i64 lr) rfl; go_simp; exact hKO _ W (.refl W) rfl
      ·have e1 := isOf hp.1; simp only [e1] at hKO; go_simp; exact hKO _ W (Ext.refl W) (by first | rfl | exact congrArg Value.bool (decide_eq_true H0.out))
      ·have e2 := isOf hp.1; simp only [e2] at hKO; go_simp; exact hKO _ W (.refl W) rfl
      ·have e3 := isOf hp.1; simp only [e3] at hKO; go_simp; exact hKO _ W (.refl W) rfl
      ·have e3 := isOf hp.1; have e4 := isOf hp.2.1; simp only [e3, e4] at hKO; have fc3 := BxA.cell (hS.2.1) 3 (v := .int .i64 eps) rfl; go_simp; exact hKO _ W (.refl W) rfl
      ·have e3 := isOf hp.1; have e5 := isOf hp.2.1; simp only [e3, e5] at hKO; go_simp; exact hKO _ W (Ext.refl W) (by first | rfl | exact congrArg Value.bool (decide_eq_false H1.out))
      ·have e3 := isOf hp.1; have e6 := isOf hp.2.1; simp only [e3, e6] at hKO; go_simp; exact hKO _ W (.refl W) rfl
      ·have e7 := isOf hp.1; simp only [e7] at hKO; go_simp; exact hKO _ W (.refl W) rfl
      ·have e8 := isOf hp.1; simp only [e8] at hKO; go_simp; exact hKO _ W (.refl W) rfl
      ·have e8 := isOf hp.1; simp only [e8] at hKO; go_simp; exact hKO _ W (.refl W) rfl
      ·have e8 := isOf hp.1; simp only [e8] at hKO; go_simp; exact hKO _ W (.refl W) rfl
      ·have e8 := isOf hp.1; simp only [e8] at hKO; go_simp; exact hKO _ W (.refl W) rfl
      ·have e8 := isOf hp.1; have e12 := isOf hp.2.1; simp only [e8, e12] at hKO; go_simp; exact hKO _ W (.refl W) rfl
      ·have e13 := isOf hp.1; simp only [e13] at hKO; go_simp; exact hKO _ W (.refl W) rfl
      ·have e14 := isOf hp.1; simp only [e14] at hKO; go_simp; exact hKO _ W (.refl W) rfl
      ·have e14 := isOf hp.1; simp only [e14] at hKO; go_simp; exact hKO _ W (.refl W) rfl
      ·have e14 := isOf hp.1; simp only [e14] at hKO; go_simp; exact hKO _ W (.refl W) rfl
      ·have e14 := isOf hp.1; simp only [e14] at hKO; go_simp; exact hKO _ W (.refl W) rfl
      ·have e14 := isOf hp.1; have e18 := isOf hp.2.1; simp only [e14, e18] at hKO; go_simp; exact hKO _ W (.refl W) rfl
      ·have e19 := isOf hp.1; simp only [e19] at hKO; go_simp; exact hKO _ W (.refl W) rfl
      ·have e20 := isOf hp.1; simp only [e20] at hKO; go_simp; exact hKO _ W (.refl W) rfl
      ·have e20 := isOf hp.1; simp only [e20] at hKO; go_simp; exact hKO _ W (.refl W) rfl
      ·have e20 := isOf hp.1; simp only [e20] at hKO; go_simp; exact hKO _ W (.refl W) rfl
      ·have e20 := isOf hp.1; have e23 := isOf hp.2.1; simp only [e20, e23] at hKO; go_simp; exact hKO _ W (.refl W) rfl
      ·have e24 := isOf hp.1; simp only [e24] at hKO; go_simp; exact hKO _ W (.refl W) rfl
      ·have e25 := isOf hp.1; simp only [e25] at hKO; go_simp; exact hKO _ W (.refl W) rfl
      ·have e25 := isOf hp.1; simp only [e25] at hKO; go_simp; exact hKO _ W (.refl W) rfl
      ·have e25 := isOf hp.1; simp only [e25] at hKO; go_simp; exact hKO _ W (.refl W) rfl
      ·have e25 := isOf hp.1; simp only [e25] at hKO; go_simp; exact hKO _ W (.refl W) rfl
      ·have e25 := isOf hp.1; simp only [e25] at hKO; go_simp; exact hKO _ W (.refl W) rfl
      ·have e25 := isOf hp.1; have e30 := isOf hp.2.1; simp only [e25, e30] at hKO; go_simp; exact hKO _ W (.refl W) rfl
      ·have e31 := isOf hp.1; simp only [e31] at hKO; go_simp; exact hKO _ W (.refl W) rfl
     intro vs W6 hS hp
     clear szw6 E0 p2 p3
     obtain ⟨E0, p2, p3, sz6⟩ := hS
     obtain ⟨h6_0, h6_1, h6_2, h6_3, h6_4, h6_5, h6_6, h6_7, h6_8, h6_9, h6_10, h6_11, h6_12, h6_13, h6_14, h6_15, h6_16, h6_17, h6_18, h6_19, h6_20, h6_21, h6_22, h6_23, h6_24, h6_25, h6_26, h6_27, h6_28, h6_29, h6_30, h6_31, h6_32, -⟩ := hp
     replace h6_0 : vs 0 = .pointer (some ⟨w.heap.size, 0, none⟩) := h6_0
     replace h6_1 : vs 1 = .int .i64 lr := h6_1
     replace h6_2 : vs 2 = .bool true := h6_2
     replace h6_3 : vs 3 = .bool true := h6_3
     replace h6_4 : vs 4 = .pointer (some ⟨w.heap.size, 3, none⟩) := h6_4
     replace h6_5 : vs 5 = .int .i64 eps := h6_5
     replace h6_6 : vs 6 = .bool false := h6_6
     replace h6_7 : vs 7 = .bool false := h6_7
     replace h6_8 : vs 8 = .bool false := h6_8
     replace h6_9 : vs 9 = undef := h6_9
     replace h6_10 : vs 10 = undef := h6_10
     replace h6_11 : vs 11 = undef := h6_11
     replace h6_12 : vs 12 = undef := h6_12
     replace h6_13 : vs 13 = .bool false := h6_13
     replace h6_14 : vs 14 = .bool false := h6_14
     replace h6_15 : vs 15 = undef := h6_15
     replace h6_16 : vs 16 = undef := h6_16
     replace h6_17 : vs 17 = undef := h6_17
     replace h6_18 : vs 18 = undef := h6_18
     replace h6_19 : vs 19 = .bool false := h6_19
     replace h6_20 : vs 20 = .bool false := h6_20
     replace h6_21 : vs 21 = undef := h6_21
     replace h6_22 : vs 22 = undef := h6_22
     replace h6_23 : vs 23 = undef := h6_23
     replace h6_24 : vs 24 = .bool false := h6_24
     replace h6_25 : vs 25 = .bool false := h6_25
     replace h6_26 : vs 26 = undef := h6_26
     replace h6_27 : vs 27 = undef := h6_27
     replace h6_28 : vs 28 = undef := h6_28
     replace h6_29 : vs 29 = undef := h6_29
     replace h6_30 : vs 30 = undef := h6_30
     replace h6_31 : vs 31 = .bool false := h6_31
     replace h6_32 : vs 32 = .bool false := h6_32
     simp only [h6_0, h6_1, h6_2, h6_3, h6_4, h6_5, h6_6, h6_7, h6_8, h6_9, h6_10, h6_11, h6_12, h6_13, h6_14, h6_15, h6_16, h6_17, h6_18, h6_19, h6_20, h6_21, h6_22, h6_23, h6_24, h6_25, h6_26, h6_27, h6_28, h6_29, h6_30, h6_31, h6_32]
     clear h6_0 h6_1 h6_2 h6_3 h6_4 h6_5 h6_6 h6_7 h6_8 h6_9 h6_10 h6_11 h6_12 h6_13 h6_14 h6_15 h6_16 h6_17 h6_18 h6_19 h6_20 h6_21 h6_22 h6_23 h6_24 h6_25 h6_26 h6_27 h6_28 h6_29 h6_30 h6_31 h6_32
     obtain ⟨kp2_0, kp2_1, kp2_2, kp2_3, kp2_4, kp2_5⟩ := p2.c6
     have kp3_0 := p3.cell 0 (v := .int .i64 (K : Int)) rfl
     go_wp2; go_ret
     exact ⟨ret_b HR.out.symm, E0⟩
   ·have H0 := Lib.hid g0
    clear g0
    have HR : Hid (rightA ⟨lr, b1, b2, eps, wd, ap⟩ (K : Int) = false) := Lib.hid (by rw [rightA_nat HK.out]; simp [H0.out])
    have ltp2 := p2.lt; have ltp3 := p3.lt; have szw7 := Ext.size E0
    refine region_gs [.one fun v _ => v = .pointer (some ⟨w.heap.size, 0, none⟩),
      .one fun v _ => v = .int .i64 lr,
      .one fun v _ => v = .bool false,
      .one fun v _ => v = .bool false,
      .one fun v _ => v = undef,
      .one fun v _ => v = undef,
      .one fun v _ => v = undef,
      .one fun v _ => v = .bool false,
      .one fun v _ => v = .bool false,
      .one fun v _ => v = undef,
      .one fun v _ => v = undef,
      .one fun v _ => v = undef,
      .one fun v _ => v = undef,
      .one fun v _ => v = .bool false,
      .one fun v _ => v = .bool false,
      .one fun v _ => v = undef,
      .one fun v _ => v = undef,
      .one fun v _ => v = undef,
      .one fun v _ => v = undef,
      .one fun v _ => v = .bool false,
      .one fun v _ => v = .bool false,
      .one fun v _ => v = undef,
      .one fun v _ => v = undef,
      .one fun v _ => v = undef,
      .one fun v _ => v = .bool false,
      .one fun v _ => v = .bool false,
      .one fun v _ => v = undef,
      .one fun v _ => v = undef,
      .one fun v _ => v = undef,
      .one fun v _ => v = undef,
      .one fun v _ => v = undef,
      .one fun v _ => v = .bool false,
      .one fun v _ => v = .bool false]
     (fun W => Ext w W ∧ BxA W w.heap.size 23 #[.int .i64 lr, .int .i64 b1, .int .i64 b2, .int .i64 eps, .int .i64 wd, .bool ap] ∧ BxA W (w.heap.size + 1) 3 #[.int .i64 (K : Int)] ∧ W0.heap.size ≤ W.heap.size) ⟨Good.is _, Good.is _, Good.is _, Good.is _, Good.is _, Good.is _, Good.is _, Good.is _, Good.is _, Good.is _, Good.is _, Good.is _, Good.is _, Good.is _, Good.is _, Good.is _, Good.is _, Good.is _, Good.is _, Good.is _, Good.is _, Good.is _, Good.is _, Good.is _, Good.is _, Good.is _, Good.is _, Good.is _, Good.is _, Good.is _, Good.is _, Good.is _, Good.is _, trivial⟩
     ⟨E0, p2, p3, Nat.le_refl _⟩ (A := ?A7) ?hA7 ?howe7 ?hfin7
    case hA7 =>
     intro vs
     simp only [putAll, Act.put, sA, sZ, sS, Nat.zero_add, Nat.reduceAdd]
     exact rfl
    case howe7 =>
     clear E0 p2 p3
     intro hf
     refine ⟨oE 0 [] hf rfl ?_, oE 1 [0] hf rfl ?_, oE 2 [1] hf rfl ?_, oE 3 [2] hf rfl ?_, oE 4 [3] hf rfl ?_, oE 5 [3] hf rfl ?_, oE 6 [3] hf rfl ?_, oE 7 [3, 6] hf rfl ?_, oE 8 [7] hf rfl ?_, oE 9 [8] hf rfl ?_, oE 10 [8] hf rfl ?_, oE 11 [8] hf rfl ?_, oE 12 [8] hf rfl ?_, oE 13 [8, 12] hf rfl ?_, oE 14 [13] hf rfl ?_, oE 15 [14] hf rfl ?_, oE 16 [14] hf rfl ?_, oE 17 [14] hf rfl ?_, oE 18 [14] hf rfl ?_, oE 19 [14, 18] hf rfl ?_, oE 20 [19] hf rfl ?_, oE 21 [20] hf rfl ?_, oE 22 [20] hf rfl ?_, oE 23 [20] hf rfl ?_, oE 24 [20, 23] hf rfl ?_, oE 25 [24] hf rfl ?_, oE 26 [25] hf rfl ?_, oE 27 [25] hf rfl ?_, oE 28 [25] hf rfl ?_, oE 29 [25] hf rfl ?_, oE 30 [25] hf rfl ?_, oE 31 [25, 30] hf rfl ?_, oE 32 [31] hf rfl ?_, trivial⟩
     all_goals intro vs W hS hp hx KO hKO
     all_goals simp only [Act.put, sA, sZ, sS] at hKO
     ·go_simp; exact hKO _ W (.refl W) rfl
     ·have e0 := isOf hp.1; simp only [e0] at hKO; have fc0 := BxA.cell (hS.2.1) 0 (v := .int .i64 lr) rfl; go_simp; exact hKO _ W (.refl W) rfl
     ·have e1 := isOf hp.1; simp only [e1] at hKO; go_simp; exact hKO _ W (Ext.refl W) (by first | rfl | exact congrArg Value.bool (decide_eq_false H0.out))
     ·have e2 := isOf hp.1; simp only [e2] at hKO; go_simp; exact hKO _ W (.refl W) rfl
     ·have e3 := isOf hp.1; simp only [e3] at hKO; go_simp; exact hKO _ W (.refl W) rfl
     ·have e3 := isOf hp.1; simp only [e3] at hKO; go_simp; exact hKO _ W (.refl W) rfl
     ·have e3 := isOf hp.1; simp only [e3] at hKO; go_simp; exact hKO _ W (.refl W) rfl
     ·have e3 := isOf hp.1; have e6 := isOf hp.2.1; simp only [e3, e6] at hKO; go_simp; exact hKO _ W (.refl W) rfl
     ·have e7 := isOf hp.1; simp only [e7] at hKO; go_simp; exact hKO _ W (.refl W) rfl
     ·have e8 := isOf hp.1; simp only [e8] at hKO; go_simp; exact hKO _ W (.refl W) rfl
     ·have e8 := isOf hp.1; simp only [e8] at hKO; go_simp; exact hKO _ W (.refl W) rfl
     ·have e8 := isOf hp.1; simp only [e8] at hKO; go_simp; exact hKO _ W (.refl W) rfl
     ·have e8 := isOf hp.1; simp only [e8] at hKO; go_simp; exact hKO _ W (.refl W) rfl
     ·have e8 := isOf hp.1; have e12 := isOf hp.2.1; simp only [e8, e12] at hKO; go_simp; exact hKO _ W (.refl W) rfl
     ·have e13 := isOf hp.1; simp only [e13] at hKO; go_simp; exact hKO _ W (.refl W) rfl
     ·have e14 := isOf hp.1; simp only [e14] at hKO; go_simp; exact hKO _ W (.refl W) rfl
     ·have e14 := isOf hp.1; simp only [e14] at hKO; go_simp; exact hKO _ W (.refl W) rfl
     ·have e14 := isOf hp.1; simp only [e14] at hKO; go_simp; exact hKO _ W (.refl W) rfl
     ·have e14 := isOf hp.1; simp only [e14] at hKO; go_simp; exact hKO _ W (.refl W) rfl
     ·have e14 := isOf hp.1; have e18 := isOf hp.2.1; simp only [e14, e18] at hKO; go_simp; exact hKO _ W (.refl W) rfl
     ·have e19 := isOf hp.1; simp only [e19] at hKO; go_simp; exact hKO _ W (.refl W) rfl
     ·have e20 := isOf hp.1; simp only [e20] at hKO; go_simp; exact hKO _ W (.refl W) rfl
     ·have e20 := isOf hp.1; simp only [e20] at hKO; go_simp; exact hKO _ W (.refl W) rfl
     ·have e20 := isOf hp.1; simp only [e20] at hKO; go_simp; exact hKO _ W (.refl W) rfl
     ·have e20 := isOf hp.1; have e23 := isOf hp.2.1; simp only [e20, e23] at hKO; go_simp; exact hKO _ W (.refl W) rfl
     ·have e24 := isOf hp.1; simp only [e24] at hKO; go_simp; exact hKO _ W (.refl W) rfl
     ·have e25 := isOf hp.1; simp only [e25] at hKO; go_simp; exact hKO _ W (.refl W) rfl
     ·have e25 := isOf hp.1; simp only [e25] at hKO; go_simp; exact hKO _ W (.refl W) rfl
     ·have e25 := isOf hp.1; simp only [e25] at hKO; go_simp; exact hKO _ W (.refl W) rfl
     ·have e25 := isOf hp.1; simp only [e25] at hKO; go_simp; exact hKO _ W (.refl W) rfl
     ·have e25 := isOf hp.1; simp only [e25] at hKO; go_simp; exact hKO _ W (.refl W) rfl
     ·have e25 := isOf hp.1; have e30 := isOf hp.2.1; simp only [e25, e30] at hKO; go_simp; exact hKO _ W (.refl W) rfl
     ·have e31 := isOf hp.1; simp only [e31] at hKO; go_simp; exact hKO _ W (.refl W) rfl
    intro vs W7 hS hp
    clear szw7 E0 p2 p3
    obtain ⟨E0, p2, p3, sz7⟩ := hS
    obtain ⟨h7_0, h7_1, h7_2, h7_3, h7_4, h7_5, h7_6, h7_7, h7_8, h7_9, h7_10, h7_11, h7_12, h7_13, h7_14, h7_15, h7_16, h7_17, h7_18, h7_19, h7_20, h7_21, h7_22, h7_23, h7_24, h7_25, h7_26, h7_27, h7_28, h7_29, h7_30, h7_31, h7_32, -⟩ := hp
    replace h7_0 : vs 0 = .pointer (some ⟨w.heap.size, 0, none⟩) := h7_0
    replace h7_1 : vs 1 = .int .i64 lr := h7_1
    replace h7_2 : vs 2 = .bool false := h7_2
    replace h7_3 : vs 3 = .bool false := h7_3
    replace h7_4 : vs 4 = undef := h7_4
    replace h7_5 : vs 5 = undef := h7_5
    replace h7_6 : vs 6 = undef := h7_6
    replace h7_7 : vs 7 = .bool false := h7_7
    replace h7_8 : vs 8 = .bool false := h7_8
    replace h7_9 : vs 9 = undef := h7_9
    replace h7_10 : vs 10 = undef := h7_10
    replace h7_11 : vs 11 = undef := h7_11
    replace h7_12 : vs 12 = undef := h7_12
    replace h7_13 : vs 13 = .bool false := h7_13
    replace h7_14 : vs 14 = .bool false := h7_14
    replace h7_15 : vs 15 = undef := h7_15
    replace h7_16 : vs 16 = undef := h7_16
    replace h7_17 : vs 17 = undef := h7_17
    replace h7_18 : vs 18 = undef := h7_18
    replace h7_19 : vs 19 = .bool false := h7_19
    replace h7_20 : vs 20 = .bool false := h7_20
    replace h7_21 : vs 21 = undef := h7_21
    replace h7_22 : vs 22 = undef := h7_22
    replace h7_23 : vs 23 = undef := h7_23
    replace h7_24 : vs 24 = .bool false := h7_24
    replace h7_25 : vs 25 = .bool false := h7_25
    replace h7_26 : vs 26 = undef := h7_26
    replace h7_27 : vs 27 = undef := h7_27
    replace h7_28 : vs 28 = undef := h7_28
    replace h7_29 : vs 29 = undef := h7_29
    replace h7_30 : vs 30 = undef := h7_30
    replace h7_31 : vs 31 = .bool false := h7_31
    replace h7_32 : vs 32 = .bool false := h7_32
    simp only [h7_0, h7_1, h7_2, h7_3, h7_4, h7_5, h7_6, h7_7, h7_8, h7_9, h7_10, h7_11, h7_12, h7_13, h7_14, h7_15, h7_16, h7_17, h7_18, h7_19, h7_20, h7_21, h7_22, h7_23, h7_24, h7_25, h7_26, h7_27, h7_28, h7_29, h7_30, h7_31, h7_32]
    clear h7_0 h7_1 h7_2 h7_3 h7_4 h7_5 h7_6 h7_7 h7_8 h7_9 h7_10 h7_11 h7_12 h7_13 h7_14 h7_15 h7_16 h7_17 h7_18 h7_19 h7_20 h7_21 h7_22 h7_23 h7_24 h7_25 h7_26 h7_27 h7_28 h7_29 h7_30 h7_31 h7_32
    obtain ⟨kp2_0, kp2_1, kp2_2, kp2_3, kp2_4, kp2_5⟩ := p2.c6
    have kp3_0 := p3.cell 0 (v := .int .i64 (K : Int)) rfl
    go_wp2; go_ret
    exact ⟨ret_b HR.out.symm, E0⟩


end Go.Rt
