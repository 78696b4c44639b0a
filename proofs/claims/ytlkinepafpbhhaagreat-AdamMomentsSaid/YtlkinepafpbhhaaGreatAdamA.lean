/-
 Adam: its reckoning by the program: what is there, and what panics.
-/
import Derived.Test.YtlkinepafpbhhaaGreatSqz
import Derived.Test.YtlkinepafpbhhaaGreatAdamM
import Derived.Test.YtlkinepafpbhhaaGreatFixD
import Derived.Test.YtlkinepafpbhhaaGreatInv2
import Derived.Test.YtlkinepafpbhhaaGreatIrow
namespace Go.Rt
open Go Go.RowKit Go.Proofs

theorem Good.never : Good (fun _ _ => False) := ⟨fun _ _ _ _ h => h, fun _ _ _ _ _ h => h⟩

theorem okZ_i64 {z y : Int} (h : okZ z = some y) : I64 y := okZ_fits h

theorem one_i64 {K : Nat} (h : K ≤ 40) {p : Int} (h0 : 0 ≤ p) (h1 : p ≤ oneZ K) : I64 (oneZ K - p) := by
 have := one_max h
 unfold I64
 omega

theorem one_wrap {K : Nat} (h : K ≤ 40) {p : Int} (h0 : 0 ≤ p) (h1 : p ≤ oneZ K) : IntKind.i64.wrap (oneZ K - p) = oneZ K - p := by
 have := one_i64 h h0 h1
 unfold I64 at this
 rw [IntKind.wrap_i64]
 omega

set_option maxRecDepth 100000 in
set_option maxHeartbeats 4000000 in
theorem Tryz.adamHeld (n : Int) (w : World) : Calls Tryz.prog 90 #[.int .i64 n, .int .i64 0] w fun e w' => e = .returned (.int .i64 n) ∧ Ext w w' := by
 go_enter Tryz.func90, Tryz.ntmps90
 go_wp2; go_ret
 exact ⟨rfl, Ext.refl _⟩

set_option maxRecDepth 100000 in
set_option maxHeartbeats 4000000 in
theorem Tryz.adamHeldNo (n e0 : Int) (h0 : e0 ≠ 0) (w : World) : Calls Tryz.prog 90 #[.int .i64 n, .int .i64 e0] w fun e w' => (∃ c : Int, c ≠ 0 ∧ e = .panicked [{ v := .iface 75 (.int .i64 c), recovered := false }]) ∧ Ext w w' := by
 have hb : (e0 != 0) = true := bne_iff_ne.2 h0
 go_enter Tryz.func90, Tryz.ntmps90
 go_wp2
 exact ⟨rfl, ⟨e0, h0, rfl⟩, Ext.refl _⟩

set_option maxRecDepth 100000 in
set_option maxHeartbeats 4000000 in
theorem Tryz.adamOne (K : Nat) (hK : K ≤ 40) (w : World) : Calls Tryz.prog 21 #[.int .i64 (K : Int)] w fun e w' => e = .returned (.int .i64 (oneZ K)) ∧ Ext w w' := by
 obtain ⟨P, hP⟩ : ∃ P, P = 2 ^ K := ⟨_, rfl⟩
 have hPb : P ≤ 1099511627776 := by rw [hP]; exact Nat.le_trans (Nat.pow_le_pow_right (by omega) hK) (by decide)
 have hsh : IntKind.i64.wrap (2 ^ K) = (P : Int) := by rw [show ((2 : Int) ^ K) = ((2 ^ K : Nat) : Int) by simp, ← hP, IntKind.wrap_i64]; omega
 unfold oneZ
 rw [← hP]
 clear hP hPb
 go_enter Tryz.func21, Tryz.ntmps21
 go_wp2; go_ret
 exact ⟨rfl, Ext.refl _⟩

set_option maxRecDepth 100000 in
set_option maxHeartbeats 4000000 in
theorem Tryz.adamMulS {a b z : Int} (K : Nat) (hK : K ≤ 40) (ha : I64 a) (hb : I64 b) (h : mulO K a b = some z) (w : World) :
  Calls Tryz.prog 68 #[.agg #[.int .i64 (K : Int)], .int .i64 a, .int .i64 b] w fun e w' => e = .returned (.int .i64 z) ∧ Ext w w' := by
 obtain ⟨h1, h2⟩ := okZ_some h
 have HV : Hid (fitV (mulZ K a b) = z) := Lib.hid ((fitV_in h1).trans h2)
 have HE : Hid (fitE (mulZ K a b) = 0) := Lib.hid (fitE_in h1)
 have HK := Lib.hid hK
 have HA := Lib.hid ha
 have HB := Lib.hid hb
 clear h h1 h2 hK ha hb
 obtain ⟨W0, hW0⟩ : ∃ W0, W0 = (w.alloc (.cells #[.int .i64 (K : Int)] 54)) := ⟨_, rfl⟩
 have E0 : Ext w W0 := by rw [hW0]; exact (Ext.alloc1 w (.cells #[.int .i64 (K : Int)] 54))
 have p3 : BxA W0 w.heap.size 54 #[.int .i64 (K : Int)] := by rw [hW0]; exact (BxA.new w 54 #[.int .i64 (K : Int)])
 go_enter Tryz.func68, Tryz.ntmps68
 have kp3_0 := p3.cell 0 (v := .int .i64 (K : Int)) rfl
 go_upto_region 1 with (fail)
 rw [← hW0]
 clear hW0; clear kp3_0; have ltp3 := p3.lt; have szw1 := Ext.size E0
 refine region_gs [.one fun v _ => v = .int .i64 a,
   .one fun v _ => v = .int .i64 b,
   .one fun v _ => v = .pointer (some ⟨w.heap.size, 0, none⟩),
   .one fun v _ => v = .int .i64 (K : Int),
   .one fun v _ => v = .tuple #[.int .i64 z, .int .i64 0],
   .one fun v _ => v = .int .i64 z,
   .one fun v _ => v = .int .i64 0,
   .one fun v _ => v = .int .i64 z,
   .one fun v _ => v = .int .i64 z]
  (fun W => Ext w W ∧ BxA W w.heap.size 54 #[.int .i64 (K : Int)] ∧ W0.heap.size ≤ W.heap.size) ⟨Good.is _, Good.is _, Good.is _, Good.is _, Good.is _, Good.is _, Good.is _, Good.is _, Good.is _, trivial⟩
  ⟨E0, p3, Nat.le_refl _⟩ (A := ?A1) ?hA1 ?howe1 ?hfin1
 case hA1 =>
  intro vs
  simp only [putAll, Act.put, sA, sZ, sS, Nat.zero_add, Nat.reduceAdd]
  exact rfl
 case howe1 =>
  clear E0 p3
  intro hf
  refine ⟨oE 0 [] hf rfl ?_, oE 1 [] hf rfl ?_, oE 2 [] hf rfl ?_, oE 3 [2] hf rfl ?_, oE 4 [0, 1, 3] hf rfl ?_, oE 5 [4] hf rfl ?_, oE 6 [4] hf rfl ?_, oE 7 [5, 6] hf rfl ?_, oE 8 [7] hf rfl ?_, trivial⟩
  all_goals intro vs W hS hp hx KO hKO
  all_goals simp only [Act.put, sA, sZ, sS] at hKO
  ·go_simp; exact hKO _ W (.refl W) rfl
  ·go_simp; exact hKO _ W (.refl W) rfl
  ·go_simp; exact hKO _ W (.refl W) rfl
  ·have e2 := isOf hp.1; simp only [e2] at hKO; have fc0 := BxA.cell (hS.2.1) 0 (v := .int .i64 (K : Int)) rfl; go_simp; exact hKO _ W (.refl W) rfl
  ·have e0 := isOf hp.1; have e1 := isOf hp.2.1; have e3 := isOf hp.2.2.1; simp only [e0, e1, e3] at hKO; go_simp
   refine (Tryz.fixMulV a b K HK.out _ HA.out.1 HA.out.2 HB.out.1 HB.out.2 HV.out HE.out).mono ?_
   rintro e W1 ⟨rfl, hE⟩
   exact hKO _ W1 hE rfl
  ·have e4 := isOf hp.1; simp only [e4] at hKO; go_simp; exact hKO _ W (.refl W) rfl
  ·have e4 := isOf hp.1; simp only [e4] at hKO; go_simp; exact hKO _ W (.refl W) rfl
  ·have e5 := isOf hp.1; have e6 := isOf hp.2.1; simp only [e5, e6] at hKO; go_simp
   refine (Tryz.adamHeld z _).mono ?_
   rintro e W1 ⟨rfl, hE⟩
   exact hKO _ W1 hE rfl
  ·have e7 := isOf hp.1; simp only [e7] at hKO; go_simp; exact hKO _ W (.refl W) rfl
 intro vs W1 hS hp
 clear szw1 E0 p3
 obtain ⟨E0, p3, sz1⟩ := hS
 obtain ⟨h1_0, h1_1, h1_2, h1_3, h1_4, h1_5, h1_6, h1_7, h1_8, -⟩ := hp
 replace h1_0 : vs 0 = .int .i64 a := h1_0
 replace h1_1 : vs 1 = .int .i64 b := h1_1
 replace h1_2 : vs 2 = .pointer (some ⟨w.heap.size, 0, none⟩) := h1_2
 replace h1_3 : vs 3 = .int .i64 (K : Int) := h1_3
 replace h1_4 : vs 4 = .tuple #[.int .i64 z, .int .i64 0] := h1_4
 replace h1_5 : vs 5 = .int .i64 z := h1_5
 replace h1_6 : vs 6 = .int .i64 0 := h1_6
 replace h1_7 : vs 7 = .int .i64 z := h1_7
 replace h1_8 : vs 8 = .int .i64 z := h1_8
 simp only [h1_0, h1_1, h1_2, h1_3, h1_4, h1_5, h1_6, h1_7, h1_8]
 clear h1_0 h1_1 h1_2 h1_3 h1_4 h1_5 h1_6 h1_7 h1_8; go_wp2; go_ret
 exact ⟨rfl, E0⟩

set_option maxRecDepth 100000 in
set_option maxHeartbeats 4000000 in
theorem Tryz.adamMulN {a b : Int} (K : Nat) (hK : K ≤ 40) (ha : I64 a) (hb : I64 b) (h : mulO K a b = none) (w : World) :
  Calls Tryz.prog 68 #[.agg #[.int .i64 (K : Int)], .int .i64 a, .int .i64 b] w fun e w' => (∃ c : Int, c ≠ 0 ∧ e = .panicked [{ v := .iface 75 (.int .i64 c), recovered := false }]) ∧ Ext w w' := by
 have h1 := okZ_none h
 have HV : Hid (fitV (mulZ K a b) = 0) := Lib.hid (fitV_out h1)
 have HE : Hid (fitE (mulZ K a b) = 2) := Lib.hid (fitE_out h1)
 have HK := Lib.hid hK
 have HA := Lib.hid ha
 have HB := Lib.hid hb
 clear h h1  hK ha hb
 obtain ⟨W0, hW0⟩ : ∃ W0, W0 = (w.alloc (.cells #[.int .i64 (K : Int)] 54)) := ⟨_, rfl⟩
 have E0 : Ext w W0 := by rw [hW0]; exact (Ext.alloc1 w (.cells #[.int .i64 (K : Int)] 54))
 have p3 : BxA W0 w.heap.size 54 #[.int .i64 (K : Int)] := by rw [hW0]; exact (BxA.new w 54 #[.int .i64 (K : Int)])
 go_enter Tryz.func68, Tryz.ntmps68
 have kp3_0 := p3.cell 0 (v := .int .i64 (K : Int)) rfl
 go_upto_region 1 with (fail)
 rw [← hW0]
 clear hW0; clear kp3_0; have ltp3 := p3.lt; have szw2 := Ext.size E0
 refine region_gs [.one fun v _ => v = .int .i64 a,
   .one fun v _ => v = .int .i64 b,
   .one fun v _ => v = .pointer (some ⟨w.heap.size, 0, none⟩),
   .one fun v _ => v = .int .i64 (K : Int),
   .one fun v _ => v = .tuple #[.int .i64 0, .int .i64 2],
   .one fun v _ => v = .int .i64 0,
   .one fun v _ => v = .int .i64 2,
   .one fun _ _ => False,
   .one fun _ _ => False]
  (fun W => Ext w W ∧ BxA W w.heap.size 54 #[.int .i64 (K : Int)] ∧ W0.heap.size ≤ W.heap.size) ⟨Good.is _, Good.is _, Good.is _, Good.is _, Good.is _, Good.is _, Good.is _, Good.never, Good.never, trivial⟩
  ⟨E0, p3, Nat.le_refl _⟩ (A := ?A2) ?hA2 ?howe2 ?hfin2
 case hA2 =>
  intro vs
  simp only [putAll, Act.put, sA, sZ, sS, Nat.zero_add, Nat.reduceAdd]
  exact rfl
 case howe2 =>
  clear E0 p3
  intro hf
  refine ⟨oE 0 [] hf rfl ?_, oE 1 [] hf rfl ?_, oE 2 [] hf rfl ?_, oE 3 [2] hf rfl ?_, oE 4 [0, 1, 3] hf rfl ?_, oE 5 [4] hf rfl ?_, oE 6 [4] hf rfl ?_, oE 7 [5, 6] hf rfl ?_, oE 8 [7] hf rfl ?_, trivial⟩
  all_goals intro vs W hS hp hx KO hKO
  all_goals simp only [Act.put, sA, sZ, sS] at hKO
  ·go_simp; exact hKO _ W (.refl W) rfl
  ·go_simp; exact hKO _ W (.refl W) rfl
  ·go_simp; exact hKO _ W (.refl W) rfl
  ·have e2 := isOf hp.1; simp only [e2] at hKO; have fc0 := BxA.cell (hS.2.1) 0 (v := .int .i64 (K : Int)) rfl; go_simp; exact hKO _ W (.refl W) rfl
  ·have e0 := isOf hp.1; have e1 := isOf hp.2.1; have e3 := isOf hp.2.2.1; simp only [e0, e1, e3] at hKO; go_simp
   refine (Tryz.fixMulV a b K HK.out _ HA.out.1 HA.out.2 HB.out.1 HB.out.2 HV.out HE.out).mono ?_
   rintro e W1 ⟨rfl, hE⟩
   exact hKO _ W1 hE rfl
  ·have e4 := isOf hp.1; simp only [e4] at hKO; go_simp; exact hKO _ W (.refl W) rfl
  ·have e4 := isOf hp.1; simp only [e4] at hKO; go_simp; exact hKO _ W (.refl W) rfl
  ·have e5 := isOf hp.1; have e6 := isOf hp.2.1; simp only [e5, e6] at hKO; go_simp
   refine (Tryz.adamHeldNo 0 2 (by omega) _).mono ?_
   rintro e W1 ⟨⟨c, hc, rfl⟩, hE⟩
   exact ⟨rfl, ⟨c, hc, rfl⟩, Ext.trans hS.1 hE⟩
  ·have q7 := hp.1
   exact False.elim q7
 intro vs W2 hS hp
 obtain ⟨h2_0, h2_1, h2_2, h2_3, h2_4, h2_5, h2_6, h2_7, h2_8, -⟩ := hp
 exact False.elim h2_7

set_option maxRecDepth 100000 in
set_option maxHeartbeats 4000000 in
theorem Tryz.adamDivS {a b z : Int} (K : Nat) (hK : K ≤ 40) (ha : I64 a) (hb : I64 b) (h0 : b ≠ 0) (h : divO K a b = some z) (w : World) :
  Calls Tryz.prog 70 #[.agg #[.int .i64 (K : Int)], .int .i64 a, .int .i64 b] w fun e w' => e = .returned (.int .i64 z) ∧ Ext w w' := by
 obtain ⟨h1, h2⟩ := okZ_some h
 have HV : Hid (fitV (divZ K a b) = z) := Lib.hid ((fitV_in h1).trans h2)
 have HE : Hid (fitE (divZ K a b) = 0) := Lib.hid (fitE_in h1)
 have HK := Lib.hid hK
 have HA := Lib.hid ha
 have HB := Lib.hid hb
 clear h h1 h2 hK ha hb
 have H0 := Lib.hid h0
 clear h0
 obtain ⟨W0, hW0⟩ : ∃ W0, W0 = (w.alloc (.cells #[.int .i64 (K : Int)] 54)) := ⟨_, rfl⟩
 have E0 : Ext w W0 := by rw [hW0]; exact (Ext.alloc1 w (.cells #[.int .i64 (K : Int)] 54))
 have p3 : BxA W0 w.heap.size 54 #[.int .i64 (K : Int)] := by rw [hW0]; exact (BxA.new w 54 #[.int .i64 (K : Int)])
 go_enter Tryz.func70, Tryz.ntmps70
 have kp3_0 := p3.cell 0 (v := .int .i64 (K : Int)) rfl
 go_upto_region 1 with (fail)
 rw [← hW0]
 clear hW0; clear kp3_0; have ltp3 := p3.lt; have szw3 := Ext.size E0
 refine region_gs [.one fun v _ => v = .int .i64 a,
   .one fun v _ => v = .int .i64 b,
   .one fun v _ => v = .pointer (some ⟨w.heap.size, 0, none⟩),
   .one fun v _ => v = .int .i64 (K : Int),
   .one fun v _ => v = .tuple #[.int .i64 z, .int .i64 0],
   .one fun v _ => v = .int .i64 z,
   .one fun v _ => v = .int .i64 0,
   .one fun v _ => v = .int .i64 z,
   .one fun v _ => v = .int .i64 z]
  (fun W => Ext w W ∧ BxA W w.heap.size 54 #[.int .i64 (K : Int)] ∧ W0.heap.size ≤ W.heap.size) ⟨Good.is _, Good.is _, Good.is _, Good.is _, Good.is _, Good.is _, Good.is _, Good.is _, Good.is _, trivial⟩
  ⟨E0, p3, Nat.le_refl _⟩ (A := ?A3) ?hA3 ?howe3 ?hfin3
 case hA3 =>
  intro vs
  simp only [putAll, Act.put, sA, sZ, sS, Nat.zero_add, Nat.reduceAdd]
  exact rfl
 case howe3 =>
  clear E0 p3
  intro hf
  refine ⟨oE 0 [] hf rfl ?_, oE 1 [] hf rfl ?_, oE 2 [] hf rfl ?_, oE 3 [2] hf rfl ?_, oE 4 [0, 1, 3] hf rfl ?_, oE 5 [4] hf rfl ?_, oE 6 [4] hf rfl ?_, oE 7 [5, 6] hf rfl ?_, oE 8 [7] hf rfl ?_, trivial⟩
  all_goals intro vs W hS hp hx KO hKO
  all_goals simp only [Act.put, sA, sZ, sS] at hKO
  ·go_simp; exact hKO _ W (.refl W) rfl
  ·go_simp; exact hKO _ W (.refl W) rfl
  ·go_simp; exact hKO _ W (.refl W) rfl
  ·have e2 := isOf hp.1; simp only [e2] at hKO; have fc0 := BxA.cell (hS.2.1) 0 (v := .int .i64 (K : Int)) rfl; go_simp; exact hKO _ W (.refl W) rfl
  ·have e0 := isOf hp.1; have e1 := isOf hp.2.1; have e3 := isOf hp.2.2.1; simp only [e0, e1, e3] at hKO; go_simp
   refine (Tryz.fixDivV a b K HK.out _ HA.out.1 HA.out.2 HB.out.1 HB.out.2 H0.out HV.out HE.out).mono ?_
   rintro e W1 ⟨rfl, hE⟩
   exact hKO _ W1 hE rfl
  ·have e4 := isOf hp.1; simp only [e4] at hKO; go_simp; exact hKO _ W (.refl W) rfl
  ·have e4 := isOf hp.1; simp only [e4] at hKO; go_simp; exact hKO _ W (.refl W) rfl
  ·have e5 := isOf hp.1; have e6 := isOf hp.2.1; simp only [e5, e6] at hKO; go_simp
   refine (Tryz.adamHeld z _).mono ?_
   rintro e W1 ⟨rfl, hE⟩
   exact hKO _ W1 hE rfl
  ·have e7 := isOf hp.1; simp only [e7] at hKO; go_simp; exact hKO _ W (.refl W) rfl
 intro vs W3 hS hp
 clear szw3 E0 p3
 obtain ⟨E0, p3, sz3⟩ := hS
 obtain ⟨h3_0, h3_1, h3_2, h3_3, h3_4, h3_5, h3_6, h3_7, h3_8, -⟩ := hp
 replace h3_0 : vs 0 = .int .i64 a := h3_0
 replace h3_1 : vs 1 = .int .i64 b := h3_1
 replace h3_2 : vs 2 = .pointer (some ⟨w.heap.size, 0, none⟩) := h3_2
 replace h3_3 : vs 3 = .int .i64 (K : Int) := h3_3
 replace h3_4 : vs 4 = .tuple #[.int .i64 z, .int .i64 0] := h3_4
 replace h3_5 : vs 5 = .int .i64 z := h3_5
 replace h3_6 : vs 6 = .int .i64 0 := h3_6
 replace h3_7 : vs 7 = .int .i64 z := h3_7
 replace h3_8 : vs 8 = .int .i64 z := h3_8
 simp only [h3_0, h3_1, h3_2, h3_3, h3_4, h3_5, h3_6, h3_7, h3_8]
 clear h3_0 h3_1 h3_2 h3_3 h3_4 h3_5 h3_6 h3_7 h3_8; go_wp2; go_ret
 exact ⟨rfl, E0⟩

set_option maxRecDepth 100000 in
set_option maxHeartbeats 4000000 in
theorem Tryz.adamDivN {a b : Int} (K : Nat) (hK : K ≤ 40) (ha : I64 a) (hb : I64 b) (h0 : b ≠ 0) (h : divO K a b = none) (w : World) :
  Calls Tryz.prog 70 #[.agg #[.int .i64 (K : Int)], .int .i64 a, .int .i64 b] w fun e w' => (∃ c : Int, c ≠ 0 ∧ e = .panicked [{ v := .iface 75 (.int .i64 c), recovered := false }]) ∧ Ext w w' := by
 have h1 := okZ_none h
 have HV : Hid (fitV (divZ K a b) = 0) := Lib.hid (fitV_out h1)
 have HE : Hid (fitE (divZ K a b) = 2) := Lib.hid (fitE_out h1)
 have HK := Lib.hid hK
 have HA := Lib.hid ha
 have HB := Lib.hid hb
 clear h h1  hK ha hb
 have H0 := Lib.hid h0
 clear h0
 obtain ⟨W0, hW0⟩ : ∃ W0, W0 = (w.alloc (.cells #[.int .i64 (K : Int)] 54)) := ⟨_, rfl⟩
 have E0 : Ext w W0 := by rw [hW0]; exact (Ext.alloc1 w (.cells #[.int .i64 (K : Int)] 54))
 have p3 : BxA W0 w.heap.size 54 #[.int .i64 (K : Int)] := by rw [hW0]; exact (BxA.new w 54 #[.int .i64 (K : Int)])
 go_enter Tryz.func70, Tryz.ntmps70
 have kp3_0 := p3.cell 0 (v := .int .i64 (K : Int)) rfl
 go_upto_region 1 with (fail)
 rw [← hW0]
 clear hW0; clear kp3_0; have ltp3 := p3.lt; have szw4 := Ext.size E0
 refine region_gs [.one fun v _ => v = .int .i64 a,
   .one fun v _ => v = .int .i64 b,
   .one fun v _ => v = .pointer (some ⟨w.heap.size, 0, none⟩),
   .one fun v _ => v = .int .i64 (K : Int),
   .one fun v _ => v = .tuple #[.int .i64 0, .int .i64 2],
   .one fun v _ => v = .int .i64 0,
   .one fun v _ => v = .int .i64 2,
   .one fun _ _ => False,
   .one fun _ _ => False]
  (fun W => Ext w W ∧ BxA W w.heap.size 54 #[.int .i64 (K : Int)] ∧ W0.heap.size ≤ W.heap.size) ⟨Good.is _, Good.is _, Good.is _, Good.is _, Good.is _, Good.is _, Good.is _, Good.never, Good.never, trivial⟩
  ⟨E0, p3, Nat.le_refl _⟩ (A := ?A4) ?hA4 ?howe4 ?hfin4
 case hA4 =>
  intro vs
  simp only [putAll, Act.put, sA, sZ, sS, Nat.zero_add, Nat.reduceAdd]
  exact rfl
 case howe4 =>
  clear E0 p3
  intro hf
  refine ⟨oE 0 [] hf rfl ?_, oE 1 [] hf rfl ?_, oE 2 [] hf rfl ?_, oE 3 [2] hf rfl ?_, oE 4 [0, 1, 3] hf rfl ?_, oE 5 [4] hf rfl ?_, oE 6 [4] hf rfl ?_, oE 7 [5, 6] hf rfl ?_, oE 8 [7] hf rfl ?_, trivial⟩
  all_goals intro vs W hS hp hx KO hKO
  all_goals simp only [Act.put, sA, sZ, sS] at hKO
  ·go_simp; exact hKO _ W (.refl W) rfl
  ·go_simp; exact hKO _ W (.refl W) rfl
  ·go_simp; exact hKO _ W (.refl W) rfl
  ·have e2 := isOf hp.1; simp only [e2] at hKO; have fc0 := BxA.cell (hS.2.1) 0 (v := .int .i64 (K : Int)) rfl; go_simp; exact hKO _ W (.refl W) rfl
  ·have e0 := isOf hp.1; have e1 := isOf hp.2.1; have e3 := isOf hp.2.2.1; simp only [e0, e1, e3] at hKO; go_simp
   refine (Tryz.fixDivV a b K HK.out _ HA.out.1 HA.out.2 HB.out.1 HB.out.2 H0.out HV.out HE.out).mono ?_
   rintro e W1 ⟨rfl, hE⟩
   exact hKO _ W1 hE rfl
  ·have e4 := isOf hp.1; simp only [e4] at hKO; go_simp; exact hKO _ W (.refl W) rfl
  ·have e4 := isOf hp.1; simp only [e4] at hKO; go_simp; exact hKO _ W (.refl W) rfl
  ·have e5 := isOf hp.1; have e6 := isOf hp.2.1; simp only [e5, e6] at hKO; go_simp
   refine (Tryz.adamHeldNo 0 2 (by omega) _).mono ?_
   rintro e W1 ⟨⟨c, hc, rfl⟩, hE⟩
   exact ⟨rfl, ⟨c, hc, rfl⟩, Ext.trans hS.1 hE⟩
  ·have q7 := hp.1
   exact False.elim q7
 intro vs W4 hS hp
 obtain ⟨h4_0, h4_1, h4_2, h4_3, h4_4, h4_5, h4_6, h4_7, h4_8, -⟩ := hp
 exact False.elim h4_7

set_option maxRecDepth 100000 in
set_option maxHeartbeats 4000000 in
theorem Tryz.adamAddS {a b z : Int} (K : Nat) (hK : K ≤ 40) (ha : I64 a) (hb : I64 b) (h : addO a b = some z) (w : World) :
  Calls Tryz.prog 67 #[.agg #[.int .i64 (K : Int)], .int .i64 a, .int .i64 b] w fun e w' => e = .returned (.int .i64 z) ∧ Ext w w' := by
 obtain ⟨h1, h2⟩ := okZ_some h
 have HV : Hid (fitV (a + b) = z) := Lib.hid ((fitV_in h1).trans h2)
 have HE : Hid (fitE (a + b) = 0) := Lib.hid (fitE_in h1)
 have HK := Lib.hid hK
 have HA := Lib.hid ha
 have HB := Lib.hid hb
 clear h h1 h2 hK ha hb
 obtain ⟨W0, hW0⟩ : ∃ W0, W0 = (w.alloc (.cells #[.int .i64 (K : Int)] 54)) := ⟨_, rfl⟩
 have E0 : Ext w W0 := by rw [hW0]; exact (Ext.alloc1 w (.cells #[.int .i64 (K : Int)] 54))
 have p3 : BxA W0 w.heap.size 54 #[.int .i64 (K : Int)] := by rw [hW0]; exact (BxA.new w 54 #[.int .i64 (K : Int)])
 go_enter Tryz.func67, Tryz.ntmps67
 have kp3_0 := p3.cell 0 (v := .int .i64 (K : Int)) rfl
 go_upto_region 1 with (fail)
 rw [← hW0]
 clear hW0; clear kp3_0; have ltp3 := p3.lt; have szw5 := Ext.size E0
 refine region_gs [.one fun v _ => v = .int .i64 a,
   .one fun v _ => v = .int .i64 b,
   .one fun v _ => v = .tuple #[.int .i64 z, .int .i64 0],
   .one fun v _ => v = .int .i64 z,
   .one fun v _ => v = .int .i64 0,
   .one fun v _ => v = .int .i64 z,
   .one fun v _ => v = .int .i64 z]
  (fun W => Ext w W ∧ BxA W w.heap.size 54 #[.int .i64 (K : Int)] ∧ W0.heap.size ≤ W.heap.size) ⟨Good.is _, Good.is _, Good.is _, Good.is _, Good.is _, Good.is _, Good.is _, trivial⟩
  ⟨E0, p3, Nat.le_refl _⟩ (A := ?A5) ?hA5 ?howe5 ?hfin5
 case hA5 =>
  intro vs
  simp only [putAll, Act.put, sA, sZ, sS, Nat.zero_add, Nat.reduceAdd]
  exact rfl
 case howe5 =>
  clear E0 p3
  intro hf
  refine ⟨oE 0 [] hf rfl ?_, oE 1 [] hf rfl ?_, oE 2 [0, 1] hf rfl ?_, oE 3 [2] hf rfl ?_, oE 4 [2] hf rfl ?_, oE 5 [3, 4] hf rfl ?_, oE 6 [5] hf rfl ?_, trivial⟩
  all_goals intro vs W hS hp hx KO hKO
  all_goals simp only [Act.put, sA, sZ, sS] at hKO
  ·go_simp; exact hKO _ W (.refl W) rfl
  ·go_simp; exact hKO _ W (.refl W) rfl
  ·have e0 := isOf hp.1; have e1 := isOf hp.2.1; simp only [e0, e1] at hKO; go_simp
   refine (Tryz.fixAddV a b _ HA.out.1 HA.out.2 HB.out.1 HB.out.2 HV.out HE.out).mono ?_
   rintro e W1 ⟨rfl, hE⟩
   exact hKO _ W1 hE rfl
  ·have e2 := isOf hp.1; simp only [e2] at hKO; go_simp; exact hKO _ W (.refl W) rfl
  ·have e2 := isOf hp.1; simp only [e2] at hKO; go_simp; exact hKO _ W (.refl W) rfl
  ·have e3 := isOf hp.1; have e4 := isOf hp.2.1; simp only [e3, e4] at hKO; go_simp
   refine (Tryz.adamHeld z _).mono ?_
   rintro e W1 ⟨rfl, hE⟩
   exact hKO _ W1 hE rfl
  ·have e5 := isOf hp.1; simp only [e5] at hKO; go_simp; exact hKO _ W (.refl W) rfl
 intro vs W5 hS hp
 clear szw5 E0 p3
 obtain ⟨E0, p3, sz5⟩ := hS
 obtain ⟨h5_0, h5_1, h5_2, h5_3, h5_4, h5_5, h5_6, -⟩ := hp
 replace h5_0 : vs 0 = .int .i64 a := h5_0
 replace h5_1 : vs 1 = .int .i64 b := h5_1
 replace h5_2 : vs 2 = .tuple #[.int .i64 z, .int .i64 0] := h5_2
 replace h5_3 : vs 3 = .int .i64 z := h5_3
 replace h5_4 : vs 4 = .int .i64 0 := h5_4
 replace h5_5 : vs 5 = .int .i64 z := h5_5
 replace h5_6 : vs 6 = .int .i64 z := h5_6
 simp only [h5_0, h5_1, h5_2, h5_3, h5_4, h5_5, h5_6]
 clear h5_0 h5_1 h5_2 h5_3 h5_4 h5_5 h5_6; go_wp2; go_ret
 exact ⟨rfl, E0⟩

set_option maxRecDepth 100000 in
set_option maxHeartbeats 4000000 in
theorem Tryz.adamAddN {a b : Int} (K : Nat) (hK : K ≤ 40) (ha : I64 a) (hb : I64 b) (h : addO a b = none) (w : World) :
  Calls Tryz.prog 67 #[.agg #[.int .i64 (K : Int)], .int .i64 a, .int .i64 b] w fun e w' => (∃ c : Int, c ≠ 0 ∧ e = .panicked [{ v := .iface 75 (.int .i64 c), recovered := false }]) ∧ Ext w w' := by
 have h1 := okZ_none h
 have HV : Hid (fitV (a + b) = 0) := Lib.hid (fitV_out h1)
 have HE : Hid (fitE (a + b) = 2) := Lib.hid (fitE_out h1)
 have HK := Lib.hid hK
 have HA := Lib.hid ha
 have HB := Lib.hid hb
 clear h h1  hK ha hb
 obtain ⟨W0, hW0⟩ : ∃ W0, W0 = (w.alloc (.cells #[.int .i64 (K : Int)] 54)) := ⟨_, rfl⟩
 have E0 : Ext w W0 := by rw [hW0]; exact (Ext.alloc1 w (.cells #[.int .i64 (K : Int)] 54))
 have p3 : BxA W0 w.heap.size 54 #[.int .i64 (K : Int)] := by rw [hW0]; exact (BxA.new w 54 #[.int .i64 (K : Int)])
 go_enter Tryz.func67, Tryz.ntmps67
 have kp3_0 := p3.cell 0 (v := .int .i64 (K : Int)) rfl
 go_upto_region 1 with (fail)
 rw [← hW0]
 clear hW0; clear kp3_0; have ltp3 := p3.lt; have szw6 := Ext.size E0
 refine region_gs [.one fun v _ => v = .int .i64 a,
   .one fun v _ => v = .int .i64 b,
   .one fun v _ => v = .tuple #[.int .i64 0, .int .i64 2],
   .one fun v _ => v = .int .i64 0,
   .one fun v _ => v = .int .i64 2,
   .one fun _ _ => False,
   .one fun _ _ => False]
  (fun W => Ext w W ∧ BxA W w.heap.size 54 #[.int .i64 (K : Int)] ∧ W0.heap.size ≤ W.heap.size) ⟨Good.is _, Good.is _, Good.is _, Good.is _, Good.is _, Good.never, Good.never, trivial⟩
  ⟨E0, p3, Nat.le_refl _⟩ (A := ?A6) ?hA6 ?howe6 ?hfin6
 case hA6 =>
  intro vs
  simp only [putAll, Act.put, sA, sZ, sS, Nat.zero_add, Nat.reduceAdd]
  exact rfl
 case howe6 =>
  clear E0 p3
  intro hf
  refine ⟨oE 0 [] hf rfl ?_, oE 1 [] hf rfl ?_, oE 2 [0, 1] hf rfl ?_, oE 3 [2] hf rfl ?_, oE 4 [2] hf rfl ?_, oE 5 [3, 4] hf rfl ?_, oE 6 [5] hf rfl ?_, trivial⟩
  all_goals intro vs W hS hp hx KO hKO
  all_goals simp only [Act.put, sA, sZ, sS] at hKO
  ·go_simp; exact hKO _ W (.refl W) rfl
  ·go_simp; exact hKO _ W (.refl W) rfl
  ·have e0 := isOf hp.1; have e1 := isOf hp.2.1; simp only [e0, e1] at hKO; go_simp
   refine (Tryz.fixAddV a b _ HA.out.1 HA.out.2 HB.out.1 HB.out.2 HV.out HE.out).mono ?_
   rintro e W1 ⟨rfl, hE⟩
   exact hKO _ W1 hE rfl
  ·have e2 := isOf hp.1; simp only [e2] at hKO; go_simp; exact hKO _ W (.refl W) rfl
  ·have e2 := isOf hp.1; simp only [e2] at hKO; go_simp; exact hKO _ W (.refl W) rfl
  ·have e3 := isOf hp.1; have e4 := isOf hp.2.1; simp only [e3, e4] at hKO; go_simp
   refine (Tryz.adamHeldNo 0 2 (by omega) _).mono ?_
   rintro e W1 ⟨⟨c, hc, rfl⟩, hE⟩
   exact ⟨rfl, ⟨c, hc, rfl⟩, Ext.trans hS.1 hE⟩
  ·have q5 := hp.1
   exact False.elim q5
 intro vs W6 hS hp
 obtain ⟨h6_0, h6_1, h6_2, h6_3, h6_4, h6_5, h6_6, -⟩ := hp
 exact False.elim h6_5

set_option maxRecDepth 100000 in
set_option maxHeartbeats 4000000 in
theorem Tryz.adamSubS {a b z : Int} (K : Nat) (hK : K ≤ 40) (ha : I64 a) (hb : I64 b) (h : subO a b = some z) (w : World) :
  Calls Tryz.prog 72 #[.agg #[.int .i64 (K : Int)], .int .i64 a, .int .i64 b] w fun e w' => e = .returned (.int .i64 z) ∧ Ext w w' := by
 obtain ⟨h1, h2⟩ := okZ_some h
 have HV : Hid (fitV (a - b) = z) := Lib.hid ((fitV_in h1).trans h2)
 have HE : Hid (fitE (a - b) = 0) := Lib.hid (fitE_in h1)
 have HK := Lib.hid hK
 have HA := Lib.hid ha
 have HB := Lib.hid hb
 clear h h1 h2 hK ha hb
 obtain ⟨W0, hW0⟩ : ∃ W0, W0 = (w.alloc (.cells #[.int .i64 (K : Int)] 54)) := ⟨_, rfl⟩
 have E0 : Ext w W0 := by rw [hW0]; exact (Ext.alloc1 w (.cells #[.int .i64 (K : Int)] 54))
 have p3 : BxA W0 w.heap.size 54 #[.int .i64 (K : Int)] := by rw [hW0]; exact (BxA.new w 54 #[.int .i64 (K : Int)])
 go_enter Tryz.func72, Tryz.ntmps72
 have kp3_0 := p3.cell 0 (v := .int .i64 (K : Int)) rfl
 go_upto_region 1 with (fail)
 rw [← hW0]
 clear hW0; clear kp3_0; have ltp3 := p3.lt; have szw7 := Ext.size E0
 refine region_gs [.one fun v _ => v = .int .i64 a,
   .one fun v _ => v = .int .i64 b,
   .one fun v _ => v = .tuple #[.int .i64 z, .int .i64 0],
   .one fun v _ => v = .int .i64 z,
   .one fun v _ => v = .int .i64 0,
   .one fun v _ => v = .int .i64 z,
   .one fun v _ => v = .int .i64 z]
  (fun W => Ext w W ∧ BxA W w.heap.size 54 #[.int .i64 (K : Int)] ∧ W0.heap.size ≤ W.heap.size) ⟨Good.is _, Good.is _, Good.is _, Good.is _, Good.is _, Good.is _, Good.is _, trivial⟩
  ⟨E0, p3, Nat.le_refl _⟩ (A := ?A7) ?hA7 ?howe7 ?hfin7
 case hA7 =>
  intro vs
  simp only [putAll, Act.put, sA, sZ, sS, Nat.zero_add, Nat.reduceAdd]
  exact rfl
 case howe7 =>
  clear E0 p3
  intro hf
  refine ⟨oE 0 [] hf rfl ?_, oE 1 [] hf rfl ?_, oE 2 [0, 1] hf rfl ?_, oE 3 [2] hf rfl ?_, oE 4 [2] hf rfl ?_, oE 5 [3, 4] hf rfl ?_, oE 6 [5] hf rfl ?_, trivial⟩
  all_goals intro vs W hS hp hx KO hKO
  all_goals simp only [Act.put, sA, sZ, sS] at hKO
  ·go_simp; exact hKO _ W (.refl W) rfl
  ·go_simp; exact hKO _ W (.refl W) rfl
  ·have e0 := isOf hp.1; have e1 := isOf hp.2.1; simp only [e0, e1] at hKO; go_simp
   refine (Tryz.fixSubV a b _ HA.out.1 HA.out.2 HB.out.1 HB.out.2 HV.out HE.out).mono ?_
   rintro e W1 ⟨rfl, hE⟩
   exact hKO _ W1 hE rfl
  ·have e2 := isOf hp.1; simp only [e2] at hKO; go_simp; exact hKO _ W (.refl W) rfl
  ·have e2 := isOf hp.1; simp only [e2] at hKO; go_simp; exact hKO _ W (.refl W) rfl
  ·have e3 := isOf hp.1; have e4 := isOf hp.2.1; simp only [e3, e4] at hKO; go_simp
   refine (Tryz.adamHeld z _).mono ?_
   rintro e W1 ⟨rfl, hE⟩
   exact hKO _ W1 hE rfl
  ·have e5 := isOf hp.1; simp only [e5] at hKO; go_simp; exact hKO _ W (.refl W) rfl
 intro vs W7 hS hp
 clear szw7 E0 p3
 obtain ⟨E0, p3, sz7⟩ := hS
 obtain ⟨h7_0, h7_1, h7_2, h7_3, h7_4, h7_5, h7_6, -⟩ := hp
 replace h7_0 : vs 0 = .int .i64 a := h7_0
 replace h7_1 : vs 1 = .int .i64 b := h7_1
 replace h7_2 : vs 2 = .tuple #[.int .i64 z, .int .i64 0] := h7_2
 replace h7_3 : vs 3 = .int .i64 z := h7_3
 replace h7_4 : vs 4 = .int .i64 0 := h7_4
 replace h7_5 : vs 5 = .int .i64 z := h7_5
 replace h7_6 : vs 6 = .int .i64 z := h7_6
 simp only [h7_0, h7_1, h7_2, h7_3, h7_4, h7_5, h7_6]
 clear h7_0 h7_1 h7_2 h7_3 h7_4 h7_5 h7_6; go_wp2; go_ret
 exact ⟨rfl, E0⟩

set_option maxRecDepth 100000 in
set_option maxHeartbeats 4000000 in
theorem Tryz.adamSubN {a b : Int} (K : Nat) (hK : K ≤ 40) (ha : I64 a) (hb : I64 b) (h : subO a b = none) (w : World) :
  Calls Tryz.prog 72 #[.agg #[.int .i64 (K : Int)], .int .i64 a, .int .i64 b] w fun e w' => (∃ c : Int, c ≠ 0 ∧ e = .panicked [{ v := .iface 75 (.int .i64 c), recovered := false }]) ∧ Ext w w' := by
 have h1 := okZ_none h
 have HV : Hid (fitV (a - b) = 0) := Lib.hid (fitV_out h1)
 have HE : Hid (fitE (a - b) = 2) := Lib.hid (fitE_out h1)
 have HK := Lib.hid hK
 have HA := Lib.hid ha
 have HB := Lib.hid hb
 clear h h1  hK ha hb
 obtain ⟨W0, hW0⟩ : ∃ W0, W0 = (w.alloc (.cells #[.int .i64 (K : Int)] 54)) := ⟨_, rfl⟩
 have E0 : Ext w W0 := by rw [hW0]; exact (Ext.alloc1 w (.cells #[.int .i64 (K : Int)] 54))
 have p3 : BxA W0 w.heap.size 54 #[.int .i64 (K : Int)] := by rw [hW0]; exact (BxA.new w 54 #[.int .i64 (K : Int)])
 go_enter Tryz.func72, Tryz.ntmps72
 have kp3_0 := p3.cell 0 (v := .int .i64 (K : Int)) rfl
 go_upto_region 1 with (fail)
 rw [← hW0]
 clear hW0; clear kp3_0; have ltp3 := p3.lt; have szw8 := Ext.size E0
 refine region_gs [.one fun v _ => v = .int .i64 a,
   .one fun v _ => v = .int .i64 b,
   .one fun v _ => v = .tuple #[.int .i64 0, .int .i64 2],
   .one fun v _ => v = .int .i64 0,
   .one fun v _ => v = .int .i64 2,
   .one fun _ _ => False,
   .one fun _ _ => False]
  (fun W => Ext w W ∧ BxA W w.heap.size 54 #[.int .i64 (K : Int)] ∧ W0.heap.size ≤ W.heap.size) ⟨Good.is _, Good.is _, Good.is _, Good.is _, Good.is _, Good.never, Good.never, trivial⟩
  ⟨E0, p3, Nat.le_refl _⟩ (A := ?A8) ?hA8 ?howe8 ?hfin8
 case hA8 =>
  intro vs
  simp only [putAll, Act.put, sA, sZ, sS, Nat.zero_add, Nat.reduceAdd]
  exact rfl
 case howe8 =>
  clear E0 p3
  intro hf
  refine ⟨oE 0 [] hf rfl ?_, oE 1 [] hf rfl ?_, oE 2 [0, 1] hf rfl ?_, oE 3 [2] hf rfl ?_, oE 4 [2] hf rfl ?_, oE 5 [3, 4] hf rfl ?_, oE 6 [5] hf rfl ?_, trivial⟩
  all_goals intro vs W hS hp hx KO hKO
  all_goals simp only [Act.put, sA, sZ, sS] at hKO
  ·go_simp; exact hKO _ W (.refl W) rfl
  ·go_simp; exact hKO _ W (.refl W) rfl
  ·have e0 := isOf hp.1; have e1 := isOf hp.2.1; simp only [e0, e1] at hKO; go_simp
   refine (Tryz.fixSubV a b _ HA.out.1 HA.out.2 HB.out.1 HB.out.2 HV.out HE.out).mono ?_
   rintro e W1 ⟨rfl, hE⟩
   exact hKO _ W1 hE rfl
  ·have e2 := isOf hp.1; simp only [e2] at hKO; go_simp; exact hKO _ W (.refl W) rfl
  ·have e2 := isOf hp.1; simp only [e2] at hKO; go_simp; exact hKO _ W (.refl W) rfl
  ·have e3 := isOf hp.1; have e4 := isOf hp.2.1; simp only [e3, e4] at hKO; go_simp
   refine (Tryz.adamHeldNo 0 2 (by omega) _).mono ?_
   rintro e W1 ⟨⟨c, hc, rfl⟩, hE⟩
   exact ⟨rfl, ⟨c, hc, rfl⟩, Ext.trans hS.1 hE⟩
  ·have q5 := hp.1
   exact False.elim q5
 intro vs W8 hS hp
 obtain ⟨h8_0, h8_1, h8_2, h8_3, h8_4, h8_5, h8_6, -⟩ := hp
 exact False.elim h8_5

set_option maxRecDepth 100000 in
set_option maxHeartbeats 4000000 in
theorem Tryz.adamRoot {a : Int} (K : Nat) (hK : K ≤ 40) (ha : I64 a) (h0 : 0 ≤ a) (w : World) :
  Calls Tryz.prog 71 #[.agg #[.int .i64 (K : Int)], .int .i64 a] w fun e w' => e = .returned (.int .i64 (rootW K a)) ∧ Ext w w' := by
 obtain ⟨A, rfl⟩ := Int.eq_ofNat_of_zero_le h0
 have HA : Hid (A < 9223372036854775808) := Lib.hid (by have := ha.2; omega)
 have HR : Hid (((rt (A * 2 ^ K) 2 : Nat) : Int) = rootW K (A : Int)) := Lib.hid rfl
 have HK := Lib.hid hK
 clear h0 ha hK
 obtain ⟨W0, hW0⟩ : ∃ W0, W0 = (w.alloc (.cells #[.int .i64 (K : Int)] 54)) := ⟨_, rfl⟩
 have E0 : Ext w W0 := by rw [hW0]; exact (Ext.alloc1 w (.cells #[.int .i64 (K : Int)] 54))
 have p2 : BxA W0 w.heap.size 54 #[.int .i64 (K : Int)] := by rw [hW0]; exact (BxA.new w 54 #[.int .i64 (K : Int)])
 go_enter Tryz.func71, Tryz.ntmps71
 have kp2_0 := p2.cell 0 (v := .int .i64 (K : Int)) rfl
 go_upto_region 1 with (fail)
 rw [← hW0]
 clear hW0; clear kp2_0; have ltp2 := p2.lt; have szw9 := Ext.size E0
 refine region_gs [.one fun v _ => v = .int .i64 (A : Int),
   .one fun v _ => v = .pointer (some ⟨w.heap.size, 0, none⟩),
   .one fun v _ => v = .int .i64 (K : Int),
   .one fun v _ => v = .tuple #[.int .i64 (rootW K (A : Int)), .int .i64 0],
   .one fun v _ => v = .int .i64 (rootW K (A : Int)),
   .one fun v _ => v = .int .i64 0,
   .one fun v _ => v = .int .i64 (rootW K (A : Int)),
   .one fun v _ => v = .int .i64 (rootW K (A : Int))]
  (fun W => Ext w W ∧ BxA W w.heap.size 54 #[.int .i64 (K : Int)] ∧ W0.heap.size ≤ W.heap.size) ⟨Good.is _, Good.is _, Good.is _, Good.is _, Good.is _, Good.is _, Good.is _, Good.is _, trivial⟩
  ⟨E0, p2, Nat.le_refl _⟩ (A := ?A9) ?hA9 ?howe9 ?hfin9
 case hA9 =>
  intro vs
  simp only [putAll, Act.put, sA, sZ, sS, Nat.zero_add, Nat.reduceAdd]
  exact rfl
 case howe9 =>
  clear E0 p2
  intro hf
  refine ⟨oE 0 [] hf rfl ?_, oE 1 [] hf rfl ?_, oE 2 [1] hf rfl ?_, oE 3 [0, 2] hf rfl ?_, oE 4 [3] hf rfl ?_, oE 5 [3] hf rfl ?_, oE 6 [4, 5] hf rfl ?_, oE 7 [6] hf rfl ?_, trivial⟩
  all_goals intro vs W hS hp hx KO hKO
  all_goals simp only [Act.put, sA, sZ, sS] at hKO
  ·go_simp; exact hKO _ W (.refl W) rfl
  ·go_simp; exact hKO _ W (.refl W) rfl
  ·have e1 := isOf hp.1; simp only [e1] at hKO; have fc0 := BxA.cell (hS.2.1) 0 (v := .int .i64 (K : Int)) rfl; go_simp; exact hKO _ W (.refl W) rfl
  ·have e0 := isOf hp.1; have e2 := isOf hp.2.1; simp only [e0, e2] at hKO; go_simp
   refine (Tryz.fixSqrt A K _ HA.out HK.out).mono ?_
   rintro e W1 ⟨rfl, hE⟩
   rw [HR.out]
   exact hKO _ W1 hE rfl
  ·have e3 := isOf hp.1; simp only [e3] at hKO; go_simp; exact hKO _ W (.refl W) rfl
  ·have e3 := isOf hp.1; simp only [e3] at hKO; go_simp; exact hKO _ W (.refl W) rfl
  ·have e4 := isOf hp.1; have e5 := isOf hp.2.1; simp only [e4, e5] at hKO; go_simp
   refine (Tryz.adamHeld (rootW K (A : Int)) _).mono ?_
   rintro e W1 ⟨rfl, hE⟩
   exact hKO _ W1 hE rfl
  ·have e6 := isOf hp.1; simp only [e6] at hKO; go_simp; exact hKO _ W (.refl W) rfl
 intro vs W9 hS hp
 clear szw9 E0 p2
 obtain ⟨E0, p2, sz9⟩ := hS
 obtain ⟨h9_0, h9_1, h9_2, h9_3, h9_4, h9_5, h9_6, h9_7, -⟩ := hp
 replace h9_0 : vs 0 = .int .i64 (A : Int) := h9_0
 replace h9_1 : vs 1 = .pointer (some ⟨w.heap.size, 0, none⟩) := h9_1
 replace h9_2 : vs 2 = .int .i64 (K : Int) := h9_2
 replace h9_3 : vs 3 = .tuple #[.int .i64 (rootW K (A : Int)), .int .i64 0] := h9_3
 replace h9_4 : vs 4 = .int .i64 (rootW K (A : Int)) := h9_4
 replace h9_5 : vs 5 = .int .i64 0 := h9_5
 replace h9_6 : vs 6 = .int .i64 (rootW K (A : Int)) := h9_6
 replace h9_7 : vs 7 = .int .i64 (rootW K (A : Int)) := h9_7
 simp only [h9_0, h9_1, h9_2, h9_3, h9_4, h9_5, h9_6, h9_7]
 clear h9_0 h9_1 h9_2 h9_3 h9_4 h9_5 h9_6 h9_7; go_wp2; go_ret
 exact ⟨rfl, E0⟩

set_option maxRecDepth 100000 in
set_option maxHeartbeats 4000000 in
theorem Tryz.adamMix {be a b : Int} (K : Nat) (hK : K ≤ 40) (ha : I64 a) (hb : I64 b) (h0 : 0 ≤ be) (h1 : be ≤ oneZ K) (w : World) :
  Calls Tryz.prog 69 #[.agg #[.int .i64 (K : Int)], .int .i64 be, .int .i64 a, .int .i64 b] w fun e w' => (match mixO K be a b with | some z => e = .returned (.int .i64 z) | none => ∃ c : Int, c ≠ 0 ∧ e = .panicked [{ v := .iface 75 (.int .i64 c), recovered := false }]) ∧ Ext w w' := by
 have HK := Lib.hid hK
 have HA := Lib.hid ha
 have HB := Lib.hid hb
 have HE : Hid (I64 be) := Lib.hid (by have := one_max hK; exact ⟨by omega, by omega⟩)
 have HO : Hid (I64 (oneZ K - be)) := Lib.hid (one_i64 hK h0 h1)
 have hw := one_wrap hK h0 h1
 obtain ⟨d, hd⟩ : ∃ d, oneZ K - be = d := ⟨_, rfl⟩
 unfold mixO
 rw [hd] at hw HO ⊢
 have hd2 : IntKind.i64.wrap (oneZ K - be) = d := by rw [hd]; exact hw
 clear hd hw ha hb hK h0 h1
 cases g0 : mulO K be a
 ·have G0 := Lib.hid g0
  simp only [Option.bind_none]
  clear g0
  obtain ⟨W0, hW0⟩ : ∃ W0, W0 = (w.alloc (.cells #[.int .i64 (K : Int)] 54)) := ⟨_, rfl⟩
  have E0 : Ext w W0 := by rw [hW0]; exact (Ext.alloc1 w (.cells #[.int .i64 (K : Int)] 54))
  have p4 : BxA W0 w.heap.size 54 #[.int .i64 (K : Int)] := by rw [hW0]; exact (BxA.new w 54 #[.int .i64 (K : Int)])
  go_enter Tryz.func69, Tryz.ntmps69
  have kp4_0 := p4.cell 0 (v := .int .i64 (K : Int)) rfl
  go_upto_region 1 with (fail)
  rw [← hW0]
  clear hW0; clear kp4_0; have ltp4 := p4.lt; have szw10 := Ext.size E0
  refine region_gs [.one fun v _ => v = .agg #[.int .i64 (K : Int)],
    .one fun v _ => v = .agg #[.int .i64 (K : Int)],
    .one fun v _ => v = .int .i64 be,
    .one fun v _ => v = .int .i64 a,
    .one fun _ _ => False,
    .one fun v _ => v = .agg #[.int .i64 (K : Int)],
    .one fun v _ => v = .pointer (some ⟨w.heap.size, 0, none⟩),
    .one fun v _ => v = .int .i64 (K : Int),
    .one fun _ _ => False,
    .one fun v _ => v = .int .i64 be,
    .one fun _ _ => False,
    .one fun v _ => v = .int .i64 b,
    .one fun _ _ => False,
    .one fun _ _ => False,
    .one fun _ _ => False]
   (fun W => Ext w W ∧ BxA W w.heap.size 54 #[.int .i64 (K : Int)] ∧ W0.heap.size ≤ W.heap.size) ⟨Good.is _, Good.is _, Good.is _, Good.is _, Good.never, Good.is _, Good.is _, Good.is _, Good.never, Good.is _, Good.never, Good.is _, Good.never, Good.never, Good.never, trivial⟩
   ⟨E0, p4, Nat.le_refl _⟩ (A := ?A10) ?hA10 ?howe10 ?hfin10
  case hA10 =>
   intro vs
   simp only [putAll, Act.put, sA, sZ, sS, Nat.zero_add, Nat.reduceAdd]
   exact rfl
  case howe10 =>
   clear E0 p4
   intro hf
   refine ⟨oE 0 [] hf rfl ?_, oE 1 [] hf rfl ?_, oE 2 [] hf rfl ?_, oE 3 [] hf rfl ?_, oE 4 [1, 2, 3] hf rfl ?_, oE 5 [] hf rfl ?_, oE 6 [] hf rfl ?_, oE 7 [6] hf rfl ?_, oE 8 [4] hf rfl ?_, oE 9 [] hf rfl ?_, oE 10 [8] hf rfl ?_, oE 11 [] hf rfl ?_, oE 12 [10] hf rfl ?_, oE 13 [4] hf rfl ?_, oE 14 [13] hf rfl ?_, trivial⟩
   all_goals intro vs W hS hp hx KO hKO
   all_goals simp only [Act.put, sA, sZ, sS] at hKO
   ·have fc0 := BxA.cell (hS.2.1) 0 (v := .int .i64 (K : Int)) rfl; go_simp; exact hKO _ W (.refl W) rfl
   ·have fc0 := BxA.cell (hS.2.1) 0 (v := .int .i64 (K : Int)) rfl; go_simp; exact hKO _ W (.refl W) rfl
   ·go_simp; exact hKO _ W (.refl W) rfl
   ·go_simp; exact hKO _ W (.refl W) rfl
   ·have e1 := isOf hp.1; have e2 := isOf hp.2.1; have e3 := isOf hp.2.2.1; simp only [e1, e2, e3] at hKO; go_simp
    refine (Tryz.adamMulN K HK.out HE.out HA.out G0.out _).mono ?_
    rintro e W1 ⟨⟨c, hc, rfl⟩, hE⟩
    exact ⟨rfl, ⟨c, hc, rfl⟩, Ext.trans hS.1 hE⟩
   ·have fc0 := BxA.cell (hS.2.1) 0 (v := .int .i64 (K : Int)) rfl; go_simp; exact hKO _ W (.refl W) rfl
   ·go_simp; exact hKO _ W (.refl W) rfl
   ·have e6 := isOf hp.1; simp only [e6] at hKO; have fc0 := BxA.cell (hS.2.1) 0 (v := .int .i64 (K : Int)) rfl; go_simp; exact hKO _ W (.refl W) rfl
   ·have q4 := hp.1
    exact False.elim q4
   ·go_simp; exact hKO _ W (.refl W) rfl
   ·have q8 := hp.1
    exact False.elim q8
   ·go_simp; exact hKO _ W (.refl W) rfl
   ·have q10 := hp.1
    exact False.elim q10
   ·have q4 := hp.1
    exact False.elim q4
   ·have q13 := hp.1
    exact False.elim q13
  intro vs W10 hS hp
  obtain ⟨h10_0, h10_1, h10_2, h10_3, h10_4, h10_5, h10_6, h10_7, h10_8, h10_9, h10_10, h10_11, h10_12, h10_13, h10_14, -⟩ := hp
  exact False.elim h10_4
 ·rename_i x
  have G0 := Lib.hid g0
  simp only [Option.bind_some]
  clear g0
  cases g1 : mulO K d b
  ·have G1 := Lib.hid g1
   simp only [Option.bind_none]
   clear g1
   obtain ⟨W0, hW0⟩ : ∃ W0, W0 = (w.alloc (.cells #[.int .i64 (K : Int)] 54)) := ⟨_, rfl⟩
   have E0 : Ext w W0 := by rw [hW0]; exact (Ext.alloc1 w (.cells #[.int .i64 (K : Int)] 54))
   have p4 : BxA W0 w.heap.size 54 #[.int .i64 (K : Int)] := by rw [hW0]; exact (BxA.new w 54 #[.int .i64 (K : Int)])
   go_enter Tryz.func69, Tryz.ntmps69
   have kp4_0 := p4.cell 0 (v := .int .i64 (K : Int)) rfl
   go_upto_region 1 with (fail)
   rw [← hW0]
   clear hW0; clear kp4_0; have ltp4 := p4.lt; have szw11 := Ext.size E0
   refine region_gs [.one fun v _ => v = .agg #[.int .i64 (K : Int)],
     .one fun v _ => v = .agg #[.int .i64 (K : Int)],
     .one fun v _ => v = .int .i64 be,
     .one fun v _ => v = .int .i64 a,
     .one fun v _ => v = .int .i64 x,
     .one fun v _ => v = .agg #[.int .i64 (K : Int)],
     .one fun v _ => v = .pointer (some ⟨w.heap.size, 0, none⟩),
     .one fun v _ => v = .int .i64 (K : Int),
     .one fun v _ => v = .int .i64 (oneZ K),
     .one fun v _ => v = .int .i64 be,
     .one fun v _ => v = .int .i64 d,
     .one fun v _ => v = .int .i64 b,
     .one fun _ _ => False,
     .one fun _ _ => False,
     .one fun _ _ => False]
    (fun W => Ext w W ∧ BxA W w.heap.size 54 #[.int .i64 (K : Int)] ∧ W0.heap.size ≤ W.heap.size) ⟨Good.is _, Good.is _, Good.is _, Good.is _, Good.is _, Good.is _, Good.is _, Good.is _, Good.is _, Good.is _, Good.is _, Good.is _, Good.never, Good.never, Good.never, trivial⟩
    ⟨E0, p4, Nat.le_refl _⟩ (A := ?A11) ?hA11 ?howe11 ?hfin11
   case hA11 =>
    intro vs
    simp only [putAll, Act.put, sA, sZ, sS, Nat.zero_add, Nat.reduceAdd]
    exact rfl
   case howe11 =>
    clear E0 p4
    intro hf
    refine ⟨oE 0 [] hf rfl ?_, oE 1 [] hf rfl ?_, oE 2 [] hf rfl ?_, oE 3 [] hf rfl ?_, oE 4 [1, 2, 3] hf rfl ?_, oE 5 [] hf rfl ?_, oE 6 [] hf rfl ?_, oE 7 [6] hf rfl ?_, oE 8 [7] hf rfl ?_, oE 9 [] hf rfl ?_, oE 10 [8, 9] hf rfl ?_, oE 11 [] hf rfl ?_, oE 12 [5, 10, 11] hf rfl ?_, oE 13 [12] hf rfl ?_, oE 14 [13] hf rfl ?_, trivial⟩
    all_goals intro vs W hS hp hx KO hKO
    all_goals simp only [Act.put, sA, sZ, sS] at hKO
    ·have fc0 := BxA.cell (hS.2.1) 0 (v := .int .i64 (K : Int)) rfl; go_simp; exact hKO _ W (.refl W) rfl
    ·have fc0 := BxA.cell (hS.2.1) 0 (v := .int .i64 (K : Int)) rfl; go_simp; exact hKO _ W (.refl W) rfl
    ·go_simp; exact hKO _ W (.refl W) rfl
    ·go_simp; exact hKO _ W (.refl W) rfl
    ·have e1 := isOf hp.1; have e2 := isOf hp.2.1; have e3 := isOf hp.2.2.1; simp only [e1, e2, e3] at hKO; go_simp
     refine (Tryz.adamMulS K HK.out HE.out HA.out G0.out _).mono ?_
     rintro e W1 ⟨rfl, hE⟩
     exact hKO _ W1 hE rfl
    ·have fc0 := BxA.cell (hS.2.1) 0 (v := .int .i64 (K : Int)) rfl; go_simp; exact hKO _ W (.refl W) rfl
    ·go_simp; exact hKO _ W (.refl W) rfl
    ·have e6 := isOf hp.1; simp only [e6] at hKO; have fc0 := BxA.cell (hS.2.1) 0 (v := .int .i64 (K : Int)) rfl; go_simp; exact hKO _ W (.refl W) rfl
    ·have e7 := isOf hp.1; simp only [e7] at hKO; go_simp
     refine (Tryz.adamOne K HK.out _).mono ?_
     rintro e W1 ⟨rfl, hE⟩
     exact hKO _ W1 hE rfl
    ·go_simp; exact hKO _ W (.refl W) rfl
    ·have e8 := isOf hp.1; have e9 := isOf hp.2.1; simp only [e8, e9] at hKO; go_simp; exact hKO _ W (.refl W) rfl
    ·go_simp; exact hKO _ W (.refl W) rfl
    ·have e5 := isOf hp.1; have e10 := isOf hp.2.1; have e11 := isOf hp.2.2.1; simp only [e5, e10, e11] at hKO; go_simp
     refine (Tryz.adamMulN K HK.out HO.out HB.out G1.out _).mono ?_
     rintro e W1 ⟨⟨c, hc, rfl⟩, hE⟩
     exact ⟨rfl, ⟨c, hc, rfl⟩, Ext.trans hS.1 hE⟩
    ·have q12 := hp.1
     exact False.elim q12
    ·have q13 := hp.1
     exact False.elim q13
   intro vs W11 hS hp
   obtain ⟨h11_0, h11_1, h11_2, h11_3, h11_4, h11_5, h11_6, h11_7, h11_8, h11_9, h11_10, h11_11, h11_12, h11_13, h11_14, -⟩ := hp
   exact False.elim h11_12
  ·rename_i y
   have G1 := Lib.hid g1
   simp only [Option.bind_some]
   clear g1
   cases g2 : addO x y
   ·have G2 := Lib.hid g2
    skip
    clear g2
    obtain ⟨W0, hW0⟩ : ∃ W0, W0 = (w.alloc (.cells #[.int .i64 (K : Int)] 54)) := ⟨_, rfl⟩
    have E0 : Ext w W0 := by rw [hW0]; exact (Ext.alloc1 w (.cells #[.int .i64 (K : Int)] 54))
    have p4 : BxA W0 w.heap.size 54 #[.int .i64 (K : Int)] := by rw [hW0]; exact (BxA.new w 54 #[.int .i64 (K : Int)])
    go_enter Tryz.func69, Tryz.ntmps69
    have kp4_0 := p4.cell 0 (v := .int .i64 (K : Int)) rfl
    go_upto_region 1 with (fail)
    rw [← hW0]
    clear hW0; clear kp4_0; have ltp4 := p4.lt; have szw12 := Ext.size E0
    refine region_gs [.one fun v _ => v = .agg #[.int .i64 (K : Int)],
      .one fun v _ => v = .agg #[.int .i64 (K : Int)],
      .one fun v _ => v = .int .i64 be,
      .one fun v _ => v = .int .i64 a,
      .one fun v _ => v = .int .i64 x,
      .one fun v _ => v = .agg #[.int .i64 (K : Int)],
      .one fun v _ => v = .pointer (some ⟨w.heap.size, 0, none⟩),
      .one fun v _ => v = .int .i64 (K : Int),
      .one fun v _ => v = .int .i64 (oneZ K),
      .one fun v _ => v = .int .i64 be,
      .one fun v _ => v = .int .i64 d,
      .one fun v _ => v = .int .i64 b,
      .one fun v _ => v = .int .i64 y,
      .one fun _ _ => False,
      .one fun _ _ => False]
     (fun W => Ext w W ∧ BxA W w.heap.size 54 #[.int .i64 (K : Int)] ∧ W0.heap.size ≤ W.heap.size) ⟨Good.is _, Good.is _, Good.is _, Good.is _, Good.is _, Good.is _, Good.is _, Good.is _, Good.is _, Good.is _, Good.is _, Good.is _, Good.is _, Good.never, Good.never, trivial⟩
     ⟨E0, p4, Nat.le_refl _⟩ (A := ?A12) ?hA12 ?howe12 ?hfin12
    case hA12 =>
     intro vs
     simp only [putAll, Act.put, sA, sZ, sS, Nat.zero_add, Nat.reduceAdd]
     exact rfl
    case howe12 =>
     clear E0 p4
     intro hf
     refine ⟨oE 0 [] hf rfl ?_, oE 1 [] hf rfl ?_, oE 2 [] hf rfl ?_, oE 3 [] hf rfl ?_, oE 4 [1, 2, 3] hf rfl ?_, oE 5 [] hf rfl ?_, oE 6 [] hf rfl ?_, oE 7 [6] hf rfl ?_, oE 8 [7] hf rfl ?_, oE 9 [] hf rfl ?_, oE 10 [8, 9] hf rfl ?_, oE 11 [] hf rfl ?_, oE 12 [5, 10, 11] hf rfl ?_, oE 13 [0, 4, 12] hf rfl ?_, oE 14 [13] hf rfl ?_, trivial⟩
     all_goals intro vs W hS hp hx KO hKO
     all_goals simp only [Act.put, sA, sZ, sS] at hKO
     ·have fc0 := BxA.cell (hS.2.1) 0 (v := .int .i64 (K : Int)) rfl; go_simp; exact hKO _ W (.refl W) rfl
     ·have fc0 := BxA.cell (hS.2.1) 0 (v := .int .i64 (K : Int)) rfl; go_simp; exact hKO _ W (.refl W) rfl
     ·go_simp; exact hKO _ W (.refl W) rfl
     ·go_simp; exact hKO _ W (.refl W) rfl
     ·have e1 := isOf hp.1; have e2 := isOf hp.2.1; have e3 := isOf hp.2.2.1; simp only [e1, e2, e3] at hKO; go_simp
      refine (Tryz.adamMulS K HK.out HE.out HA.out G0.out _).mono ?_
      rintro e W1 ⟨rfl, hE⟩
      exact hKO _ W1 hE rfl
     ·have fc0 := BxA.cell (hS.2.1) 0 (v := .int .i64 (K : Int)) rfl; go_simp; exact hKO _ W (.refl W) rfl
     ·go_simp; exact hKO _ W (.refl W) rfl
     ·have e6 := isOf hp.1; simp only [e6] at hKO; have fc0 := BxA.cell (hS.2.1) 0 (v := .int .i64 (K : Int)) rfl; go_simp; exact hKO _ W (.refl W) rfl
     ·have e7 := isOf hp.1; simp only [e7] at hKO; go_simp
      refine (Tryz.adamOne K HK.out _).mono ?_
      rintro e W1 ⟨rfl, hE⟩
      exact hKO _ W1 hE rfl
     ·go_simp; exact hKO _ W (.refl W) rfl
     ·have e8 := isOf hp.1; have e9 := isOf hp.2.1; simp only [e8, e9] at hKO; go_simp; exact hKO _ W (.refl W) rfl
     ·go_simp; exact hKO _ W (.refl W) rfl
     ·have e5 := isOf hp.1; have e10 := isOf hp.2.1; have e11 := isOf hp.2.2.1; simp only [e5, e10, e11] at hKO; go_simp
      refine (Tryz.adamMulS K HK.out HO.out HB.out G1.out _).mono ?_
      rintro e W1 ⟨rfl, hE⟩
      exact hKO _ W1 hE rfl
     ·have e0 := isOf hp.1; have e4 := isOf hp.2.1; have e12 := isOf hp.2.2.1; simp only [e0, e4, e12] at hKO; go_simp
      refine (Tryz.adamAddN K HK.out (okZ_i64 G0.out) (okZ_i64 G1.out) G2.out _).mono ?_
      rintro e W1 ⟨⟨c, hc, rfl⟩, hE⟩
      exact ⟨rfl, ⟨c, hc, rfl⟩, Ext.trans hS.1 hE⟩
     ·have q13 := hp.1
      exact False.elim q13
    intro vs W12 hS hp
    obtain ⟨h12_0, h12_1, h12_2, h12_3, h12_4, h12_5, h12_6, h12_7, h12_8, h12_9, h12_10, h12_11, h12_12, h12_13, h12_14, -⟩ := hp
    exact False.elim h12_13
   ·rename_i z
    have G2 := Lib.hid g2
    clear g2
    obtain ⟨W0, hW0⟩ : ∃ W0, W0 = (w.alloc (.cells #[.int .i64 (K : Int)] 54)) := ⟨_, rfl⟩
    have E0 : Ext w W0 := by rw [hW0]; exact (Ext.alloc1 w (.cells #[.int .i64 (K : Int)] 54))
    have p4 : BxA W0 w.heap.size 54 #[.int .i64 (K : Int)] := by rw [hW0]; exact (BxA.new w 54 #[.int .i64 (K : Int)])
    go_enter Tryz.func69, Tryz.ntmps69
    have kp4_0 := p4.cell 0 (v := .int .i64 (K : Int)) rfl
    go_upto_region 1 with (fail)
    rw [← hW0]
    clear hW0; clear kp4_0; have ltp4 := p4.lt; have szw13 := Ext.size E0
    refine region_gs [.one fun v _ => v = .agg #[.int .i64 (K : Int)],
      .one fun v _ => v = .agg #[.int .i64 (K : Int)],
      .one fun v _ => v = .int .i64 be,
      .one fun v _ => v = .int .i64 a,
      .one fun v _ => v = .int .i64 x,
      .one fun v _ => v = .agg #[.int .i64 (K : Int)],
      .one fun v _ => v = .pointer (some ⟨w.heap.size, 0, none⟩),
      .one fun v _ => v = .int .i64 (K : Int),
      .one fun v _ => v = .int .i64 (oneZ K),
      .one fun v _ => v = .int .i64 be,
      .one fun v _ => v = .int .i64 d,
      .one fun v _ => v = .int .i64 b,
      .one fun v _ => v = .int .i64 y,
      .one fun v _ => v = .int .i64 z,
      .one fun v _ => v = .int .i64 z]
     (fun W => Ext w W ∧ BxA W w.heap.size 54 #[.int .i64 (K : Int)] ∧ W0.heap.size ≤ W.heap.size) ⟨Good.is _, Good.is _, Good.is _, Good.is _, Good.is _, Good.is _, Good.is _, Good.is _, Good.is _, Good.is _, Good.is _, Good.is _, Good.is _, Good.is _, Good.is _, trivial⟩
     ⟨E0, p4, Nat.le_refl _⟩ (A := ?A13) ?hA13 ?howe13 ?hfin13
    case hA13 =>
     intro vs
     simp only [putAll, Act.put, sA, sZ, sS, Nat.zero_add, Nat.reduceAdd]
     exact rfl
    case howe13 =>
     clear E0 p4
     intro hf
     refine ⟨oE 0 [] hf rfl ?_, oE 1 [] hf rfl ?_, oE 2 [] hf rfl ?_, oE 3 [] hf rfl ?_, oE 4 [1, 2, 3] hf rfl ?_, oE 5 [] hf rfl ?_, oE 6 [] hf rfl ?_, oE 7 [6] hf rfl ?_, oE 8 [7] hf rfl ?_, oE 9 [] hf rfl ?_, oE 10 [8, 9] hf rfl ?_, oE 11 [] hf rfl ?_, oE 12 [5, 10, 11] hf rfl ?_, oE 13 [0, 4, 12] hf rfl ?_, oE 14 [13] hf rfl ?_, trivial⟩
     all_goals intro vs W hS hp hx KO hKO
     all_goals simp only [Act.put, sA, sZ, sS] at hKO
     ·have fc0 := BxA.cell (hS.2.1) 0 (v := .int .i64 (K : Int)) rfl; go_simp; exact hKO _ W (.refl W) rfl
     ·have fc0 := BxA.cell (hS.2.1) 0 (v := .int .i64 (K : Int)) rfl; go_simp; exact hKO _ W (.refl W) rfl
     ·go_simp; exact hKO _ W (.refl W) rfl
     ·go_simp; exact hKO _ W (.refl W) rfl
     ·have e1 := isOf hp.1; have e2 := isOf hp.2.1; have e3 := isOf hp.2.2.1; simp only [e1, e2, e3] at hKO; go_simp
      refine (Tryz.adamMulS K HK.out HE.out HA.out G0.out _).mono ?_
      rintro e W1 ⟨rfl, hE⟩
      exact hKO _ W1 hE rfl
     ·have fc0 := BxA.cell (hS.2.1) 0 (v := .int .i64 (K : Int)) rfl; go_simp; exact hKO _ W (.refl W) rfl
     ·go_simp; exact hKO _ W (.refl W) rfl
     ·have e6 := isOf hp.1; simp only [e6] at hKO; have fc0 := BxA.cell (hS.2.1) 0 (v := .int .i64 (K : Int)) rfl; go_simp; exact hKO _ W (.refl W) rfl
     ·have e7 := isOf hp.1; simp only [e7] at hKO; go_simp
      refine (Tryz.adamOne K HK.out _).mono ?_
      rintro e W1 ⟨rfl, hE⟩
      exact hKO _ W1 hE rfl
     ·go_simp; exact hKO _ W (.refl W) rfl
     ·have e8 := isOf hp.1; have e9 := isOf hp.2.1; simp only [e8, e9] at hKO; go_simp; exact hKO _ W (.refl W) rfl
     ·go_simp; exact hKO _ W (.refl W) rfl
     ·have e5 := isOf hp.1; have e10 := isOf hp.2.1; have e11 := isOf hp.2.2.1; simp only [e5, e10, e11] at hKO; go_simp
      refine (Tryz.adamMulS K HK.out HO.out HB.out G1.out _).mono ?_
      rintro e W1 ⟨rfl, hE⟩
      exact hKO _ W1 hE rfl
     ·have e0 := isOf hp.1; have e4 := isOf hp.2.1; have e12 := isOf hp.2.2.1; simp only [e0, e4, e12] at hKO; go_simp
      refine (Tryz.adamAddS K HK.out (okZ_i64 G0.out) (okZ_i64 G1.out) G2.out _).mono ?_
      rintro e W1 ⟨rfl, hE⟩
      exact hKO _ W1 hE rfl
     ·have e13 := isOf hp.1; simp only [e13] at hKO; go_simp; exact hKO _ W (.refl W) rfl
    intro vs W13 hS hp
    clear szw13 E0 p4
    obtain ⟨E0, p4, sz13⟩ := hS
    obtain ⟨h13_0, h13_1, h13_2, h13_3, h13_4, h13_5, h13_6, h13_7, h13_8, h13_9, h13_10, h13_11, h13_12, h13_13, h13_14, -⟩ := hp
    replace h13_0 : vs 0 = .agg #[.int .i64 (K : Int)] := h13_0
    replace h13_1 : vs 1 = .agg #[.int .i64 (K : Int)] := h13_1
    replace h13_2 : vs 2 = .int .i64 be := h13_2
    replace h13_3 : vs 3 = .int .i64 a := h13_3
    replace h13_4 : vs 4 = .int .i64 x := h13_4
    replace h13_5 : vs 5 = .agg #[.int .i64 (K : Int)] := h13_5
    replace h13_6 : vs 6 = .pointer (some ⟨w.heap.size, 0, none⟩) := h13_6
    replace h13_7 : vs 7 = .int .i64 (K : Int) := h13_7
    replace h13_8 : vs 8 = .int .i64 (oneZ K) := h13_8
    replace h13_9 : vs 9 = .int .i64 be := h13_9
    replace h13_10 : vs 10 = .int .i64 d := h13_10
    replace h13_11 : vs 11 = .int .i64 b := h13_11
    replace h13_12 : vs 12 = .int .i64 y := h13_12
    replace h13_13 : vs 13 = .int .i64 z := h13_13
    replace h13_14 : vs 14 = .int .i64 z := h13_14
    simp only [h13_0, h13_1, h13_2, h13_3, h13_4, h13_5, h13_6, h13_7, h13_8, h13_9, h13_10, h13_11, h13_12, h13_13, h13_14]
    clear h13_0 h13_1 h13_2 h13_3 h13_4 h13_5 h13_6 h13_7 h13_8 h13_9 h13_10 h13_11 h13_12 h13_13 h13_14; go_wp2; go_ret
    exact ⟨rfl, E0⟩


end Go.Rt
