/-
 Adam: its reckoning by the program: what is there, and what panics.
-/
import Derived.Test.YtgnmaeolgfijpaaGY
import Derived.Test.YtgnmaeolgfijpaaAdamM
import Derived.Test.YtgnmaeolgfijpaaGX
import Derived.Test.YtgnmaeolgfijpaaInv2
import Derived.Test.YtgnmaeolgfijpaaIrow
namespace Go.Rt
open Go Go.RowKit Go.Proofs

theorem Good.never : Good (fun _ _ => False) := ⟨fun _ _ _ _ h => h, fun _ _ _ _ _ h => h⟩

theorem Good.may (c : Value) (p : Prop) : Good (fun v _ => v = c ∧ p) := ⟨fun _ _ _ _ h => h, fun _ _ _ _ _ h => h⟩

/-- a number, if there is no error -/
def heldO (n e : Int) : Option Int := if e = 0 then some n else none

theorem heldO_fit (z : Int) : heldO (fitV z) (fitE z) = okZ z := by
 unfold heldO okZ
 cases h : fits z
 ·rw [fitE_out h]; rfl
 ·rw [fitE_in h, fitV_in h]; rfl

/-- a number is returned, or it panics -/
def HeldP (t : TypeId) (e : Ending) (o : Option Int) : Prop :=
 match o with
 | some z => e = .returned (.int .i64 z)
 | none => ∃ c : Int, c ≠ 0 ∧ e = .panicked [{ v := .iface t (.int .i64 c), recovered := false }]

theorem HeldP.no {t : TypeId} {c : Int} {o : Option Int} (h : o = none) (hc : c ≠ 0) : HeldP t (.panicked [{ v := .iface t (.int .i64 c), recovered := false }]) o := by subst h; exact ⟨c, hc, rfl⟩

theorem HeldP.yes {t : TypeId} {z : Int} {o : Option Int} (h : o = some z) : HeldP t (.returned (.int .i64 z)) o := by subst h; rfl

theorem HeldP.out {t : TypeId} {e : Ending} {z : Int} {o : Option Int} (q : HeldP t e o) (h : o = some z) : e = .returned (.int .i64 z) := by subst h; exact q

theorem HeldP.out0 {t : TypeId} {e : Ending} {o : Option Int} (q : HeldP t e o) (h : o = none) : ∃ c : Int, c ≠ 0 ∧ e = .panicked [{ v := .iface t (.int .i64 c), recovered := false }] := by subst h; exact q

theorem okZ_i64 {z y : Int} (h : okZ z = some y) : I64 y := okZ_fits h

theorem one_i64 {K : Nat} (h : K ≤ 40) {p : Int} (h0 : 0 ≤ p) (h1 : p ≤ oneZ K) : I64 (oneZ K - p) := by
 have := one_max h
 unfold I64
 omega

theorem one_wrap {K : Nat} (h : K ≤ 40) {p : Int} (h0 : 0 ≤ p) (h1 : p ≤ oneZ K) : IntKind.i64.wrap (oneZ K - p) = oneZ K - p := by
 have := one_i64 h h0 h1
 unfold I64 at this
 rw [IntKind.wrap_i64]
 omega

set_option maxRecDepth 100000 in
set_option maxHeartbeats 4000000 in
theorem Try.adamHeld (n : Int) (w : World) : Calls Try.prog 91 #[.int .i64 n, .int .i64 0] w fun e w' => e = .returned (.int .i64 n) ∧ Ext w w' := by
 go_enter Try.func91, Try.ntmps91
 go_wp2; go_ret
 exact ⟨rfl, Ext.refl _⟩

set_option maxRecDepth 100000 in
set_option maxHeartbeats 4000000 in
theorem Try.adamHeldNo (n e0 : Int) (h0 : e0 ≠ 0) (w : World) : Calls Try.prog 91 #[.int .i64 n, .int .i64 e0] w fun e w' => (∃ c : Int, c ≠ 0 ∧ e = .panicked [{ v := .iface 82 (.int .i64 c), recovered := false }]) ∧ Ext w w' := by
 have hb : (e0 != 0) = true := bne_iff_ne.2 h0
 go_enter Try.func91, Try.ntmps91
 go_wp2
 exact ⟨rfl, ⟨e0, h0, rfl⟩, Ext.refl _⟩

theorem Try.adamHeldS (n e0 : Int) {z : Int} (h : heldO n e0 = some z) (w : World) : Calls Try.prog 91 #[.int .i64 n, .int .i64 e0] w fun e w' => e = .returned (.int .i64 z) ∧ Ext w w' := by
 unfold heldO at h
 split at h
 ·rename_i h0
  subst h0
  cases h
  exact Try.adamHeld _ w
 ·cases h

theorem Try.adamHeldN (n e0 : Int) (h : heldO n e0 = none) (w : World) : Calls Try.prog 91 #[.int .i64 n, .int .i64 e0] w fun e w' => (∃ c : Int, c ≠ 0 ∧ e = .panicked [{ v := .iface 82 (.int .i64 c), recovered := false }]) ∧ Ext w w' := by
 unfold heldO at h
 split at h
 ·cases h
 ·rename_i h0
  exact Try.adamHeldNo n e0 h0 w

set_option maxRecDepth 100000 in
set_option maxHeartbeats 4000000 in
theorem Try.adamOne (K : Nat) (hK : K ≤ 40) (w : World) : Calls Try.prog 26 #[.int .i64 (K : Int)] w fun e w' => e = .returned (.int .i64 (oneZ K)) ∧ Ext w w' := by
 obtain ⟨P, hP⟩ : ∃ P, P = 2 ^ K := ⟨_, rfl⟩
 have hPb : P ≤ 1099511627776 := by rw [hP]; exact Nat.le_trans (Nat.pow_le_pow_right (by omega) hK) (by decide)
 have hsh : IntKind.i64.wrap (2 ^ K) = (P : Int) := by rw [show ((2 : Int) ^ K) = ((2 ^ K : Nat) : Int) by simp, ← hP, IntKind.wrap_i64]; omega
 unfold oneZ
 rw [← hP]
 clear hP hPb
 go_enter Try.func26, Try.ntmps26
 go_wp2; go_ret
 exact ⟨rfl, Ext.refl _⟩

set_option maxRecDepth 100000 in
set_option maxHeartbeats 4000000 in
theorem Try.adamMulW {a b : Int} (K : Nat) (hK : K ≤ 40) (ha : I64 a) (hb : I64 b) (w : World) :
  Calls Try.prog 74 #[.agg #[.int .i64 (K : Int)], .int .i64 a, .int .i64 b] w fun e w' => HeldP 82 e (okZ (mulZ K a b)) ∧ Ext w w' := by
 obtain ⟨V, hV⟩ : ∃ V, fitV (mulZ K a b) = V := ⟨_, rfl⟩
 obtain ⟨E, hE⟩ : ∃ E, fitE (mulZ K a b) = E := ⟨_, rfl⟩
 have HZ : Hid (heldO V E = okZ (mulZ K a b)) := Lib.hid (by rw [← hV, ← hE]; exact heldO_fit _)
 have HV := Lib.hid hV
 have HE := Lib.hid hE
 have HK := Lib.hid hK
 have HA := Lib.hid ha
 have HB := Lib.hid hb
 clear hV hE hK ha hb
 obtain ⟨z, Hz⟩ : ∃ z, z = (heldO V E).getD 0 := ⟨_, rfl⟩
 replace Hz := Lib.hid Hz
 obtain ⟨W0, hW0, E0, p3⟩ := boxed1 w 62 #[.int .i64 (K : Int)]
 go_enter Try.func74, Try.ntmps74
 have k3a := p3.cell 0 (v := .int .i64 (K : Int)) rfl
 go_upto_region 1 with (fail)
 rw [← hW0]
 clear hW0; clear k3a; have ltp3 := p3.lt; have szw1 := Ext.size E0
 refine region_gk [isV (.int .i64 a), isV (.int .i64 b), isV (.pointer (some ⟨w.heap.size, 0, none⟩)), isV (.int .i64 (K : Int)), isV (.tuple #[.int .i64 V, .int .i64 E]), isV (.int .i64 V), isV (.int .i64 E),
   .one fun v _ => v = .int .i64 z ∧ heldO V E = some z,
   .one fun v _ => v = .int .i64 z] ⟨Good.is _, Good.is _, Good.is _, Good.is _, Good.is _, Good.is _, Good.is _, Good.may _ _, Good.is _, trivial⟩ (E0.s.k (p3.s)) (A := ?A1) ?hA1 ?howe1 ?hfin1
 case hA1 =>
  intro vs
  simp only [putAll, Act.put, sA, sZ, sS, Nat.zero_add, Nat.reduceAdd]
  exact rfl
 case howe1 =>
  clear E0 p3
  intro hf
  refine ⟨oP0 0 [] hf rfl, oP0 1 [] hf rfl, oP0 2 [] hf rfl, oE 3 [2] hf rfl ?_, oE 4 [0, 1, 3] hf rfl ?_, oP1 5 [4] hf rfl, oP1 6 [4] hf rfl, oE 7 [5, 6] hf rfl ?_, oE 8 [7] hf rfl ?_, trivial⟩
  all_goals intro vs W hS hp hx KO hKO
  all_goals simp only [Act.put, sA, sZ, sS] at hKO
  ·have e2 := isOf hp.1; simp only [e2] at hKO; have fc0 := BxA.cell (hS.1.2) 0 (v := .int .i64 (K : Int)) rfl; go_simp; exact hKO _ W (.refl W) rfl
  ·have e0 := isOf hp.1; have e1 := isOf hp.2.1; have e3 := isOf hp.2.2.1; simp only [e0, e1, e3] at hKO; go_simp
   refine (Try.fixMulV a b K HK.out _ HA.out.1 HA.out.2 HB.out.1 HB.out.2 HV.out HE.out).mono ?_
   rintro e W1 ⟨rfl, hE⟩
   exact hKO _ W1 hE rfl
  ·have e5 := isOf hp.1; have e6 := isOf hp.2.1; simp only [e5, e6] at hKO; go_simp
   cases g : heldO V E
   ·skip
    refine (Try.adamHeldN V E g _).mono ?_
    rintro e W1 ⟨⟨c, hc, rfl⟩, hE⟩
    exact ⟨rfl, HeldP.no (HZ.out.symm.trans g) hc, Ext.trans hS.1.1 hE⟩
   ·have g2 : heldO V E = some z := by rw [Hz.out, g]; rfl
    refine (Try.adamHeldS V E g2 _).mono ?_
    rintro e W1 ⟨rfl, hE⟩
    exact hKO _ W1 hE ⟨rfl, g2⟩
  ·have e7 : vs 7 = .int .i64 z := (hp.1).1
   have Gz : Hid (heldO V E = some z) := Lib.hid (hp.1).2
   simp only [e7] at hKO; go_simp; exact hKO _ W (.refl W) rfl
 intro vs W1 hS hp
 clear szw1 E0 p3
 obtain ⟨⟨E0, p3⟩, sz1⟩ := hS
 obtain ⟨h1_0, h1_1, h1_2, h1_3, h1_4, h1_5, h1_6, h1_7, h1_8, -⟩ := hp
 obtain ⟨h1_7, Gz⟩ := h1_7
 replace Gz := Lib.hid Gz
 simp only [isOf h1_0, isOf h1_1, isOf h1_2, isOf h1_3, isOf h1_4, isOf h1_5, isOf h1_6, isOf h1_8]
 clear h1_0 h1_1 h1_2 h1_3 h1_4 h1_5 h1_6 h1_7 h1_8; go_wp2; go_ret
 exact ⟨HeldP.yes (HZ.out.symm.trans Gz.out), E0⟩

theorem Try.adamMulS {a b : Int} (K : Nat) (hK : K ≤ 40) (ha : I64 a) (hb : I64 b) {z : Int} (h : mulO K a b = some z) (w : World) : Calls Try.prog 74 #[.agg #[.int .i64 (K : Int)], .int .i64 a, .int .i64 b] w fun e w' => e = .returned (.int .i64 z) ∧ Ext w w' :=
 (Try.adamMulW K hK ha hb w).mono fun _ _ ⟨q, hE⟩ => ⟨q.out h, hE⟩

theorem Try.adamMulN {a b : Int} (K : Nat) (hK : K ≤ 40) (ha : I64 a) (hb : I64 b) (h : mulO K a b = none) (w : World) : Calls Try.prog 74 #[.agg #[.int .i64 (K : Int)], .int .i64 a, .int .i64 b] w fun e w' => (∃ c : Int, c ≠ 0 ∧ e = .panicked [{ v := .iface 82 (.int .i64 c), recovered := false }]) ∧ Ext w w' :=
 (Try.adamMulW K hK ha hb w).mono fun _ _ ⟨q, hE⟩ => ⟨q.out0 h, hE⟩

set_option maxRecDepth 100000 in
set_option maxHeartbeats 4000000 in
theorem Try.adamDivW {a b : Int} (K : Nat) (hK : K ≤ 40) (ha : I64 a) (hb : I64 b) (h0 : b ≠ 0) (w : World) :
  Calls Try.prog 76 #[.agg #[.int .i64 (K : Int)], .int .i64 a, .int .i64 b] w fun e w' => HeldP 82 e (okZ (divZ K a b)) ∧ Ext w w' := by
 obtain ⟨V, hV⟩ : ∃ V, fitV (divZ K a b) = V := ⟨_, rfl⟩
 obtain ⟨E, hE⟩ : ∃ E, fitE (divZ K a b) = E := ⟨_, rfl⟩
 have HZ : Hid (heldO V E = okZ (divZ K a b)) := Lib.hid (by rw [← hV, ← hE]; exact heldO_fit _)
 have HV := Lib.hid hV
 have HE := Lib.hid hE
 have HK := Lib.hid hK
 have HA := Lib.hid ha
 have HB := Lib.hid hb
 clear hV hE hK ha hb
 obtain ⟨z, Hz⟩ : ∃ z, z = (heldO V E).getD 0 := ⟨_, rfl⟩
 replace Hz := Lib.hid Hz
 have H0 := Lib.hid h0
 clear h0
 obtain ⟨W0, hW0, E0, p3⟩ := boxed1 w 62 #[.int .i64 (K : Int)]
 go_enter Try.func76, Try.ntmps76
 have k3a := p3.cell 0 (v := .int .i64 (K : Int)) rfl
 go_upto_region 1 with (fail)
 rw [← hW0]
 clear hW0; clear k3a; have ltp3 := p3.lt; have szw2 := Ext.size E0
 refine region_gk [isV (.int .i64 a), isV (.int .i64 b), isV (.pointer (some ⟨w.heap.size, 0, none⟩)), isV (.int .i64 (K : Int)), isV (.tuple #[.int .i64 V, .int .i64 E]), isV (.int .i64 V), isV (.int .i64 E),
   .one fun v _ => v = .int .i64 z ∧ heldO V E = some z,
   .one fun v _ => v = .int .i64 z] ⟨Good.is _, Good.is _, Good.is _, Good.is _, Good.is _, Good.is _, Good.is _, Good.may _ _, Good.is _, trivial⟩ (E0.s.k (p3.s)) (A := ?A2) ?hA2 ?howe2 ?hfin2
 case hA2 =>
  intro vs
  simp only [putAll, Act.put, sA, sZ, sS, Nat.zero_add, Nat.reduceAdd]
  exact rfl
 case howe2 =>
  clear E0 p3
  intro hf
  refine ⟨oP0 0 [] hf rfl, oP0 1 [] hf rfl, oP0 2 [] hf rfl, oE 3 [2] hf rfl ?_, oE 4 [0, 1, 3] hf rfl ?_, oP1 5 [4] hf rfl, oP1 6 [4] hf rfl, oE 7 [5, 6] hf rfl ?_, oE 8 [7] hf rfl ?_, trivial⟩
  all_goals intro vs W hS hp hx KO hKO
  all_goals simp only [Act.put, sA, sZ, sS] at hKO
  ·have e2 := isOf hp.1; simp only [e2] at hKO; have fc0 := BxA.cell (hS.1.2) 0 (v := .int .i64 (K : Int)) rfl; go_simp; exact hKO _ W (.refl W) rfl
  ·have e0 := isOf hp.1; have e1 := isOf hp.2.1; have e3 := isOf hp.2.2.1; simp only [e0, e1, e3] at hKO; go_simp
   refine (Try.fixDivV a b K HK.out _ HA.out.1 HA.out.2 HB.out.1 HB.out.2 H0.out HV.out HE.out).mono ?_
   rintro e W1 ⟨rfl, hE⟩
   exact hKO _ W1 hE rfl
  ·have e5 := isOf hp.1; have e6 := isOf hp.2.1; simp only [e5, e6] at hKO; go_simp
   cases g : heldO V E
   ·skip
    refine (Try.adamHeldN V E g _).mono ?_
    rintro e W1 ⟨⟨c, hc, rfl⟩, hE⟩
    exact ⟨rfl, HeldP.no (HZ.out.symm.trans g) hc, Ext.trans hS.1.1 hE⟩
   ·have g2 : heldO V E = some z := by rw [Hz.out, g]; rfl
    refine (Try.adamHeldS V E g2 _).mono ?_
    rintro e W1 ⟨rfl, hE⟩
    exact hKO _ W1 hE ⟨rfl, g2⟩
  ·have e7 : vs 7 = .int .i64 z := (hp.1).1
   have Gz : Hid (heldO V E = some z) := Lib.hid (hp.1).2
   simp only [e7] at hKO; go_simp; exact hKO _ W (.refl W) rfl
 intro vs W2 hS hp
 clear szw2 E0 p3
 obtain ⟨⟨E0, p3⟩, sz2⟩ := hS
 obtain ⟨h2_0, h2_1, h2_2, h2_3, h2_4, h2_5, h2_6, h2_7, h2_8, -⟩ := hp
 obtain ⟨h2_7, Gz⟩ := h2_7
 replace Gz := Lib.hid Gz
 simp only [isOf h2_0, isOf h2_1, isOf h2_2, isOf h2_3, isOf h2_4, isOf h2_5, isOf h2_6, isOf h2_8]
 clear h2_0 h2_1 h2_2 h2_3 h2_4 h2_5 h2_6 h2_7 h2_8; go_wp2; go_ret
 exact ⟨HeldP.yes (HZ.out.symm.trans Gz.out), E0⟩

theorem Try.adamDivS {a b : Int} (K : Nat) (hK : K ≤ 40) (ha : I64 a) (hb : I64 b) (h0 : b ≠ 0) {z : Int} (h : divO K a b = some z) (w : World) : Calls Try.prog 76 #[.agg #[.int .i64 (K : Int)], .int .i64 a, .int .i64 b] w fun e w' => e = .returned (.int .i64 z) ∧ Ext w w' :=
 (Try.adamDivW K hK ha hb h0 w).mono fun _ _ ⟨q, hE⟩ => ⟨q.out h, hE⟩

theorem Try.adamDivN {a b : Int} (K : Nat) (hK : K ≤ 40) (ha : I64 a) (hb : I64 b) (h0 : b ≠ 0) (h : divO K a b = none) (w : World) : Calls Try.prog 76 #[.agg #[.int .i64 (K : Int)], .int .i64 a, .int .i64 b] w fun e w' => (∃ c : Int, c ≠ 0 ∧ e = .panicked [{ v := .iface 82 (.int .i64 c), recovered := false }]) ∧ Ext w w' :=
 (Try.adamDivW K hK ha hb h0 w).mono fun _ _ ⟨q, hE⟩ => ⟨q.out0 h, hE⟩

set_option maxRecDepth 100000 in
set_option maxHeartbeats 4000000 in
theorem Try.adamAddW {a b : Int} (K : Nat) (hK : K ≤ 40) (ha : I64 a) (hb : I64 b) (w : World) :
  Calls Try.prog 73 #[.agg #[.int .i64 (K : Int)], .int .i64 a, .int .i64 b] w fun e w' => HeldP 82 e (okZ (a + b)) ∧ Ext w w' := by
 obtain ⟨V, hV⟩ : ∃ V, fitV (a + b) = V := ⟨_, rfl⟩
 obtain ⟨E, hE⟩ : ∃ E, fitE (a + b) = E := ⟨_, rfl⟩
 have HZ : Hid (heldO V E = okZ (a + b)) := Lib.hid (by rw [← hV, ← hE]; exact heldO_fit _)
 have HV := Lib.hid hV
 have HE := Lib.hid hE
 have HK := Lib.hid hK
 have HA := Lib.hid ha
 have HB := Lib.hid hb
 clear hV hE hK ha hb
 obtain ⟨z, Hz⟩ : ∃ z, z = (heldO V E).getD 0 := ⟨_, rfl⟩
 replace Hz := Lib.hid Hz
 obtain ⟨W0, hW0, E0, p3⟩ := boxed1 w 62 #[.int .i64 (K : Int)]
 go_enter Try.func73, Try.ntmps73
 have k3a := p3.cell 0 (v := .int .i64 (K : Int)) rfl
 go_upto_region 1 with (fail)
 rw [← hW0]
 clear hW0; clear k3a; have ltp3 := p3.lt; have szw3 := Ext.size E0
 refine region_gk [isV (.int .i64 a), isV (.int .i64 b), isV (.tuple #[.int .i64 V, .int .i64 E]), isV (.int .i64 V), isV (.int .i64 E),
   .one fun v _ => v = .int .i64 z ∧ heldO V E = some z,
   .one fun v _ => v = .int .i64 z] ⟨Good.is _, Good.is _, Good.is _, Good.is _, Good.is _, Good.may _ _, Good.is _, trivial⟩ (E0.s.k (p3.s)) (A := ?A3) ?hA3 ?howe3 ?hfin3
 case hA3 =>
  intro vs
  simp only [putAll, Act.put, sA, sZ, sS, Nat.zero_add, Nat.reduceAdd]
  exact rfl
 case howe3 =>
  clear E0 p3
  intro hf
  refine ⟨oP0 0 [] hf rfl, oP0 1 [] hf rfl, oE 2 [0, 1] hf rfl ?_, oP1 3 [2] hf rfl, oP1 4 [2] hf rfl, oE 5 [3, 4] hf rfl ?_, oE 6 [5] hf rfl ?_, trivial⟩
  all_goals intro vs W hS hp hx KO hKO
  all_goals simp only [Act.put, sA, sZ, sS] at hKO
  ·have e0 := isOf hp.1; have e1 := isOf hp.2.1; simp only [e0, e1] at hKO; go_simp
   refine (Try.fixAddV a b _ HA.out.1 HA.out.2 HB.out.1 HB.out.2 HV.out HE.out).mono ?_
   rintro e W1 ⟨rfl, hE⟩
   exact hKO _ W1 hE rfl
  ·have e3 := isOf hp.1; have e4 := isOf hp.2.1; simp only [e3, e4] at hKO; go_simp
   cases g : heldO V E
   ·skip
    refine (Try.adamHeldN V E g _).mono ?_
    rintro e W1 ⟨⟨c, hc, rfl⟩, hE⟩
    exact ⟨rfl, HeldP.no (HZ.out.symm.trans g) hc, Ext.trans hS.1.1 hE⟩
   ·have g2 : heldO V E = some z := by rw [Hz.out, g]; rfl
    refine (Try.adamHeldS V E g2 _).mono ?_
    rintro e W1 ⟨rfl, hE⟩
    exact hKO _ W1 hE ⟨rfl, g2⟩
  ·have e5 : vs 5 = .int .i64 z := (hp.1).1
   have Gz : Hid (heldO V E = some z) := Lib.hid (hp.1).2
   simp only [e5] at hKO; go_simp; exact hKO _ W (.refl W) rfl
 intro vs W3 hS hp
 clear szw3 E0 p3
 obtain ⟨⟨E0, p3⟩, sz3⟩ := hS
 obtain ⟨h3_0, h3_1, h3_2, h3_3, h3_4, h3_5, h3_6, -⟩ := hp
 obtain ⟨h3_5, Gz⟩ := h3_5
 replace Gz := Lib.hid Gz
 simp only [isOf h3_0, isOf h3_1, isOf h3_2, isOf h3_3, isOf h3_4, isOf h3_6]
 clear h3_0 h3_1 h3_2 h3_3 h3_4 h3_5 h3_6; go_wp2; go_ret
 exact ⟨HeldP.yes (HZ.out.symm.trans Gz.out), E0⟩

theorem Try.adamAddS {a b : Int} (K : Nat) (hK : K ≤ 40) (ha : I64 a) (hb : I64 b) {z : Int} (h : addO a b = some z) (w : World) : Calls Try.prog 73 #[.agg #[.int .i64 (K : Int)], .int .i64 a, .int .i64 b] w fun e w' => e = .returned (.int .i64 z) ∧ Ext w w' :=
 (Try.adamAddW K hK ha hb w).mono fun _ _ ⟨q, hE⟩ => ⟨q.out h, hE⟩

theorem Try.adamAddN {a b : Int} (K : Nat) (hK : K ≤ 40) (ha : I64 a) (hb : I64 b) (h : addO a b = none) (w : World) : Calls Try.prog 73 #[.agg #[.int .i64 (K : Int)], .int .i64 a, .int .i64 b] w fun e w' => (∃ c : Int, c ≠ 0 ∧ e = .panicked [{ v := .iface 82 (.int .i64 c), recovered := false }]) ∧ Ext w w' :=
 (Try.adamAddW K hK ha hb w).mono fun _ _ ⟨q, hE⟩ => ⟨q.out0 h, hE⟩

set_option maxRecDepth 100000 in
set_option maxHeartbeats 4000000 in
theorem Try.adamSubW {a b : Int} (K : Nat) (hK : K ≤ 40) (ha : I64 a) (hb : I64 b) (w : World) :
  Calls Try.prog 78 #[.agg #[.int .i64 (K : Int)], .int .i64 a, .int .i64 b] w fun e w' => HeldP 82 e (okZ (a - b)) ∧ Ext w w' := by
 obtain ⟨V, hV⟩ : ∃ V, fitV (a - b) = V := ⟨_, rfl⟩
 obtain ⟨E, hE⟩ : ∃ E, fitE (a - b) = E := ⟨_, rfl⟩
 have HZ : Hid (heldO V E = okZ (a - b)) := Lib.hid (by rw [← hV, ← hE]; exact heldO_fit _)
 have HV := Lib.hid hV
 have HE := Lib.hid hE
 have HK := Lib.hid hK
 have HA := Lib.hid ha
 have HB := Lib.hid hb
 clear hV hE hK ha hb
 obtain ⟨z, Hz⟩ : ∃ z, z = (heldO V E).getD 0 := ⟨_, rfl⟩
 replace Hz := Lib.hid Hz
 obtain ⟨W0, hW0, E0, p3⟩ := boxed1 w 62 #[.int .i64 (K : Int)]
 go_enter Try.func78, Try.ntmps78
 have k3a := p3.cell 0 (v := .int .i64 (K : Int)) rfl
 go_upto_region 1 with (fail)
 rw [← hW0]
 clear hW0; clear k3a; have ltp3 := p3.lt; have szw4 := Ext.size E0
 refine region_gk [isV (.int .i64 a), isV (.int .i64 b), isV (.tuple #[.int .i64 V, .int .i64 E]), isV (.int .i64 V), isV (.int .i64 E),
   .one fun v _ => v = .int .i64 z ∧ heldO V E = some z,
   .one fun v _ => v = .int .i64 z] ⟨Good.is _, Good.is _, Good.is _, Good.is _, Good.is _, Good.may _ _, Good.is _, trivial⟩ (E0.s.k (p3.s)) (A := ?A4) ?hA4 ?howe4 ?hfin4
 case hA4 =>
  intro vs
  simp only [putAll, Act.put, sA, sZ, sS, Nat.zero_add, Nat.reduceAdd]
  exact rfl
 case howe4 =>
  clear E0 p3
  intro hf
  refine ⟨oP0 0 [] hf rfl, oP0 1 [] hf rfl, oE 2 [0, 1] hf rfl ?_, oP1 3 [2] hf rfl, oP1 4 [2] hf rfl, oE 5 [3, 4] hf rfl ?_, oE 6 [5] hf rfl ?_, trivial⟩
  all_goals intro vs W hS hp hx KO hKO
  all_goals simp only [Act.put, sA, sZ, sS] at hKO
  ·have e0 := isOf hp.1; have e1 := isOf hp.2.1; simp only [e0, e1] at hKO; go_simp
   refine (Try.fixSubV a b _ HA.out.1 HA.out.2 HB.out.1 HB.out.2 HV.out HE.out).mono ?_
   rintro e W1 ⟨rfl, hE⟩
   exact hKO _ W1 hE rfl
  ·have e3 := isOf hp.1; have e4 := isOf hp.2.1; simp only [e3, e4] at hKO; go_simp
   cases g : heldO V E
   ·skip
    refine (Try.adamHeldN V E g _).mono ?_
    rintro e W1 ⟨⟨c, hc, rfl⟩, hE⟩
    exact ⟨rfl, HeldP.no (HZ.out.symm.trans g) hc, Ext.trans hS.1.1 hE⟩
   ·have g2 : heldO V E = some z := by rw [Hz.out, g]; rfl
    refine (Try.adamHeldS V E g2 _).mono ?_
    rintro e W1 ⟨rfl, hE⟩
    exact hKO _ W1 hE ⟨rfl, g2⟩
  ·have e5 : vs 5 = .int .i64 z := (hp.1).1
   have Gz : Hid (heldO V E = some z) := Lib.hid (hp.1).2
   simp only [e5] at hKO; go_simp; exact hKO _ W (.refl W) rfl
 intro vs W4 hS hp
 clear szw4 E0 p3
 obtain ⟨⟨E0, p3⟩, sz4⟩ := hS
 obtain ⟨h4_0, h4_1, h4_2, h4_3, h4_4, h4_5, h4_6, -⟩ := hp
 obtain ⟨h4_5, Gz⟩ := h4_5
 replace Gz := Lib.hid Gz
 simp only [isOf h4_0, isOf h4_1, isOf h4_2, isOf h4_3, isOf h4_4, isOf h4_6]
 clear h4_0 h4_1 h4_2 h4_3 h4_4 h4_5 h4_6; go_wp2; go_ret
 exact ⟨HeldP.yes (HZ.out.symm.trans Gz.out), E0⟩

theorem Try.adamSubS {a b : Int} (K : Nat) (hK : K ≤ 40) (ha : I64 a) (hb : I64 b) {z : Int} (h : subO a b = some z) (w : World) : Calls Try.prog 78 #[.agg #[.int .i64 (K : Int)], .int .i64 a, .int .i64 b] w fun e w' => e = .returned (.int .i64 z) ∧ Ext w w' :=
 (Try.adamSubW K hK ha hb w).mono fun _ _ ⟨q, hE⟩ => ⟨q.out h, hE⟩

theorem Try.adamSubN {a b : Int} (K : Nat) (hK : K ≤ 40) (ha : I64 a) (hb : I64 b) (h : subO a b = none) (w : World) : Calls Try.prog 78 #[.agg #[.int .i64 (K : Int)], .int .i64 a, .int .i64 b] w fun e w' => (∃ c : Int, c ≠ 0 ∧ e = .panicked [{ v := .iface 82 (.int .i64 c), recovered := false }]) ∧ Ext w w' :=
 (Try.adamSubW K hK ha hb w).mono fun _ _ ⟨q, hE⟩ => ⟨q.out0 h, hE⟩

set_option maxRecDepth 100000 in
set_option maxHeartbeats 4000000 in
theorem Try.adamRoot {a : Int} (K : Nat) (hK : K ≤ 40) (ha : I64 a) (h0 : 0 ≤ a) (w : World) :
  Calls Try.prog 77 #[.agg #[.int .i64 (K : Int)], .int .i64 a] w fun e w' => e = .returned (.int .i64 (rootW K a)) ∧ Ext w w' := by
 obtain ⟨A, rfl⟩ := Int.eq_ofNat_of_zero_le h0
 have HA : Hid (A < 9223372036854775808) := Lib.hid (by have := ha.2; omega)
 have HR : Hid (((rt (A * 2 ^ K) 2 : Nat) : Int) = rootW K (A : Int)) := Lib.hid rfl
 have HK := Lib.hid hK
 clear h0 ha hK
 obtain ⟨W0, hW0, E0, p2⟩ := boxed1 w 62 #[.int .i64 (K : Int)]
 go_enter Try.func77, Try.ntmps77
 have k2a := p2.cell 0 (v := .int .i64 (K : Int)) rfl
 go_upto_region 1 with (fail)
 rw [← hW0]
 clear hW0; clear k2a; have ltp2 := p2.lt; have szw5 := Ext.size E0
 refine region_gk [isV (.int .i64 (A : Int)), isV (.pointer (some ⟨w.heap.size, 0, none⟩)), isV (.int .i64 (K : Int)), isV (.tuple #[.int .i64 (rootW K (A : Int)), .int .i64 0]), isV (.int .i64 (rootW K (A : Int))), isV (.int .i64 0), isV (.int .i64 (rootW K (A : Int))),
   .one fun v _ => v = .int .i64 (rootW K (A : Int))] ⟨Good.is _, Good.is _, Good.is _, Good.is _, Good.is _, Good.is _, Good.is _, Good.is _, trivial⟩ (E0.s.k (p2.s)) (A := ?A5) ?hA5 ?howe5 ?hfin5
 case hA5 =>
  intro vs
  simp only [putAll, Act.put, sA, sZ, sS, Nat.zero_add, Nat.reduceAdd]
  exact rfl
 case howe5 =>
  clear E0 p2
  intro hf
  refine ⟨oP0 0 [] hf rfl, oP0 1 [] hf rfl, oE 2 [1] hf rfl ?_, oE 3 [0, 2] hf rfl ?_, oP1 4 [3] hf rfl, oP1 5 [3] hf rfl, oE 6 [4, 5] hf rfl ?_, oP1 7 [6] hf rfl, trivial⟩
  all_goals intro vs W hS hp hx KO hKO
  all_goals simp only [Act.put, sA, sZ, sS] at hKO
  ·have e1 := isOf hp.1; simp only [e1] at hKO; have fc0 := BxA.cell (hS.1.2) 0 (v := .int .i64 (K : Int)) rfl; go_simp; exact hKO _ W (.refl W) rfl
  ·have e0 := isOf hp.1; have e2 := isOf hp.2.1; simp only [e0, e2] at hKO; go_simp
   refine (Try.fixSqrt A K _ HA.out HK.out).mono ?_
   rintro e W1 ⟨rfl, hE⟩
   rw [HR.out]
   exact hKO _ W1 hE rfl
  ·have e4 := isOf hp.1; have e5 := isOf hp.2.1; simp only [e4, e5] at hKO; go_simp
   refine (Try.adamHeld (rootW K (A : Int)) _).mono ?_
   rintro e W1 ⟨rfl, hE⟩
   exact hKO _ W1 hE rfl
 intro vs W5 hS hp
 clear szw5 E0 p2
 obtain ⟨⟨E0, p2⟩, sz5⟩ := hS
 obtain ⟨h5_0, h5_1, h5_2, h5_3, h5_4, h5_5, h5_6, h5_7, -⟩ := hp
 simp only [isOf h5_0, isOf h5_1, isOf h5_2, isOf h5_3, isOf h5_4, isOf h5_5, isOf h5_6, isOf h5_7]
 clear h5_0 h5_1 h5_2 h5_3 h5_4 h5_5 h5_6 h5_7; go_wp2; go_ret
 exact ⟨rfl, E0⟩

set_option maxRecDepth 100000 in
set_option maxHeartbeats 4000000 in
theorem Try.adamMix {be a b : Int} (K : Nat) (hK : K ≤ 40) (ha : I64 a) (hb : I64 b) (h0 : 0 ≤ be) (h1 : be ≤ oneZ K) (w : World) :
  Calls Try.prog 75 #[.agg #[.int .i64 (K : Int)], .int .i64 be, .int .i64 a, .int .i64 b] w fun e w' => HeldP 82 e (mixO K be a b) ∧ Ext w w' := by
 have HK := Lib.hid hK
 have HA := Lib.hid ha
 have HB := Lib.hid hb
 have HE : Hid (I64 be) := Lib.hid (by have := one_max hK; exact ⟨by omega, by omega⟩)
 have HO : Hid (I64 (oneZ K - be)) := Lib.hid (one_i64 hK h0 h1)
 have hw := one_wrap hK h0 h1
 obtain ⟨d, hd⟩ : ∃ d, oneZ K - be = d := ⟨_, rfl⟩
 unfold mixO
 rw [hd] at hw HO ⊢
 have hd2 : IntKind.i64.wrap (oneZ K - be) = d := by rw [hd]; exact hw
 clear hd hw ha hb hK h0 h1
 obtain ⟨x, Hx⟩ : ∃ q, q = (mulO K be a).getD 0 := ⟨_, rfl⟩
 replace Hx := Lib.hid Hx
 obtain ⟨y, Hy⟩ : ∃ q, q = (mulO K d b).getD 0 := ⟨_, rfl⟩
 replace Hy := Lib.hid Hy
 obtain ⟨z, Hz⟩ : ∃ q, q = (addO x y).getD 0 := ⟨_, rfl⟩
 replace Hz := Lib.hid Hz
 obtain ⟨W0, hW0, E0, p4⟩ := boxed1 w 62 #[.int .i64 (K : Int)]
 go_enter Try.func75, Try.ntmps75
 have k4a := p4.cell 0 (v := .int .i64 (K : Int)) rfl
 go_upto_region 1 with (fail)
 rw [← hW0]
 clear hW0; clear k4a; have ltp4 := p4.lt; have szw6 := Ext.size E0
 refine region_gk [isV (.agg #[.int .i64 (K : Int)]), isV (.agg #[.int .i64 (K : Int)]), isV (.int .i64 be), isV (.int .i64 a),
   .one fun v _ => v = .int .i64 x ∧ mulO K be a = some x,
   isV (.agg #[.int .i64 (K : Int)]), isV (.pointer (some ⟨w.heap.size, 0, none⟩)), isV (.int .i64 (K : Int)), isV (.int .i64 (oneZ K)), isV (.int .i64 be), isV (.int .i64 d), isV (.int .i64 b),
   .one fun v _ => v = .int .i64 y ∧ mulO K d b = some y,
   .one fun v _ => v = .int .i64 z ∧ addO x y = some z,
   .one fun v _ => v = .int .i64 z] ⟨Good.is _, Good.is _, Good.is _, Good.is _, Good.may _ _, Good.is _, Good.is _, Good.is _, Good.is _, Good.is _, Good.is _, Good.is _, Good.may _ _, Good.may _ _, Good.is _, trivial⟩ (E0.s.k (p4.s)) (A := ?A6) ?hA6 ?howe6 ?hfin6
 case hA6 =>
  intro vs
  simp only [putAll, Act.put, sA, sZ, sS, Nat.zero_add, Nat.reduceAdd]
  exact rfl
 case howe6 =>
  clear E0 p4
  intro hf
  refine ⟨oE 0 [] hf rfl ?_, oE 1 [] hf rfl ?_, oP0 2 [] hf rfl, oP0 3 [] hf rfl, oE 4 [1, 2, 3] hf rfl ?_, oE 5 [] hf rfl ?_, oP0 6 [] hf rfl, oE 7 [6] hf rfl ?_, oE 8 [7] hf rfl ?_, oP0 9 [] hf rfl, oP2 10 [8, 9] hf rfl, oP0 11 [] hf rfl, oE 12 [5, 10, 11] hf rfl ?_, oE 13 [0, 4, 12] hf rfl ?_, oE 14 [13] hf rfl ?_, trivial⟩
  all_goals intro vs W hS hp hx KO hKO
  all_goals simp only [Act.put, sA, sZ, sS] at hKO
  ·have fc0 := BxA.cell (hS.1.2) 0 (v := .int .i64 (K : Int)) rfl; go_simp; exact hKO _ W (.refl W) rfl
  ·have fc0 := BxA.cell (hS.1.2) 0 (v := .int .i64 (K : Int)) rfl; go_simp; exact hKO _ W (.refl W) rfl
  ·have e1 := isOf hp.1; have e2 := isOf hp.2.1; have e3 := isOf hp.2.2.1; simp only [e1, e2, e3] at hKO; go_simp
   cases g : mulO K be a
   ·have HN : Hid (((mulO K be a).bind fun x => (mulO K d b).bind fun y => addO x y) = none) := Lib.hid (by rw [g]; rfl)
    refine (Try.adamMulN K HK.out (a := be) (b := a) HE.out HA.out g _).mono ?_
    rintro e W1 ⟨⟨c, hc, rfl⟩, hE⟩
    exact ⟨rfl, HeldP.no HN.out hc, Ext.trans hS.1.1 hE⟩
   ·have g2 : mulO K be a = some x := by rw [Hx.out, g]; rfl
    refine (Try.adamMulS K HK.out (a := be) (b := a) HE.out HA.out g2 _).mono ?_
    rintro e W1 ⟨rfl, hE⟩
    exact hKO _ W1 hE ⟨rfl, g2⟩
  ·have fc0 := BxA.cell (hS.1.2) 0 (v := .int .i64 (K : Int)) rfl; go_simp; exact hKO _ W (.refl W) rfl
  ·have e6 := isOf hp.1; simp only [e6] at hKO; have fc0 := BxA.cell (hS.1.2) 0 (v := .int .i64 (K : Int)) rfl; go_simp; exact hKO _ W (.refl W) rfl
  ·have e7 := isOf hp.1; simp only [e7] at hKO; go_simp
   refine (Try.adamOne K HK.out _).mono ?_
   rintro e W1 ⟨rfl, hE⟩
   exact hKO _ W1 hE rfl
  ·have e5 := isOf hp.1; have e10 := isOf hp.2.1; have e11 := isOf hp.2.2.1; simp only [e5, e10, e11] at hKO; go_simp
   cases g : mulO K d b
   ·have HN : Hid (((mulO K be a).bind fun x => (mulO K d b).bind fun y => addO x y) = none) := Lib.hid (by cases mulO K be a with | none => rfl | some q => rw [Option.bind_some, g]; rfl)
    refine (Try.adamMulN K HK.out (a := d) (b := b) HO.out HB.out g _).mono ?_
    rintro e W1 ⟨⟨c, hc, rfl⟩, hE⟩
    exact ⟨rfl, HeldP.no HN.out hc, Ext.trans hS.1.1 hE⟩
   ·have g2 : mulO K d b = some y := by rw [Hy.out, g]; rfl
    refine (Try.adamMulS K HK.out (a := d) (b := b) HO.out HB.out g2 _).mono ?_
    rintro e W1 ⟨rfl, hE⟩
    exact hKO _ W1 hE ⟨rfl, g2⟩
  ·have e0 := isOf hp.1
   have e4 : vs 4 = .int .i64 x := (hp.2.1).1
   have Gx : Hid (mulO K be a = some x) := Lib.hid (hp.2.1).2
   have e12 : vs 12 = .int .i64 y := (hp.2.2.1).1
   have Gy : Hid (mulO K d b = some y) := Lib.hid (hp.2.2.1).2
   simp only [e0, e4, e12] at hKO; go_simp
   cases g : addO x y
   ·have HN : Hid (((mulO K be a).bind fun x => (mulO K d b).bind fun y => addO x y) = none) := Lib.hid (by rw [Gx.out, Option.bind_some, Gy.out, Option.bind_some, g])
    refine (Try.adamAddN K HK.out (a := x) (b := y) (okZ_i64 Gx.out) (okZ_i64 Gy.out) g _).mono ?_
    rintro e W1 ⟨⟨c, hc, rfl⟩, hE⟩
    exact ⟨rfl, HeldP.no HN.out hc, Ext.trans hS.1.1 hE⟩
   ·have g2 : addO x y = some z := by rw [Hz.out, g]; rfl
    refine (Try.adamAddS K HK.out (a := x) (b := y) (okZ_i64 Gx.out) (okZ_i64 Gy.out) g2 _).mono ?_
    rintro e W1 ⟨rfl, hE⟩
    exact hKO _ W1 hE ⟨rfl, g2⟩
  ·have e13 : vs 13 = .int .i64 z := (hp.1).1
   have Gz : Hid (addO x y = some z) := Lib.hid (hp.1).2
   simp only [e13] at hKO; go_simp; exact hKO _ W (.refl W) rfl
 intro vs W6 hS hp
 clear szw6 E0 p4
 obtain ⟨⟨E0, p4⟩, sz6⟩ := hS
 obtain ⟨h6_0, h6_1, h6_2, h6_3, h6_4, h6_5, h6_6, h6_7, h6_8, h6_9, h6_10, h6_11, h6_12, h6_13, h6_14, -⟩ := hp
 obtain ⟨h6_4, Gx⟩ := h6_4
 replace Gx := Lib.hid Gx
 obtain ⟨h6_12, Gy⟩ := h6_12
 replace Gy := Lib.hid Gy
 obtain ⟨h6_13, Gz⟩ := h6_13
 replace Gz := Lib.hid Gz
 simp only [isOf h6_0, isOf h6_1, isOf h6_2, isOf h6_3, isOf h6_5, isOf h6_6, isOf h6_7, isOf h6_8, isOf h6_9, isOf h6_10, isOf h6_11, isOf h6_14]
 clear h6_0 h6_1 h6_2 h6_3 h6_4 h6_5 h6_6 h6_7 h6_8 h6_9 h6_10 h6_11 h6_12 h6_13 h6_14; go_wp2; go_ret
 exact ⟨HeldP.yes (by rw [Gx.out, Option.bind_some, Gy.out, Option.bind_some, Gz.out]), E0⟩


end Go.Rt
