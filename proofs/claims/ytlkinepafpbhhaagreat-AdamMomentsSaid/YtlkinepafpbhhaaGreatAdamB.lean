/-
 Adam: a place's step by the program.
-/
import Derived.Test.YtlkinepafpbhhaaGreatSqz
import Derived.Test.YtlkinepafpbhhaaGreatAdamA

namespace Go.Rt

open Go Go.RowKit Go.Proofs

theorem mulZ_sq (K : Nat) (d : Int) : 0 ≤ mulZ K d d := ratio_nonneg (Nat.pow_pos (by omega)) (by rcases Int.le_total 0 d with h | h; exact Int.mul_nonneg h h; exact Int.mul_nonneg_of_nonpos_of_nonpos h h)

theorem mixO_i64 {K : Nat} {be a b y : Int} (h : mixO K be a b = some y) : I64 y := by
 unfold mixO at h
 simp only [Option.bind_eq_some_iff] at h
 obtain ⟨_, _, _, _, h⟩ := h
 exact okZ_i64 h

theorem mulO_sq {K : Nat} {d q : Int} (h : mulO K d d = some q) : 0 ≤ q := by
 obtain ⟨-, rfl⟩ := okZ_some h
 exact mulZ_sq K d

theorem divO_nonneg {K : Nat} {a b q : Int} (h : divO K a b = some q) (ha : 0 ≤ a) (hb : 0 < b) : 0 ≤ q := by
 obtain ⟨-, rfl⟩ := okZ_some h
 exact divZ_nonneg ha hb

theorem addO_pos {a b q : Int} (h : addO a b = some q) (ha : 0 ≤ a) (hb : 0 < b) : 0 < q := by
 obtain ⟨-, rfl⟩ := okZ_some h
 omega

theorem rootW_i64 {K : Nat} (hK : K ≤ 40) {a : Int} (h : I64 a) : I64 (rootW K a) := by
 unfold rootW
 have h1 : a.toNat * 2 ^ K ≤ 9223372036854775808 * 1099511627776 := Nat.mul_le_mul (by have := h.2; omega) (Nat.le_trans (Nat.pow_le_pow_right (by omega) hK) (by decide))
 have h2 := (rt_is (a.toNat * 2 ^ K) (k := 2) (by omega)).1
 have h3 : rt (a.toNat * 2 ^ K) 2 < 9223372036854775808 := by
  apply Classical.byContradiction
  intro hc
  have h4 : 9223372036854775808 ^ 2 ≤ rt (a.toNat * 2 ^ K) 2 ^ 2 := Nat.pow_le_pow_left (by omega) 2
  have := Nat.le_trans h4 (Nat.le_trans h2 h1)
  omega
 exact ⟨by omega, by omega⟩

theorem Tryz.adamMixS {be a b z : Int} (K : Nat) (hK : K ≤ 40) (ha : I64 a) (hb : I64 b) (h0 : 0 ≤ be) (h1 : be ≤ oneZ K) (h : mixO K be a b = some z) (w : World) :
  Calls Tryz.prog 69 #[.agg #[.int .i64 (K : Int)], .int .i64 be, .int .i64 a, .int .i64 b] w fun e w' => e = .returned (.int .i64 z) ∧ Ext w w' := by
 have := Tryz.adamMix K hK ha hb h0 h1 w
 rw [h] at this
 exact this

theorem Tryz.adamMixN {be a b : Int} (K : Nat) (hK : K ≤ 40) (ha : I64 a) (hb : I64 b) (h0 : 0 ≤ be) (h1 : be ≤ oneZ K) (h : mixO K be a b = none) (w : World) :
  Calls Tryz.prog 69 #[.agg #[.int .i64 (K : Int)], .int .i64 be, .int .i64 a, .int .i64 b] w fun e w' => (∃ c : Int, c ≠ 0 ∧ e = .panicked [{ v := .iface 75 (.int .i64 c), recovered := false }]) ∧ Ext w w' := by
 have := Tryz.adamMix K hK ha hb h0 h1 w
 rw [h] at this
 exact this

/-- what a place's step asks of its numbers -/
structure PlaceIn (K : Nat) (A : AdamP) (p0 p1 w m v g : Int) : Prop where
 k : K ≤ 40
 lr : I64 A.lr
 eps0 : 0 < A.eps
 eps : I64 A.eps
 b10 : 0 ≤ A.b1
 b11 : A.b1 ≤ oneZ K
 b20 : 0 ≤ A.b2
 b21 : A.b2 ≤ oneZ K
 wd : I64 A.wd
 p00 : 0 ≤ p0
 p01 : p0 < oneZ K
 p10 : 0 ≤ p1
 p11 : p1 < oneZ K
 w : I64 w
 m : I64 m
 v0 : 0 ≤ v
 v : I64 v
 g : I64 g

def SaysP (t : TypeId) (e : Ending) (o : Option (Int × Int × Int)) : Prop :=
 match o with
 | some r => e = .returned (.tuple #[.int .i64 r.1, .int .i64 r.2.1, .int .i64 r.2.2])
 | none => ∃ c : Int, c ≠ 0 ∧ e = .panicked [{ v := .iface t (.int .i64 c), recovered := false }]

theorem SaysP.no {t : TypeId} {c : Int} {o : Option (Int × Int × Int)} (h : o = none) (hc : c ≠ 0) : SaysP t (.panicked [{ v := .iface t (.int .i64 c), recovered := false }]) o := by subst h; exact ⟨c, hc, rfl⟩

theorem SaysP.yes {t : TypeId} {x y z : Int} {o : Option (Int × Int × Int)} (h : o = some (x, y, z)) : SaysP t (.returned (.tuple #[.int .i64 x, .int .i64 y, .int .i64 z])) o := by subst h; rfl

set_option maxRecDepth 100000 in
set_option maxHeartbeats 16000000 in
theorem Tryz.adamPlaceB {K : Nat} {lr b1 b2 eps wd p0 p1 wt mt vt gt : Int} (h : PlaceIn K ⟨lr, b1, b2, eps, wd, false⟩ p0 p1 wt mt vt gt) (w : World) :
  Calls Tryz.prog 42 #[.agg #[.int .i64 (K : Int)], .agg #[.int .i64 lr, .int .i64 b1, .int .i64 b2, .int .i64 eps, .int .i64 wd, .bool false], .agg #[.int .i64 p0, .int .i64 p1], .int .i64 wt, .int .i64 mt, .int .i64 vt, .int .i64 gt] w fun e w' => SaysP 75 e (placeO K ⟨lr, b1, b2, eps, wd, false⟩ p0 p1 wt mt vt gt) ∧ Ext w w' := by
 have HP := Lib.hid h
 have HK := Lib.hid h.k
 obtain ⟨X0, hX0⟩ : ∃ x, oneZ K - p0 = x := ⟨_, rfl⟩
 obtain ⟨X1, hX1⟩ : ∃ x, oneZ K - p1 = x := ⟨_, rfl⟩
 have hw0 : IntKind.i64.wrap (oneZ K - p0) = X0 := by rw [one_wrap h.k h.p00 (Int.le_of_lt h.p01), hX0]
 have hw1 : IntKind.i64.wrap (oneZ K - p1) = X1 := by rw [one_wrap h.k h.p10 (Int.le_of_lt h.p11), hX1]
 have HI0 : Hid (I64 X0 ∧ 0 < X0) := Lib.hid ⟨by rw [← hX0]; exact one_i64 h.k h.p00 (Int.le_of_lt h.p01), by have := h.p01; omega⟩
 have HI1 : Hid (I64 X1 ∧ 0 < X1) := Lib.hid ⟨by rw [← hX1]; exact one_i64 h.k h.p10 (Int.le_of_lt h.p11), by have := h.p11; omega⟩
 have HX0 := Lib.hid hX0
 have HX1 := Lib.hid hX1
 clear h hX0 hX1
 obtain ⟨W0, hW0⟩ : ∃ W0, W0 = (((w.alloc (.cells #[.int .i64 (K : Int)] 54)).alloc (.cells #[.int .i64 lr, .int .i64 b1, .int .i64 b2, .int .i64 eps, .int .i64 wd, .bool false] 23)).alloc (.cells #[.int .i64 p0, .int .i64 p1] 24)) := ⟨_, rfl⟩
 have E0 : Ext w W0 := by rw [hW0]; exact (((Ext.alloc1 w (.cells #[.int .i64 (K : Int)] 54)).alloc (.cells #[.int .i64 lr, .int .i64 b1, .int .i64 b2, .int .i64 eps, .int .i64 wd, .bool false] 23)).alloc (.cells #[.int .i64 p0, .int .i64 p1] 24))
 have p7 : BxA W0 w.heap.size 54 #[.int .i64 (K : Int)] := by rw [hW0]; exact (BxA.new w 54 #[.int .i64 (K : Int)]).ext ((Ext.alloc1 (w.alloc (.cells #[.int .i64 (K : Int)] 54)) (.cells #[.int .i64 lr, .int .i64 b1, .int .i64 b2, .int .i64 eps, .int .i64 wd, .bool false] 23)).alloc (.cells #[.int .i64 p0, .int .i64 p1] 24))
 have p8 : BxA W0 (w.heap.size + 1) 23 #[.int .i64 lr, .int .i64 b1, .int .i64 b2, .int .i64 eps, .int .i64 wd, .bool false] := by rw [hW0]; simpa using (BxA.new (w.alloc (.cells #[.int .i64 (K : Int)] 54)) 23 #[.int .i64 lr, .int .i64 b1, .int .i64 b2, .int .i64 eps, .int .i64 wd, .bool false]).ext (Ext.alloc1 ((w.alloc (.cells #[.int .i64 (K : Int)] 54)).alloc (.cells #[.int .i64 lr, .int .i64 b1, .int .i64 b2, .int .i64 eps, .int .i64 wd, .bool false] 23)) (.cells #[.int .i64 p0, .int .i64 p1] 24))
 have p9 : Bx2 W0 (w.heap.size + 1 + 1) 24 (.int .i64 p0) (.int .i64 p1) := by rw [hW0]; simpa using (Bx2.new ((w.alloc (.cells #[.int .i64 (K : Int)] 54)).alloc (.cells #[.int .i64 lr, .int .i64 b1, .int .i64 b2, .int .i64 eps, .int .i64 wd, .bool false] 23)) 24 (.int .i64 p0) (.int .i64 p1))
 go_enter Tryz.func42, Tryz.ntmps42
 have kp7_0 := p7.cell 0 (v := .int .i64 (K : Int)) rfl
 obtain ⟨kp8_0, kp8_1, kp8_2, kp8_3, kp8_4, kp8_5⟩ := p8.c6
 obtain ⟨kp9_0, kp9_1⟩ := p9.c2
 go_upto_region 3 with (fail)
 rw [← hW0]
 clear hW0; clear kp7_0 kp8_0 kp8_1 kp8_2 kp8_3 kp8_4 kp8_5 kp9_0 kp9_1
 cases gzt : mulO K wd wt
 ·have Gzt := Lib.hid gzt
  clear gzt
  have HN : Hid (placeO K ⟨lr, b1, b2, eps, wd, false⟩ p0 p1 wt mt vt gt = none) := Lib.hid (by unfold placeO gradO lessO; simp only [HX0.out, HX1.out, Gzt.out, Option.bind_some, Option.bind_none, if_false, Bool.false_eq_true])
  have ltp7 := p7.lt; have ltp8 := p8.lt; have ltp9 := p9.lt; have szw1 := Ext.size E0
  refine region_gs [.one fun v _ => v = .agg #[.int .i64 (K : Int)],
    .one fun v _ => v = .int .i64 gt,
    .one fun v _ => v = .agg #[.int .i64 (K : Int)],
    .one fun v _ => v = .pointer (some ⟨w.heap.size + 1, 4, none⟩),
    .one fun v _ => v = .int .i64 wd,
    .one fun v _ => v = .int .i64 wt,
    .one fun _ _ => False,
    .one fun _ _ => False,
    .one fun _ _ => False]
   (fun W => Ext w W ∧ BxA W w.heap.size 54 #[.int .i64 (K : Int)] ∧ BxA W (w.heap.size + 1) 23 #[.int .i64 lr, .int .i64 b1, .int .i64 b2, .int .i64 eps, .int .i64 wd, .bool false] ∧ Bx2 W (w.heap.size + 1 + 1) 24 (.int .i64 p0) (.int .i64 p1) ∧ W0.heap.size ≤ W.heap.size) ⟨Good.is _, Good.is _, Good.is _, Good.is _, Good.is _, Good.is _, Good.never, Good.never, Good.never, trivial⟩
   ⟨E0, p7, p8, p9, Nat.le_refl _⟩ (A := ?A1) ?hA1 ?howe1 ?hfin1
  case hA1 =>
   intro vs
   simp only [putAll, Act.put, sA, sZ, sS, Nat.zero_add, Nat.reduceAdd]
   exact rfl
  case howe1 =>
   clear E0 p7 p8 p9
   intro hf
   refine ⟨oE 0 [] hf rfl ?_, oE 1 [] hf rfl ?_, oE 2 [] hf rfl ?_, oE 3 [] hf rfl ?_, oE 4 [3] hf rfl ?_, oE 5 [] hf rfl ?_, oE 6 [2, 4, 5] hf rfl ?_, oE 7 [6] hf rfl ?_, oE 8 [7] hf rfl ?_, trivial⟩
   all_goals intro vs W hS hp hx KO hKO
   all_goals simp only [Act.put, sA, sZ, sS] at hKO
   ·have fc0 := BxA.cell (hS.2.1) 0 (v := .int .i64 (K : Int)) rfl; go_simp; exact hKO _ W (.refl W) rfl
   ·go_simp; exact hKO _ W (.refl W) rfl
   ·have fc0 := BxA.cell (hS.2.1) 0 (v := .int .i64 (K : Int)) rfl; go_simp; exact hKO _ W (.refl W) rfl
   ·go_simp; exact hKO _ W (.refl W) rfl
   ·have e3 := isOf hp.1; simp only [e3] at hKO; have fc4 := BxA.cell (hS.2.2.1) 4 (v := .int .i64 wd) rfl; go_simp; exact hKO _ W (.refl W) rfl
   ·go_simp; exact hKO _ W (.refl W) rfl
   ·have e2 := isOf hp.1; have e4 := isOf hp.2.1; have e5 := isOf hp.2.2.1; simp only [e2, e4, e5] at hKO; go_simp
    refine (Tryz.adamMulN K HK.out (a := wd) (b := wt) HP.out.wd HP.out.w Gzt.out _).mono ?_
    rintro e W1 ⟨⟨c, hc, rfl⟩, hE⟩
    exact ⟨rfl, SaysP.no HN.out hc, Ext.trans hS.1 hE⟩
   ·have q6 := hp.1
    exact False.elim q6
   ·have q7 := hp.1
    exact False.elim q7
  intro vs W1 hS hp
  obtain ⟨h1_0, h1_1, h1_2, h1_3, h1_4, h1_5, h1_6, h1_7, h1_8, -⟩ := hp
  exact False.elim h1_6
 ·rename_i zt
  have Gzt := Lib.hid gzt
  clear gzt
  cases gzd : addO gt zt
  ·have Gzd := Lib.hid gzd
   clear gzd
   have HN : Hid (placeO K ⟨lr, b1, b2, eps, wd, false⟩ p0 p1 wt mt vt gt = none) := Lib.hid (by unfold placeO gradO lessO; simp only [HX0.out, HX1.out, Gzt.out, Gzd.out, Option.bind_some, Option.bind_none, if_false, Bool.false_eq_true])
   have ltp7 := p7.lt; have ltp8 := p8.lt; have ltp9 := p9.lt; have szw2 := Ext.size E0
   refine region_gs [.one fun v _ => v = .agg #[.int .i64 (K : Int)],
     .one fun v _ => v = .int .i64 gt,
     .one fun v _ => v = .agg #[.int .i64 (K : Int)],
     .one fun v _ => v = .pointer (some ⟨w.heap.size + 1, 4, none⟩),
     .one fun v _ => v = .int .i64 wd,
     .one fun v _ => v = .int .i64 wt,
     .one fun v _ => v = .int .i64 zt,
     .one fun _ _ => False,
     .one fun _ _ => False]
    (fun W => Ext w W ∧ BxA W w.heap.size 54 #[.int .i64 (K : Int)] ∧ BxA W (w.heap.size + 1) 23 #[.int .i64 lr, .int .i64 b1, .int .i64 b2, .int .i64 eps, .int .i64 wd, .bool false] ∧ Bx2 W (w.heap.size + 1 + 1) 24 (.int .i64 p0) (.int .i64 p1) ∧ W0.heap.size ≤ W.heap.size) ⟨Good.is _, Good.is _, Good.is _, Good.is _, Good.is _, Good.is _, Good.is _, Good.never, Good.never, trivial⟩
    ⟨E0, p7, p8, p9, Nat.le_refl _⟩ (A := ?A2) ?hA2 ?howe2 ?hfin2
   case hA2 =>
    intro vs
    simp only [putAll, Act.put, sA, sZ, sS, Nat.zero_add, Nat.reduceAdd]
    exact rfl
   case howe2 =>
    clear E0 p7 p8 p9
    intro hf
    refine ⟨oE 0 [] hf rfl ?_, oE 1 [] hf rfl ?_, oE 2 [] hf rfl ?_, oE 3 [] hf rfl ?_, oE 4 [3] hf rfl ?_, oE 5 [] hf rfl ?_, oE 6 [2, 4, 5] hf rfl ?_, oE 7 [0, 1, 6] hf rfl ?_, oE 8 [7] hf rfl ?_, trivial⟩
    all_goals intro vs W hS hp hx KO hKO
    all_goals simp only [Act.put, sA, sZ, sS] at hKO
    ·have fc0 := BxA.cell (hS.2.1) 0 (v := .int .i64 (K : Int)) rfl; go_simp; exact hKO _ W (.refl W) rfl
    ·go_simp; exact hKO _ W (.refl W) rfl
    ·have fc0 := BxA.cell (hS.2.1) 0 (v := .int .i64 (K : Int)) rfl; go_simp; exact hKO _ W (.refl W) rfl
    ·go_simp; exact hKO _ W (.refl W) rfl
    ·have e3 := isOf hp.1; simp only [e3] at hKO; have fc4 := BxA.cell (hS.2.2.1) 4 (v := .int .i64 wd) rfl; go_simp; exact hKO _ W (.refl W) rfl
    ·go_simp; exact hKO _ W (.refl W) rfl
    ·have e2 := isOf hp.1; have e4 := isOf hp.2.1; have e5 := isOf hp.2.2.1; simp only [e2, e4, e5] at hKO; go_simp
     refine (Tryz.adamMulS K HK.out (a := wd) (b := wt) HP.out.wd HP.out.w Gzt.out _).mono ?_
     rintro e W1 ⟨rfl, hE⟩
     exact hKO _ W1 hE rfl
    ·have e0 := isOf hp.1; have e1 := isOf hp.2.1; have e6 := isOf hp.2.2.1; simp only [e0, e1, e6] at hKO; go_simp
     refine (Tryz.adamAddN K HK.out (a := gt) (b := zt) HP.out.g (okZ_i64 Gzt.out) Gzd.out _).mono ?_
     rintro e W1 ⟨⟨c, hc, rfl⟩, hE⟩
     exact ⟨rfl, SaysP.no HN.out hc, Ext.trans hS.1 hE⟩
    ·have q7 := hp.1
     exact False.elim q7
   intro vs W2 hS hp
   obtain ⟨h2_0, h2_1, h2_2, h2_3, h2_4, h2_5, h2_6, h2_7, h2_8, -⟩ := hp
   exact False.elim h2_7
  ·rename_i zd
   have Gzd := Lib.hid gzd
   clear gzd; have ltp7 := p7.lt; have ltp8 := p8.lt; have ltp9 := p9.lt; have szw3 := Ext.size E0
   refine region_gs [.one fun v _ => v = .agg #[.int .i64 (K : Int)],
     .one fun v _ => v = .int .i64 gt,
     .one fun v _ => v = .agg #[.int .i64 (K : Int)],
     .one fun v _ => v = .pointer (some ⟨w.heap.size + 1, 4, none⟩),
     .one fun v _ => v = .int .i64 wd,
     .one fun v _ => v = .int .i64 wt,
     .one fun v _ => v = .int .i64 zt,
     .one fun v _ => v = .int .i64 zd,
     .one fun v _ => v = .int .i64 zd]
    (fun W => Ext w W ∧ BxA W w.heap.size 54 #[.int .i64 (K : Int)] ∧ BxA W (w.heap.size + 1) 23 #[.int .i64 lr, .int .i64 b1, .int .i64 b2, .int .i64 eps, .int .i64 wd, .bool false] ∧ Bx2 W (w.heap.size + 1 + 1) 24 (.int .i64 p0) (.int .i64 p1) ∧ W0.heap.size ≤ W.heap.size) ⟨Good.is _, Good.is _, Good.is _, Good.is _, Good.is _, Good.is _, Good.is _, Good.is _, Good.is _, trivial⟩
    ⟨E0, p7, p8, p9, Nat.le_refl _⟩ (A := ?A3) ?hA3 ?howe3 ?hfin3
   case hA3 =>
    intro vs
    simp only [putAll, Act.put, sA, sZ, sS, Nat.zero_add, Nat.reduceAdd]
    exact rfl
   case howe3 =>
    clear E0 p7 p8 p9
    intro hf
    refine ⟨oE 0 [] hf rfl ?_, oE 1 [] hf rfl ?_, oE 2 [] hf rfl ?_, oE 3 [] hf rfl ?_, oE 4 [3] hf rfl ?_, oE 5 [] hf rfl ?_, oE 6 [2, 4, 5] hf rfl ?_, oE 7 [0, 1, 6] hf rfl ?_, oE 8 [7] hf rfl ?_, trivial⟩
    all_goals intro vs W hS hp hx KO hKO
    all_goals simp only [Act.put, sA, sZ, sS] at hKO
    ·have fc0 := BxA.cell (hS.2.1) 0 (v := .int .i64 (K : Int)) rfl; go_simp; exact hKO _ W (.refl W) rfl
    ·go_simp; exact hKO _ W (.refl W) rfl
    ·have fc0 := BxA.cell (hS.2.1) 0 (v := .int .i64 (K : Int)) rfl; go_simp; exact hKO _ W (.refl W) rfl
    ·go_simp; exact hKO _ W (.refl W) rfl
    ·have e3 := isOf hp.1; simp only [e3] at hKO; have fc4 := BxA.cell (hS.2.2.1) 4 (v := .int .i64 wd) rfl; go_simp; exact hKO _ W (.refl W) rfl
    ·go_simp; exact hKO _ W (.refl W) rfl
    ·have e2 := isOf hp.1; have e4 := isOf hp.2.1; have e5 := isOf hp.2.2.1; simp only [e2, e4, e5] at hKO; go_simp
     refine (Tryz.adamMulS K HK.out (a := wd) (b := wt) HP.out.wd HP.out.w Gzt.out _).mono ?_
     rintro e W1 ⟨rfl, hE⟩
     exact hKO _ W1 hE rfl
    ·have e0 := isOf hp.1; have e1 := isOf hp.2.1; have e6 := isOf hp.2.2.1; simp only [e0, e1, e6] at hKO; go_simp
     refine (Tryz.adamAddS K HK.out (a := gt) (b := zt) HP.out.g (okZ_i64 Gzt.out) Gzd.out _).mono ?_
     rintro e W1 ⟨rfl, hE⟩
     exact hKO _ W1 hE rfl
    ·have e7 := isOf hp.1; simp only [e7] at hKO; go_simp; exact hKO _ W (.refl W) rfl
   intro vs W3 hS hp
   clear szw3 E0 p7 p8 p9
   obtain ⟨E0, p7, p8, p9, sz3⟩ := hS
   obtain ⟨h3_0, h3_1, h3_2, h3_3, h3_4, h3_5, h3_6, h3_7, h3_8, -⟩ := hp
   replace h3_0 : vs 0 = .agg #[.int .i64 (K : Int)] := h3_0
   replace h3_1 : vs 1 = .int .i64 gt := h3_1
   replace h3_2 : vs 2 = .agg #[.int .i64 (K : Int)] := h3_2
   replace h3_3 : vs 3 = .pointer (some ⟨w.heap.size + 1, 4, none⟩) := h3_3
   replace h3_4 : vs 4 = .int .i64 wd := h3_4
   replace h3_5 : vs 5 = .int .i64 wt := h3_5
   replace h3_6 : vs 6 = .int .i64 zt := h3_6
   replace h3_7 : vs 7 = .int .i64 zd := h3_7
   replace h3_8 : vs 8 = .int .i64 zd := h3_8
   simp only [h3_0, h3_1, h3_2, h3_3, h3_4, h3_5, h3_6, h3_7, h3_8]
   clear h3_0 h3_1 h3_2 h3_3 h3_4 h3_5 h3_6 h3_7 h3_8
   have kp7_0 := p7.cell 0 (v := .int .i64 (K : Int)) rfl
   obtain ⟨kp8_0, kp8_1, kp8_2, kp8_3, kp8_4, kp8_5⟩ := p8.c6
   obtain ⟨kp9_0, kp9_1⟩ := p9.c2
   go_upto_region 4 with (fail)
   clear kp7_0 kp8_0 kp8_1 kp8_2 kp8_3 kp8_4 kp8_5 kp9_0 kp9_1
   cases gzm : mixO K b1 mt zd
   ·have Gzm := Lib.hid gzm
    clear gzm
    have HN : Hid (placeO K ⟨lr, b1, b2, eps, wd, false⟩ p0 p1 wt mt vt gt = none) := Lib.hid (by unfold placeO gradO lessO; simp only [HX0.out, HX1.out, Gzt.out, Gzd.out, Gzm.out, Option.bind_some, Option.bind_none, if_false, Bool.false_eq_true])
    have szw4 := Ext.size E0
    refine region_gs [.one fun v _ => v = .agg #[.int .i64 (K : Int)],
      .one fun v _ => v = .pointer (some ⟨w.heap.size + 1, 1, none⟩),
      .one fun v _ => v = .int .i64 b1,
      .one fun v _ => v = .int .i64 mt,
      .one fun v _ => v = .int .i64 zd,
      .one fun _ _ => False,
      .one fun _ _ => False]
     (fun W => Ext w W ∧ BxA W w.heap.size 54 #[.int .i64 (K : Int)] ∧ BxA W (w.heap.size + 1) 23 #[.int .i64 lr, .int .i64 b1, .int .i64 b2, .int .i64 eps, .int .i64 wd, .bool false] ∧ Bx2 W (w.heap.size + 1 + 1) 24 (.int .i64 p0) (.int .i64 p1) ∧ W3.heap.size ≤ W.heap.size) ⟨Good.is _, Good.is _, Good.is _, Good.is _, Good.is _, Good.never, Good.never, trivial⟩
     ⟨E0, p7, p8, p9, Nat.le_refl _⟩ (A := ?A4) ?hA4 ?howe4 ?hfin4
    case hA4 =>
     intro vs
     simp only [putAll, Act.put, sA, sZ, sS, Nat.zero_add, Nat.reduceAdd]
     exact rfl
    case howe4 =>
     clear E0 p7 p8 p9
     intro hf
     refine ⟨oE 0 [] hf rfl ?_, oE 1 [] hf rfl ?_, oE 2 [1] hf rfl ?_, oE 3 [] hf rfl ?_, oE 4 [] hf rfl ?_, oE 5 [0, 2, 3, 4] hf rfl ?_, oE 6 [5] hf rfl ?_, trivial⟩
     all_goals intro vs W hS hp hx KO hKO
     all_goals simp only [Act.put, sA, sZ, sS] at hKO
     ·have fc0 := BxA.cell (hS.2.1) 0 (v := .int .i64 (K : Int)) rfl; go_simp; exact hKO _ W (.refl W) rfl
     ·go_simp; exact hKO _ W (.refl W) rfl
     ·have e1 := isOf hp.1; simp only [e1] at hKO; have fc1 := BxA.cell (hS.2.2.1) 1 (v := .int .i64 b1) rfl; go_simp; exact hKO _ W (.refl W) rfl
     ·have eo6 : vs 6 = .int .i64 mt := hx.at 6 rfl (by kernel_rfl) rfl
      simp only [eo6] at hKO; go_simp; exact hKO _ W (.refl W) rfl
     ·go_simp; exact hKO _ W (.refl W) rfl
     ·have e0 := isOf hp.1; have e2 := isOf hp.2.1; have e3 := isOf hp.2.2.1; have e4 := isOf hp.2.2.2.1; simp only [e0, e2, e3, e4] at hKO; go_simp
      refine (Tryz.adamMixN K HK.out (be := b1) (a := mt) (b := zd) HP.out.m (okZ_i64 Gzd.out) HP.out.b10 HP.out.b11 Gzm.out _).mono ?_
      rintro e W1 ⟨⟨c, hc, rfl⟩, hE⟩
      exact ⟨rfl, SaysP.no HN.out hc, Ext.trans hS.1 hE⟩
     ·have q5 := hp.1
      exact False.elim q5
    intro vs W4 hS hp
    obtain ⟨h4_0, h4_1, h4_2, h4_3, h4_4, h4_5, h4_6, -⟩ := hp
    exact False.elim h4_5
   ·rename_i zm
    have Gzm := Lib.hid gzm
    clear gzm; have szw5 := Ext.size E0
    refine region_gs [.one fun v _ => v = .agg #[.int .i64 (K : Int)],
      .one fun v _ => v = .pointer (some ⟨w.heap.size + 1, 1, none⟩),
      .one fun v _ => v = .int .i64 b1,
      .one fun v _ => v = .int .i64 mt,
      .one fun v _ => v = .int .i64 zd,
      .one fun v _ => v = .int .i64 zm,
      .one fun v _ => v = .int .i64 zm]
     (fun W => Ext w W ∧ BxA W w.heap.size 54 #[.int .i64 (K : Int)] ∧ BxA W (w.heap.size + 1) 23 #[.int .i64 lr, .int .i64 b1, .int .i64 b2, .int .i64 eps, .int .i64 wd, .bool false] ∧ Bx2 W (w.heap.size + 1 + 1) 24 (.int .i64 p0) (.int .i64 p1) ∧ W3.heap.size ≤ W.heap.size) ⟨Good.is _, Good.is _, Good.is _, Good.is _, Good.is _, Good.is _, Good.is _, trivial⟩
     ⟨E0, p7, p8, p9, Nat.le_refl _⟩ (A := ?A5) ?hA5 ?howe5 ?hfin5
    case hA5 =>
     intro vs
     simp only [putAll, Act.put, sA, sZ, sS, Nat.zero_add, Nat.reduceAdd]
     exact rfl
    case howe5 =>
     clear E0 p7 p8 p9
     intro hf
     refine ⟨oE 0 [] hf rfl ?_, oE 1 [] hf rfl ?_, oE 2 [1] hf rfl ?_, oE 3 [] hf rfl ?_, oE 4 [] hf rfl ?_, oE 5 [0, 2, 3, 4] hf rfl ?_, oE 6 [5] hf rfl ?_, trivial⟩
     all_goals intro vs W hS hp hx KO hKO
     all_goals simp only [Act.put, sA, sZ, sS] at hKO
     ·have fc0 := BxA.cell (hS.2.1) 0 (v := .int .i64 (K : Int)) rfl; go_simp; exact hKO _ W (.refl W) rfl
     ·go_simp; exact hKO _ W (.refl W) rfl
     ·have e1 := isOf hp.1; simp only [e1] at hKO; have fc1 := BxA.cell (hS.2.2.1) 1 (v := .int .i64 b1) rfl; go_simp; exact hKO _ W (.refl W) rfl
     ·have eo6 : vs 6 = .int .i64 mt := hx.at 6 rfl (by kernel_rfl) rfl
      simp only [eo6] at hKO; go_simp; exact hKO _ W (.refl W) rfl
     ·go_simp; exact hKO _ W (.refl W) rfl
     ·have e0 := isOf hp.1; have e2 := isOf hp.2.1; have e3 := isOf hp.2.2.1; have e4 := isOf hp.2.2.2.1; simp only [e0, e2, e3, e4] at hKO; go_simp
      refine (Tryz.adamMixS K HK.out (be := b1) (a := mt) (b := zd) HP.out.m (okZ_i64 Gzd.out) HP.out.b10 HP.out.b11 Gzm.out _).mono ?_
      rintro e W1 ⟨rfl, hE⟩
      exact hKO _ W1 hE rfl
     ·have e5 := isOf hp.1; simp only [e5] at hKO; go_simp; exact hKO _ W (.refl W) rfl
    intro vs W5 hS hp
    clear szw5 E0 p7 p8 p9
    obtain ⟨E0, p7, p8, p9, sz5⟩ := hS
    obtain ⟨h5_0, h5_1, h5_2, h5_3, h5_4, h5_5, h5_6, -⟩ := hp
    replace h5_0 : vs 0 = .agg #[.int .i64 (K : Int)] := h5_0
    replace h5_1 : vs 1 = .pointer (some ⟨w.heap.size + 1, 1, none⟩) := h5_1
    replace h5_2 : vs 2 = .int .i64 b1 := h5_2
    replace h5_3 : vs 3 = .int .i64 mt := h5_3
    replace h5_4 : vs 4 = .int .i64 zd := h5_4
    replace h5_5 : vs 5 = .int .i64 zm := h5_5
    replace h5_6 : vs 6 = .int .i64 zm := h5_6
    simp only [h5_0, h5_1, h5_2, h5_3, h5_4, h5_5, h5_6]
    clear h5_0 h5_1 h5_2 h5_3 h5_4 h5_5 h5_6
    have kp7_0 := p7.cell 0 (v := .int .i64 (K : Int)) rfl
    obtain ⟨kp8_0, kp8_1, kp8_2, kp8_3, kp8_4, kp8_5⟩ := p8.c6
    obtain ⟨kp9_0, kp9_1⟩ := p9.c2
    go_upto_region 5 with (fail)
    clear kp7_0 kp8_0 kp8_1 kp8_2 kp8_3 kp8_4 kp8_5 kp9_0 kp9_1
    cases gzq : mulO K zd zd
    ·have Gzq := Lib.hid gzq
     clear gzq
     have HN : Hid (placeO K ⟨lr, b1, b2, eps, wd, false⟩ p0 p1 wt mt vt gt = none) := Lib.hid (by unfold placeO gradO lessO; simp only [HX0.out, HX1.out, Gzt.out, Gzd.out, Gzm.out, Gzq.out, Option.bind_some, Option.bind_none, if_false, Bool.false_eq_true])
     have szw6 := Ext.size E0
     refine region_gs [.one fun v _ => v = .agg #[.int .i64 (K : Int)],
       .one fun v _ => v = .pointer (some ⟨w.heap.size + 1, 2, none⟩),
       .one fun v _ => v = .int .i64 b2,
       .one fun v _ => v = .int .i64 vt,
       .one fun v _ => v = .agg #[.int .i64 (K : Int)],
       .one fun v _ => v = .int .i64 zd,
       .one fun v _ => v = .int .i64 zd,
       .one fun _ _ => False,
       .one fun _ _ => False,
       .one fun _ _ => False]
      (fun W => Ext w W ∧ BxA W w.heap.size 54 #[.int .i64 (K : Int)] ∧ BxA W (w.heap.size + 1) 23 #[.int .i64 lr, .int .i64 b1, .int .i64 b2, .int .i64 eps, .int .i64 wd, .bool false] ∧ Bx2 W (w.heap.size + 1 + 1) 24 (.int .i64 p0) (.int .i64 p1) ∧ W5.heap.size ≤ W.heap.size) ⟨Good.is _, Good.is _, Good.is _, Good.is _, Good.is _, Good.is _, Good.is _, Good.never, Good.never, Good.never, trivial⟩
      ⟨E0, p7, p8, p9, Nat.le_refl _⟩ (A := ?A6) ?hA6 ?howe6 ?hfin6
     case hA6 =>
      intro vs
      simp only [putAll, Act.put, sA, sZ, sS, Nat.zero_add, Nat.reduceAdd]
      exact rfl
     case howe6 =>
      clear E0 p7 p8 p9
      intro hf
      refine ⟨oE 0 [] hf rfl ?_, oE 1 [] hf rfl ?_, oE 2 [1] hf rfl ?_, oE 3 [] hf rfl ?_, oE 4 [] hf rfl ?_, oE 5 [] hf rfl ?_, oE 6 [] hf rfl ?_, oE 7 [4, 5, 6] hf rfl ?_, oE 8 [7] hf rfl ?_, oE 9 [8] hf rfl ?_, trivial⟩
      all_goals intro vs W hS hp hx KO hKO
      all_goals simp only [Act.put, sA, sZ, sS] at hKO
      ·have fc0 := BxA.cell (hS.2.1) 0 (v := .int .i64 (K : Int)) rfl; go_simp; exact hKO _ W (.refl W) rfl
      ·go_simp; exact hKO _ W (.refl W) rfl
      ·have e1 := isOf hp.1; simp only [e1] at hKO; have fc2 := BxA.cell (hS.2.2.1) 2 (v := .int .i64 b2) rfl; go_simp; exact hKO _ W (.refl W) rfl
      ·have eo9 : vs 9 = .int .i64 vt := hx.at 9 rfl (by kernel_rfl) rfl
       simp only [eo9] at hKO; go_simp; exact hKO _ W (.refl W) rfl
      ·have fc0 := BxA.cell (hS.2.1) 0 (v := .int .i64 (K : Int)) rfl; go_simp; exact hKO _ W (.refl W) rfl
      ·go_simp; exact hKO _ W (.refl W) rfl
      ·go_simp; exact hKO _ W (.refl W) rfl
      ·have e4 := isOf hp.1; have e5 := isOf hp.2.1; have e6 := isOf hp.2.2.1; simp only [e4, e5, e6] at hKO; go_simp
       refine (Tryz.adamMulN K HK.out (a := zd) (b := zd) (okZ_i64 Gzd.out) (okZ_i64 Gzd.out) Gzq.out _).mono ?_
       rintro e W1 ⟨⟨c, hc, rfl⟩, hE⟩
       exact ⟨rfl, SaysP.no HN.out hc, Ext.trans hS.1 hE⟩
      ·have q7 := hp.1
       exact False.elim q7
      ·have q8 := hp.1
       exact False.elim q8
     intro vs W6 hS hp
     obtain ⟨h6_0, h6_1, h6_2, h6_3, h6_4, h6_5, h6_6, h6_7, h6_8, h6_9, -⟩ := hp
     exact False.elim h6_7
    ·rename_i zq
     have Gzq := Lib.hid gzq
     clear gzq
     cases gzv : mixO K b2 vt zq
     ·have Gzv := Lib.hid gzv
      clear gzv
      have HN : Hid (placeO K ⟨lr, b1, b2, eps, wd, false⟩ p0 p1 wt mt vt gt = none) := Lib.hid (by unfold placeO gradO lessO; simp only [HX0.out, HX1.out, Gzt.out, Gzd.out, Gzm.out, Gzq.out, Gzv.out, Option.bind_some, Option.bind_none, if_false, Bool.false_eq_true])
      have szw7 := Ext.size E0
      refine region_gs [.one fun v _ => v = .agg #[.int .i64 (K : Int)],
        .one fun v _ => v = .pointer (some ⟨w.heap.size + 1, 2, none⟩),
        .one fun v _ => v = .int .i64 b2,
        .one fun v _ => v = .int .i64 vt,
        .one fun v _ => v = .agg #[.int .i64 (K : Int)],
        .one fun v _ => v = .int .i64 zd,
        .one fun v _ => v = .int .i64 zd,
        .one fun v _ => v = .int .i64 zq,
        .one fun _ _ => False,
        .one fun _ _ => False]
       (fun W => Ext w W ∧ BxA W w.heap.size 54 #[.int .i64 (K : Int)] ∧ BxA W (w.heap.size + 1) 23 #[.int .i64 lr, .int .i64 b1, .int .i64 b2, .int .i64 eps, .int .i64 wd, .bool false] ∧ Bx2 W (w.heap.size + 1 + 1) 24 (.int .i64 p0) (.int .i64 p1) ∧ W5.heap.size ≤ W.heap.size) ⟨Good.is _, Good.is _, Good.is _, Good.is _, Good.is _, Good.is _, Good.is _, Good.is _, Good.never, Good.never, trivial⟩
       ⟨E0, p7, p8, p9, Nat.le_refl _⟩ (A := ?A7) ?hA7 ?howe7 ?hfin7
      case hA7 =>
       intro vs
       simp only [putAll, Act.put, sA, sZ, sS, Nat.zero_add, Nat.reduceAdd]
       exact rfl
      case howe7 =>
       clear E0 p7 p8 p9
       intro hf
       refine ⟨oE 0 [] hf rfl ?_, oE 1 [] hf rfl ?_, oE 2 [1] hf rfl ?_, oE 3 [] hf rfl ?_, oE 4 [] hf rfl ?_, oE 5 [] hf rfl ?_, oE 6 [] hf rfl ?_, oE 7 [4, 5, 6] hf rfl ?_, oE 8 [0, 2, 3, 7] hf rfl ?_, oE 9 [8] hf rfl ?_, trivial⟩
       all_goals intro vs W hS hp hx KO hKO
       all_goals simp only [Act.put, sA, sZ, sS] at hKO
       ·have fc0 := BxA.cell (hS.2.1) 0 (v := .int .i64 (K : Int)) rfl; go_simp; exact hKO _ W (.refl W) rfl
       ·go_simp; exact hKO _ W (.refl W) rfl
       ·have e1 := isOf hp.1; simp only [e1] at hKO; have fc2 := BxA.cell (hS.2.2.1) 2 (v := .int .i64 b2) rfl; go_simp; exact hKO _ W (.refl W) rfl
       ·have eo9 : vs 9 = .int .i64 vt := hx.at 9 rfl (by kernel_rfl) rfl
        simp only [eo9] at hKO; go_simp; exact hKO _ W (.refl W) rfl
       ·have fc0 := BxA.cell (hS.2.1) 0 (v := .int .i64 (K : Int)) rfl; go_simp; exact hKO _ W (.refl W) rfl
       ·go_simp; exact hKO _ W (.refl W) rfl
       ·go_simp; exact hKO _ W (.refl W) rfl
       ·have e4 := isOf hp.1; have e5 := isOf hp.2.1; have e6 := isOf hp.2.2.1; simp only [e4, e5, e6] at hKO; go_simp
        refine (Tryz.adamMulS K HK.out (a := zd) (b := zd) (okZ_i64 Gzd.out) (okZ_i64 Gzd.out) Gzq.out _).mono ?_
        rintro e W1 ⟨rfl, hE⟩
        exact hKO _ W1 hE rfl
       ·have e0 := isOf hp.1; have e2 := isOf hp.2.1; have e3 := isOf hp.2.2.1; have e7 := isOf hp.2.2.2.1; simp only [e0, e2, e3, e7] at hKO; go_simp
        refine (Tryz.adamMixN K HK.out (be := b2) (a := vt) (b := zq) HP.out.v (okZ_i64 Gzq.out) HP.out.b20 HP.out.b21 Gzv.out _).mono ?_
        rintro e W1 ⟨⟨c, hc, rfl⟩, hE⟩
        exact ⟨rfl, SaysP.no HN.out hc, Ext.trans hS.1 hE⟩
       ·have q8 := hp.1
        exact False.elim q8
      intro vs W7 hS hp
      obtain ⟨h7_0, h7_1, h7_2, h7_3, h7_4, h7_5, h7_6, h7_7, h7_8, h7_9, -⟩ := hp
      exact False.elim h7_8
     ·rename_i zv
      have Gzv := Lib.hid gzv
      clear gzv; have szw8 := Ext.size E0
      refine region_gs [.one fun v _ => v = .agg #[.int .i64 (K : Int)],
        .one fun v _ => v = .pointer (some ⟨w.heap.size + 1, 2, none⟩),
        .one fun v _ => v = .int .i64 b2,
        .one fun v _ => v = .int .i64 vt,
        .one fun v _ => v = .agg #[.int .i64 (K : Int)],
        .one fun v _ => v = .int .i64 zd,
        .one fun v _ => v = .int .i64 zd,
        .one fun v _ => v = .int .i64 zq,
        .one fun v _ => v = .int .i64 zv,
        .one fun v _ => v = .int .i64 zv]
       (fun W => Ext w W ∧ BxA W w.heap.size 54 #[.int .i64 (K : Int)] ∧ BxA W (w.heap.size + 1) 23 #[.int .i64 lr, .int .i64 b1, .int .i64 b2, .int .i64 eps, .int .i64 wd, .bool false] ∧ Bx2 W (w.heap.size + 1 + 1) 24 (.int .i64 p0) (.int .i64 p1) ∧ W5.heap.size ≤ W.heap.size) ⟨Good.is _, Good.is _, Good.is _, Good.is _, Good.is _, Good.is _, Good.is _, Good.is _, Good.is _, Good.is _, trivial⟩
       ⟨E0, p7, p8, p9, Nat.le_refl _⟩ (A := ?A8) ?hA8 ?howe8 ?hfin8
      case hA8 =>
       intro vs
       simp only [putAll, Act.put, sA, sZ, sS, Nat.zero_add, Nat.reduceAdd]
       exact rfl
      case howe8 =>
       clear E0 p7 p8 p9
       intro hf
       refine ⟨oE 0 [] hf rfl ?_, oE 1 [] hf rfl ?_, oE 2 [1] hf rfl ?_, oE 3 [] hf rfl ?_, oE 4 [] hf rfl ?_, oE 5 [] hf rfl ?_, oE 6 [] hf rfl ?_, oE 7 [4, 5, 6] hf rfl ?_, oE 8 [0, 2, 3, 7] hf rfl ?_, oE 9 [8] hf rfl ?_, trivial⟩
       all_goals intro vs W hS hp hx KO hKO
       all_goals simp only [Act.put, sA, sZ, sS] at hKO
       ·have fc0 := BxA.cell (hS.2.1) 0 (v := .int .i64 (K : Int)) rfl; go_simp; exact hKO _ W (.refl W) rfl
       ·go_simp; exact hKO _ W (.refl W) rfl
       ·have e1 := isOf hp.1; simp only [e1] at hKO; have fc2 := BxA.cell (hS.2.2.1) 2 (v := .int .i64 b2) rfl; go_simp; exact hKO _ W (.refl W) rfl
       ·have eo9 : vs 9 = .int .i64 vt := hx.at 9 rfl (by kernel_rfl) rfl
        simp only [eo9] at hKO; go_simp; exact hKO _ W (.refl W) rfl
       ·have fc0 := BxA.cell (hS.2.1) 0 (v := .int .i64 (K : Int)) rfl; go_simp; exact hKO _ W (.refl W) rfl
       ·go_simp; exact hKO _ W (.refl W) rfl
       ·go_simp; exact hKO _ W (.refl W) rfl
       ·have e4 := isOf hp.1; have e5 := isOf hp.2.1; have e6 := isOf hp.2.2.1; simp only [e4, e5, e6] at hKO; go_simp
        refine (Tryz.adamMulS K HK.out (a := zd) (b := zd) (okZ_i64 Gzd.out) (okZ_i64 Gzd.out) Gzq.out _).mono ?_
        rintro e W1 ⟨rfl, hE⟩
        exact hKO _ W1 hE rfl
       ·have e0 := isOf hp.1; have e2 := isOf hp.2.1; have e3 := isOf hp.2.2.1; have e7 := isOf hp.2.2.2.1; simp only [e0, e2, e3, e7] at hKO; go_simp
        refine (Tryz.adamMixS K HK.out (be := b2) (a := vt) (b := zq) HP.out.v (okZ_i64 Gzq.out) HP.out.b20 HP.out.b21 Gzv.out _).mono ?_
        rintro e W1 ⟨rfl, hE⟩
        exact hKO _ W1 hE rfl
       ·have e8 := isOf hp.1; simp only [e8] at hKO; go_simp; exact hKO _ W (.refl W) rfl
      intro vs W8 hS hp
      clear szw8 E0 p7 p8 p9
      obtain ⟨E0, p7, p8, p9, sz8⟩ := hS
      obtain ⟨h8_0, h8_1, h8_2, h8_3, h8_4, h8_5, h8_6, h8_7, h8_8, h8_9, -⟩ := hp
      replace h8_0 : vs 0 = .agg #[.int .i64 (K : Int)] := h8_0
      replace h8_1 : vs 1 = .pointer (some ⟨w.heap.size + 1, 2, none⟩) := h8_1
      replace h8_2 : vs 2 = .int .i64 b2 := h8_2
      replace h8_3 : vs 3 = .int .i64 vt := h8_3
      replace h8_4 : vs 4 = .agg #[.int .i64 (K : Int)] := h8_4
      replace h8_5 : vs 5 = .int .i64 zd := h8_5
      replace h8_6 : vs 6 = .int .i64 zd := h8_6
      replace h8_7 : vs 7 = .int .i64 zq := h8_7
      replace h8_8 : vs 8 = .int .i64 zv := h8_8
      replace h8_9 : vs 9 = .int .i64 zv := h8_9
      simp only [h8_0, h8_1, h8_2, h8_3, h8_4, h8_5, h8_6, h8_7, h8_8, h8_9]
      clear h8_0 h8_1 h8_2 h8_3 h8_4 h8_5 h8_6 h8_7 h8_8 h8_9
      have kp7_0 := p7.cell 0 (v := .int .i64 (K : Int)) rfl
      obtain ⟨kp8_0, kp8_1, kp8_2, kp8_3, kp8_4, kp8_5⟩ := p8.c6
      obtain ⟨kp9_0, kp9_1⟩ := p9.c2
      go_upto_region 6 with (fail)
      clear kp7_0 kp8_0 kp8_1 kp8_2 kp8_3 kp8_4 kp8_5 kp9_0 kp9_1
      cases gzx : divO K zm X0
      ·have Gzx := Lib.hid gzx
       clear gzx
       have HN : Hid (placeO K ⟨lr, b1, b2, eps, wd, false⟩ p0 p1 wt mt vt gt = none) := Lib.hid (by unfold placeO gradO lessO; simp only [HX0.out, HX1.out, Gzt.out, Gzd.out, Gzm.out, Gzq.out, Gzv.out, Gzx.out, Option.bind_some, Option.bind_none, if_false, Bool.false_eq_true])
       have szw9 := Ext.size E0
       refine region_gs [.one fun v _ => v = .agg #[.int .i64 (K : Int)],
         .one fun v _ => v = .int .i64 zm,
         .one fun v _ => v = .pointer (some ⟨w.heap.size, 0, none⟩),
         .one fun v _ => v = .int .i64 (K : Int),
         .one fun v _ => v = .int .i64 (oneZ K),
         .one fun v _ => v = .pointer (some ⟨w.heap.size + 1 + 1, 0, none⟩),
         .one fun v _ => v = .int .i64 p0,
         .one fun v _ => v = .int .i64 X0,
         .one fun _ _ => False,
         .one fun _ _ => False]
        (fun W => Ext w W ∧ BxA W w.heap.size 54 #[.int .i64 (K : Int)] ∧ BxA W (w.heap.size + 1) 23 #[.int .i64 lr, .int .i64 b1, .int .i64 b2, .int .i64 eps, .int .i64 wd, .bool false] ∧ Bx2 W (w.heap.size + 1 + 1) 24 (.int .i64 p0) (.int .i64 p1) ∧ W8.heap.size ≤ W.heap.size) ⟨Good.is _, Good.is _, Good.is _, Good.is _, Good.is _, Good.is _, Good.is _, Good.is _, Good.never, Good.never, trivial⟩
        ⟨E0, p7, p8, p9, Nat.le_refl _⟩ (A := ?A9) ?hA9 ?howe9 ?hfin9
       case hA9 =>
        intro vs
        simp only [putAll, Act.put, sA, sZ, sS, Nat.zero_add, Nat.reduceAdd]
        exact rfl
       case howe9 =>
        clear E0 p7 p8 p9
        intro hf
        refine ⟨oE 0 [] hf rfl ?_, oE 1 [] hf rfl ?_, oE 2 [] hf rfl ?_, oE 3 [2] hf rfl ?_, oE 4 [3] hf rfl ?_, oE 5 [] hf rfl ?_, oE 6 [5] hf rfl ?_, oE 7 [4, 6] hf rfl ?_, oE 8 [0, 1, 7] hf rfl ?_, oE 9 [8] hf rfl ?_, trivial⟩
        all_goals intro vs W hS hp hx KO hKO
        all_goals simp only [Act.put, sA, sZ, sS] at hKO
        ·have fc0 := BxA.cell (hS.2.1) 0 (v := .int .i64 (K : Int)) rfl; go_simp; exact hKO _ W (.refl W) rfl
        ·go_simp; exact hKO _ W (.refl W) rfl
        ·go_simp; exact hKO _ W (.refl W) rfl
        ·have e2 := isOf hp.1; simp only [e2] at hKO; have fc0 := BxA.cell (hS.2.1) 0 (v := .int .i64 (K : Int)) rfl; go_simp; exact hKO _ W (.refl W) rfl
        ·have e3 := isOf hp.1; simp only [e3] at hKO; go_simp
         refine (Tryz.adamOne K HK.out _).mono ?_
         rintro e W1 ⟨rfl, hE⟩
         exact hKO _ W1 hE rfl
        ·go_simp; exact hKO _ W (.refl W) rfl
        ·have e5 := isOf hp.1; simp only [e5] at hKO; have fc0 := hS.2.2.2.1.cell0; go_simp; exact hKO _ W (.refl W) rfl
        ·have e4 := isOf hp.1; have e6 := isOf hp.2.1; simp only [e4, e6] at hKO; go_simp; exact hKO _ W (.refl W) rfl
        ·have e0 := isOf hp.1; have e1 := isOf hp.2.1; have e7 := isOf hp.2.2.1; simp only [e0, e1, e7] at hKO; go_simp
         refine (Tryz.adamDivN K HK.out (a := zm) (b := X0) (mixO_i64 Gzm.out) HI0.out.1 (by have := HI0.out.2; omega) Gzx.out _).mono ?_
         rintro e W1 ⟨⟨c, hc, rfl⟩, hE⟩
         exact ⟨rfl, SaysP.no HN.out hc, Ext.trans hS.1 hE⟩
        ·have q8 := hp.1
         exact False.elim q8
       intro vs W9 hS hp
       obtain ⟨h9_0, h9_1, h9_2, h9_3, h9_4, h9_5, h9_6, h9_7, h9_8, h9_9, -⟩ := hp
       exact False.elim h9_8
      ·rename_i zx
       have Gzx := Lib.hid gzx
       clear gzx; have szw10 := Ext.size E0
       refine region_gs [.one fun v _ => v = .agg #[.int .i64 (K : Int)],
         .one fun v _ => v = .int .i64 zm,
         .one fun v _ => v = .pointer (some ⟨w.heap.size, 0, none⟩),
         .one fun v _ => v = .int .i64 (K : Int),
         .one fun v _ => v = .int .i64 (oneZ K),
         .one fun v _ => v = .pointer (some ⟨w.heap.size + 1 + 1, 0, none⟩),
         .one fun v _ => v = .int .i64 p0,
         .one fun v _ => v = .int .i64 X0,
         .one fun v _ => v = .int .i64 zx,
         .one fun v _ => v = .int .i64 zx]
        (fun W => Ext w W ∧ BxA W w.heap.size 54 #[.int .i64 (K : Int)] ∧ BxA W (w.heap.size + 1) 23 #[.int .i64 lr, .int .i64 b1, .int .i64 b2, .int .i64 eps, .int .i64 wd, .bool false] ∧ Bx2 W (w.heap.size + 1 + 1) 24 (.int .i64 p0) (.int .i64 p1) ∧ W8.heap.size ≤ W.heap.size) ⟨Good.is _, Good.is _, Good.is _, Good.is _, Good.is _, Good.is _, Good.is _, Good.is _, Good.is _, Good.is _, trivial⟩
        ⟨E0, p7, p8, p9, Nat.le_refl _⟩ (A := ?A10) ?hA10 ?howe10 ?hfin10
       case hA10 =>
        intro vs
        simp only [putAll, Act.put, sA, sZ, sS, Nat.zero_add, Nat.reduceAdd]
        exact rfl
       case howe10 =>
        clear E0 p7 p8 p9
        intro hf
        refine ⟨oE 0 [] hf rfl ?_, oE 1 [] hf rfl ?_, oE 2 [] hf rfl ?_, oE 3 [2] hf rfl ?_, oE 4 [3] hf rfl ?_, oE 5 [] hf rfl ?_, oE 6 [5] hf rfl ?_, oE 7 [4, 6] hf rfl ?_, oE 8 [0, 1, 7] hf rfl ?_, oE 9 [8] hf rfl ?_, trivial⟩
        all_goals intro vs W hS hp hx KO hKO
        all_goals simp only [Act.put, sA, sZ, sS] at hKO
        ·have fc0 := BxA.cell (hS.2.1) 0 (v := .int .i64 (K : Int)) rfl; go_simp; exact hKO _ W (.refl W) rfl
        ·go_simp; exact hKO _ W (.refl W) rfl
        ·go_simp; exact hKO _ W (.refl W) rfl
        ·have e2 := isOf hp.1; simp only [e2] at hKO; have fc0 := BxA.cell (hS.2.1) 0 (v := .int .i64 (K : Int)) rfl; go_simp; exact hKO _ W (.refl W) rfl
        ·have e3 := isOf hp.1; simp only [e3] at hKO; go_simp
         refine (Tryz.adamOne K HK.out _).mono ?_
         rintro e W1 ⟨rfl, hE⟩
         exact hKO _ W1 hE rfl
        ·go_simp; exact hKO _ W (.refl W) rfl
        ·have e5 := isOf hp.1; simp only [e5] at hKO; have fc0 := hS.2.2.2.1.cell0; go_simp; exact hKO _ W (.refl W) rfl
        ·have e4 := isOf hp.1; have e6 := isOf hp.2.1; simp only [e4, e6] at hKO; go_simp; exact hKO _ W (.refl W) rfl
        ·have e0 := isOf hp.1; have e1 := isOf hp.2.1; have e7 := isOf hp.2.2.1; simp only [e0, e1, e7] at hKO; go_simp
         refine (Tryz.adamDivS K HK.out (a := zm) (b := X0) (mixO_i64 Gzm.out) HI0.out.1 (by have := HI0.out.2; omega) Gzx.out _).mono ?_
         rintro e W1 ⟨rfl, hE⟩
         exact hKO _ W1 hE rfl
        ·have e8 := isOf hp.1; simp only [e8] at hKO; go_simp; exact hKO _ W (.refl W) rfl
       intro vs W10 hS hp
       clear szw10 E0 p7 p8 p9
       obtain ⟨E0, p7, p8, p9, sz10⟩ := hS
       obtain ⟨h10_0, h10_1, h10_2, h10_3, h10_4, h10_5, h10_6, h10_7, h10_8, h10_9, -⟩ := hp
       replace h10_0 : vs 0 = .agg #[.int .i64 (K : Int)] := h10_0
       replace h10_1 : vs 1 = .int .i64 zm := h10_1
       replace h10_2 : vs 2 = .pointer (some ⟨w.heap.size, 0, none⟩) := h10_2
       replace h10_3 : vs 3 = .int .i64 (K : Int) := h10_3
       replace h10_4 : vs 4 = .int .i64 (oneZ K) := h10_4
       replace h10_5 : vs 5 = .pointer (some ⟨w.heap.size + 1 + 1, 0, none⟩) := h10_5
       replace h10_6 : vs 6 = .int .i64 p0 := h10_6
       replace h10_7 : vs 7 = .int .i64 X0 := h10_7
       replace h10_8 : vs 8 = .int .i64 zx := h10_8
       replace h10_9 : vs 9 = .int .i64 zx := h10_9
       simp only [h10_0, h10_1, h10_2, h10_3, h10_4, h10_5, h10_6, h10_7, h10_8, h10_9]
       clear h10_0 h10_1 h10_2 h10_3 h10_4 h10_5 h10_6 h10_7 h10_8 h10_9
       have kp7_0 := p7.cell 0 (v := .int .i64 (K : Int)) rfl
       obtain ⟨kp8_0, kp8_1, kp8_2, kp8_3, kp8_4, kp8_5⟩ := p8.c6
       obtain ⟨kp9_0, kp9_1⟩ := p9.c2
       go_upto_region 7 with (fail)
       clear kp7_0 kp8_0 kp8_1 kp8_2 kp8_3 kp8_4 kp8_5 kp9_0 kp9_1
       cases gzy : divO K zv X1
       ·have Gzy := Lib.hid gzy
        clear gzy
        have HN : Hid (placeO K ⟨lr, b1, b2, eps, wd, false⟩ p0 p1 wt mt vt gt = none) := Lib.hid (by unfold placeO gradO lessO; simp only [HX0.out, HX1.out, Gzt.out, Gzd.out, Gzm.out, Gzq.out, Gzv.out, Gzx.out, Gzy.out, Option.bind_some, Option.bind_none, if_false, Bool.false_eq_true])
        have szw11 := Ext.size E0
        refine region_gs [.one fun v _ => v = .agg #[.int .i64 (K : Int)],
          .one fun v _ => v = .int .i64 zv,
          .one fun v _ => v = .pointer (some ⟨w.heap.size, 0, none⟩),
          .one fun v _ => v = .int .i64 (K : Int),
          .one fun v _ => v = .int .i64 (oneZ K),
          .one fun v _ => v = .pointer (some ⟨w.heap.size + 1 + 1, 1, none⟩),
          .one fun v _ => v = .int .i64 p1,
          .one fun v _ => v = .int .i64 X1,
          .one fun _ _ => False,
          .one fun _ _ => False]
         (fun W => Ext w W ∧ BxA W w.heap.size 54 #[.int .i64 (K : Int)] ∧ BxA W (w.heap.size + 1) 23 #[.int .i64 lr, .int .i64 b1, .int .i64 b2, .int .i64 eps, .int .i64 wd, .bool false] ∧ Bx2 W (w.heap.size + 1 + 1) 24 (.int .i64 p0) (.int .i64 p1) ∧ W10.heap.size ≤ W.heap.size) ⟨Good.is _, Good.is _, Good.is _, Good.is _, Good.is _, Good.is _, Good.is _, Good.is _, Good.never, Good.never, trivial⟩
         ⟨E0, p7, p8, p9, Nat.le_refl _⟩ (A := ?A11) ?hA11 ?howe11 ?hfin11
        case hA11 =>
         intro vs
         simp only [putAll, Act.put, sA, sZ, sS, Nat.zero_add, Nat.reduceAdd]
         exact rfl
        case howe11 =>
         clear E0 p7 p8 p9
         intro hf
         refine ⟨oE 0 [] hf rfl ?_, oE 1 [] hf rfl ?_, oE 2 [] hf rfl ?_, oE 3 [2] hf rfl ?_, oE 4 [3] hf rfl ?_, oE 5 [] hf rfl ?_, oE 6 [5] hf rfl ?_, oE 7 [4, 6] hf rfl ?_, oE 8 [0, 1, 7] hf rfl ?_, oE 9 [8] hf rfl ?_, trivial⟩
         all_goals intro vs W hS hp hx KO hKO
         all_goals simp only [Act.put, sA, sZ, sS] at hKO
         ·have fc0 := BxA.cell (hS.2.1) 0 (v := .int .i64 (K : Int)) rfl; go_simp; exact hKO _ W (.refl W) rfl
         ·go_simp; exact hKO _ W (.refl W) rfl
         ·go_simp; exact hKO _ W (.refl W) rfl
         ·have e2 := isOf hp.1; simp only [e2] at hKO; have fc0 := BxA.cell (hS.2.1) 0 (v := .int .i64 (K : Int)) rfl; go_simp; exact hKO _ W (.refl W) rfl
         ·have e3 := isOf hp.1; simp only [e3] at hKO; go_simp
          refine (Tryz.adamOne K HK.out _).mono ?_
          rintro e W1 ⟨rfl, hE⟩
          exact hKO _ W1 hE rfl
         ·go_simp; exact hKO _ W (.refl W) rfl
         ·have e5 := isOf hp.1; simp only [e5] at hKO; have fc1 := hS.2.2.2.1.cell1; go_simp; exact hKO _ W (.refl W) rfl
         ·have e4 := isOf hp.1; have e6 := isOf hp.2.1; simp only [e4, e6] at hKO; go_simp; exact hKO _ W (.refl W) rfl
         ·have e0 := isOf hp.1; have e1 := isOf hp.2.1; have e7 := isOf hp.2.2.1; simp only [e0, e1, e7] at hKO; go_simp
          refine (Tryz.adamDivN K HK.out (a := zv) (b := X1) (mixO_i64 Gzv.out) HI1.out.1 (by have := HI1.out.2; omega) Gzy.out _).mono ?_
          rintro e W1 ⟨⟨c, hc, rfl⟩, hE⟩
          exact ⟨rfl, SaysP.no HN.out hc, Ext.trans hS.1 hE⟩
         ·have q8 := hp.1
          exact False.elim q8
        intro vs W11 hS hp
        obtain ⟨h11_0, h11_1, h11_2, h11_3, h11_4, h11_5, h11_6, h11_7, h11_8, h11_9, -⟩ := hp
        exact False.elim h11_8
       ·rename_i zy
        have Gzy := Lib.hid gzy
        clear gzy
        have HY : Hid (0 ≤ zy) := Lib.hid (divO_nonneg Gzy.out (mixO_nonneg Gzv.out HP.out.b20 HP.out.b21 HP.out.v0 (mulO_sq Gzq.out)) HI1.out.2)
        have szw12 := Ext.size E0
        refine region_gs [.one fun v _ => v = .agg #[.int .i64 (K : Int)],
          .one fun v _ => v = .int .i64 zv,
          .one fun v _ => v = .pointer (some ⟨w.heap.size, 0, none⟩),
          .one fun v _ => v = .int .i64 (K : Int),
          .one fun v _ => v = .int .i64 (oneZ K),
          .one fun v _ => v = .pointer (some ⟨w.heap.size + 1 + 1, 1, none⟩),
          .one fun v _ => v = .int .i64 p1,
          .one fun v _ => v = .int .i64 X1,
          .one fun v _ => v = .int .i64 zy,
          .one fun v _ => v = .int .i64 zy]
         (fun W => Ext w W ∧ BxA W w.heap.size 54 #[.int .i64 (K : Int)] ∧ BxA W (w.heap.size + 1) 23 #[.int .i64 lr, .int .i64 b1, .int .i64 b2, .int .i64 eps, .int .i64 wd, .bool false] ∧ Bx2 W (w.heap.size + 1 + 1) 24 (.int .i64 p0) (.int .i64 p1) ∧ W10.heap.size ≤ W.heap.size) ⟨Good.is _, Good.is _, Good.is _, Good.is _, Good.is _, Good.is _, Good.is _, Good.is _, Good.is _, Good.is _, trivial⟩
         ⟨E0, p7, p8, p9, Nat.le_refl _⟩ (A := ?A12) ?hA12 ?howe12 ?hfin12
        case hA12 =>
         intro vs
         simp only [putAll, Act.put, sA, sZ, sS, Nat.zero_add, Nat.reduceAdd]
         exact rfl
        case howe12 =>
         clear E0 p7 p8 p9
         intro hf
         refine ⟨oE 0 [] hf rfl ?_, oE 1 [] hf rfl ?_, oE 2 [] hf rfl ?_, oE 3 [2] hf rfl ?_, oE 4 [3] hf rfl ?_, oE 5 [] hf rfl ?_, oE 6 [5] hf rfl ?_, oE 7 [4, 6] hf rfl ?_, oE 8 [0, 1, 7] hf rfl ?_, oE 9 [8] hf rfl ?_, trivial⟩
         all_goals intro vs W hS hp hx KO hKO
         all_goals simp only [Act.put, sA, sZ, sS] at hKO
         ·have fc0 := BxA.cell (hS.2.1) 0 (v := .int .i64 (K : Int)) rfl; go_simp; exact hKO _ W (.refl W) rfl
         ·go_simp; exact hKO _ W (.refl W) rfl
         ·go_simp; exact hKO _ W (.refl W) rfl
         ·have e2 := isOf hp.1; simp only [e2] at hKO; have fc0 := BxA.cell (hS.2.1) 0 (v := .int .i64 (K : Int)) rfl; go_simp; exact hKO _ W (.refl W) rfl
         ·have e3 := isOf hp.1; simp only [e3] at hKO; go_simp
          refine (Tryz.adamOne K HK.out _).mono ?_
          rintro e W1 ⟨rfl, hE⟩
          exact hKO _ W1 hE rfl
         ·go_simp; exact hKO _ W (.refl W) rfl
         ·have e5 := isOf hp.1; simp only [e5] at hKO; have fc1 := hS.2.2.2.1.cell1; go_simp; exact hKO _ W (.refl W) rfl
         ·have e4 := isOf hp.1; have e6 := isOf hp.2.1; simp only [e4, e6] at hKO; go_simp; exact hKO _ W (.refl W) rfl
         ·have e0 := isOf hp.1; have e1 := isOf hp.2.1; have e7 := isOf hp.2.2.1; simp only [e0, e1, e7] at hKO; go_simp
          refine (Tryz.adamDivS K HK.out (a := zv) (b := X1) (mixO_i64 Gzv.out) HI1.out.1 (by have := HI1.out.2; omega) Gzy.out _).mono ?_
          rintro e W1 ⟨rfl, hE⟩
          exact hKO _ W1 hE rfl
         ·have e8 := isOf hp.1; simp only [e8] at hKO; go_simp; exact hKO _ W (.refl W) rfl
        intro vs W12 hS hp
        clear szw12 E0 p7 p8 p9
        obtain ⟨E0, p7, p8, p9, sz12⟩ := hS
        obtain ⟨h12_0, h12_1, h12_2, h12_3, h12_4, h12_5, h12_6, h12_7, h12_8, h12_9, -⟩ := hp
        replace h12_0 : vs 0 = .agg #[.int .i64 (K : Int)] := h12_0
        replace h12_1 : vs 1 = .int .i64 zv := h12_1
        replace h12_2 : vs 2 = .pointer (some ⟨w.heap.size, 0, none⟩) := h12_2
        replace h12_3 : vs 3 = .int .i64 (K : Int) := h12_3
        replace h12_4 : vs 4 = .int .i64 (oneZ K) := h12_4
        replace h12_5 : vs 5 = .pointer (some ⟨w.heap.size + 1 + 1, 1, none⟩) := h12_5
        replace h12_6 : vs 6 = .int .i64 p1 := h12_6
        replace h12_7 : vs 7 = .int .i64 X1 := h12_7
        replace h12_8 : vs 8 = .int .i64 zy := h12_8
        replace h12_9 : vs 9 = .int .i64 zy := h12_9
        simp only [h12_0, h12_1, h12_2, h12_3, h12_4, h12_5, h12_6, h12_7, h12_8, h12_9]
        clear h12_0 h12_1 h12_2 h12_3 h12_4 h12_5 h12_6 h12_7 h12_8 h12_9
        have kp7_0 := p7.cell 0 (v := .int .i64 (K : Int)) rfl
        obtain ⟨kp8_0, kp8_1, kp8_2, kp8_3, kp8_4, kp8_5⟩ := p8.c6
        obtain ⟨kp9_0, kp9_1⟩ := p9.c2
        go_upto_region 8 with (fail)
        clear kp7_0 kp8_0 kp8_1 kp8_2 kp8_3 kp8_4 kp8_5 kp9_0 kp9_1
        cases gzs : addO (rootW K zy) eps
        ·have Gzs := Lib.hid gzs
         clear gzs
         have HN : Hid (placeO K ⟨lr, b1, b2, eps, wd, false⟩ p0 p1 wt mt vt gt = none) := Lib.hid (by unfold placeO gradO lessO; simp only [HX0.out, HX1.out, Gzt.out, Gzd.out, Gzm.out, Gzq.out, Gzv.out, Gzx.out, Gzy.out, Gzs.out, Option.bind_some, Option.bind_none, if_false, Bool.false_eq_true])
         have szw13 := Ext.size E0
         refine region_gs [.one fun v _ => v = .agg #[.int .i64 (K : Int)],
           .one fun v _ => v = .int .i64 zx,
           .one fun v _ => v = .agg #[.int .i64 (K : Int)],
           .one fun v _ => v = .agg #[.int .i64 (K : Int)],
           .one fun v _ => v = .int .i64 zy,
           .one fun v _ => v = .int .i64 (rootW K zy),
           .one fun v _ => v = .pointer (some ⟨w.heap.size + 1, 3, none⟩),
           .one fun v _ => v = .int .i64 eps,
           .one fun _ _ => False,
           .one fun _ _ => False,
           .one fun _ _ => False]
          (fun W => Ext w W ∧ BxA W w.heap.size 54 #[.int .i64 (K : Int)] ∧ BxA W (w.heap.size + 1) 23 #[.int .i64 lr, .int .i64 b1, .int .i64 b2, .int .i64 eps, .int .i64 wd, .bool false] ∧ Bx2 W (w.heap.size + 1 + 1) 24 (.int .i64 p0) (.int .i64 p1) ∧ W12.heap.size ≤ W.heap.size) ⟨Good.is _, Good.is _, Good.is _, Good.is _, Good.is _, Good.is _, Good.is _, Good.is _, Good.never, Good.never, Good.never, trivial⟩
          ⟨E0, p7, p8, p9, Nat.le_refl _⟩ (A := ?A13) ?hA13 ?howe13 ?hfin13
         case hA13 =>
          intro vs
          simp only [putAll, Act.put, sA, sZ, sS, Nat.zero_add, Nat.reduceAdd]
          exact rfl
         case howe13 =>
          clear E0 p7 p8 p9
          intro hf
          refine ⟨oE 0 [] hf rfl ?_, oE 1 [] hf rfl ?_, oE 2 [] hf rfl ?_, oE 3 [] hf rfl ?_, oE 4 [] hf rfl ?_, oE 5 [3, 4] hf rfl ?_, oE 6 [] hf rfl ?_, oE 7 [6] hf rfl ?_, oE 8 [2, 5, 7] hf rfl ?_, oE 9 [8] hf rfl ?_, oE 10 [9] hf rfl ?_, trivial⟩
          all_goals intro vs W hS hp hx KO hKO
          all_goals simp only [Act.put, sA, sZ, sS] at hKO
          ·have fc0 := BxA.cell (hS.2.1) 0 (v := .int .i64 (K : Int)) rfl; go_simp; exact hKO _ W (.refl W) rfl
          ·go_simp; exact hKO _ W (.refl W) rfl
          ·have fc0 := BxA.cell (hS.2.1) 0 (v := .int .i64 (K : Int)) rfl; go_simp; exact hKO _ W (.refl W) rfl
          ·have fc0 := BxA.cell (hS.2.1) 0 (v := .int .i64 (K : Int)) rfl; go_simp; exact hKO _ W (.refl W) rfl
          ·go_simp; exact hKO _ W (.refl W) rfl
          ·have e3 := isOf hp.1; have e4 := isOf hp.2.1; simp only [e3, e4] at hKO; go_simp
           refine (Tryz.adamRoot K HK.out (okZ_i64 Gzy.out) HY.out _).mono ?_
           rintro e W1 ⟨rfl, hE⟩
           exact hKO _ W1 hE rfl
          ·go_simp; exact hKO _ W (.refl W) rfl
          ·have e6 := isOf hp.1; simp only [e6] at hKO; have fc3 := BxA.cell (hS.2.2.1) 3 (v := .int .i64 eps) rfl; go_simp; exact hKO _ W (.refl W) rfl
          ·have e2 := isOf hp.1; have e5 := isOf hp.2.1; have e7 := isOf hp.2.2.1; simp only [e2, e5, e7] at hKO; go_simp
           refine (Tryz.adamAddN K HK.out (a := (rootW K zy)) (b := eps) (rootW_i64 HK.out (okZ_i64 Gzy.out)) HP.out.eps Gzs.out _).mono ?_
           rintro e W1 ⟨⟨c, hc, rfl⟩, hE⟩
           exact ⟨rfl, SaysP.no HN.out hc, Ext.trans hS.1 hE⟩
          ·have q8 := hp.1
           exact False.elim q8
          ·have q9 := hp.1
           exact False.elim q9
         intro vs W13 hS hp
         obtain ⟨h13_0, h13_1, h13_2, h13_3, h13_4, h13_5, h13_6, h13_7, h13_8, h13_9, h13_10, -⟩ := hp
         exact False.elim h13_8
        ·rename_i zs
         have Gzs := Lib.hid gzs
         clear gzs
         have HS : Hid (0 < zs) := Lib.hid (addO_pos Gzs.out (rootW_nonneg K zy) HP.out.eps0)
         cases gzu : divO K zx zs
         ·have Gzu := Lib.hid gzu
          clear gzu
          have HN : Hid (placeO K ⟨lr, b1, b2, eps, wd, false⟩ p0 p1 wt mt vt gt = none) := Lib.hid (by unfold placeO gradO lessO; simp only [HX0.out, HX1.out, Gzt.out, Gzd.out, Gzm.out, Gzq.out, Gzv.out, Gzx.out, Gzy.out, Gzs.out, Gzu.out, Option.bind_some, Option.bind_none, if_false, Bool.false_eq_true])
          have szw14 := Ext.size E0
          refine region_gs [.one fun v _ => v = .agg #[.int .i64 (K : Int)],
            .one fun v _ => v = .int .i64 zx,
            .one fun v _ => v = .agg #[.int .i64 (K : Int)],
            .one fun v _ => v = .agg #[.int .i64 (K : Int)],
            .one fun v _ => v = .int .i64 zy,
            .one fun v _ => v = .int .i64 (rootW K zy),
            .one fun v _ => v = .pointer (some ⟨w.heap.size + 1, 3, none⟩),
            .one fun v _ => v = .int .i64 eps,
            .one fun v _ => v = .int .i64 zs,
            .one fun _ _ => False,
            .one fun _ _ => False]
           (fun W => Ext w W ∧ BxA W w.heap.size 54 #[.int .i64 (K : Int)] ∧ BxA W (w.heap.size + 1) 23 #[.int .i64 lr, .int .i64 b1, .int .i64 b2, .int .i64 eps, .int .i64 wd, .bool false] ∧ Bx2 W (w.heap.size + 1 + 1) 24 (.int .i64 p0) (.int .i64 p1) ∧ W12.heap.size ≤ W.heap.size) ⟨Good.is _, Good.is _, Good.is _, Good.is _, Good.is _, Good.is _, Good.is _, Good.is _, Good.is _, Good.never, Good.never, trivial⟩
           ⟨E0, p7, p8, p9, Nat.le_refl _⟩ (A := ?A14) ?hA14 ?howe14 ?hfin14
          case hA14 =>
           intro vs
           simp only [putAll, Act.put, sA, sZ, sS, Nat.zero_add, Nat.reduceAdd]
           exact rfl
          case howe14 =>
           clear E0 p7 p8 p9
           intro hf
           refine ⟨oE 0 [] hf rfl ?_, oE 1 [] hf rfl ?_, oE 2 [] hf rfl ?_, oE 3 [] hf rfl ?_, oE 4 [] hf rfl ?_, oE 5 [3, 4] hf rfl ?_, oE 6 [] hf rfl ?_, oE 7 [6] hf rfl ?_, oE 8 [2, 5, 7] hf rfl ?_, oE 9 [0, 1, 8] hf rfl ?_, oE 10 [9] hf rfl ?_, trivial⟩
           all_goals intro vs W hS hp hx KO hKO
           all_goals simp only [Act.put, sA, sZ, sS] at hKO
           ·have fc0 := BxA.cell (hS.2.1) 0 (v := .int .i64 (K : Int)) rfl; go_simp; exact hKO _ W (.refl W) rfl
           ·go_simp; exact hKO _ W (.refl W) rfl
           ·have fc0 := BxA.cell (hS.2.1) 0 (v := .int .i64 (K : Int)) rfl; go_simp; exact hKO _ W (.refl W) rfl
           ·have fc0 := BxA.cell (hS.2.1) 0 (v := .int .i64 (K : Int)) rfl; go_simp; exact hKO _ W (.refl W) rfl
           ·go_simp; exact hKO _ W (.refl W) rfl
           ·have e3 := isOf hp.1; have e4 := isOf hp.2.1; simp only [e3, e4] at hKO; go_simp
            refine (Tryz.adamRoot K HK.out (okZ_i64 Gzy.out) HY.out _).mono ?_
            rintro e W1 ⟨rfl, hE⟩
            exact hKO _ W1 hE rfl
           ·go_simp; exact hKO _ W (.refl W) rfl
           ·have e6 := isOf hp.1; simp only [e6] at hKO; have fc3 := BxA.cell (hS.2.2.1) 3 (v := .int .i64 eps) rfl; go_simp; exact hKO _ W (.refl W) rfl
           ·have e2 := isOf hp.1; have e5 := isOf hp.2.1; have e7 := isOf hp.2.2.1; simp only [e2, e5, e7] at hKO; go_simp
            refine (Tryz.adamAddS K HK.out (a := (rootW K zy)) (b := eps) (rootW_i64 HK.out (okZ_i64 Gzy.out)) HP.out.eps Gzs.out _).mono ?_
            rintro e W1 ⟨rfl, hE⟩
            exact hKO _ W1 hE rfl
           ·have e0 := isOf hp.1; have e1 := isOf hp.2.1; have e8 := isOf hp.2.2.1; simp only [e0, e1, e8] at hKO; go_simp
            refine (Tryz.adamDivN K HK.out (a := zx) (b := zs) (okZ_i64 Gzx.out) (okZ_i64 Gzs.out) (by have := HS.out; omega) Gzu.out _).mono ?_
            rintro e W1 ⟨⟨c, hc, rfl⟩, hE⟩
            exact ⟨rfl, SaysP.no HN.out hc, Ext.trans hS.1 hE⟩
           ·have q9 := hp.1
            exact False.elim q9
          intro vs W14 hS hp
          obtain ⟨h14_0, h14_1, h14_2, h14_3, h14_4, h14_5, h14_6, h14_7, h14_8, h14_9, h14_10, -⟩ := hp
          exact False.elim h14_9
         ·rename_i zu
          have Gzu := Lib.hid gzu
          clear gzu; have szw15 := Ext.size E0
          refine region_gs [.one fun v _ => v = .agg #[.int .i64 (K : Int)],
            .one fun v _ => v = .int .i64 zx,
            .one fun v _ => v = .agg #[.int .i64 (K : Int)],
            .one fun v _ => v = .agg #[.int .i64 (K : Int)],
            .one fun v _ => v = .int .i64 zy,
            .one fun v _ => v = .int .i64 (rootW K zy),
            .one fun v _ => v = .pointer (some ⟨w.heap.size + 1, 3, none⟩),
            .one fun v _ => v = .int .i64 eps,
            .one fun v _ => v = .int .i64 zs,
            .one fun v _ => v = .int .i64 zu,
            .one fun v _ => v = .int .i64 zu]
           (fun W => Ext w W ∧ BxA W w.heap.size 54 #[.int .i64 (K : Int)] ∧ BxA W (w.heap.size + 1) 23 #[.int .i64 lr, .int .i64 b1, .int .i64 b2, .int .i64 eps, .int .i64 wd, .bool false] ∧ Bx2 W (w.heap.size + 1 + 1) 24 (.int .i64 p0) (.int .i64 p1) ∧ W12.heap.size ≤ W.heap.size) ⟨Good.is _, Good.is _, Good.is _, Good.is _, Good.is _, Good.is _, Good.is _, Good.is _, Good.is _, Good.is _, Good.is _, trivial⟩
           ⟨E0, p7, p8, p9, Nat.le_refl _⟩ (A := ?A15) ?hA15 ?howe15 ?hfin15
          case hA15 =>
           intro vs
           simp only [putAll, Act.put, sA, sZ, sS, Nat.zero_add, Nat.reduceAdd]
           exact rfl
          case howe15 =>
           clear E0 p7 p8 p9
           intro hf
           refine ⟨oE 0 [] hf rfl ?_, oE 1 [] hf rfl ?_, oE 2 [] hf rfl ?_, oE 3 [] hf rfl ?_, oE 4 [] hf rfl ?_, oE 5 [3, 4] hf rfl ?_, oE 6 [] hf rfl ?_, oE 7 [6] hf rfl ?_, oE 8 [2, 5, 7] hf rfl ?_, oE 9 [0, 1, 8] hf rfl ?_, oE 10 [9] hf rfl ?_, trivial⟩
           all_goals intro vs W hS hp hx KO hKO
           all_goals simp only [Act.put, sA, sZ, sS] at hKO
           ·have fc0 := BxA.cell (hS.2.1) 0 (v := .int .i64 (K : Int)) rfl; go_simp; exact hKO _ W (.refl W) rfl
           ·go_simp; exact hKO _ W (.refl W) rfl
           ·have fc0 := BxA.cell (hS.2.1) 0 (v := .int .i64 (K : Int)) rfl; go_simp; exact hKO _ W (.refl W) rfl
           ·have fc0 := BxA.cell (hS.2.1) 0 (v := .int .i64 (K : Int)) rfl; go_simp; exact hKO _ W (.refl W) rfl
           ·go_simp; exact hKO _ W (.refl W) rfl
           ·have e3 := isOf hp.1; have e4 := isOf hp.2.1; simp only [e3, e4] at hKO; go_simp
            refine (Tryz.adamRoot K HK.out (okZ_i64 Gzy.out) HY.out _).mono ?_
            rintro e W1 ⟨rfl, hE⟩
            exact hKO _ W1 hE rfl
           ·go_simp; exact hKO _ W (.refl W) rfl
           ·have e6 := isOf hp.1; simp only [e6] at hKO; have fc3 := BxA.cell (hS.2.2.1) 3 (v := .int .i64 eps) rfl; go_simp; exact hKO _ W (.refl W) rfl
           ·have e2 := isOf hp.1; have e5 := isOf hp.2.1; have e7 := isOf hp.2.2.1; simp only [e2, e5, e7] at hKO; go_simp
            refine (Tryz.adamAddS K HK.out (a := (rootW K zy)) (b := eps) (rootW_i64 HK.out (okZ_i64 Gzy.out)) HP.out.eps Gzs.out _).mono ?_
            rintro e W1 ⟨rfl, hE⟩
            exact hKO _ W1 hE rfl
           ·have e0 := isOf hp.1; have e1 := isOf hp.2.1; have e8 := isOf hp.2.2.1; simp only [e0, e1, e8] at hKO; go_simp
            refine (Tryz.adamDivS K HK.out (a := zx) (b := zs) (okZ_i64 Gzx.out) (okZ_i64 Gzs.out) (by have := HS.out; omega) Gzu.out _).mono ?_
            rintro e W1 ⟨rfl, hE⟩
            exact hKO _ W1 hE rfl
           ·have e9 := isOf hp.1; simp only [e9] at hKO; go_simp; exact hKO _ W (.refl W) rfl
          intro vs W15 hS hp
          clear szw15 E0 p7 p8 p9
          obtain ⟨E0, p7, p8, p9, sz15⟩ := hS
          obtain ⟨h15_0, h15_1, h15_2, h15_3, h15_4, h15_5, h15_6, h15_7, h15_8, h15_9, h15_10, -⟩ := hp
          replace h15_0 : vs 0 = .agg #[.int .i64 (K : Int)] := h15_0
          replace h15_1 : vs 1 = .int .i64 zx := h15_1
          replace h15_2 : vs 2 = .agg #[.int .i64 (K : Int)] := h15_2
          replace h15_3 : vs 3 = .agg #[.int .i64 (K : Int)] := h15_3
          replace h15_4 : vs 4 = .int .i64 zy := h15_4
          replace h15_5 : vs 5 = .int .i64 (rootW K zy) := h15_5
          replace h15_6 : vs 6 = .pointer (some ⟨w.heap.size + 1, 3, none⟩) := h15_6
          replace h15_7 : vs 7 = .int .i64 eps := h15_7
          replace h15_8 : vs 8 = .int .i64 zs := h15_8
          replace h15_9 : vs 9 = .int .i64 zu := h15_9
          replace h15_10 : vs 10 = .int .i64 zu := h15_10
          simp only [h15_0, h15_1, h15_2, h15_3, h15_4, h15_5, h15_6, h15_7, h15_8, h15_9, h15_10]
          clear h15_0 h15_1 h15_2 h15_3 h15_4 h15_5 h15_6 h15_7 h15_8 h15_9 h15_10
          have kp7_0 := p7.cell 0 (v := .int .i64 (K : Int)) rfl
          obtain ⟨kp8_0, kp8_1, kp8_2, kp8_3, kp8_4, kp8_5⟩ := p8.c6
          obtain ⟨kp9_0, kp9_1⟩ := p9.c2
          go_upto_region 9 with (fail)
          clear kp7_0 kp8_0 kp8_1 kp8_2 kp8_3 kp8_4 kp8_5 kp9_0 kp9_1
          cases gzt2 : mulO K lr zu
          ·have Gzt2 := Lib.hid gzt2
           clear gzt2
           have HN : Hid (placeO K ⟨lr, b1, b2, eps, wd, false⟩ p0 p1 wt mt vt gt = none) := Lib.hid (by unfold placeO gradO lessO; simp only [HX0.out, HX1.out, Gzt.out, Gzd.out, Gzm.out, Gzq.out, Gzv.out, Gzx.out, Gzy.out, Gzs.out, Gzu.out, Gzt2.out, Option.bind_some, Option.bind_none, if_false, Bool.false_eq_true])
           have szw16 := Ext.size E0
           refine region_gs [.one fun v _ => v = .agg #[.int .i64 (K : Int)],
             .one fun v _ => v = .int .i64 wt,
             .one fun v _ => v = .agg #[.int .i64 (K : Int)],
             .one fun v _ => v = .pointer (some ⟨w.heap.size + 1, 0, none⟩),
             .one fun v _ => v = .int .i64 lr,
             .one fun v _ => v = .int .i64 zu,
             .one fun _ _ => False,
             .one fun _ _ => False,
             .one fun _ _ => False]
            (fun W => Ext w W ∧ BxA W w.heap.size 54 #[.int .i64 (K : Int)] ∧ BxA W (w.heap.size + 1) 23 #[.int .i64 lr, .int .i64 b1, .int .i64 b2, .int .i64 eps, .int .i64 wd, .bool false] ∧ Bx2 W (w.heap.size + 1 + 1) 24 (.int .i64 p0) (.int .i64 p1) ∧ W15.heap.size ≤ W.heap.size) ⟨Good.is _, Good.is _, Good.is _, Good.is _, Good.is _, Good.is _, Good.never, Good.never, Good.never, trivial⟩
            ⟨E0, p7, p8, p9, Nat.le_refl _⟩ (A := ?A16) ?hA16 ?howe16 ?hfin16
           case hA16 =>
            intro vs
            simp only [putAll, Act.put, sA, sZ, sS, Nat.zero_add, Nat.reduceAdd]
            exact rfl
           case howe16 =>
            clear E0 p7 p8 p9
            intro hf
            refine ⟨oE 0 [] hf rfl ?_, oE 1 [] hf rfl ?_, oE 2 [] hf rfl ?_, oE 3 [] hf rfl ?_, oE 4 [3] hf rfl ?_, oE 5 [] hf rfl ?_, oE 6 [2, 4, 5] hf rfl ?_, oE 7 [6] hf rfl ?_, oE 8 [7] hf rfl ?_, trivial⟩
            all_goals intro vs W hS hp hx KO hKO
            all_goals simp only [Act.put, sA, sZ, sS] at hKO
            ·have fc0 := BxA.cell (hS.2.1) 0 (v := .int .i64 (K : Int)) rfl; go_simp; exact hKO _ W (.refl W) rfl
            ·go_simp; exact hKO _ W (.refl W) rfl
            ·have fc0 := BxA.cell (hS.2.1) 0 (v := .int .i64 (K : Int)) rfl; go_simp; exact hKO _ W (.refl W) rfl
            ·go_simp; exact hKO _ W (.refl W) rfl
            ·have e3 := isOf hp.1; simp only [e3] at hKO; have fc0 := BxA.cell (hS.2.2.1) 0 (v := .int .i64 lr) rfl; go_simp; exact hKO _ W (.refl W) rfl
            ·go_simp; exact hKO _ W (.refl W) rfl
            ·have e2 := isOf hp.1; have e4 := isOf hp.2.1; have e5 := isOf hp.2.2.1; simp only [e2, e4, e5] at hKO; go_simp
             refine (Tryz.adamMulN K HK.out (a := lr) (b := zu) HP.out.lr (okZ_i64 Gzu.out) Gzt2.out _).mono ?_
             rintro e W1 ⟨⟨c, hc, rfl⟩, hE⟩
             exact ⟨rfl, SaysP.no HN.out hc, Ext.trans hS.1 hE⟩
            ·have q6 := hp.1
             exact False.elim q6
            ·have q7 := hp.1
             exact False.elim q7
           intro vs W16 hS hp
           obtain ⟨h16_0, h16_1, h16_2, h16_3, h16_4, h16_5, h16_6, h16_7, h16_8, -⟩ := hp
           exact False.elim h16_6
          ·rename_i zt2
           have Gzt2 := Lib.hid gzt2
           clear gzt2
           cases gzn : subO wt zt2
           ·have Gzn := Lib.hid gzn
            clear gzn
            have HN : Hid (placeO K ⟨lr, b1, b2, eps, wd, false⟩ p0 p1 wt mt vt gt = none) := Lib.hid (by unfold placeO gradO lessO; simp only [HX0.out, HX1.out, Gzt.out, Gzd.out, Gzm.out, Gzq.out, Gzv.out, Gzx.out, Gzy.out, Gzs.out, Gzu.out, Gzt2.out, Gzn.out, Option.bind_some, Option.bind_none, if_false, Bool.false_eq_true])
            have szw17 := Ext.size E0
            refine region_gs [.one fun v _ => v = .agg #[.int .i64 (K : Int)],
              .one fun v _ => v = .int .i64 wt,
              .one fun v _ => v = .agg #[.int .i64 (K : Int)],
              .one fun v _ => v = .pointer (some ⟨w.heap.size + 1, 0, none⟩),
              .one fun v _ => v = .int .i64 lr,
              .one fun v _ => v = .int .i64 zu,
              .one fun v _ => v = .int .i64 zt2,
              .one fun _ _ => False,
              .one fun _ _ => False]
             (fun W => Ext w W ∧ BxA W w.heap.size 54 #[.int .i64 (K : Int)] ∧ BxA W (w.heap.size + 1) 23 #[.int .i64 lr, .int .i64 b1, .int .i64 b2, .int .i64 eps, .int .i64 wd, .bool false] ∧ Bx2 W (w.heap.size + 1 + 1) 24 (.int .i64 p0) (.int .i64 p1) ∧ W15.heap.size ≤ W.heap.size) ⟨Good.is _, Good.is _, Good.is _, Good.is _, Good.is _, Good.is _, Good.is _, Good.never, Good.never, trivial⟩
             ⟨E0, p7, p8, p9, Nat.le_refl _⟩ (A := ?A17) ?hA17 ?howe17 ?hfin17
            case hA17 =>
             intro vs
             simp only [putAll, Act.put, sA, sZ, sS, Nat.zero_add, Nat.reduceAdd]
             exact rfl
            case howe17 =>
             clear E0 p7 p8 p9
             intro hf
             refine ⟨oE 0 [] hf rfl ?_, oE 1 [] hf rfl ?_, oE 2 [] hf rfl ?_, oE 3 [] hf rfl ?_, oE 4 [3] hf rfl ?_, oE 5 [] hf rfl ?_, oE 6 [2, 4, 5] hf rfl ?_, oE 7 [0, 1, 6] hf rfl ?_, oE 8 [7] hf rfl ?_, trivial⟩
             all_goals intro vs W hS hp hx KO hKO
             all_goals simp only [Act.put, sA, sZ, sS] at hKO
             ·have fc0 := BxA.cell (hS.2.1) 0 (v := .int .i64 (K : Int)) rfl; go_simp; exact hKO _ W (.refl W) rfl
             ·go_simp; exact hKO _ W (.refl W) rfl
             ·have fc0 := BxA.cell (hS.2.1) 0 (v := .int .i64 (K : Int)) rfl; go_simp; exact hKO _ W (.refl W) rfl
             ·go_simp; exact hKO _ W (.refl W) rfl
             ·have e3 := isOf hp.1; simp only [e3] at hKO; have fc0 := BxA.cell (hS.2.2.1) 0 (v := .int .i64 lr) rfl; go_simp; exact hKO _ W (.refl W) rfl
             ·go_simp; exact hKO _ W (.refl W) rfl
             ·have e2 := isOf hp.1; have e4 := isOf hp.2.1; have e5 := isOf hp.2.2.1; simp only [e2, e4, e5] at hKO; go_simp
              refine (Tryz.adamMulS K HK.out (a := lr) (b := zu) HP.out.lr (okZ_i64 Gzu.out) Gzt2.out _).mono ?_
              rintro e W1 ⟨rfl, hE⟩
              exact hKO _ W1 hE rfl
             ·have e0 := isOf hp.1; have e1 := isOf hp.2.1; have e6 := isOf hp.2.2.1; simp only [e0, e1, e6] at hKO; go_simp
              refine (Tryz.adamSubN K HK.out (a := wt) (b := zt2) HP.out.w (okZ_i64 Gzt2.out) Gzn.out _).mono ?_
              rintro e W1 ⟨⟨c, hc, rfl⟩, hE⟩
              exact ⟨rfl, SaysP.no HN.out hc, Ext.trans hS.1 hE⟩
             ·have q7 := hp.1
              exact False.elim q7
            intro vs W17 hS hp
            obtain ⟨h17_0, h17_1, h17_2, h17_3, h17_4, h17_5, h17_6, h17_7, h17_8, -⟩ := hp
            exact False.elim h17_7
           ·rename_i zn
            have Gzn := Lib.hid gzn
            clear gzn; have szw18 := Ext.size E0
            refine region_gs [.one fun v _ => v = .agg #[.int .i64 (K : Int)],
              .one fun v _ => v = .int .i64 wt,
              .one fun v _ => v = .agg #[.int .i64 (K : Int)],
              .one fun v _ => v = .pointer (some ⟨w.heap.size + 1, 0, none⟩),
              .one fun v _ => v = .int .i64 lr,
              .one fun v _ => v = .int .i64 zu,
              .one fun v _ => v = .int .i64 zt2,
              .one fun v _ => v = .int .i64 zn,
              .one fun v _ => v = .int .i64 zn]
             (fun W => Ext w W ∧ BxA W w.heap.size 54 #[.int .i64 (K : Int)] ∧ BxA W (w.heap.size + 1) 23 #[.int .i64 lr, .int .i64 b1, .int .i64 b2, .int .i64 eps, .int .i64 wd, .bool false] ∧ Bx2 W (w.heap.size + 1 + 1) 24 (.int .i64 p0) (.int .i64 p1) ∧ W15.heap.size ≤ W.heap.size) ⟨Good.is _, Good.is _, Good.is _, Good.is _, Good.is _, Good.is _, Good.is _, Good.is _, Good.is _, trivial⟩
             ⟨E0, p7, p8, p9, Nat.le_refl _⟩ (A := ?A18) ?hA18 ?howe18 ?hfin18
            case hA18 =>
             intro vs
             simp only [putAll, Act.put, sA, sZ, sS, Nat.zero_add, Nat.reduceAdd]
             exact rfl
            case howe18 =>
             clear E0 p7 p8 p9
             intro hf
             refine ⟨oE 0 [] hf rfl ?_, oE 1 [] hf rfl ?_, oE 2 [] hf rfl ?_, oE 3 [] hf rfl ?_, oE 4 [3] hf rfl ?_, oE 5 [] hf rfl ?_, oE 6 [2, 4, 5] hf rfl ?_, oE 7 [0, 1, 6] hf rfl ?_, oE 8 [7] hf rfl ?_, trivial⟩
             all_goals intro vs W hS hp hx KO hKO
             all_goals simp only [Act.put, sA, sZ, sS] at hKO
             ·have fc0 := BxA.cell (hS.2.1) 0 (v := .int .i64 (K : Int)) rfl; go_simp; exact hKO _ W (.refl W) rfl
             ·go_simp; exact hKO _ W (.refl W) rfl
             ·have fc0 := BxA.cell (hS.2.1) 0 (v := .int .i64 (K : Int)) rfl; go_simp; exact hKO _ W (.refl W) rfl
             ·go_simp; exact hKO _ W (.refl W) rfl
             ·have e3 := isOf hp.1; simp only [e3] at hKO; have fc0 := BxA.cell (hS.2.2.1) 0 (v := .int .i64 lr) rfl; go_simp; exact hKO _ W (.refl W) rfl
             ·go_simp; exact hKO _ W (.refl W) rfl
             ·have e2 := isOf hp.1; have e4 := isOf hp.2.1; have e5 := isOf hp.2.2.1; simp only [e2, e4, e5] at hKO; go_simp
              refine (Tryz.adamMulS K HK.out (a := lr) (b := zu) HP.out.lr (okZ_i64 Gzu.out) Gzt2.out _).mono ?_
              rintro e W1 ⟨rfl, hE⟩
              exact hKO _ W1 hE rfl
             ·have e0 := isOf hp.1; have e1 := isOf hp.2.1; have e6 := isOf hp.2.2.1; simp only [e0, e1, e6] at hKO; go_simp
              refine (Tryz.adamSubS K HK.out (a := wt) (b := zt2) HP.out.w (okZ_i64 Gzt2.out) Gzn.out _).mono ?_
              rintro e W1 ⟨rfl, hE⟩
              exact hKO _ W1 hE rfl
             ·have e7 := isOf hp.1; simp only [e7] at hKO; go_simp; exact hKO _ W (.refl W) rfl
            intro vs W18 hS hp
            clear szw18 E0 p7 p8 p9
            obtain ⟨E0, p7, p8, p9, sz18⟩ := hS
            obtain ⟨h18_0, h18_1, h18_2, h18_3, h18_4, h18_5, h18_6, h18_7, h18_8, -⟩ := hp
            replace h18_0 : vs 0 = .agg #[.int .i64 (K : Int)] := h18_0
            replace h18_1 : vs 1 = .int .i64 wt := h18_1
            replace h18_2 : vs 2 = .agg #[.int .i64 (K : Int)] := h18_2
            replace h18_3 : vs 3 = .pointer (some ⟨w.heap.size + 1, 0, none⟩) := h18_3
            replace h18_4 : vs 4 = .int .i64 lr := h18_4
            replace h18_5 : vs 5 = .int .i64 zu := h18_5
            replace h18_6 : vs 6 = .int .i64 zt2 := h18_6
            replace h18_7 : vs 7 = .int .i64 zn := h18_7
            replace h18_8 : vs 8 = .int .i64 zn := h18_8
            simp only [h18_0, h18_1, h18_2, h18_3, h18_4, h18_5, h18_6, h18_7, h18_8]
            clear h18_0 h18_1 h18_2 h18_3 h18_4 h18_5 h18_6 h18_7 h18_8
            have HR : Hid (placeO K ⟨lr, b1, b2, eps, wd, false⟩ p0 p1 wt mt vt gt = some (zn, zm, zv)) := Lib.hid (by unfold placeO gradO lessO; simp only [HX0.out, HX1.out, Gzt.out, Gzd.out, Gzm.out, Gzq.out, Gzv.out, Gzx.out, Gzy.out, Gzs.out, Gzu.out, Gzt2.out, Gzn.out, Option.bind_some, if_false, Bool.false_eq_true])
            have kp7_0 := p7.cell 0 (v := .int .i64 (K : Int)) rfl
            obtain ⟨kp8_0, kp8_1, kp8_2, kp8_3, kp8_4, kp8_5⟩ := p8.c6
            obtain ⟨kp9_0, kp9_1⟩ := p9.c2
            go_wp2
            go_ret3
            exact ⟨SaysP.yes HR.out, E0⟩

set_option maxRecDepth 100000 in
set_option maxHeartbeats 16000000 in
theorem Tryz.adamPlaceA {K : Nat} {lr b1 b2 eps wd p0 p1 wt mt vt gt : Int} (h : PlaceIn K ⟨lr, b1, b2, eps, wd, true⟩ p0 p1 wt mt vt gt) (w : World) :
  Calls Tryz.prog 42 #[.agg #[.int .i64 (K : Int)], .agg #[.int .i64 lr, .int .i64 b1, .int .i64 b2, .int .i64 eps, .int .i64 wd, .bool true], .agg #[.int .i64 p0, .int .i64 p1], .int .i64 wt, .int .i64 mt, .int .i64 vt, .int .i64 gt] w fun e w' => SaysP 75 e (placeO K ⟨lr, b1, b2, eps, wd, true⟩ p0 p1 wt mt vt gt) ∧ Ext w w' := by
 have HP := Lib.hid h
 have HK := Lib.hid h.k
 obtain ⟨X0, hX0⟩ : ∃ x, oneZ K - p0 = x := ⟨_, rfl⟩
 obtain ⟨X1, hX1⟩ : ∃ x, oneZ K - p1 = x := ⟨_, rfl⟩
 have hw0 : IntKind.i64.wrap (oneZ K - p0) = X0 := by rw [one_wrap h.k h.p00 (Int.le_of_lt h.p01), hX0]
 have hw1 : IntKind.i64.wrap (oneZ K - p1) = X1 := by rw [one_wrap h.k h.p10 (Int.le_of_lt h.p11), hX1]
 have HI0 : Hid (I64 X0 ∧ 0 < X0) := Lib.hid ⟨by rw [← hX0]; exact one_i64 h.k h.p00 (Int.le_of_lt h.p01), by have := h.p01; omega⟩
 have HI1 : Hid (I64 X1 ∧ 0 < X1) := Lib.hid ⟨by rw [← hX1]; exact one_i64 h.k h.p10 (Int.le_of_lt h.p11), by have := h.p11; omega⟩
 have HX0 := Lib.hid hX0
 have HX1 := Lib.hid hX1
 clear h hX0 hX1
 obtain ⟨W0, hW0⟩ : ∃ W0, W0 = (((w.alloc (.cells #[.int .i64 (K : Int)] 54)).alloc (.cells #[.int .i64 lr, .int .i64 b1, .int .i64 b2, .int .i64 eps, .int .i64 wd, .bool true] 23)).alloc (.cells #[.int .i64 p0, .int .i64 p1] 24)) := ⟨_, rfl⟩
 have E0 : Ext w W0 := by rw [hW0]; exact (((Ext.alloc1 w (.cells #[.int .i64 (K : Int)] 54)).alloc (.cells #[.int .i64 lr, .int .i64 b1, .int .i64 b2, .int .i64 eps, .int .i64 wd, .bool true] 23)).alloc (.cells #[.int .i64 p0, .int .i64 p1] 24))
 have p7 : BxA W0 w.heap.size 54 #[.int .i64 (K : Int)] := by rw [hW0]; exact (BxA.new w 54 #[.int .i64 (K : Int)]).ext ((Ext.alloc1 (w.alloc (.cells #[.int .i64 (K : Int)] 54)) (.cells #[.int .i64 lr, .int .i64 b1, .int .i64 b2, .int .i64 eps, .int .i64 wd, .bool true] 23)).alloc (.cells #[.int .i64 p0, .int .i64 p1] 24))
 have p8 : BxA W0 (w.heap.size + 1) 23 #[.int .i64 lr, .int .i64 b1, .int .i64 b2, .int .i64 eps, .int .i64 wd, .bool true] := by rw [hW0]; simpa using (BxA.new (w.alloc (.cells #[.int .i64 (K : Int)] 54)) 23 #[.int .i64 lr, .int .i64 b1, .int .i64 b2, .int .i64 eps, .int .i64 wd, .bool true]).ext (Ext.alloc1 ((w.alloc (.cells #[.int .i64 (K : Int)] 54)).alloc (.cells #[.int .i64 lr, .int .i64 b1, .int .i64 b2, .int .i64 eps, .int .i64 wd, .bool true] 23)) (.cells #[.int .i64 p0, .int .i64 p1] 24))
 have p9 : Bx2 W0 (w.heap.size + 1 + 1) 24 (.int .i64 p0) (.int .i64 p1) := by rw [hW0]; simpa using (Bx2.new ((w.alloc (.cells #[.int .i64 (K : Int)] 54)).alloc (.cells #[.int .i64 lr, .int .i64 b1, .int .i64 b2, .int .i64 eps, .int .i64 wd, .bool true] 23)) 24 (.int .i64 p0) (.int .i64 p1))
 go_enter Tryz.func42, Tryz.ntmps42
 have kp7_0 := p7.cell 0 (v := .int .i64 (K : Int)) rfl
 obtain ⟨kp8_0, kp8_1, kp8_2, kp8_3, kp8_4, kp8_5⟩ := p8.c6
 obtain ⟨kp9_0, kp9_1⟩ := p9.c2
 go_upto_region 4 with (fail)
 rw [← hW0]
 clear hW0; clear kp7_0 kp8_0 kp8_1 kp8_2 kp8_3 kp8_4 kp8_5 kp9_0 kp9_1
 cases gzm : mixO K b1 mt gt
 ·have Gzm := Lib.hid gzm
  clear gzm
  have HN : Hid (placeO K ⟨lr, b1, b2, eps, wd, true⟩ p0 p1 wt mt vt gt = none) := Lib.hid (by unfold placeO gradO lessO; simp only [HX0.out, HX1.out, Gzm.out, Option.bind_some, Option.bind_none, if_true])
  have ltp7 := p7.lt; have ltp8 := p8.lt; have ltp9 := p9.lt; have szw19 := Ext.size E0
  refine region_gs [.one fun v _ => v = .agg #[.int .i64 (K : Int)],
    .one fun v _ => v = .pointer (some ⟨w.heap.size + 1, 1, none⟩),
    .one fun v _ => v = .int .i64 b1,
    .one fun v _ => v = .int .i64 mt,
    .one fun v _ => v = .int .i64 gt,
    .one fun _ _ => False,
    .one fun _ _ => False]
   (fun W => Ext w W ∧ BxA W w.heap.size 54 #[.int .i64 (K : Int)] ∧ BxA W (w.heap.size + 1) 23 #[.int .i64 lr, .int .i64 b1, .int .i64 b2, .int .i64 eps, .int .i64 wd, .bool true] ∧ Bx2 W (w.heap.size + 1 + 1) 24 (.int .i64 p0) (.int .i64 p1) ∧ W0.heap.size ≤ W.heap.size) ⟨Good.is _, Good.is _, Good.is _, Good.is _, Good.is _, Good.never, Good.never, trivial⟩
   ⟨E0, p7, p8, p9, Nat.le_refl _⟩ (A := ?A19) ?hA19 ?howe19 ?hfin19
  case hA19 =>
   intro vs
   simp only [putAll, Act.put, sA, sZ, sS, Nat.zero_add, Nat.reduceAdd]
   exact rfl
  case howe19 =>
   clear E0 p7 p8 p9
   intro hf
   refine ⟨oE 0 [] hf rfl ?_, oE 1 [] hf rfl ?_, oE 2 [1] hf rfl ?_, oE 3 [] hf rfl ?_, oE 4 [] hf rfl ?_, oE 5 [0, 2, 3, 4] hf rfl ?_, oE 6 [5] hf rfl ?_, trivial⟩
   all_goals intro vs W hS hp hx KO hKO
   all_goals simp only [Act.put, sA, sZ, sS] at hKO
   ·have fc0 := BxA.cell (hS.2.1) 0 (v := .int .i64 (K : Int)) rfl; go_simp; exact hKO _ W (.refl W) rfl
   ·go_simp; exact hKO _ W (.refl W) rfl
   ·have e1 := isOf hp.1; simp only [e1] at hKO; have fc1 := BxA.cell (hS.2.2.1) 1 (v := .int .i64 b1) rfl; go_simp; exact hKO _ W (.refl W) rfl
   ·have eo6 : vs 6 = .int .i64 mt := hx.at 6 rfl (by kernel_rfl) rfl
    simp only [eo6] at hKO; go_simp; exact hKO _ W (.refl W) rfl
   ·go_simp; exact hKO _ W (.refl W) rfl
   ·have e0 := isOf hp.1; have e2 := isOf hp.2.1; have e3 := isOf hp.2.2.1; have e4 := isOf hp.2.2.2.1; simp only [e0, e2, e3, e4] at hKO; go_simp
    refine (Tryz.adamMixN K HK.out (be := b1) (a := mt) (b := gt) HP.out.m HP.out.g HP.out.b10 HP.out.b11 Gzm.out _).mono ?_
    rintro e W1 ⟨⟨c, hc, rfl⟩, hE⟩
    exact ⟨rfl, SaysP.no HN.out hc, Ext.trans hS.1 hE⟩
   ·have q5 := hp.1
    exact False.elim q5
  intro vs W19 hS hp
  obtain ⟨h19_0, h19_1, h19_2, h19_3, h19_4, h19_5, h19_6, -⟩ := hp
  exact False.elim h19_5
 ·rename_i zm
  have Gzm := Lib.hid gzm
  clear gzm; have ltp7 := p7.lt; have ltp8 := p8.lt; have ltp9 := p9.lt; have szw20 := Ext.size E0
  refine region_gs [.one fun v _ => v = .agg #[.int .i64 (K : Int)],
    .one fun v _ => v = .pointer (some ⟨w.heap.size + 1, 1, none⟩),
    .one fun v _ => v = .int .i64 b1,
    .one fun v _ => v = .int .i64 mt,
    .one fun v _ => v = .int .i64 gt,
    .one fun v _ => v = .int .i64 zm,
    .one fun v _ => v = .int .i64 zm]
   (fun W => Ext w W ∧ BxA W w.heap.size 54 #[.int .i64 (K : Int)] ∧ BxA W (w.heap.size + 1) 23 #[.int .i64 lr, .int .i64 b1, .int .i64 b2, .int .i64 eps, .int .i64 wd, .bool true] ∧ Bx2 W (w.heap.size + 1 + 1) 24 (.int .i64 p0) (.int .i64 p1) ∧ W0.heap.size ≤ W.heap.size) ⟨Good.is _, Good.is _, Good.is _, Good.is _, Good.is _, Good.is _, Good.is _, trivial⟩
   ⟨E0, p7, p8, p9, Nat.le_refl _⟩ (A := ?A20) ?hA20 ?howe20 ?hfin20
  case hA20 =>
   intro vs
   simp only [putAll, Act.put, sA, sZ, sS, Nat.zero_add, Nat.reduceAdd]
   exact rfl
  case howe20 =>
   clear E0 p7 p8 p9
   intro hf
   refine ⟨oE 0 [] hf rfl ?_, oE 1 [] hf rfl ?_, oE 2 [1] hf rfl ?_, oE 3 [] hf rfl ?_, oE 4 [] hf rfl ?_, oE 5 [0, 2, 3, 4] hf rfl ?_, oE 6 [5] hf rfl ?_, trivial⟩
   all_goals intro vs W hS hp hx KO hKO
   all_goals simp only [Act.put, sA, sZ, sS] at hKO
   ·have fc0 := BxA.cell (hS.2.1) 0 (v := .int .i64 (K : Int)) rfl; go_simp; exact hKO _ W (.refl W) rfl
   ·go_simp; exact hKO _ W (.refl W) rfl
   ·have e1 := isOf hp.1; simp only [e1] at hKO; have fc1 := BxA.cell (hS.2.2.1) 1 (v := .int .i64 b1) rfl; go_simp; exact hKO _ W (.refl W) rfl
   ·have eo6 : vs 6 = .int .i64 mt := hx.at 6 rfl (by kernel_rfl) rfl
    simp only [eo6] at hKO; go_simp; exact hKO _ W (.refl W) rfl
   ·go_simp; exact hKO _ W (.refl W) rfl
   ·have e0 := isOf hp.1; have e2 := isOf hp.2.1; have e3 := isOf hp.2.2.1; have e4 := isOf hp.2.2.2.1; simp only [e0, e2, e3, e4] at hKO; go_simp
    refine (Tryz.adamMixS K HK.out (be := b1) (a := mt) (b := gt) HP.out.m HP.out.g HP.out.b10 HP.out.b11 Gzm.out _).mono ?_
    rintro e W1 ⟨rfl, hE⟩
    exact hKO _ W1 hE rfl
   ·have e5 := isOf hp.1; simp only [e5] at hKO; go_simp; exact hKO _ W (.refl W) rfl
  intro vs W20 hS hp
  clear szw20 E0 p7 p8 p9
  obtain ⟨E0, p7, p8, p9, sz20⟩ := hS
  obtain ⟨h20_0, h20_1, h20_2, h20_3, h20_4, h20_5, h20_6, -⟩ := hp
  replace h20_0 : vs 0 = .agg #[.int .i64 (K : Int)] := h20_0
  replace h20_1 : vs 1 = .pointer (some ⟨w.heap.size + 1, 1, none⟩) := h20_1
  replace h20_2 : vs 2 = .int .i64 b1 := h20_2
  replace h20_3 : vs 3 = .int .i64 mt := h20_3
  replace h20_4 : vs 4 = .int .i64 gt := h20_4
  replace h20_5 : vs 5 = .int .i64 zm := h20_5
  replace h20_6 : vs 6 = .int .i64 zm := h20_6
  simp only [h20_0, h20_1, h20_2, h20_3, h20_4, h20_5, h20_6]
  clear h20_0 h20_1 h20_2 h20_3 h20_4 h20_5 h20_6
  have kp7_0 := p7.cell 0 (v := .int .i64 (K : Int)) rfl
  obtain ⟨kp8_0, kp8_1, kp8_2, kp8_3, kp8_4, kp8_5⟩ := p8.c6
  obtain ⟨kp9_0, kp9_1⟩ := p9.c2
  go_upto_region 5 with (fail)
  clear kp7_0 kp8_0 kp8_1 kp8_2 kp8_3 kp8_4 kp8_5 kp9_0 kp9_1
  cases gzq : mulO K gt gt
  ·have Gzq := Lib.hid gzq
   clear gzq
   have HN : Hid (placeO K ⟨lr, b1, b2, eps, wd, true⟩ p0 p1 wt mt vt gt = none) := Lib.hid (by unfold placeO gradO lessO; simp only [HX0.out, HX1.out, Gzm.out, Gzq.out, Option.bind_some, Option.bind_none, if_true])
   have szw21 := Ext.size E0
   refine region_gs [.one fun v _ => v = .agg #[.int .i64 (K : Int)],
     .one fun v _ => v = .pointer (some ⟨w.heap.size + 1, 2, none⟩),
     .one fun v _ => v = .int .i64 b2,
     .one fun v _ => v = .int .i64 vt,
     .one fun v _ => v = .agg #[.int .i64 (K : Int)],
     .one fun v _ => v = .int .i64 gt,
     .one fun v _ => v = .int .i64 gt,
     .one fun _ _ => False,
     .one fun _ _ => False,
     .one fun _ _ => False]
    (fun W => Ext w W ∧ BxA W w.heap.size 54 #[.int .i64 (K : Int)] ∧ BxA W (w.heap.size + 1) 23 #[.int .i64 lr, .int .i64 b1, .int .i64 b2, .int .i64 eps, .int .i64 wd, .bool true] ∧ Bx2 W (w.heap.size + 1 + 1) 24 (.int .i64 p0) (.int .i64 p1) ∧ W20.heap.size ≤ W.heap.size) ⟨Good.is _, Good.is _, Good.is _, Good.is _, Good.is _, Good.is _, Good.is _, Good.never, Good.never, Good.never, trivial⟩
    ⟨E0, p7, p8, p9, Nat.le_refl _⟩ (A := ?A21) ?hA21 ?howe21 ?hfin21
   case hA21 =>
    intro vs
    simp only [putAll, Act.put, sA, sZ, sS, Nat.zero_add, Nat.reduceAdd]
    exact rfl
   case howe21 =>
    clear E0 p7 p8 p9
    intro hf
    refine ⟨oE 0 [] hf rfl ?_, oE 1 [] hf rfl ?_, oE 2 [1] hf rfl ?_, oE 3 [] hf rfl ?_, oE 4 [] hf rfl ?_, oE 5 [] hf rfl ?_, oE 6 [] hf rfl ?_, oE 7 [4, 5, 6] hf rfl ?_, oE 8 [7] hf rfl ?_, oE 9 [8] hf rfl ?_, trivial⟩
    all_goals intro vs W hS hp hx KO hKO
    all_goals simp only [Act.put, sA, sZ, sS] at hKO
    ·have fc0 := BxA.cell (hS.2.1) 0 (v := .int .i64 (K : Int)) rfl; go_simp; exact hKO _ W (.refl W) rfl
    ·go_simp; exact hKO _ W (.refl W) rfl
    ·have e1 := isOf hp.1; simp only [e1] at hKO; have fc2 := BxA.cell (hS.2.2.1) 2 (v := .int .i64 b2) rfl; go_simp; exact hKO _ W (.refl W) rfl
    ·have eo9 : vs 9 = .int .i64 vt := hx.at 9 rfl (by kernel_rfl) rfl
     simp only [eo9] at hKO; go_simp; exact hKO _ W (.refl W) rfl
    ·have fc0 := BxA.cell (hS.2.1) 0 (v := .int .i64 (K : Int)) rfl; go_simp; exact hKO _ W (.refl W) rfl
    ·go_simp; exact hKO _ W (.refl W) rfl
    ·go_simp; exact hKO _ W (.refl W) rfl
    ·have e4 := isOf hp.1; have e5 := isOf hp.2.1; have e6 := isOf hp.2.2.1; simp only [e4, e5, e6] at hKO; go_simp
     refine (Tryz.adamMulN K HK.out (a := gt) (b := gt) HP.out.g HP.out.g Gzq.out _).mono ?_
     rintro e W1 ⟨⟨c, hc, rfl⟩, hE⟩
     exact ⟨rfl, SaysP.no HN.out hc, Ext.trans hS.1 hE⟩
    ·have q7 := hp.1
     exact False.elim q7
    ·have q8 := hp.1
     exact False.elim q8
   intro vs W21 hS hp
   obtain ⟨h21_0, h21_1, h21_2, h21_3, h21_4, h21_5, h21_6, h21_7, h21_8, h21_9, -⟩ := hp
   exact False.elim h21_7
  ·rename_i zq
   have Gzq := Lib.hid gzq
   clear gzq
   cases gzv : mixO K b2 vt zq
   ·have Gzv := Lib.hid gzv
    clear gzv
    have HN : Hid (placeO K ⟨lr, b1, b2, eps, wd, true⟩ p0 p1 wt mt vt gt = none) := Lib.hid (by unfold placeO gradO lessO; simp only [HX0.out, HX1.out, Gzm.out, Gzq.out, Gzv.out, Option.bind_some, Option.bind_none, if_true])
    have szw22 := Ext.size E0
    refine region_gs [.one fun v _ => v = .agg #[.int .i64 (K : Int)],
      .one fun v _ => v = .pointer (some ⟨w.heap.size + 1, 2, none⟩),
      .one fun v _ => v = .int .i64 b2,
      .one fun v _ => v = .int .i64 vt,
      .one fun v _ => v = .agg #[.int .i64 (K : Int)],
      .one fun v _ => v = .int .i64 gt,
      .one fun v _ => v = .int .i64 gt,
      .one fun v _ => v = .int .i64 zq,
      .one fun _ _ => False,
      .one fun _ _ => False]
     (fun W => Ext w W ∧ BxA W w.heap.size 54 #[.int .i64 (K : Int)] ∧ BxA W (w.heap.size + 1) 23 #[.int .i64 lr, .int .i64 b1, .int .i64 b2, .int .i64 eps, .int .i64 wd, .bool true] ∧ Bx2 W (w.heap.size + 1 + 1) 24 (.int .i64 p0) (.int .i64 p1) ∧ W20.heap.size ≤ W.heap.size) ⟨Good.is _, Good.is _, Good.is _, Good.is _, Good.is _, Good.is _, Good.is _, Good.is _, Good.never, Good.never, trivial⟩
     ⟨E0, p7, p8, p9, Nat.le_refl _⟩ (A := ?A22) ?hA22 ?howe22 ?hfin22
    case hA22 =>
     intro vs
     simp only [putAll, Act.put, sA, sZ, sS, Nat.zero_add, Nat.reduceAdd]
     exact rfl
    case howe22 =>
     clear E0 p7 p8 p9
     intro hf
     refine ⟨oE 0 [] hf rfl ?_, oE 1 [] hf rfl ?_, oE 2 [1] hf rfl ?_, oE 3 [] hf rfl ?_, oE 4 [] hf rfl ?_, oE 5 [] hf rfl ?_, oE 6 [] hf rfl ?_, oE 7 [4, 5, 6] hf rfl ?_, oE 8 [0, 2, 3, 7] hf rfl ?_, oE 9 [8] hf rfl ?_, trivial⟩
     all_goals intro vs W hS hp hx KO hKO
     all_goals simp only [Act.put, sA, sZ, sS] at hKO
     ·have fc0 := BxA.cell (hS.2.1) 0 (v := .int .i64 (K : Int)) rfl; go_simp; exact hKO _ W (.refl W) rfl
     ·go_simp; exact hKO _ W (.refl W) rfl
     ·have e1 := isOf hp.1; simp only [e1] at hKO; have fc2 := BxA.cell (hS.2.2.1) 2 (v := .int .i64 b2) rfl; go_simp; exact hKO _ W (.refl W) rfl
     ·have eo9 : vs 9 = .int .i64 vt := hx.at 9 rfl (by kernel_rfl) rfl
      simp only [eo9] at hKO; go_simp; exact hKO _ W (.refl W) rfl
     ·have fc0 := BxA.cell (hS.2.1) 0 (v := .int .i64 (K : Int)) rfl; go_simp; exact hKO _ W (.refl W) rfl
     ·go_simp; exact hKO _ W (.refl W) rfl
     ·go_simp; exact hKO _ W (.refl W) rfl
     ·have e4 := isOf hp.1; have e5 := isOf hp.2.1; have e6 := isOf hp.2.2.1; simp only [e4, e5, e6] at hKO; go_simp
      refine (Tryz.adamMulS K HK.out (a := gt) (b := gt) HP.out.g HP.out.g Gzq.out _).mono ?_
      rintro e W1 ⟨rfl, hE⟩
      exact hKO _ W1 hE rfl
     ·have e0 := isOf hp.1; have e2 := isOf hp.2.1; have e3 := isOf hp.2.2.1; have e7 := isOf hp.2.2.2.1; simp only [e0, e2, e3, e7] at hKO; go_simp
      refine (Tryz.adamMixN K HK.out (be := b2) (a := vt) (b := zq) HP.out.v (okZ_i64 Gzq.out) HP.out.b20 HP.out.b21 Gzv.out _).mono ?_
      rintro e W1 ⟨⟨c, hc, rfl⟩, hE⟩
      exact ⟨rfl, SaysP.no HN.out hc, Ext.trans hS.1 hE⟩
     ·have q8 := hp.1
      exact False.elim q8
    intro vs W22 hS hp
    obtain ⟨h22_0, h22_1, h22_2, h22_3, h22_4, h22_5, h22_6, h22_7, h22_8, h22_9, -⟩ := hp
    exact False.elim h22_8
   ·rename_i zv
    have Gzv := Lib.hid gzv
    clear gzv; have szw23 := Ext.size E0
    refine region_gs [.one fun v _ => v = .agg #[.int .i64 (K : Int)],
      .one fun v _ => v = .pointer (some ⟨w.heap.size + 1, 2, none⟩),
      .one fun v _ => v = .int .i64 b2,
      .one fun v _ => v = .int .i64 vt,
      .one fun v _ => v = .agg #[.int .i64 (K : Int)],
      .one fun v _ => v = .int .i64 gt,
      .one fun v _ => v = .int .i64 gt,
      .one fun v _ => v = .int .i64 zq,
      .one fun v _ => v = .int .i64 zv,
      .one fun v _ => v = .int .i64 zv]
     (fun W => Ext w W ∧ BxA W w.heap.size 54 #[.int .i64 (K : Int)] ∧ BxA W (w.heap.size + 1) 23 #[.int .i64 lr, .int .i64 b1, .int .i64 b2, .int .i64 eps, .int .i64 wd, .bool true] ∧ Bx2 W (w.heap.size + 1 + 1) 24 (.int .i64 p0) (.int .i64 p1) ∧ W20.heap.size ≤ W.heap.size) ⟨Good.is _, Good.is _, Good.is _, Good.is _, Good.is _, Good.is _, Good.is _, Good.is _, Good.is _, Good.is _, trivial⟩
     ⟨E0, p7, p8, p9, Nat.le_refl _⟩ (A := ?A23) ?hA23 ?howe23 ?hfin23
    case hA23 =>
     intro vs
     simp only [putAll, Act.put, sA, sZ, sS, Nat.zero_add, Nat.reduceAdd]
     exact rfl
    case howe23 =>
     clear E0 p7 p8 p9
     intro hf
     refine ⟨oE 0 [] hf rfl ?_, oE 1 [] hf rfl ?_, oE 2 [1] hf rfl ?_, oE 3 [] hf rfl ?_, oE 4 [] hf rfl ?_, oE 5 [] hf rfl ?_, oE 6 [] hf rfl ?_, oE 7 [4, 5, 6] hf rfl ?_, oE 8 [0, 2, 3, 7] hf rfl ?_, oE 9 [8] hf rfl ?_, trivial⟩
     all_goals intro vs W hS hp hx KO hKO
     all_goals simp only [Act.put, sA, sZ, sS] at hKO
     ·have fc0 := BxA.cell (hS.2.1) 0 (v := .int .i64 (K : Int)) rfl; go_simp; exact hKO _ W (.refl W) rfl
     ·go_simp; exact hKO _ W (.refl W) rfl
     ·have e1 := isOf hp.1; simp only [e1] at hKO; have fc2 := BxA.cell (hS.2.2.1) 2 (v := .int .i64 b2) rfl; go_simp; exact hKO _ W (.refl W) rfl
     ·have eo9 : vs 9 = .int .i64 vt := hx.at 9 rfl (by kernel_rfl) rfl
      simp only [eo9] at hKO; go_simp; exact hKO _ W (.refl W) rfl
     ·have fc0 := BxA.cell (hS.2.1) 0 (v := .int .i64 (K : Int)) rfl; go_simp; exact hKO _ W (.refl W) rfl
     ·go_simp; exact hKO _ W (.refl W) rfl
     ·go_simp; exact hKO _ W (.refl W) rfl
     ·have e4 := isOf hp.1; have e5 := isOf hp.2.1; have e6 := isOf hp.2.2.1; simp only [e4, e5, e6] at hKO; go_simp
      refine (Tryz.adamMulS K HK.out (a := gt) (b := gt) HP.out.g HP.out.g Gzq.out _).mono ?_
      rintro e W1 ⟨rfl, hE⟩
      exact hKO _ W1 hE rfl
     ·have e0 := isOf hp.1; have e2 := isOf hp.2.1; have e3 := isOf hp.2.2.1; have e7 := isOf hp.2.2.2.1; simp only [e0, e2, e3, e7] at hKO; go_simp
      refine (Tryz.adamMixS K HK.out (be := b2) (a := vt) (b := zq) HP.out.v (okZ_i64 Gzq.out) HP.out.b20 HP.out.b21 Gzv.out _).mono ?_
      rintro e W1 ⟨rfl, hE⟩
      exact hKO _ W1 hE rfl
     ·have e8 := isOf hp.1; simp only [e8] at hKO; go_simp; exact hKO _ W (.refl W) rfl
    intro vs W23 hS hp
    clear szw23 E0 p7 p8 p9
    obtain ⟨E0, p7, p8, p9, sz23⟩ := hS
    obtain ⟨h23_0, h23_1, h23_2, h23_3, h23_4, h23_5, h23_6, h23_7, h23_8, h23_9, -⟩ := hp
    replace h23_0 : vs 0 = .agg #[.int .i64 (K : Int)] := h23_0
    replace h23_1 : vs 1 = .pointer (some ⟨w.heap.size + 1, 2, none⟩) := h23_1
    replace h23_2 : vs 2 = .int .i64 b2 := h23_2
    replace h23_3 : vs 3 = .int .i64 vt := h23_3
    replace h23_4 : vs 4 = .agg #[.int .i64 (K : Int)] := h23_4
    replace h23_5 : vs 5 = .int .i64 gt := h23_5
    replace h23_6 : vs 6 = .int .i64 gt := h23_6
    replace h23_7 : vs 7 = .int .i64 zq := h23_7
    replace h23_8 : vs 8 = .int .i64 zv := h23_8
    replace h23_9 : vs 9 = .int .i64 zv := h23_9
    simp only [h23_0, h23_1, h23_2, h23_3, h23_4, h23_5, h23_6, h23_7, h23_8, h23_9]
    clear h23_0 h23_1 h23_2 h23_3 h23_4 h23_5 h23_6 h23_7 h23_8 h23_9
    have kp7_0 := p7.cell 0 (v := .int .i64 (K : Int)) rfl
    obtain ⟨kp8_0, kp8_1, kp8_2, kp8_3, kp8_4, kp8_5⟩ := p8.c6
    obtain ⟨kp9_0, kp9_1⟩ := p9.c2
    go_upto_region 6 with (fail)
    clear kp7_0 kp8_0 kp8_1 kp8_2 kp8_3 kp8_4 kp8_5 kp9_0 kp9_1
    cases gzx : divO K zm X0
    ·have Gzx := Lib.hid gzx
     clear gzx
     have HN : Hid (placeO K ⟨lr, b1, b2, eps, wd, true⟩ p0 p1 wt mt vt gt = none) := Lib.hid (by unfold placeO gradO lessO; simp only [HX0.out, HX1.out, Gzm.out, Gzq.out, Gzv.out, Gzx.out, Option.bind_some, Option.bind_none, if_true])
     have szw24 := Ext.size E0
     refine region_gs [.one fun v _ => v = .agg #[.int .i64 (K : Int)],
       .one fun v _ => v = .int .i64 zm,
       .one fun v _ => v = .pointer (some ⟨w.heap.size, 0, none⟩),
       .one fun v _ => v = .int .i64 (K : Int),
       .one fun v _ => v = .int .i64 (oneZ K),
       .one fun v _ => v = .pointer (some ⟨w.heap.size + 1 + 1, 0, none⟩),
       .one fun v _ => v = .int .i64 p0,
       .one fun v _ => v = .int .i64 X0,
       .one fun _ _ => False,
       .one fun _ _ => False]
      (fun W => Ext w W ∧ BxA W w.heap.size 54 #[.int .i64 (K : Int)] ∧ BxA W (w.heap.size + 1) 23 #[.int .i64 lr, .int .i64 b1, .int .i64 b2, .int .i64 eps, .int .i64 wd, .bool true] ∧ Bx2 W (w.heap.size + 1 + 1) 24 (.int .i64 p0) (.int .i64 p1) ∧ W23.heap.size ≤ W.heap.size) ⟨Good.is _, Good.is _, Good.is _, Good.is _, Good.is _, Good.is _, Good.is _, Good.is _, Good.never, Good.never, trivial⟩
      ⟨E0, p7, p8, p9, Nat.le_refl _⟩ (A := ?A24) ?hA24 ?howe24 ?hfin24
     case hA24 =>
      intro vs
      simp only [putAll, Act.put, sA, sZ, sS, Nat.zero_add, Nat.reduceAdd]
      exact rfl
     case howe24 =>
      clear E0 p7 p8 p9
      intro hf
      refine ⟨oE 0 [] hf rfl ?_, oE 1 [] hf rfl ?_, oE 2 [] hf rfl ?_, oE 3 [2] hf rfl ?_, oE 4 [3] hf rfl ?_, oE 5 [] hf rfl ?_, oE 6 [5] hf rfl ?_, oE 7 [4, 6] hf rfl ?_, oE 8 [0, 1, 7] hf rfl ?_, oE 9 [8] hf rfl ?_, trivial⟩
      all_goals intro vs W hS hp hx KO hKO
      all_goals simp only [Act.put, sA, sZ, sS] at hKO
      ·have fc0 := BxA.cell (hS.2.1) 0 (v := .int .i64 (K : Int)) rfl; go_simp; exact hKO _ W (.refl W) rfl
      ·go_simp; exact hKO _ W (.refl W) rfl
      ·go_simp; exact hKO _ W (.refl W) rfl
      ·have e2 := isOf hp.1; simp only [e2] at hKO; have fc0 := BxA.cell (hS.2.1) 0 (v := .int .i64 (K : Int)) rfl; go_simp; exact hKO _ W (.refl W) rfl
      ·have e3 := isOf hp.1; simp only [e3] at hKO; go_simp
       refine (Tryz.adamOne K HK.out _).mono ?_
       rintro e W1 ⟨rfl, hE⟩
       exact hKO _ W1 hE rfl
      ·go_simp; exact hKO _ W (.refl W) rfl
      ·have e5 := isOf hp.1; simp only [e5] at hKO; have fc0 := hS.2.2.2.1.cell0; go_simp; exact hKO _ W (.refl W) rfl
      ·have e4 := isOf hp.1; have e6 := isOf hp.2.1; simp only [e4, e6] at hKO; go_simp; exact hKO _ W (.refl W) rfl
      ·have e0 := isOf hp.1; have e1 := isOf hp.2.1; have e7 := isOf hp.2.2.1; simp only [e0, e1, e7] at hKO; go_simp
       refine (Tryz.adamDivN K HK.out (a := zm) (b := X0) (mixO_i64 Gzm.out) HI0.out.1 (by have := HI0.out.2; omega) Gzx.out _).mono ?_
       rintro e W1 ⟨⟨c, hc, rfl⟩, hE⟩
       exact ⟨rfl, SaysP.no HN.out hc, Ext.trans hS.1 hE⟩
      ·have q8 := hp.1
       exact False.elim q8
     intro vs W24 hS hp
     obtain ⟨h24_0, h24_1, h24_2, h24_3, h24_4, h24_5, h24_6, h24_7, h24_8, h24_9, -⟩ := hp
     exact False.elim h24_8
    ·rename_i zx
     have Gzx := Lib.hid gzx
     clear gzx; have szw25 := Ext.size E0
     refine region_gs [.one fun v _ => v = .agg #[.int .i64 (K : Int)],
       .one fun v _ => v = .int .i64 zm,
       .one fun v _ => v = .pointer (some ⟨w.heap.size, 0, none⟩),
       .one fun v _ => v = .int .i64 (K : Int),
       .one fun v _ => v = .int .i64 (oneZ K),
       .one fun v _ => v = .pointer (some ⟨w.heap.size + 1 + 1, 0, none⟩),
       .one fun v _ => v = .int .i64 p0,
       .one fun v _ => v = .int .i64 X0,
       .one fun v _ => v = .int .i64 zx,
       .one fun v _ => v = .int .i64 zx]
      (fun W => Ext w W ∧ BxA W w.heap.size 54 #[.int .i64 (K : Int)] ∧ BxA W (w.heap.size + 1) 23 #[.int .i64 lr, .int .i64 b1, .int .i64 b2, .int .i64 eps, .int .i64 wd, .bool true] ∧ Bx2 W (w.heap.size + 1 + 1) 24 (.int .i64 p0) (.int .i64 p1) ∧ W23.heap.size ≤ W.heap.size) ⟨Good.is _, Good.is _, Good.is _, Good.is _, Good.is _, Good.is _, Good.is _, Good.is _, Good.is _, Good.is _, trivial⟩
      ⟨E0, p7, p8, p9, Nat.le_refl _⟩ (A := ?A25) ?hA25 ?howe25 ?hfin25
     case hA25 =>
      intro vs
      simp only [putAll, Act.put, sA, sZ, sS, Nat.zero_add, Nat.reduceAdd]
      exact rfl
     case howe25 =>
      clear E0 p7 p8 p9
      intro hf
      refine ⟨oE 0 [] hf rfl ?_, oE 1 [] hf rfl ?_, oE 2 [] hf rfl ?_, oE 3 [2] hf rfl ?_, oE 4 [3] hf rfl ?_, oE 5 [] hf rfl ?_, oE 6 [5] hf rfl ?_, oE 7 [4, 6] hf rfl ?_, oE 8 [0, 1, 7] hf rfl ?_, oE 9 [8] hf rfl ?_, trivial⟩
      all_goals intro vs W hS hp hx KO hKO
      all_goals simp only [Act.put, sA, sZ, sS] at hKO
      ·have fc0 := BxA.cell (hS.2.1) 0 (v := .int .i64 (K : Int)) rfl; go_simp; exact hKO _ W (.refl W) rfl
      ·go_simp; exact hKO _ W (.refl W) rfl
      ·go_simp; exact hKO _ W (.refl W) rfl
      ·have e2 := isOf hp.1; simp only [e2] at hKO; have fc0 := BxA.cell (hS.2.1) 0 (v := .int .i64 (K : Int)) rfl; go_simp; exact hKO _ W (.refl W) rfl
      ·have e3 := isOf hp.1; simp only [e3] at hKO; go_simp
       refine (Tryz.adamOne K HK.out _).mono ?_
       rintro e W1 ⟨rfl, hE⟩
       exact hKO _ W1 hE rfl
      ·go_simp; exact hKO _ W (.refl W) rfl
      ·have e5 := isOf hp.1; simp only [e5] at hKO; have fc0 := hS.2.2.2.1.cell0; go_simp; exact hKO _ W (.refl W) rfl
      ·have e4 := isOf hp.1; have e6 := isOf hp.2.1; simp only [e4, e6] at hKO; go_simp; exact hKO _ W (.refl W) rfl
      ·have e0 := isOf hp.1; have e1 := isOf hp.2.1; have e7 := isOf hp.2.2.1; simp only [e0, e1, e7] at hKO; go_simp
       refine (Tryz.adamDivS K HK.out (a := zm) (b := X0) (mixO_i64 Gzm.out) HI0.out.1 (by have := HI0.out.2; omega) Gzx.out _).mono ?_
       rintro e W1 ⟨rfl, hE⟩
       exact hKO _ W1 hE rfl
      ·have e8 := isOf hp.1; simp only [e8] at hKO; go_simp; exact hKO _ W (.refl W) rfl
     intro vs W25 hS hp
     clear szw25 E0 p7 p8 p9
     obtain ⟨E0, p7, p8, p9, sz25⟩ := hS
     obtain ⟨h25_0, h25_1, h25_2, h25_3, h25_4, h25_5, h25_6, h25_7, h25_8, h25_9, -⟩ := hp
     replace h25_0 : vs 0 = .agg #[.int .i64 (K : Int)] := h25_0
     replace h25_1 : vs 1 = .int .i64 zm := h25_1
     replace h25_2 : vs 2 = .pointer (some ⟨w.heap.size, 0, none⟩) := h25_2
     replace h25_3 : vs 3 = .int .i64 (K : Int) := h25_3
     replace h25_4 : vs 4 = .int .i64 (oneZ K) := h25_4
     replace h25_5 : vs 5 = .pointer (some ⟨w.heap.size + 1 + 1, 0, none⟩) := h25_5
     replace h25_6 : vs 6 = .int .i64 p0 := h25_6
     replace h25_7 : vs 7 = .int .i64 X0 := h25_7
     replace h25_8 : vs 8 = .int .i64 zx := h25_8
     replace h25_9 : vs 9 = .int .i64 zx := h25_9
     simp only [h25_0, h25_1, h25_2, h25_3, h25_4, h25_5, h25_6, h25_7, h25_8, h25_9]
     clear h25_0 h25_1 h25_2 h25_3 h25_4 h25_5 h25_6 h25_7 h25_8 h25_9
     have kp7_0 := p7.cell 0 (v := .int .i64 (K : Int)) rfl
     obtain ⟨kp8_0, kp8_1, kp8_2, kp8_3, kp8_4, kp8_5⟩ := p8.c6
     obtain ⟨kp9_0, kp9_1⟩ := p9.c2
     go_upto_region 7 with (fail)
     clear kp7_0 kp8_0 kp8_1 kp8_2 kp8_3 kp8_4 kp8_5 kp9_0 kp9_1
     cases gzy : divO K zv X1
     ·have Gzy := Lib.hid gzy
      clear gzy
      have HN : Hid (placeO K ⟨lr, b1, b2, eps, wd, true⟩ p0 p1 wt mt vt gt = none) := Lib.hid (by unfold placeO gradO lessO; simp only [HX0.out, HX1.out, Gzm.out, Gzq.out, Gzv.out, Gzx.out, Gzy.out, Option.bind_some, Option.bind_none, if_true])
      have szw26 := Ext.size E0
      refine region_gs [.one fun v _ => v = .agg #[.int .i64 (K : Int)],
        .one fun v _ => v = .int .i64 zv,
        .one fun v _ => v = .pointer (some ⟨w.heap.size, 0, none⟩),
        .one fun v _ => v = .int .i64 (K : Int),
        .one fun v _ => v = .int .i64 (oneZ K),
        .one fun v _ => v = .pointer (some ⟨w.heap.size + 1 + 1, 1, none⟩),
        .one fun v _ => v = .int .i64 p1,
        .one fun v _ => v = .int .i64 X1,
        .one fun _ _ => False,
        .one fun _ _ => False]
       (fun W => Ext w W ∧ BxA W w.heap.size 54 #[.int .i64 (K : Int)] ∧ BxA W (w.heap.size + 1) 23 #[.int .i64 lr, .int .i64 b1, .int .i64 b2, .int .i64 eps, .int .i64 wd, .bool true] ∧ Bx2 W (w.heap.size + 1 + 1) 24 (.int .i64 p0) (.int .i64 p1) ∧ W25.heap.size ≤ W.heap.size) ⟨Good.is _, Good.is _, Good.is _, Good.is _, Good.is _, Good.is _, Good.is _, Good.is _, Good.never, Good.never, trivial⟩
       ⟨E0, p7, p8, p9, Nat.le_refl _⟩ (A := ?A26) ?hA26 ?howe26 ?hfin26
      case hA26 =>
       intro vs
       simp only [putAll, Act.put, sA, sZ, sS, Nat.zero_add, Nat.reduceAdd]
       exact rfl
      case howe26 =>
       clear E0 p7 p8 p9
       intro hf
       refine ⟨oE 0 [] hf rfl ?_, oE 1 [] hf rfl ?_, oE 2 [] hf rfl ?_, oE 3 [2] hf rfl ?_, oE 4 [3] hf rfl ?_, oE 5 [] hf rfl ?_, oE 6 [5] hf rfl ?_, oE 7 [4, 6] hf rfl ?_, oE 8 [0, 1, 7] hf rfl ?_, oE 9 [8] hf rfl ?_, trivial⟩
       all_goals intro vs W hS hp hx KO hKO
       all_goals simp only [Act.put, sA, sZ, sS] at hKO
       ·have fc0 := BxA.cell (hS.2.1) 0 (v := .int .i64 (K : Int)) rfl; go_simp; exact hKO _ W (.refl W) rfl
       ·go_simp; exact hKO _ W (.refl W) rfl
       ·go_simp; exact hKO _ W (.refl W) rfl
       ·have e2 := isOf hp.1; simp only [e2] at hKO; have fc0 := BxA.cell (hS.2.1) 0 (v := .int .i64 (K : Int)) rfl; go_simp; exact hKO _ W (.refl W) rfl
       ·have e3 := isOf hp.1; simp only [e3] at hKO; go_simp
        refine (Tryz.adamOne K HK.out _).mono ?_
        rintro e W1 ⟨rfl, hE⟩
        exact hKO _ W1 hE rfl
       ·go_simp; exact hKO _ W (.refl W) rfl
       ·have e5 := isOf hp.1; simp only [e5] at hKO; have fc1 := hS.2.2.2.1.cell1; go_simp; exact hKO _ W (.refl W) rfl
       ·have e4 := isOf hp.1; have e6 := isOf hp.2.1; simp only [e4, e6] at hKO; go_simp; exact hKO _ W (.refl W) rfl
       ·have e0 := isOf hp.1; have e1 := isOf hp.2.1; have e7 := isOf hp.2.2.1; simp only [e0, e1, e7] at hKO; go_simp
        refine (Tryz.adamDivN K HK.out (a := zv) (b := X1) (mixO_i64 Gzv.out) HI1.out.1 (by have := HI1.out.2; omega) Gzy.out _).mono ?_
        rintro e W1 ⟨⟨c, hc, rfl⟩, hE⟩
        exact ⟨rfl, SaysP.no HN.out hc, Ext.trans hS.1 hE⟩
       ·have q8 := hp.1
        exact False.elim q8
      intro vs W26 hS hp
      obtain ⟨h26_0, h26_1, h26_2, h26_3, h26_4, h26_5, h26_6, h26_7, h26_8, h26_9, -⟩ := hp
      exact False.elim h26_8
     ·rename_i zy
      have Gzy := Lib.hid gzy
      clear gzy
      have HY : Hid (0 ≤ zy) := Lib.hid (divO_nonneg Gzy.out (mixO_nonneg Gzv.out HP.out.b20 HP.out.b21 HP.out.v0 (mulO_sq Gzq.out)) HI1.out.2)
      have szw27 := Ext.size E0
      refine region_gs [.one fun v _ => v = .agg #[.int .i64 (K : Int)],
        .one fun v _ => v = .int .i64 zv,
        .one fun v _ => v = .pointer (some ⟨w.heap.size, 0, none⟩),
        .one fun v _ => v = .int .i64 (K : Int),
        .one fun v _ => v = .int .i64 (oneZ K),
        .one fun v _ => v = .pointer (some ⟨w.heap.size + 1 + 1, 1, none⟩),
        .one fun v _ => v = .int .i64 p1,
        .one fun v _ => v = .int .i64 X1,
        .one fun v _ => v = .int .i64 zy,
        .one fun v _ => v = .int .i64 zy]
       (fun W => Ext w W ∧ BxA W w.heap.size 54 #[.int .i64 (K : Int)] ∧ BxA W (w.heap.size + 1) 23 #[.int .i64 lr, .int .i64 b1, .int .i64 b2, .int .i64 eps, .int .i64 wd, .bool true] ∧ Bx2 W (w.heap.size + 1 + 1) 24 (.int .i64 p0) (.int .i64 p1) ∧ W25.heap.size ≤ W.heap.size) ⟨Good.is _, Good.is _, Good.is _, Good.is _, Good.is _, Good.is _, Good.is _, Good.is _, Good.is _, Good.is _, trivial⟩
       ⟨E0, p7, p8, p9, Nat.le_refl _⟩ (A := ?A27) ?hA27 ?howe27 ?hfin27
      case hA27 =>
       intro vs
       simp only [putAll, Act.put, sA, sZ, sS, Nat.zero_add, Nat.reduceAdd]
       exact rfl
      case howe27 =>
       clear E0 p7 p8 p9
       intro hf
       refine ⟨oE 0 [] hf rfl ?_, oE 1 [] hf rfl ?_, oE 2 [] hf rfl ?_, oE 3 [2] hf rfl ?_, oE 4 [3] hf rfl ?_, oE 5 [] hf rfl ?_, oE 6 [5] hf rfl ?_, oE 7 [4, 6] hf rfl ?_, oE 8 [0, 1, 7] hf rfl ?_, oE 9 [8] hf rfl ?_, trivial⟩
       all_goals intro vs W hS hp hx KO hKO
       all_goals simp only [Act.put, sA, sZ, sS] at hKO
       ·have fc0 := BxA.cell (hS.2.1) 0 (v := .int .i64 (K : Int)) rfl; go_simp; exact hKO _ W (.refl W) rfl
       ·go_simp; exact hKO _ W (.refl W) rfl
       ·go_simp; exact hKO _ W (.refl W) rfl
       ·have e2 := isOf hp.1; simp only [e2] at hKO; have fc0 := BxA.cell (hS.2.1) 0 (v := .int .i64 (K : Int)) rfl; go_simp; exact hKO _ W (.refl W) rfl
       ·have e3 := isOf hp.1; simp only [e3] at hKO; go_simp
        refine (Tryz.adamOne K HK.out _).mono ?_
        rintro e W1 ⟨rfl, hE⟩
        exact hKO _ W1 hE rfl
       ·go_simp; exact hKO _ W (.refl W) rfl
       ·have e5 := isOf hp.1; simp only [e5] at hKO; have fc1 := hS.2.2.2.1.cell1; go_simp; exact hKO _ W (.refl W) rfl
       ·have e4 := isOf hp.1; have e6 := isOf hp.2.1; simp only [e4, e6] at hKO; go_simp; exact hKO _ W (.refl W) rfl
       ·have e0 := isOf hp.1; have e1 := isOf hp.2.1; have e7 := isOf hp.2.2.1; simp only [e0, e1, e7] at hKO; go_simp
        refine (Tryz.adamDivS K HK.out (a := zv) (b := X1) (mixO_i64 Gzv.out) HI1.out.1 (by have := HI1.out.2; omega) Gzy.out _).mono ?_
        rintro e W1 ⟨rfl, hE⟩
        exact hKO _ W1 hE rfl
       ·have e8 := isOf hp.1; simp only [e8] at hKO; go_simp; exact hKO _ W (.refl W) rfl
      intro vs W27 hS hp
      clear szw27 E0 p7 p8 p9
      obtain ⟨E0, p7, p8, p9, sz27⟩ := hS
      obtain ⟨h27_0, h27_1, h27_2, h27_3, h27_4, h27_5, h27_6, h27_7, h27_8, h27_9, -⟩ := hp
      replace h27_0 : vs 0 = .agg #[.int .i64 (K : Int)] := h27_0
      replace h27_1 : vs 1 = .int .i64 zv := h27_1
      replace h27_2 : vs 2 = .pointer (some ⟨w.heap.size, 0, none⟩) := h27_2
      replace h27_3 : vs 3 = .int .i64 (K : Int) := h27_3
      replace h27_4 : vs 4 = .int .i64 (oneZ K) := h27_4
      replace h27_5 : vs 5 = .pointer (some ⟨w.heap.size + 1 + 1, 1, none⟩) := h27_5
      replace h27_6 : vs 6 = .int .i64 p1 := h27_6
      replace h27_7 : vs 7 = .int .i64 X1 := h27_7
      replace h27_8 : vs 8 = .int .i64 zy := h27_8
      replace h27_9 : vs 9 = .int .i64 zy := h27_9
      simp only [h27_0, h27_1, h27_2, h27_3, h27_4, h27_5, h27_6, h27_7, h27_8, h27_9]
      clear h27_0 h27_1 h27_2 h27_3 h27_4 h27_5 h27_6 h27_7 h27_8 h27_9
      have kp7_0 := p7.cell 0 (v := .int .i64 (K : Int)) rfl
      obtain ⟨kp8_0, kp8_1, kp8_2, kp8_3, kp8_4, kp8_5⟩ := p8.c6
      obtain ⟨kp9_0, kp9_1⟩ := p9.c2
      go_upto_region 8 with (fail)
      clear kp7_0 kp8_0 kp8_1 kp8_2 kp8_3 kp8_4 kp8_5 kp9_0 kp9_1
      cases gzs : addO (rootW K zy) eps
      ·have Gzs := Lib.hid gzs
       clear gzs
       have HN : Hid (placeO K ⟨lr, b1, b2, eps, wd, true⟩ p0 p1 wt mt vt gt = none) := Lib.hid (by unfold placeO gradO lessO; simp only [HX0.out, HX1.out, Gzm.out, Gzq.out, Gzv.out, Gzx.out, Gzy.out, Gzs.out, Option.bind_some, Option.bind_none, if_true])
       have szw28 := Ext.size E0
       refine region_gs [.one fun v _ => v = .agg #[.int .i64 (K : Int)],
         .one fun v _ => v = .int .i64 zx,
         .one fun v _ => v = .agg #[.int .i64 (K : Int)],
         .one fun v _ => v = .agg #[.int .i64 (K : Int)],
         .one fun v _ => v = .int .i64 zy,
         .one fun v _ => v = .int .i64 (rootW K zy),
         .one fun v _ => v = .pointer (some ⟨w.heap.size + 1, 3, none⟩),
         .one fun v _ => v = .int .i64 eps,
         .one fun _ _ => False,
         .one fun _ _ => False,
         .one fun _ _ => False]
        (fun W => Ext w W ∧ BxA W w.heap.size 54 #[.int .i64 (K : Int)] ∧ BxA W (w.heap.size + 1) 23 #[.int .i64 lr, .int .i64 b1, .int .i64 b2, .int .i64 eps, .int .i64 wd, .bool true] ∧ Bx2 W (w.heap.size + 1 + 1) 24 (.int .i64 p0) (.int .i64 p1) ∧ W27.heap.size ≤ W.heap.size) ⟨Good.is _, Good.is _, Good.is _, Good.is _, Good.is _, Good.is _, Good.is _, Good.is _, Good.never, Good.never, Good.never, trivial⟩
        ⟨E0, p7, p8, p9, Nat.le_refl _⟩ (A := ?A28) ?hA28 ?howe28 ?hfin28
       case hA28 =>
        intro vs
        simp only [putAll, Act.put, sA, sZ, sS, Nat.zero_add, Nat.reduceAdd]
        exact rfl
       case howe28 =>
        clear E0 p7 p8 p9
        intro hf
        refine ⟨oE 0 [] hf rfl ?_, oE 1 [] hf rfl ?_, oE 2 [] hf rfl ?_, oE 3 [] hf rfl ?_, oE 4 [] hf rfl ?_, oE 5 [3, 4] hf rfl ?_, oE 6 [] hf rfl ?_, oE 7 [6] hf rfl ?_, oE 8 [2, 5, 7] hf rfl ?_, oE 9 [8] hf rfl ?_, oE 10 [9] hf rfl ?_, trivial⟩
        all_goals intro vs W hS hp hx KO hKO
        all_goals simp only [Act.put, sA, sZ, sS] at hKO
        ·have fc0 := BxA.cell (hS.2.1) 0 (v := .int .i64 (K : Int)) rfl; go_simp; exact hKO _ W (.refl W) rfl
        ·go_simp; exact hKO _ W (.refl W) rfl
        ·have fc0 := BxA.cell (hS.2.1) 0 (v := .int .i64 (K : Int)) rfl; go_simp; exact hKO _ W (.refl W) rfl
        ·have fc0 := BxA.cell (hS.2.1) 0 (v := .int .i64 (K : Int)) rfl; go_simp; exact hKO _ W (.refl W) rfl
        ·go_simp; exact hKO _ W (.refl W) rfl
        ·have e3 := isOf hp.1; have e4 := isOf hp.2.1; simp only [e3, e4] at hKO; go_simp
         refine (Tryz.adamRoot K HK.out (okZ_i64 Gzy.out) HY.out _).mono ?_
         rintro e W1 ⟨rfl, hE⟩
         exact hKO _ W1 hE rfl
        ·go_simp; exact hKO _ W (.refl W) rfl
        ·have e6 := isOf hp.1; simp only [e6] at hKO; have fc3 := BxA.cell (hS.2.2.1) 3 (v := .int .i64 eps) rfl; go_simp; exact hKO _ W (.refl W) rfl
        ·have e2 := isOf hp.1; have e5 := isOf hp.2.1; have e7 := isOf hp.2.2.1; simp only [e2, e5, e7] at hKO; go_simp
         refine (Tryz.adamAddN K HK.out (a := (rootW K zy)) (b := eps) (rootW_i64 HK.out (okZ_i64 Gzy.out)) HP.out.eps Gzs.out _).mono ?_
         rintro e W1 ⟨⟨c, hc, rfl⟩, hE⟩
         exact ⟨rfl, SaysP.no HN.out hc, Ext.trans hS.1 hE⟩
        ·have q8 := hp.1
         exact False.elim q8
        ·have q9 := hp.1
         exact False.elim q9
       intro vs W28 hS hp
       obtain ⟨h28_0, h28_1, h28_2, h28_3, h28_4, h28_5, h28_6, h28_7, h28_8, h28_9, h28_10, -⟩ := hp
       exact False.elim h28_8
      ·rename_i zs
       have Gzs := Lib.hid gzs
       clear gzs
       have HS : Hid (0 < zs) := Lib.hid (addO_pos Gzs.out (rootW_nonneg K zy) HP.out.eps0)
       cases gzu : divO K zx zs
       ·have Gzu := Lib.hid gzu
        clear gzu
        have HN : Hid (placeO K ⟨lr, b1, b2, eps, wd, true⟩ p0 p1 wt mt vt gt = none) := Lib.hid (by unfold placeO gradO lessO; simp only [HX0.out, HX1.out, Gzm.out, Gzq.out, Gzv.out, Gzx.out, Gzy.out, Gzs.out, Gzu.out, Option.bind_some, Option.bind_none, if_true])
        have szw29 := Ext.size E0
        refine region_gs [.one fun v _ => v = .agg #[.int .i64 (K : Int)],
          .one fun v _ => v = .int .i64 zx,
          .one fun v _ => v = .agg #[.int .i64 (K : Int)],
          .one fun v _ => v = .agg #[.int .i64 (K : Int)],
          .one fun v _ => v = .int .i64 zy,
          .one fun v _ => v = .int .i64 (rootW K zy),
          .one fun v _ => v = .pointer (some ⟨w.heap.size + 1, 3, none⟩),
          .one fun v _ => v = .int .i64 eps,
          .one fun v _ => v = .int .i64 zs,
          .one fun _ _ => False,
          .one fun _ _ => False]
         (fun W => Ext w W ∧ BxA W w.heap.size 54 #[.int .i64 (K : Int)] ∧ BxA W (w.heap.size + 1) 23 #[.int .i64 lr, .int .i64 b1, .int .i64 b2, .int .i64 eps, .int .i64 wd, .bool true] ∧ Bx2 W (w.heap.size + 1 + 1) 24 (.int .i64 p0) (.int .i64 p1) ∧ W27.heap.size ≤ W.heap.size) ⟨Good.is _, Good.is _, Good.is _, Good.is _, Good.is _, Good.is _, Good.is _, Good.is _, Good.is _, Good.never, Good.never, trivial⟩
         ⟨E0, p7, p8, p9, Nat.le_refl _⟩ (A := ?A29) ?hA29 ?howe29 ?hfin29
        case hA29 =>
         intro vs
         simp only [putAll, Act.put, sA, sZ, sS, Nat.zero_add, Nat.reduceAdd]
         exact rfl
        case howe29 =>
         clear E0 p7 p8 p9
         intro hf
         refine ⟨oE 0 [] hf rfl ?_, oE 1 [] hf rfl ?_, oE 2 [] hf rfl ?_, oE 3 [] hf rfl ?_, oE 4 [] hf rfl ?_, oE 5 [3, 4] hf rfl ?_, oE 6 [] hf rfl ?_, oE 7 [6] hf rfl ?_, oE 8 [2, 5, 7] hf rfl ?_, oE 9 [0, 1, 8] hf rfl ?_, oE 10 [9] hf rfl ?_, trivial⟩
         all_goals intro vs W hS hp hx KO hKO
         all_goals simp only [Act.put, sA, sZ, sS] at hKO
         ·have fc0 := BxA.cell (hS.2.1) 0 (v := .int .i64 (K : Int)) rfl; go_simp; exact hKO _ W (.refl W) rfl
         ·go_simp; exact hKO _ W (.refl W) rfl
         ·have fc0 := BxA.cell (hS.2.1) 0 (v := .int .i64 (K : Int)) rfl; go_simp; exact hKO _ W (.refl W) rfl
         ·have fc0 := BxA.cell (hS.2.1) 0 (v := .int .i64 (K : Int)) rfl; go_simp; exact hKO _ W (.refl W) rfl
         ·go_simp; exact hKO _ W (.refl W) rfl
         ·have e3 := isOf hp.1; have e4 := isOf hp.2.1; simp only [e3, e4] at hKO; go_simp
          refine (Tryz.adamRoot K HK.out (okZ_i64 Gzy.out) HY.out _).mono ?_
          rintro e W1 ⟨rfl, hE⟩
          exact hKO _ W1 hE rfl
         ·go_simp; exact hKO _ W (.refl W) rfl
         ·have e6 := isOf hp.1; simp only [e6] at hKO; have fc3 := BxA.cell (hS.2.2.1) 3 (v := .int .i64 eps) rfl; go_simp; exact hKO _ W (.refl W) rfl
         ·have e2 := isOf hp.1; have e5 := isOf hp.2.1; have e7 := isOf hp.2.2.1; simp only [e2, e5, e7] at hKO; go_simp
          refine (Tryz.adamAddS K HK.out (a := (rootW K zy)) (b := eps) (rootW_i64 HK.out (okZ_i64 Gzy.out)) HP.out.eps Gzs.out _).mono ?_
          rintro e W1 ⟨rfl, hE⟩
          exact hKO _ W1 hE rfl
         ·have e0 := isOf hp.1; have e1 := isOf hp.2.1; have e8 := isOf hp.2.2.1; simp only [e0, e1, e8] at hKO; go_simp
          refine (Tryz.adamDivN K HK.out (a := zx) (b := zs) (okZ_i64 Gzx.out) (okZ_i64 Gzs.out) (by have := HS.out; omega) Gzu.out _).mono ?_
          rintro e W1 ⟨⟨c, hc, rfl⟩, hE⟩
          exact ⟨rfl, SaysP.no HN.out hc, Ext.trans hS.1 hE⟩
         ·have q9 := hp.1
          exact False.elim q9
        intro vs W29 hS hp
        obtain ⟨h29_0, h29_1, h29_2, h29_3, h29_4, h29_5, h29_6, h29_7, h29_8, h29_9, h29_10, -⟩ := hp
        exact False.elim h29_9
       ·rename_i zu
        have Gzu := Lib.hid gzu
        clear gzu; have szw30 := Ext.size E0
        refine region_gs [.one fun v _ => v = .agg #[.int .i64 (K : Int)],
          .one fun v _ => v = .int .i64 zx,
          .one fun v _ => v = .agg #[.int .i64 (K : Int)],
          .one fun v _ => v = .agg #[.int .i64 (K : Int)],
          .one fun v _ => v = .int .i64 zy,
          .one fun v _ => v = .int .i64 (rootW K zy),
          .one fun v _ => v = .pointer (some ⟨w.heap.size + 1, 3, none⟩),
          .one fun v _ => v = .int .i64 eps,
          .one fun v _ => v = .int .i64 zs,
          .one fun v _ => v = .int .i64 zu,
          .one fun v _ => v = .int .i64 zu]
         (fun W => Ext w W ∧ BxA W w.heap.size 54 #[.int .i64 (K : Int)] ∧ BxA W (w.heap.size + 1) 23 #[.int .i64 lr, .int .i64 b1, .int .i64 b2, .int .i64 eps, .int .i64 wd, .bool true] ∧ Bx2 W (w.heap.size + 1 + 1) 24 (.int .i64 p0) (.int .i64 p1) ∧ W27.heap.size ≤ W.heap.size) ⟨Good.is _, Good.is _, Good.is _, Good.is _, Good.is _, Good.is _, Good.is _, Good.is _, Good.is _, Good.is _, Good.is _, trivial⟩
         ⟨E0, p7, p8, p9, Nat.le_refl _⟩ (A := ?A30) ?hA30 ?howe30 ?hfin30
        case hA30 =>
         intro vs
         simp only [putAll, Act.put, sA, sZ, sS, Nat.zero_add, Nat.reduceAdd]
         exact rfl
        case howe30 =>
         clear E0 p7 p8 p9
         intro hf
         refine ⟨oE 0 [] hf rfl ?_, oE 1 [] hf rfl ?_, oE 2 [] hf rfl ?_, oE 3 [] hf rfl ?_, oE 4 [] hf rfl ?_, oE 5 [3, 4] hf rfl ?_, oE 6 [] hf rfl ?_, oE 7 [6] hf rfl ?_, oE 8 [2, 5, 7] hf rfl ?_, oE 9 [0, 1, 8] hf rfl ?_, oE 10 [9] hf rfl ?_, trivial⟩
         all_goals intro vs W hS hp hx KO hKO
         all_goals simp only [Act.put, sA, sZ, sS] at hKO
         ·have fc0 := BxA.cell (hS.2.1) 0 (v := .int .i64 (K : Int)) rfl; go_simp; exact hKO _ W (.refl W) rfl
         ·go_simp; exact hKO _ W (.refl W) rfl
         ·have fc0 := BxA.cell (hS.2.1) 0 (v := .int .i64 (K : Int)) rfl; go_simp; exact hKO _ W (.refl W) rfl
         ·have fc0 := BxA.cell (hS.2.1) 0 (v := .int .i64 (K : Int)) rfl; go_simp; exact hKO _ W (.refl W) rfl
         ·go_simp; exact hKO _ W (.refl W) rfl
         ·have e3 := isOf hp.1; have e4 := isOf hp.2.1; simp only [e3, e4] at hKO; go_simp
          refine (Tryz.adamRoot K HK.out (okZ_i64 Gzy.out) HY.out _).mono ?_
          rintro e W1 ⟨rfl, hE⟩
          exact hKO _ W1 hE rfl
         ·go_simp; exact hKO _ W (.refl W) rfl
         ·have e6 := isOf hp.1; simp only [e6] at hKO; have fc3 := BxA.cell (hS.2.2.1) 3 (v := .int .i64 eps) rfl; go_simp; exact hKO _ W (.refl W) rfl
         ·have e2 := isOf hp.1; have e5 := isOf hp.2.1; have e7 := isOf hp.2.2.1; simp only [e2, e5, e7] at hKO; go_simp
          refine (Tryz.adamAddS K HK.out (a := (rootW K zy)) (b := eps) (rootW_i64 HK.out (okZ_i64 Gzy.out)) HP.out.eps Gzs.out _).mono ?_
          rintro e W1 ⟨rfl, hE⟩
          exact hKO _ W1 hE rfl
         ·have e0 := isOf hp.1; have e1 := isOf hp.2.1; have e8 := isOf hp.2.2.1; simp only [e0, e1, e8] at hKO; go_simp
          refine (Tryz.adamDivS K HK.out (a := zx) (b := zs) (okZ_i64 Gzx.out) (okZ_i64 Gzs.out) (by have := HS.out; omega) Gzu.out _).mono ?_
          rintro e W1 ⟨rfl, hE⟩
          exact hKO _ W1 hE rfl
         ·have e9 := isOf hp.1; simp only [e9] at hKO; go_simp; exact hKO _ W (.refl W) rfl
        intro vs W30 hS hp
        clear szw30 E0 p7 p8 p9
        obtain ⟨E0, p7, p8, p9, sz30⟩ := hS
        obtain ⟨h30_0, h30_1, h30_2, h30_3, h30_4, h30_5, h30_6, h30_7, h30_8, h30_9, h30_10, -⟩ := hp
        replace h30_0 : vs 0 = .agg #[.int .i64 (K : Int)] := h30_0
        replace h30_1 : vs 1 = .int .i64 zx := h30_1
        replace h30_2 : vs 2 = .agg #[.int .i64 (K : Int)] := h30_2
        replace h30_3 : vs 3 = .agg #[.int .i64 (K : Int)] := h30_3
        replace h30_4 : vs 4 = .int .i64 zy := h30_4
        replace h30_5 : vs 5 = .int .i64 (rootW K zy) := h30_5
        replace h30_6 : vs 6 = .pointer (some ⟨w.heap.size + 1, 3, none⟩) := h30_6
        replace h30_7 : vs 7 = .int .i64 eps := h30_7
        replace h30_8 : vs 8 = .int .i64 zs := h30_8
        replace h30_9 : vs 9 = .int .i64 zu := h30_9
        replace h30_10 : vs 10 = .int .i64 zu := h30_10
        simp only [h30_0, h30_1, h30_2, h30_3, h30_4, h30_5, h30_6, h30_7, h30_8, h30_9, h30_10]
        clear h30_0 h30_1 h30_2 h30_3 h30_4 h30_5 h30_6 h30_7 h30_8 h30_9 h30_10
        have kp7_0 := p7.cell 0 (v := .int .i64 (K : Int)) rfl
        obtain ⟨kp8_0, kp8_1, kp8_2, kp8_3, kp8_4, kp8_5⟩ := p8.c6
        obtain ⟨kp9_0, kp9_1⟩ := p9.c2
        go_upto_region 9 with (fail)
        clear kp7_0 kp8_0 kp8_1 kp8_2 kp8_3 kp8_4 kp8_5 kp9_0 kp9_1
        cases gzt2 : mulO K lr zu
        ·have Gzt2 := Lib.hid gzt2
         clear gzt2
         have HN : Hid (placeO K ⟨lr, b1, b2, eps, wd, true⟩ p0 p1 wt mt vt gt = none) := Lib.hid (by unfold placeO gradO lessO; simp only [HX0.out, HX1.out, Gzm.out, Gzq.out, Gzv.out, Gzx.out, Gzy.out, Gzs.out, Gzu.out, Gzt2.out, Option.bind_some, Option.bind_none, if_true])
         have szw31 := Ext.size E0
         refine region_gs [.one fun v _ => v = .agg #[.int .i64 (K : Int)],
           .one fun v _ => v = .int .i64 wt,
           .one fun v _ => v = .agg #[.int .i64 (K : Int)],
           .one fun v _ => v = .pointer (some ⟨w.heap.size + 1, 0, none⟩),
           .one fun v _ => v = .int .i64 lr,
           .one fun v _ => v = .int .i64 zu,
           .one fun _ _ => False,
           .one fun _ _ => False,
           .one fun _ _ => False]
          (fun W => Ext w W ∧ BxA W w.heap.size 54 #[.int .i64 (K : Int)] ∧ BxA W (w.heap.size + 1) 23 #[.int .i64 lr, .int .i64 b1, .int .i64 b2, .int .i64 eps, .int .i64 wd, .bool true] ∧ Bx2 W (w.heap.size + 1 + 1) 24 (.int .i64 p0) (.int .i64 p1) ∧ W30.heap.size ≤ W.heap.size) ⟨Good.is _, Good.is _, Good.is _, Good.is _, Good.is _, Good.is _, Good.never, Good.never, Good.never, trivial⟩
          ⟨E0, p7, p8, p9, Nat.le_refl _⟩ (A := ?A31) ?hA31 ?howe31 ?hfin31
         case hA31 =>
          intro vs
          simp only [putAll, Act.put, sA, sZ, sS, Nat.zero_add, Nat.reduceAdd]
          exact rfl
         case howe31 =>
          clear E0 p7 p8 p9
          intro hf
          refine ⟨oE 0 [] hf rfl ?_, oE 1 [] hf rfl ?_, oE 2 [] hf rfl ?_, oE 3 [] hf rfl ?_, oE 4 [3] hf rfl ?_, oE 5 [] hf rfl ?_, oE 6 [2, 4, 5] hf rfl ?_, oE 7 [6] hf rfl ?_, oE 8 [7] hf rfl ?_, trivial⟩
          all_goals intro vs W hS hp hx KO hKO
          all_goals simp only [Act.put, sA, sZ, sS] at hKO
          ·have fc0 := BxA.cell (hS.2.1) 0 (v := .int .i64 (K : Int)) rfl; go_simp; exact hKO _ W (.refl W) rfl
          ·go_simp; exact hKO _ W (.refl W) rfl
          ·have fc0 := BxA.cell (hS.2.1) 0 (v := .int .i64 (K : Int)) rfl; go_simp; exact hKO _ W (.refl W) rfl
          ·go_simp; exact hKO _ W (.refl W) rfl
          ·have e3 := isOf hp.1; simp only [e3] at hKO; have fc0 := BxA.cell (hS.2.2.1) 0 (v := .int .i64 lr) rfl; go_simp; exact hKO _ W (.refl W) rfl
          ·go_simp; exact hKO _ W (.refl W) rfl
          ·have e2 := isOf hp.1; have e4 := isOf hp.2.1; have e5 := isOf hp.2.2.1; simp only [e2, e4, e5] at hKO; go_simp
           refine (Tryz.adamMulN K HK.out (a := lr) (b := zu) HP.out.lr (okZ_i64 Gzu.out) Gzt2.out _).mono ?_
           rintro e W1 ⟨⟨c, hc, rfl⟩, hE⟩
           exact ⟨rfl, SaysP.no HN.out hc, Ext.trans hS.1 hE⟩
          ·have q6 := hp.1
           exact False.elim q6
          ·have q7 := hp.1
           exact False.elim q7
         intro vs W31 hS hp
         obtain ⟨h31_0, h31_1, h31_2, h31_3, h31_4, h31_5, h31_6, h31_7, h31_8, -⟩ := hp
         exact False.elim h31_6
        ·rename_i zt2
         have Gzt2 := Lib.hid gzt2
         clear gzt2
         cases gzn : subO wt zt2
         ·have Gzn := Lib.hid gzn
          clear gzn
          have HN : Hid (placeO K ⟨lr, b1, b2, eps, wd, true⟩ p0 p1 wt mt vt gt = none) := Lib.hid (by unfold placeO gradO lessO; simp only [HX0.out, HX1.out, Gzm.out, Gzq.out, Gzv.out, Gzx.out, Gzy.out, Gzs.out, Gzu.out, Gzt2.out, Gzn.out, Option.bind_some, Option.bind_none, if_true])
          have szw32 := Ext.size E0
          refine region_gs [.one fun v _ => v = .agg #[.int .i64 (K : Int)],
            .one fun v _ => v = .int .i64 wt,
            .one fun v _ => v = .agg #[.int .i64 (K : Int)],
            .one fun v _ => v = .pointer (some ⟨w.heap.size + 1, 0, none⟩),
            .one fun v _ => v = .int .i64 lr,
            .one fun v _ => v = .int .i64 zu,
            .one fun v _ => v = .int .i64 zt2,
            .one fun _ _ => False,
            .one fun _ _ => False]
           (fun W => Ext w W ∧ BxA W w.heap.size 54 #[.int .i64 (K : Int)] ∧ BxA W (w.heap.size + 1) 23 #[.int .i64 lr, .int .i64 b1, .int .i64 b2, .int .i64 eps, .int .i64 wd, .bool true] ∧ Bx2 W (w.heap.size + 1 + 1) 24 (.int .i64 p0) (.int .i64 p1) ∧ W30.heap.size ≤ W.heap.size) ⟨Good.is _, Good.is _, Good.is _, Good.is _, Good.is _, Good.is _, Good.is _, Good.never, Good.never, trivial⟩
           ⟨E0, p7, p8, p9, Nat.le_refl _⟩ (A := ?A32) ?hA32 ?howe32 ?hfin32
          case hA32 =>
           intro vs
           simp only [putAll, Act.put, sA, sZ, sS, Nat.zero_add, Nat.reduceAdd]
           exact rfl
          case howe32 =>
           clear E0 p7 p8 p9
           intro hf
           refine ⟨oE 0 [] hf rfl ?_, oE 1 [] hf rfl ?_, oE 2 [] hf rfl ?_, oE 3 [] hf rfl ?_, oE 4 [3] hf rfl ?_, oE 5 [] hf rfl ?_, oE 6 [2, 4, 5] hf rfl ?_, oE 7 [0, 1, 6] hf rfl ?_, oE 8 [7] hf rfl ?_, trivial⟩
           all_goals intro vs W hS hp hx KO hKO
           all_goals simp only [Act.put, sA, sZ, sS] at hKO
           ·have fc0 := BxA.cell (hS.2.1) 0 (v := .int .i64 (K : Int)) rfl; go_simp; exact hKO _ W (.refl W) rfl
           ·go_simp; exact hKO _ W (.refl W) rfl
           ·have fc0 := BxA.cell (hS.2.1) 0 (v := .int .i64 (K : Int)) rfl; go_simp; exact hKO _ W (.refl W) rfl
           ·go_simp; exact hKO _ W (.refl W) rfl
           ·have e3 := isOf hp.1; simp only [e3] at hKO; have fc0 := BxA.cell (hS.2.2.1) 0 (v := .int .i64 lr) rfl; go_simp; exact hKO _ W (.refl W) rfl
           ·go_simp; exact hKO _ W (.refl W) rfl
           ·have e2 := isOf hp.1; have e4 := isOf hp.2.1; have e5 := isOf hp.2.2.1; simp only [e2, e4, e5] at hKO; go_simp
            refine (Tryz.adamMulS K HK.out (a := lr) (b := zu) HP.out.lr (okZ_i64 Gzu.out) Gzt2.out _).mono ?_
            rintro e W1 ⟨rfl, hE⟩
            exact hKO _ W1 hE rfl
           ·have e0 := isOf hp.1; have e1 := isOf hp.2.1; have e6 := isOf hp.2.2.1; simp only [e0, e1, e6] at hKO; go_simp
            refine (Tryz.adamSubN K HK.out (a := wt) (b := zt2) HP.out.w (okZ_i64 Gzt2.out) Gzn.out _).mono ?_
            rintro e W1 ⟨⟨c, hc, rfl⟩, hE⟩
            exact ⟨rfl, SaysP.no HN.out hc, Ext.trans hS.1 hE⟩
           ·have q7 := hp.1
            exact False.elim q7
          intro vs W32 hS hp
          obtain ⟨h32_0, h32_1, h32_2, h32_3, h32_4, h32_5, h32_6, h32_7, h32_8, -⟩ := hp
          exact False.elim h32_7
         ·rename_i zn
          have Gzn := Lib.hid gzn
          clear gzn; have szw33 := Ext.size E0
          refine region_gs [.one fun v _ => v = .agg #[.int .i64 (K : Int)],
            .one fun v _ => v = .int .i64 wt,
            .one fun v _ => v = .agg #[.int .i64 (K : Int)],
            .one fun v _ => v = .pointer (some ⟨w.heap.size + 1, 0, none⟩),
            .one fun v _ => v = .int .i64 lr,
            .one fun v _ => v = .int .i64 zu,
            .one fun v _ => v = .int .i64 zt2,
            .one fun v _ => v = .int .i64 zn,
            .one fun v _ => v = .int .i64 zn]
           (fun W => Ext w W ∧ BxA W w.heap.size 54 #[.int .i64 (K : Int)] ∧ BxA W (w.heap.size + 1) 23 #[.int .i64 lr, .int .i64 b1, .int .i64 b2, .int .i64 eps, .int .i64 wd, .bool true] ∧ Bx2 W (w.heap.size + 1 + 1) 24 (.int .i64 p0) (.int .i64 p1) ∧ W30.heap.size ≤ W.heap.size) ⟨Good.is _, Good.is _, Good.is _, Good.is _, Good.is _, Good.is _, Good.is _, Good.is _, Good.is _, trivial⟩
           ⟨E0, p7, p8, p9, Nat.le_refl _⟩ (A := ?A33) ?hA33 ?howe33 ?hfin33
          case hA33 =>
           intro vs
           simp only [putAll, Act.put, sA, sZ, sS, Nat.zero_add, Nat.reduceAdd]
           exact rfl
          case howe33 =>
           clear E0 p7 p8 p9
           intro hf
           refine ⟨oE 0 [] hf rfl ?_, oE 1 [] hf rfl ?_, oE 2 [] hf rfl ?_, oE 3 [] hf rfl ?_, oE 4 [3] hf rfl ?_, oE 5 [] hf rfl ?_, oE 6 [2, 4, 5] hf rfl ?_, oE 7 [0, 1, 6] hf rfl ?_, oE 8 [7] hf rfl ?_, trivial⟩
           all_goals intro vs W hS hp hx KO hKO
           all_goals simp only [Act.put, sA, sZ, sS] at hKO
           ·have fc0 := BxA.cell (hS.2.1) 0 (v := .int .i64 (K : Int)) rfl; go_simp; exact hKO _ W (.refl W) rfl
           ·go_simp; exact hKO _ W (.refl W) rfl
           ·have fc0 := BxA.cell (hS.2.1) 0 (v := .int .i64 (K : Int)) rfl; go_simp; exact hKO _ W (.refl W) rfl
           ·go_simp; exact hKO _ W (.refl W) rfl
           ·have e3 := isOf hp.1; simp only [e3] at hKO; have fc0 := BxA.cell (hS.2.2.1) 0 (v := .int .i64 lr) rfl; go_simp; exact hKO _ W (.refl W) rfl
           ·go_simp; exact hKO _ W (.refl W) rfl
           ·have e2 := isOf hp.1; have e4 := isOf hp.2.1; have e5 := isOf hp.2.2.1; simp only [e2, e4, e5] at hKO; go_simp
            refine (Tryz.adamMulS K HK.out (a := lr) (b := zu) HP.out.lr (okZ_i64 Gzu.out) Gzt2.out _).mono ?_
            rintro e W1 ⟨rfl, hE⟩
            exact hKO _ W1 hE rfl
           ·have e0 := isOf hp.1; have e1 := isOf hp.2.1; have e6 := isOf hp.2.2.1; simp only [e0, e1, e6] at hKO; go_simp
            refine (Tryz.adamSubS K HK.out (a := wt) (b := zt2) HP.out.w (okZ_i64 Gzt2.out) Gzn.out _).mono ?_
            rintro e W1 ⟨rfl, hE⟩
            exact hKO _ W1 hE rfl
           ·have e7 := isOf hp.1; simp only [e7] at hKO; go_simp; exact hKO _ W (.refl W) rfl
          intro vs W33 hS hp
          clear szw33 E0 p7 p8 p9
          obtain ⟨E0, p7, p8, p9, sz33⟩ := hS
          obtain ⟨h33_0, h33_1, h33_2, h33_3, h33_4, h33_5, h33_6, h33_7, h33_8, -⟩ := hp
          replace h33_0 : vs 0 = .agg #[.int .i64 (K : Int)] := h33_0
          replace h33_1 : vs 1 = .int .i64 wt := h33_1
          replace h33_2 : vs 2 = .agg #[.int .i64 (K : Int)] := h33_2
          replace h33_3 : vs 3 = .pointer (some ⟨w.heap.size + 1, 0, none⟩) := h33_3
          replace h33_4 : vs 4 = .int .i64 lr := h33_4
          replace h33_5 : vs 5 = .int .i64 zu := h33_5
          replace h33_6 : vs 6 = .int .i64 zt2 := h33_6
          replace h33_7 : vs 7 = .int .i64 zn := h33_7
          replace h33_8 : vs 8 = .int .i64 zn := h33_8
          simp only [h33_0, h33_1, h33_2, h33_3, h33_4, h33_5, h33_6, h33_7, h33_8]
          clear h33_0 h33_1 h33_2 h33_3 h33_4 h33_5 h33_6 h33_7 h33_8
          have kp7_0 := p7.cell 0 (v := .int .i64 (K : Int)) rfl
          obtain ⟨kp8_0, kp8_1, kp8_2, kp8_3, kp8_4, kp8_5⟩ := p8.c6
          obtain ⟨kp9_0, kp9_1⟩ := p9.c2
          go_upto_region 11 with (fail)
          clear kp7_0 kp8_0 kp8_1 kp8_2 kp8_3 kp8_4 kp8_5 kp9_0 kp9_1
          cases gzq2 : mulO K lr wd
          ·have Gzq2 := Lib.hid gzq2
           clear gzq2
           have HN : Hid (placeO K ⟨lr, b1, b2, eps, wd, true⟩ p0 p1 wt mt vt gt = none) := Lib.hid (by unfold placeO gradO lessO; simp only [HX0.out, HX1.out, Gzm.out, Gzq.out, Gzv.out, Gzx.out, Gzy.out, Gzs.out, Gzu.out, Gzt2.out, Gzn.out, Gzq2.out, Option.bind_some, Option.bind_none, if_true])
           have szw34 := Ext.size E0
           refine region_gs [.one fun v _ => v = .agg #[.int .i64 (K : Int)],
             .one fun v _ => v = .int .i64 zn,
             .one fun v _ => v = .agg #[.int .i64 (K : Int)],
             .one fun v _ => v = .agg #[.int .i64 (K : Int)],
             .one fun v _ => v = .pointer (some ⟨w.heap.size + 1, 0, none⟩),
             .one fun v _ => v = .int .i64 lr,
             .one fun v _ => v = .pointer (some ⟨w.heap.size + 1, 4, none⟩),
             .one fun v _ => v = .int .i64 wd,
             .one fun _ _ => False,
             .one fun v _ => v = .int .i64 wt,
             .one fun _ _ => False,
             .one fun _ _ => False,
             .one fun _ _ => False]
            (fun W => Ext w W ∧ BxA W w.heap.size 54 #[.int .i64 (K : Int)] ∧ BxA W (w.heap.size + 1) 23 #[.int .i64 lr, .int .i64 b1, .int .i64 b2, .int .i64 eps, .int .i64 wd, .bool true] ∧ Bx2 W (w.heap.size + 1 + 1) 24 (.int .i64 p0) (.int .i64 p1) ∧ W33.heap.size ≤ W.heap.size) ⟨Good.is _, Good.is _, Good.is _, Good.is _, Good.is _, Good.is _, Good.is _, Good.is _, Good.never, Good.is _, Good.never, Good.never, Good.never, trivial⟩
            ⟨E0, p7, p8, p9, Nat.le_refl _⟩ (A := ?A34) ?hA34 ?howe34 ?hfin34
           case hA34 =>
            intro vs
            simp only [putAll, Act.put, sA, sZ, sS, Nat.zero_add, Nat.reduceAdd]
            exact rfl
           case howe34 =>
            clear E0 p7 p8 p9
            intro hf
            refine ⟨oE 0 [] hf rfl ?_, oE 1 [] hf rfl ?_, oE 2 [] hf rfl ?_, oE 3 [] hf rfl ?_, oE 4 [] hf rfl ?_, oE 5 [4] hf rfl ?_, oE 6 [] hf rfl ?_, oE 7 [6] hf rfl ?_, oE 8 [3, 5, 7] hf rfl ?_, oE 9 [] hf rfl ?_, oE 10 [8] hf rfl ?_, oE 11 [10] hf rfl ?_, oE 12 [11] hf rfl ?_, trivial⟩
            all_goals intro vs W hS hp hx KO hKO
            all_goals simp only [Act.put, sA, sZ, sS] at hKO
            ·have fc0 := BxA.cell (hS.2.1) 0 (v := .int .i64 (K : Int)) rfl; go_simp; exact hKO _ W (.refl W) rfl
            ·have eo12 : vs 12 = .int .i64 zn := hx.at 12 rfl (by kernel_rfl) rfl
             simp only [eo12] at hKO; go_simp; exact hKO _ W (.refl W) rfl
            ·have fc0 := BxA.cell (hS.2.1) 0 (v := .int .i64 (K : Int)) rfl; go_simp; exact hKO _ W (.refl W) rfl
            ·have fc0 := BxA.cell (hS.2.1) 0 (v := .int .i64 (K : Int)) rfl; go_simp; exact hKO _ W (.refl W) rfl
            ·go_simp; exact hKO _ W (.refl W) rfl
            ·have e4 := isOf hp.1; simp only [e4] at hKO; have fc0 := BxA.cell (hS.2.2.1) 0 (v := .int .i64 lr) rfl; go_simp; exact hKO _ W (.refl W) rfl
            ·go_simp; exact hKO _ W (.refl W) rfl
            ·have e6 := isOf hp.1; simp only [e6] at hKO; have fc4 := BxA.cell (hS.2.2.1) 4 (v := .int .i64 wd) rfl; go_simp; exact hKO _ W (.refl W) rfl
            ·have e3 := isOf hp.1; have e5 := isOf hp.2.1; have e7 := isOf hp.2.2.1; simp only [e3, e5, e7] at hKO; go_simp
             refine (Tryz.adamMulN K HK.out (a := lr) (b := wd) HP.out.lr HP.out.wd Gzq2.out _).mono ?_
             rintro e W1 ⟨⟨c, hc, rfl⟩, hE⟩
             exact ⟨rfl, SaysP.no HN.out hc, Ext.trans hS.1 hE⟩
            ·go_simp; exact hKO _ W (.refl W) rfl
            ·have q8 := hp.1
             exact False.elim q8
            ·have q10 := hp.1
             exact False.elim q10
            ·have q11 := hp.1
             exact False.elim q11
           intro vs W34 hS hp
           obtain ⟨h34_0, h34_1, h34_2, h34_3, h34_4, h34_5, h34_6, h34_7, h34_8, h34_9, h34_10, h34_11, h34_12, -⟩ := hp
           exact False.elim h34_8
          ·rename_i zq2
           have Gzq2 := Lib.hid gzq2
           clear gzq2
           cases gzq3 : mulO K zq2 wt
           ·have Gzq3 := Lib.hid gzq3
            clear gzq3
            have HN : Hid (placeO K ⟨lr, b1, b2, eps, wd, true⟩ p0 p1 wt mt vt gt = none) := Lib.hid (by unfold placeO gradO lessO; simp only [HX0.out, HX1.out, Gzm.out, Gzq.out, Gzv.out, Gzx.out, Gzy.out, Gzs.out, Gzu.out, Gzt2.out, Gzn.out, Gzq2.out, Gzq3.out, Option.bind_some, Option.bind_none, if_true])
            have szw35 := Ext.size E0
            refine region_gs [.one fun v _ => v = .agg #[.int .i64 (K : Int)],
              .one fun v _ => v = .int .i64 zn,
              .one fun v _ => v = .agg #[.int .i64 (K : Int)],
              .one fun v _ => v = .agg #[.int .i64 (K : Int)],
              .one fun v _ => v = .pointer (some ⟨w.heap.size + 1, 0, none⟩),
              .one fun v _ => v = .int .i64 lr,
              .one fun v _ => v = .pointer (some ⟨w.heap.size + 1, 4, none⟩),
              .one fun v _ => v = .int .i64 wd,
              .one fun v _ => v = .int .i64 zq2,
              .one fun v _ => v = .int .i64 wt,
              .one fun _ _ => False,
              .one fun _ _ => False,
              .one fun _ _ => False]
             (fun W => Ext w W ∧ BxA W w.heap.size 54 #[.int .i64 (K : Int)] ∧ BxA W (w.heap.size + 1) 23 #[.int .i64 lr, .int .i64 b1, .int .i64 b2, .int .i64 eps, .int .i64 wd, .bool true] ∧ Bx2 W (w.heap.size + 1 + 1) 24 (.int .i64 p0) (.int .i64 p1) ∧ W33.heap.size ≤ W.heap.size) ⟨Good.is _, Good.is _, Good.is _, Good.is _, Good.is _, Good.is _, Good.is _, Good.is _, Good.is _, Good.is _, Good.never, Good.never, Good.never, trivial⟩
             ⟨E0, p7, p8, p9, Nat.le_refl _⟩ (A := ?A35) ?hA35 ?howe35 ?hfin35
            case hA35 =>
             intro vs
             simp only [putAll, Act.put, sA, sZ, sS, Nat.zero_add, Nat.reduceAdd]
             exact rfl
            case howe35 =>
             clear E0 p7 p8 p9
             intro hf
             refine ⟨oE 0 [] hf rfl ?_, oE 1 [] hf rfl ?_, oE 2 [] hf rfl ?_, oE 3 [] hf rfl ?_, oE 4 [] hf rfl ?_, oE 5 [4] hf rfl ?_, oE 6 [] hf rfl ?_, oE 7 [6] hf rfl ?_, oE 8 [3, 5, 7] hf rfl ?_, oE 9 [] hf rfl ?_, oE 10 [2, 8, 9] hf rfl ?_, oE 11 [10] hf rfl ?_, oE 12 [11] hf rfl ?_, trivial⟩
             all_goals intro vs W hS hp hx KO hKO
             all_goals simp only [Act.put, sA, sZ, sS] at hKO
             ·have fc0 := BxA.cell (hS.2.1) 0 (v := .int .i64 (K : Int)) rfl; go_simp; exact hKO _ W (.refl W) rfl
             ·have eo12 : vs 12 = .int .i64 zn := hx.at 12 rfl (by kernel_rfl) rfl
              simp only [eo12] at hKO; go_simp; exact hKO _ W (.refl W) rfl
             ·have fc0 := BxA.cell (hS.2.1) 0 (v := .int .i64 (K : Int)) rfl; go_simp; exact hKO _ W (.refl W) rfl
             ·have fc0 := BxA.cell (hS.2.1) 0 (v := .int .i64 (K : Int)) rfl; go_simp; exact hKO _ W (.refl W) rfl
             ·go_simp; exact hKO _ W (.refl W) rfl
             ·have e4 := isOf hp.1; simp only [e4] at hKO; have fc0 := BxA.cell (hS.2.2.1) 0 (v := .int .i64 lr) rfl; go_simp; exact hKO _ W (.refl W) rfl
             ·go_simp; exact hKO _ W (.refl W) rfl
             ·have e6 := isOf hp.1; simp only [e6] at hKO; have fc4 := BxA.cell (hS.2.2.1) 4 (v := .int .i64 wd) rfl; go_simp; exact hKO _ W (.refl W) rfl
             ·have e3 := isOf hp.1; have e5 := isOf hp.2.1; have e7 := isOf hp.2.2.1; simp only [e3, e5, e7] at hKO; go_simp
              refine (Tryz.adamMulS K HK.out (a := lr) (b := wd) HP.out.lr HP.out.wd Gzq2.out _).mono ?_
              rintro e W1 ⟨rfl, hE⟩
              exact hKO _ W1 hE rfl
             ·go_simp; exact hKO _ W (.refl W) rfl
             ·have e2 := isOf hp.1; have e8 := isOf hp.2.1; have e9 := isOf hp.2.2.1; simp only [e2, e8, e9] at hKO; go_simp
              refine (Tryz.adamMulN K HK.out (a := zq2) (b := wt) (okZ_i64 Gzq2.out) HP.out.w Gzq3.out _).mono ?_
              rintro e W1 ⟨⟨c, hc, rfl⟩, hE⟩
              exact ⟨rfl, SaysP.no HN.out hc, Ext.trans hS.1 hE⟩
             ·have q10 := hp.1
              exact False.elim q10
             ·have q11 := hp.1
              exact False.elim q11
            intro vs W35 hS hp
            obtain ⟨h35_0, h35_1, h35_2, h35_3, h35_4, h35_5, h35_6, h35_7, h35_8, h35_9, h35_10, h35_11, h35_12, -⟩ := hp
            exact False.elim h35_10
           ·rename_i zq3
            have Gzq3 := Lib.hid gzq3
            clear gzq3
            cases gzn2 : subO zn zq3
            ·have Gzn2 := Lib.hid gzn2
             clear gzn2
             have HN : Hid (placeO K ⟨lr, b1, b2, eps, wd, true⟩ p0 p1 wt mt vt gt = none) := Lib.hid (by unfold placeO gradO lessO; simp only [HX0.out, HX1.out, Gzm.out, Gzq.out, Gzv.out, Gzx.out, Gzy.out, Gzs.out, Gzu.out, Gzt2.out, Gzn.out, Gzq2.out, Gzq3.out, Gzn2.out, Option.bind_some, Option.bind_none, if_true])
             have szw36 := Ext.size E0
             refine region_gs [.one fun v _ => v = .agg #[.int .i64 (K : Int)],
               .one fun v _ => v = .int .i64 zn,
               .one fun v _ => v = .agg #[.int .i64 (K : Int)],
               .one fun v _ => v = .agg #[.int .i64 (K : Int)],
               .one fun v _ => v = .pointer (some ⟨w.heap.size + 1, 0, none⟩),
               .one fun v _ => v = .int .i64 lr,
               .one fun v _ => v = .pointer (some ⟨w.heap.size + 1, 4, none⟩),
               .one fun v _ => v = .int .i64 wd,
               .one fun v _ => v = .int .i64 zq2,
               .one fun v _ => v = .int .i64 wt,
               .one fun v _ => v = .int .i64 zq3,
               .one fun _ _ => False,
               .one fun _ _ => False]
              (fun W => Ext w W ∧ BxA W w.heap.size 54 #[.int .i64 (K : Int)] ∧ BxA W (w.heap.size + 1) 23 #[.int .i64 lr, .int .i64 b1, .int .i64 b2, .int .i64 eps, .int .i64 wd, .bool true] ∧ Bx2 W (w.heap.size + 1 + 1) 24 (.int .i64 p0) (.int .i64 p1) ∧ W33.heap.size ≤ W.heap.size) ⟨Good.is _, Good.is _, Good.is _, Good.is _, Good.is _, Good.is _, Good.is _, Good.is _, Good.is _, Good.is _, Good.is _, Good.never, Good.never, trivial⟩
              ⟨E0, p7, p8, p9, Nat.le_refl _⟩ (A := ?A36) ?hA36 ?howe36 ?hfin36
             case hA36 =>
              intro vs
              simp only [putAll, Act.put, sA, sZ, sS, Nat.zero_add, Nat.reduceAdd]
              exact rfl
             case howe36 =>
              clear E0 p7 p8 p9
              intro hf
              refine ⟨oE 0 [] hf rfl ?_, oE 1 [] hf rfl ?_, oE 2 [] hf rfl ?_, oE 3 [] hf rfl ?_, oE 4 [] hf rfl ?_, oE 5 [4] hf rfl ?_, oE 6 [] hf rfl ?_, oE 7 [6] hf rfl ?_, oE 8 [3, 5, 7] hf rfl ?_, oE 9 [] hf rfl ?_, oE 10 [2, 8, 9] hf rfl ?_, oE 11 [0, 1, 10] hf rfl ?_, oE 12 [11] hf rfl ?_, trivial⟩
              all_goals intro vs W hS hp hx KO hKO
              all_goals simp only [Act.put, sA, sZ, sS] at hKO
              ·have fc0 := BxA.cell (hS.2.1) 0 (v := .int .i64 (K : Int)) rfl; go_simp; exact hKO _ W (.refl W) rfl
              ·have eo12 : vs 12 = .int .i64 zn := hx.at 12 rfl (by kernel_rfl) rfl
               simp only [eo12] at hKO; go_simp; exact hKO _ W (.refl W) rfl
              ·have fc0 := BxA.cell (hS.2.1) 0 (v := .int .i64 (K : Int)) rfl; go_simp; exact hKO _ W (.refl W) rfl
              ·have fc0 := BxA.cell (hS.2.1) 0 (v := .int .i64 (K : Int)) rfl; go_simp; exact hKO _ W (.refl W) rfl
              ·go_simp; exact hKO _ W (.refl W) rfl
              ·have e4 := isOf hp.1; simp only [e4] at hKO; have fc0 := BxA.cell (hS.2.2.1) 0 (v := .int .i64 lr) rfl; go_simp; exact hKO _ W (.refl W) rfl
              ·go_simp; exact hKO _ W (.refl W) rfl
              ·have e6 := isOf hp.1; simp only [e6] at hKO; have fc4 := BxA.cell (hS.2.2.1) 4 (v := .int .i64 wd) rfl; go_simp; exact hKO _ W (.refl W) rfl
              ·have e3 := isOf hp.1; have e5 := isOf hp.2.1; have e7 := isOf hp.2.2.1; simp only [e3, e5, e7] at hKO; go_simp
               refine (Tryz.adamMulS K HK.out (a := lr) (b := wd) HP.out.lr HP.out.wd Gzq2.out _).mono ?_
               rintro e W1 ⟨rfl, hE⟩
               exact hKO _ W1 hE rfl
              ·go_simp; exact hKO _ W (.refl W) rfl
              ·have e2 := isOf hp.1; have e8 := isOf hp.2.1; have e9 := isOf hp.2.2.1; simp only [e2, e8, e9] at hKO; go_simp
               refine (Tryz.adamMulS K HK.out (a := zq2) (b := wt) (okZ_i64 Gzq2.out) HP.out.w Gzq3.out _).mono ?_
               rintro e W1 ⟨rfl, hE⟩
               exact hKO _ W1 hE rfl
              ·have e0 := isOf hp.1; have e1 := isOf hp.2.1; have e10 := isOf hp.2.2.1; simp only [e0, e1, e10] at hKO; go_simp
               refine (Tryz.adamSubN K HK.out (a := zn) (b := zq3) (okZ_i64 Gzn.out) (okZ_i64 Gzq3.out) Gzn2.out _).mono ?_
               rintro e W1 ⟨⟨c, hc, rfl⟩, hE⟩
               exact ⟨rfl, SaysP.no HN.out hc, Ext.trans hS.1 hE⟩
              ·have q11 := hp.1
               exact False.elim q11
             intro vs W36 hS hp
             obtain ⟨h36_0, h36_1, h36_2, h36_3, h36_4, h36_5, h36_6, h36_7, h36_8, h36_9, h36_10, h36_11, h36_12, -⟩ := hp
             exact False.elim h36_11
            ·rename_i zn2
             have Gzn2 := Lib.hid gzn2
             clear gzn2; have szw37 := Ext.size E0
             refine region_gs [.one fun v _ => v = .agg #[.int .i64 (K : Int)],
               .one fun v _ => v = .int .i64 zn,
               .one fun v _ => v = .agg #[.int .i64 (K : Int)],
               .one fun v _ => v = .agg #[.int .i64 (K : Int)],
               .one fun v _ => v = .pointer (some ⟨w.heap.size + 1, 0, none⟩),
               .one fun v _ => v = .int .i64 lr,
               .one fun v _ => v = .pointer (some ⟨w.heap.size + 1, 4, none⟩),
               .one fun v _ => v = .int .i64 wd,
               .one fun v _ => v = .int .i64 zq2,
               .one fun v _ => v = .int .i64 wt,
               .one fun v _ => v = .int .i64 zq3,
               .one fun v _ => v = .int .i64 zn2,
               .one fun v _ => v = .int .i64 zn2]
              (fun W => Ext w W ∧ BxA W w.heap.size 54 #[.int .i64 (K : Int)] ∧ BxA W (w.heap.size + 1) 23 #[.int .i64 lr, .int .i64 b1, .int .i64 b2, .int .i64 eps, .int .i64 wd, .bool true] ∧ Bx2 W (w.heap.size + 1 + 1) 24 (.int .i64 p0) (.int .i64 p1) ∧ W33.heap.size ≤ W.heap.size) ⟨Good.is _, Good.is _, Good.is _, Good.is _, Good.is _, Good.is _, Good.is _, Good.is _, Good.is _, Good.is _, Good.is _, Good.is _, Good.is _, trivial⟩
              ⟨E0, p7, p8, p9, Nat.le_refl _⟩ (A := ?A37) ?hA37 ?howe37 ?hfin37
             case hA37 =>
              intro vs
              simp only [putAll, Act.put, sA, sZ, sS, Nat.zero_add, Nat.reduceAdd]
              exact rfl
             case howe37 =>
              clear E0 p7 p8 p9
              intro hf
              refine ⟨oE 0 [] hf rfl ?_, oE 1 [] hf rfl ?_, oE 2 [] hf rfl ?_, oE 3 [] hf rfl ?_, oE 4 [] hf rfl ?_, oE 5 [4] hf rfl ?_, oE 6 [] hf rfl ?_, oE 7 [6] hf rfl ?_, oE 8 [3, 5, 7] hf rfl ?_, oE 9 [] hf rfl ?_, oE 10 [2, 8, 9] hf rfl ?_, oE 11 [0, 1, 10] hf rfl ?_, oE 12 [11] hf rfl ?_, trivial⟩
              all_goals intro vs W hS hp hx KO hKO
              all_goals simp only [Act.put, sA, sZ, sS] at hKO
              ·have fc0 := BxA.cell (hS.2.1) 0 (v := .int .i64 (K : Int)) rfl; go_simp; exact hKO _ W (.refl W) rfl
              ·have eo12 : vs 12 = .int .i64 zn := hx.at 12 rfl (by kernel_rfl) rfl
               simp only [eo12] at hKO; go_simp; exact hKO _ W (.refl W) rfl
              ·have fc0 := BxA.cell (hS.2.1) 0 (v := .int .i64 (K : Int)) rfl; go_simp; exact hKO _ W (.refl W) rfl
              ·have fc0 := BxA.cell (hS.2.1) 0 (v := .int .i64 (K : Int)) rfl; go_simp; exact hKO _ W (.refl W) rfl
              ·go_simp; exact hKO _ W (.refl W) rfl
              ·have e4 := isOf hp.1; simp only [e4] at hKO; have fc0 := BxA.cell (hS.2.2.1) 0 (v := .int .i64 lr) rfl; go_simp; exact hKO _ W (.refl W) rfl
              ·go_simp; exact hKO _ W (.refl W) rfl
              ·have e6 := isOf hp.1; simp only [e6] at hKO; have fc4 := BxA.cell (hS.2.2.1) 4 (v := .int .i64 wd) rfl; go_simp; exact hKO _ W (.refl W) rfl
              ·have e3 := isOf hp.1; have e5 := isOf hp.2.1; have e7 := isOf hp.2.2.1; simp only [e3, e5, e7] at hKO; go_simp
               refine (Tryz.adamMulS K HK.out (a := lr) (b := wd) HP.out.lr HP.out.wd Gzq2.out _).mono ?_
               rintro e W1 ⟨rfl, hE⟩
               exact hKO _ W1 hE rfl
              ·go_simp; exact hKO _ W (.refl W) rfl
              ·have e2 := isOf hp.1; have e8 := isOf hp.2.1; have e9 := isOf hp.2.2.1; simp only [e2, e8, e9] at hKO; go_simp
               refine (Tryz.adamMulS K HK.out (a := zq2) (b := wt) (okZ_i64 Gzq2.out) HP.out.w Gzq3.out _).mono ?_
               rintro e W1 ⟨rfl, hE⟩
               exact hKO _ W1 hE rfl
              ·have e0 := isOf hp.1; have e1 := isOf hp.2.1; have e10 := isOf hp.2.2.1; simp only [e0, e1, e10] at hKO; go_simp
               refine (Tryz.adamSubS K HK.out (a := zn) (b := zq3) (okZ_i64 Gzn.out) (okZ_i64 Gzq3.out) Gzn2.out _).mono ?_
               rintro e W1 ⟨rfl, hE⟩
               exact hKO _ W1 hE rfl
              ·have e11 := isOf hp.1; simp only [e11] at hKO; go_simp; exact hKO _ W (.refl W) rfl
             intro vs W37 hS hp
             clear szw37 E0 p7 p8 p9
             obtain ⟨E0, p7, p8, p9, sz37⟩ := hS
             obtain ⟨h37_0, h37_1, h37_2, h37_3, h37_4, h37_5, h37_6, h37_7, h37_8, h37_9, h37_10, h37_11, h37_12, -⟩ := hp
             replace h37_0 : vs 0 = .agg #[.int .i64 (K : Int)] := h37_0
             replace h37_1 : vs 1 = .int .i64 zn := h37_1
             replace h37_2 : vs 2 = .agg #[.int .i64 (K : Int)] := h37_2
             replace h37_3 : vs 3 = .agg #[.int .i64 (K : Int)] := h37_3
             replace h37_4 : vs 4 = .pointer (some ⟨w.heap.size + 1, 0, none⟩) := h37_4
             replace h37_5 : vs 5 = .int .i64 lr := h37_5
             replace h37_6 : vs 6 = .pointer (some ⟨w.heap.size + 1, 4, none⟩) := h37_6
             replace h37_7 : vs 7 = .int .i64 wd := h37_7
             replace h37_8 : vs 8 = .int .i64 zq2 := h37_8
             replace h37_9 : vs 9 = .int .i64 wt := h37_9
             replace h37_10 : vs 10 = .int .i64 zq3 := h37_10
             replace h37_11 : vs 11 = .int .i64 zn2 := h37_11
             replace h37_12 : vs 12 = .int .i64 zn2 := h37_12
             simp only [h37_0, h37_1, h37_2, h37_3, h37_4, h37_5, h37_6, h37_7, h37_8, h37_9, h37_10, h37_11, h37_12]
             clear h37_0 h37_1 h37_2 h37_3 h37_4 h37_5 h37_6 h37_7 h37_8 h37_9 h37_10 h37_11 h37_12
             have HR : Hid (placeO K ⟨lr, b1, b2, eps, wd, true⟩ p0 p1 wt mt vt gt = some (zn2, zm, zv)) := Lib.hid (by unfold placeO gradO lessO; simp only [HX0.out, HX1.out, Gzm.out, Gzq.out, Gzv.out, Gzx.out, Gzy.out, Gzs.out, Gzu.out, Gzt2.out, Gzn.out, Gzq2.out, Gzq3.out, Gzn2.out, Option.bind_some, if_true])
             have kp7_0 := p7.cell 0 (v := .int .i64 (K : Int)) rfl
             obtain ⟨kp8_0, kp8_1, kp8_2, kp8_3, kp8_4, kp8_5⟩ := p8.c6
             obtain ⟨kp9_0, kp9_1⟩ := p9.c2
             go_wp2
             go_ret3
             exact ⟨SaysP.yes HR.out, E0⟩

end Go.Rt
