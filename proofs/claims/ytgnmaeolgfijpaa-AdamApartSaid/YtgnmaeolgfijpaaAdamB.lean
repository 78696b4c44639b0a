/-
 Adam: a place's step by the program.
-/
import Derived.Test.YtgnmaeolgfijpaaGY
import Derived.Test.YtgnmaeolgfijpaaAdamA

namespace Go.Rt

open Go Go.RowKit Go.Proofs

theorem mulZ_sq (K : Nat) (d : Int) : 0 ≤ mulZ K d d := ratio_nonneg (Nat.pow_pos (by omega)) (by rcases Int.le_total 0 d with h | h; exact Int.mul_nonneg h h; exact Int.mul_nonneg_of_nonpos_of_nonpos h h)

theorem mixO_i64 {K : Nat} {be a b y : Int} (h : mixO K be a b = some y) : I64 y := by
 unfold mixO at h
 simp only [Option.bind_eq_some_iff] at h
 obtain ⟨_, _, _, _, h⟩ := h
 exact okZ_i64 h

theorem mulO_sq {K : Nat} {d q : Int} (h : mulO K d d = some q) : 0 ≤ q := by
 obtain ⟨-, rfl⟩ := okZ_some h
 exact mulZ_sq K d

theorem divO_nonneg {K : Nat} {a b q : Int} (h : divO K a b = some q) (ha : 0 ≤ a) (hb : 0 < b) : 0 ≤ q := by
 obtain ⟨-, rfl⟩ := okZ_some h
 exact divZ_nonneg ha hb

theorem addO_pos {a b q : Int} (h : addO a b = some q) (ha : 0 ≤ a) (hb : 0 < b) : 0 < q := by
 obtain ⟨-, rfl⟩ := okZ_some h
 omega

theorem rootW_i64 {K : Nat} (hK : K ≤ 40) {a : Int} (h : I64 a) : I64 (rootW K a) := by
 unfold rootW
 have h1 : a.toNat * 2 ^ K ≤ 9223372036854775808 * 1099511627776 := Nat.mul_le_mul (by have := h.2; omega) (Nat.le_trans (Nat.pow_le_pow_right (by omega) hK) (by decide))
 have h2 := (rt_is (a.toNat * 2 ^ K) (k := 2) (by omega)).1
 have h3 : rt (a.toNat * 2 ^ K) 2 < 9223372036854775808 := by
  apply Classical.byContradiction
  intro hc
  have h4 : 9223372036854775808 ^ 2 ≤ rt (a.toNat * 2 ^ K) 2 ^ 2 := Nat.pow_le_pow_left (by omega) 2
  have := Nat.le_trans h4 (Nat.le_trans h2 h1)
  omega
 exact ⟨by omega, by omega⟩

theorem Try.adamMixS {be a b z : Int} (K : Nat) (hK : K ≤ 40) (ha : I64 a) (hb : I64 b) (h0 : 0 ≤ be) (h1 : be ≤ oneZ K) (h : mixO K be a b = some z) (w : World) :
  Calls Try.prog 75 #[.agg #[.int .i64 (K : Int)], .int .i64 be, .int .i64 a, .int .i64 b] w fun e w' => e = .returned (.int .i64 z) ∧ Ext w w' := by
 have := Try.adamMix K hK ha hb h0 h1 w
 rw [h] at this
 exact this

theorem Try.adamMixN {be a b : Int} (K : Nat) (hK : K ≤ 40) (ha : I64 a) (hb : I64 b) (h0 : 0 ≤ be) (h1 : be ≤ oneZ K) (h : mixO K be a b = none) (w : World) :
  Calls Try.prog 75 #[.agg #[.int .i64 (K : Int)], .int .i64 be, .int .i64 a, .int .i64 b] w fun e w' => (∃ c : Int, c ≠ 0 ∧ e = .panicked [{ v := .iface 82 (.int .i64 c), recovered := false }]) ∧ Ext w w' := by
 have := Try.adamMix K hK ha hb h0 h1 w
 rw [h] at this
 exact this

/-- what a place's step asks of its numbers -/
structure PlaceIn (K : Nat) (A : AdamP) (p0 p1 w m v g : Int) : Prop where
 k : K ≤ 40
 lr : I64 A.lr
 eps0 : 0 < A.eps
 eps : I64 A.eps
 b10 : 0 ≤ A.b1
 b11 : A.b1 ≤ oneZ K
 b20 : 0 ≤ A.b2
 b21 : A.b2 ≤ oneZ K
 wd : I64 A.wd
 p00 : 0 ≤ p0
 p01 : p0 < oneZ K
 p10 : 0 ≤ p1
 p11 : p1 < oneZ K
 w : I64 w
 m : I64 m
 v0 : 0 ≤ v
 v : I64 v
 g : I64 g

def SaysP (t : TypeId) (e : Ending) (o : Option (Int × Int × Int)) : Prop :=
 match o with
 | some r => e = .returned (.tuple #[.int .i64 r.1, .int .i64 r.2.1, .int .i64 r.2.2])
 | none => ∃ c : Int, c ≠ 0 ∧ e = .panicked [{ v := .iface t (.int .i64 c), recovered := false }]

theorem SaysP.no {t : TypeId} {c : Int} {o : Option (Int × Int × Int)} (h : o = none) (hc : c ≠ 0) : SaysP t (.panicked [{ v := .iface t (.int .i64 c), recovered := false }]) o := by subst h; exact ⟨c, hc, rfl⟩

theorem SaysP.yes {t : TypeId} {x y z : Int} {o : Option (Int × Int × Int)} (h : o = some (x, y, z)) : SaysP t (.returned (.tuple #[.int .i64 x, .int .i64 y, .int .i64 z])) o := by subst h; rfl

set_option maxRecDepth 100000 in
set_option maxHeartbeats 16000000 in
theorem Try.adamPlaceB {K : Nat} {lr b1 b2 eps wd p0 p1 wt mt vt gt : Int} (h : PlaceIn K ⟨lr, b1, b2, eps, wd, false⟩ p0 p1 wt mt vt gt) (w : World) :
  Calls Try.prog 45 #[.agg #[.int .i64 (K : Int)], .agg #[.int .i64 lr, .int .i64 b1, .int .i64 b2, .int .i64 eps, .int .i64 wd, .bool false], .agg #[.int .i64 p0, .int .i64 p1], .int .i64 wt, .int .i64 mt, .int .i64 vt, .int .i64 gt] w fun e w' => SaysP 82 e (placeO K ⟨lr, b1, b2, eps, wd, false⟩ p0 p1 wt mt vt gt) ∧ Ext w w' := by
 have HP := Lib.hid h
 have HK := Lib.hid h.k
 obtain ⟨X0, hX0⟩ : ∃ x, oneZ K - p0 = x := ⟨_, rfl⟩
 obtain ⟨X1, hX1⟩ : ∃ x, oneZ K - p1 = x := ⟨_, rfl⟩
 have hw0 : IntKind.i64.wrap (oneZ K - p0) = X0 := by rw [one_wrap h.k h.p00 (Int.le_of_lt h.p01), hX0]
 have hw1 : IntKind.i64.wrap (oneZ K - p1) = X1 := by rw [one_wrap h.k h.p10 (Int.le_of_lt h.p11), hX1]
 have HI0 : Hid (I64 X0 ∧ 0 < X0) := Lib.hid ⟨by rw [← hX0]; exact one_i64 h.k h.p00 (Int.le_of_lt h.p01), by have := h.p01; omega⟩
 have HI1 : Hid (I64 X1 ∧ 0 < X1) := Lib.hid ⟨by rw [← hX1]; exact one_i64 h.k h.p10 (Int.le_of_lt h.p11), by have := h.p11; omega⟩
 have HX0 := Lib.hid hX0
 have HX1 := Lib.hid hX1
 clear h hX0 hX1
 obtain ⟨W0, hW0, E0, p7, p8, p9⟩ := boxed3 w 62 #[.int .i64 (K : Int)] 42 #[.int .i64 lr, .int .i64 b1, .int .i64 b2, .int .i64 eps, .int .i64 wd, .bool false] 43 #[.int .i64 p0, .int .i64 p1]
 replace p9 := p9.b2
 go_enter Try.func45, Try.ntmps45
 have k7a := p7.cell 0 (v := .int .i64 (K : Int)) rfl
 obtain ⟨k8a, k8b, k8c, k8d, k8e, k8f⟩ := p8.c6
 obtain ⟨k9a, k9b⟩ := p9.c2
 go_upto_region 3 with (fail)
 rw [← hW0]
 clear hW0; clear k7a k8a k8b k8c k8d k8e k8f k9a k9b
 obtain ⟨zt, Hzt⟩ : ∃ z, z = (mulO K wd wt).getD 0 := ⟨_, rfl⟩
 replace Hzt := Lib.hid Hzt
 obtain ⟨zd, Hzd⟩ : ∃ z, z = (addO gt zt).getD 0 := ⟨_, rfl⟩
 replace Hzd := Lib.hid Hzd
 have ltp7 := p7.lt; have ltp8 := p8.lt; have ltp9 := p9.lt; have szw1 := Ext.size E0
 refine region_gk [isV (.agg #[.int .i64 (K : Int)]), isV (.int .i64 gt), isV (.agg #[.int .i64 (K : Int)]), isV (.pointer (some ⟨w.heap.size + 1, 4, none⟩)), isV (.int .i64 wd), isV (.int .i64 wt),
   .one fun v _ => v = .int .i64 zt ∧ mulO K wd wt = some zt,
   .one fun v _ => v = .int .i64 zd ∧ addO gt zt = some zd,
   .one fun v _ => v = .int .i64 zd] ⟨Good.is _, Good.is _, Good.is _, Good.is _, Good.is _, Good.is _, Good.may _ _, Good.may _ _, Good.is _, trivial⟩ (E0.s.k (p7.s.k (p8.s.k (p9.s)))) (A := ?A1) ?hA1 ?howe1 ?hfin1
 case hA1 =>
  intro vs
  simp only [putAll, Act.put, sA, sZ, sS, Nat.zero_add, Nat.reduceAdd]
  exact rfl
 case howe1 =>
  clear E0 p7 p8 p9
  intro hf
  refine ⟨oE 0 [] hf rfl ?_, oP0 1 [] hf rfl, oE 2 [] hf rfl ?_, oP0 3 [] hf rfl, oE 4 [3] hf rfl ?_, oP0 5 [] hf rfl, oE 6 [2, 4, 5] hf rfl ?_, oE 7 [0, 1, 6] hf rfl ?_, oE 8 [7] hf rfl ?_, trivial⟩
  all_goals intro vs W hS hp hx KO hKO
  all_goals simp only [Act.put, sA, sZ, sS] at hKO
  ·have fc0 := BxA.cell (hS.1.2.1) 0 (v := .int .i64 (K : Int)) rfl; go_simp; exact hKO _ W (.refl W) rfl
  ·have fc0 := BxA.cell (hS.1.2.1) 0 (v := .int .i64 (K : Int)) rfl; go_simp; exact hKO _ W (.refl W) rfl
  ·have e3 := isOf hp.1; simp only [e3] at hKO; have fc4 := BxA.cell (hS.1.2.2.1) 4 (v := .int .i64 wd) rfl; go_simp; exact hKO _ W (.refl W) rfl
  ·have e2 := isOf hp.1; have e4 := isOf hp.2.1; have e5 := isOf hp.2.2.1; simp only [e2, e4, e5] at hKO; go_simp
   cases g : mulO K wd wt
   ·have HN : Hid (placeO K ⟨lr, b1, b2, eps, wd, false⟩ p0 p1 wt mt vt gt = none) := Lib.hid (by unfold placeO gradO lessO; simp only [HX0.out, HX1.out, g, Option.bind_some, Option.bind_none, if_false, Bool.false_eq_true])
    refine (Try.adamMulN K HK.out (a := wd) (b := wt) HP.out.wd HP.out.w g _).mono ?_
    rintro e W1 ⟨⟨c, hc, rfl⟩, hE⟩
    exact ⟨rfl, SaysP.no HN.out hc, Ext.trans hS.1.1 hE⟩
   ·have g2 : mulO K wd wt = some zt := by rw [Hzt.out, g]; rfl
    refine (Try.adamMulS K HK.out (a := wd) (b := wt) HP.out.wd HP.out.w g2 _).mono ?_
    rintro e W1 ⟨rfl, hE⟩
    exact hKO _ W1 hE ⟨rfl, g2⟩
  ·have e0 := isOf hp.1; have e1 := isOf hp.2.1
   have e6 : vs 6 = .int .i64 zt := (hp.2.2.1).1
   have Gzt : Hid (mulO K wd wt = some zt) := Lib.hid (hp.2.2.1).2
   simp only [e0, e1, e6] at hKO; go_simp
   cases g : addO gt zt
   ·have HN : Hid (placeO K ⟨lr, b1, b2, eps, wd, false⟩ p0 p1 wt mt vt gt = none) := Lib.hid (by unfold placeO gradO lessO; simp only [HX0.out, HX1.out, Gzt.out, g, Option.bind_some, Option.bind_none, if_false, Bool.false_eq_true])
    refine (Try.adamAddN K HK.out (a := gt) (b := zt) HP.out.g (okZ_i64 Gzt.out) g _).mono ?_
    rintro e W1 ⟨⟨c, hc, rfl⟩, hE⟩
    exact ⟨rfl, SaysP.no HN.out hc, Ext.trans hS.1.1 hE⟩
   ·have g2 : addO gt zt = some zd := by rw [Hzd.out, g]; rfl
    refine (Try.adamAddS K HK.out (a := gt) (b := zt) HP.out.g (okZ_i64 Gzt.out) g2 _).mono ?_
    rintro e W1 ⟨rfl, hE⟩
    exact hKO _ W1 hE ⟨rfl, g2⟩
  ·have e7 : vs 7 = .int .i64 zd := (hp.1).1
   have Gzd : Hid (addO gt zt = some zd) := Lib.hid (hp.1).2
   simp only [e7] at hKO; go_simp; exact hKO _ W (.refl W) rfl
 intro vs W1 hS hp
 clear szw1 E0 p7 p8 p9
 obtain ⟨⟨E0, p7, p8, p9⟩, sz1⟩ := hS
 obtain ⟨h1_0, h1_1, h1_2, h1_3, h1_4, h1_5, h1_6, h1_7, h1_8, -⟩ := hp
 obtain ⟨h1_6, Gzt⟩ := h1_6
 replace Gzt := Lib.hid Gzt
 obtain ⟨h1_7, Gzd⟩ := h1_7
 replace Gzd := Lib.hid Gzd
 simp only [isOf h1_0, isOf h1_1, isOf h1_2, isOf h1_3, isOf h1_4, isOf h1_5, isOf h1_8]
 clear h1_0 h1_1 h1_2 h1_3 h1_4 h1_5 h1_6 h1_7 h1_8
 have k7a := p7.cell 0 (v := .int .i64 (K : Int)) rfl
 obtain ⟨k8a, k8b, k8c, k8d, k8e, k8f⟩ := p8.c6
 obtain ⟨k9a, k9b⟩ := p9.c2
 go_upto_region 4 with (fail)
 clear k7a k8a k8b k8c k8d k8e k8f k9a k9b
 obtain ⟨zm, Hzm⟩ : ∃ z, z = (mixO K b1 mt zd).getD 0 := ⟨_, rfl⟩
 replace Hzm := Lib.hid Hzm
 have szw2 := Ext.size E0
 refine region_gk [isV (.agg #[.int .i64 (K : Int)]), isV (.pointer (some ⟨w.heap.size + 1, 1, none⟩)), isV (.int .i64 b1), isV (.int .i64 mt), isV (.int .i64 zd),
   .one fun v _ => v = .int .i64 zm ∧ mixO K b1 mt zd = some zm,
   .one fun v _ => v = .int .i64 zm] ⟨Good.is _, Good.is _, Good.is _, Good.is _, Good.is _, Good.may _ _, Good.is _, trivial⟩ (E0.s.k (p7.s.k (p8.s.k (p9.s)))) (A := ?A2) ?hA2 ?howe2 ?hfin2
 case hA2 =>
  intro vs
  simp only [putAll, Act.put, sA, sZ, sS, Nat.zero_add, Nat.reduceAdd]
  exact rfl
 case howe2 =>
  clear E0 p7 p8 p9
  intro hf
  refine ⟨oE 0 [] hf rfl ?_, oP0 1 [] hf rfl, oE 2 [1] hf rfl ?_, oE 3 [] hf rfl ?_, oP0 4 [] hf rfl, oE 5 [0, 2, 3, 4] hf rfl ?_, oE 6 [5] hf rfl ?_, trivial⟩
  all_goals intro vs W hS hp hx KO hKO
  all_goals simp only [Act.put, sA, sZ, sS] at hKO
  ·have fc0 := BxA.cell (hS.1.2.1) 0 (v := .int .i64 (K : Int)) rfl; go_simp; exact hKO _ W (.refl W) rfl
  ·have e1 := isOf hp.1; simp only [e1] at hKO; have fc1 := BxA.cell (hS.1.2.2.1) 1 (v := .int .i64 b1) rfl; go_simp; exact hKO _ W (.refl W) rfl
  ·have eo6 : vs 6 = .int .i64 mt := hx.at 6 rfl (by kernel_rfl) rfl
   simp only [eo6] at hKO; go_simp; exact hKO _ W (.refl W) rfl
  ·have e0 := isOf hp.1; have e2 := isOf hp.2.1; have e3 := isOf hp.2.2.1; have e4 := isOf hp.2.2.2.1; simp only [e0, e2, e3, e4] at hKO; go_simp
   cases g : mixO K b1 mt zd
   ·have HN : Hid (placeO K ⟨lr, b1, b2, eps, wd, false⟩ p0 p1 wt mt vt gt = none) := Lib.hid (by unfold placeO gradO lessO; simp only [HX0.out, HX1.out, Gzt.out, Gzd.out, g, Option.bind_some, Option.bind_none, if_false, Bool.false_eq_true])
    refine (Try.adamMixN K HK.out (be := b1) (a := mt) (b := zd) HP.out.m (okZ_i64 Gzd.out) HP.out.b10 HP.out.b11 g _).mono ?_
    rintro e W1 ⟨⟨c, hc, rfl⟩, hE⟩
    exact ⟨rfl, SaysP.no HN.out hc, Ext.trans hS.1.1 hE⟩
   ·have g2 : mixO K b1 mt zd = some zm := by rw [Hzm.out, g]; rfl
    refine (Try.adamMixS K HK.out (be := b1) (a := mt) (b := zd) HP.out.m (okZ_i64 Gzd.out) HP.out.b10 HP.out.b11 g2 _).mono ?_
    rintro e W1 ⟨rfl, hE⟩
    exact hKO _ W1 hE ⟨rfl, g2⟩
  ·have e5 : vs 5 = .int .i64 zm := (hp.1).1
   have Gzm : Hid (mixO K b1 mt zd = some zm) := Lib.hid (hp.1).2
   simp only [e5] at hKO; go_simp; exact hKO _ W (.refl W) rfl
 intro vs W2 hS hp
 clear szw2 E0 p7 p8 p9
 obtain ⟨⟨E0, p7, p8, p9⟩, sz2⟩ := hS
 obtain ⟨h2_0, h2_1, h2_2, h2_3, h2_4, h2_5, h2_6, -⟩ := hp
 obtain ⟨h2_5, Gzm⟩ := h2_5
 replace Gzm := Lib.hid Gzm
 simp only [isOf h2_0, isOf h2_1, isOf h2_2, isOf h2_3, isOf h2_4, isOf h2_6]
 clear h2_0 h2_1 h2_2 h2_3 h2_4 h2_5 h2_6
 have k7a := p7.cell 0 (v := .int .i64 (K : Int)) rfl
 obtain ⟨k8a, k8b, k8c, k8d, k8e, k8f⟩ := p8.c6
 obtain ⟨k9a, k9b⟩ := p9.c2
 go_upto_region 5 with (fail)
 clear k7a k8a k8b k8c k8d k8e k8f k9a k9b
 obtain ⟨zq, Hzq⟩ : ∃ z, z = (mulO K zd zd).getD 0 := ⟨_, rfl⟩
 replace Hzq := Lib.hid Hzq
 obtain ⟨zv, Hzv⟩ : ∃ z, z = (mixO K b2 vt zq).getD 0 := ⟨_, rfl⟩
 replace Hzv := Lib.hid Hzv
 have szw3 := Ext.size E0
 refine region_gk [isV (.agg #[.int .i64 (K : Int)]), isV (.pointer (some ⟨w.heap.size + 1, 2, none⟩)), isV (.int .i64 b2), isV (.int .i64 vt), isV (.agg #[.int .i64 (K : Int)]), isV (.int .i64 zd), isV (.int .i64 zd),
   .one fun v _ => v = .int .i64 zq ∧ mulO K zd zd = some zq,
   .one fun v _ => v = .int .i64 zv ∧ mixO K b2 vt zq = some zv,
   .one fun v _ => v = .int .i64 zv] ⟨Good.is _, Good.is _, Good.is _, Good.is _, Good.is _, Good.is _, Good.is _, Good.may _ _, Good.may _ _, Good.is _, trivial⟩ (E0.s.k (p7.s.k (p8.s.k (p9.s)))) (A := ?A3) ?hA3 ?howe3 ?hfin3
 case hA3 =>
  intro vs
  simp only [putAll, Act.put, sA, sZ, sS, Nat.zero_add, Nat.reduceAdd]
  exact rfl
 case howe3 =>
  clear E0 p7 p8 p9
  intro hf
  refine ⟨oE 0 [] hf rfl ?_, oP0 1 [] hf rfl, oE 2 [1] hf rfl ?_, oE 3 [] hf rfl ?_, oE 4 [] hf rfl ?_, oP0 5 [] hf rfl, oP0 6 [] hf rfl, oE 7 [4, 5, 6] hf rfl ?_, oE 8 [0, 2, 3, 7] hf rfl ?_, oE 9 [8] hf rfl ?_, trivial⟩
  all_goals intro vs W hS hp hx KO hKO
  all_goals simp only [Act.put, sA, sZ, sS] at hKO
  ·have fc0 := BxA.cell (hS.1.2.1) 0 (v := .int .i64 (K : Int)) rfl; go_simp; exact hKO _ W (.refl W) rfl
  ·have e1 := isOf hp.1; simp only [e1] at hKO; have fc2 := BxA.cell (hS.1.2.2.1) 2 (v := .int .i64 b2) rfl; go_simp; exact hKO _ W (.refl W) rfl
  ·have eo9 : vs 9 = .int .i64 vt := hx.at 9 rfl (by kernel_rfl) rfl
   simp only [eo9] at hKO; go_simp; exact hKO _ W (.refl W) rfl
  ·have fc0 := BxA.cell (hS.1.2.1) 0 (v := .int .i64 (K : Int)) rfl; go_simp; exact hKO _ W (.refl W) rfl
  ·have e4 := isOf hp.1; have e5 := isOf hp.2.1; have e6 := isOf hp.2.2.1; simp only [e4, e5, e6] at hKO; go_simp
   cases g : mulO K zd zd
   ·have HN : Hid (placeO K ⟨lr, b1, b2, eps, wd, false⟩ p0 p1 wt mt vt gt = none) := Lib.hid (by unfold placeO gradO lessO; simp only [HX0.out, HX1.out, Gzt.out, Gzd.out, Gzm.out, g, Option.bind_some, Option.bind_none, if_false, Bool.false_eq_true])
    refine (Try.adamMulN K HK.out (a := zd) (b := zd) (okZ_i64 Gzd.out) (okZ_i64 Gzd.out) g _).mono ?_
    rintro e W1 ⟨⟨c, hc, rfl⟩, hE⟩
    exact ⟨rfl, SaysP.no HN.out hc, Ext.trans hS.1.1 hE⟩
   ·have g2 : mulO K zd zd = some zq := by rw [Hzq.out, g]; rfl
    refine (Try.adamMulS K HK.out (a := zd) (b := zd) (okZ_i64 Gzd.out) (okZ_i64 Gzd.out) g2 _).mono ?_
    rintro e W1 ⟨rfl, hE⟩
    exact hKO _ W1 hE ⟨rfl, g2⟩
  ·have e0 := isOf hp.1; have e2 := isOf hp.2.1; have e3 := isOf hp.2.2.1
   have e7 : vs 7 = .int .i64 zq := (hp.2.2.2.1).1
   have Gzq : Hid (mulO K zd zd = some zq) := Lib.hid (hp.2.2.2.1).2
   simp only [e0, e2, e3, e7] at hKO; go_simp
   cases g : mixO K b2 vt zq
   ·have HN : Hid (placeO K ⟨lr, b1, b2, eps, wd, false⟩ p0 p1 wt mt vt gt = none) := Lib.hid (by unfold placeO gradO lessO; simp only [HX0.out, HX1.out, Gzt.out, Gzd.out, Gzm.out, Gzq.out, g, Option.bind_some, Option.bind_none, if_false, Bool.false_eq_true])
    refine (Try.adamMixN K HK.out (be := b2) (a := vt) (b := zq) HP.out.v (okZ_i64 Gzq.out) HP.out.b20 HP.out.b21 g _).mono ?_
    rintro e W1 ⟨⟨c, hc, rfl⟩, hE⟩
    exact ⟨rfl, SaysP.no HN.out hc, Ext.trans hS.1.1 hE⟩
   ·have g2 : mixO K b2 vt zq = some zv := by rw [Hzv.out, g]; rfl
    refine (Try.adamMixS K HK.out (be := b2) (a := vt) (b := zq) HP.out.v (okZ_i64 Gzq.out) HP.out.b20 HP.out.b21 g2 _).mono ?_
    rintro e W1 ⟨rfl, hE⟩
    exact hKO _ W1 hE ⟨rfl, g2⟩
  ·have e8 : vs 8 = .int .i64 zv := (hp.1).1
   have Gzv : Hid (mixO K b2 vt zq = some zv) := Lib.hid (hp.1).2
   simp only [e8] at hKO; go_simp; exact hKO _ W (.refl W) rfl
 intro vs W3 hS hp
 clear szw3 E0 p7 p8 p9
 obtain ⟨⟨E0, p7, p8, p9⟩, sz3⟩ := hS
 obtain ⟨h3_0, h3_1, h3_2, h3_3, h3_4, h3_5, h3_6, h3_7, h3_8, h3_9, -⟩ := hp
 obtain ⟨h3_7, Gzq⟩ := h3_7
 replace Gzq := Lib.hid Gzq
 obtain ⟨h3_8, Gzv⟩ := h3_8
 replace Gzv := Lib.hid Gzv
 simp only [isOf h3_0, isOf h3_1, isOf h3_2, isOf h3_3, isOf h3_4, isOf h3_5, isOf h3_6, isOf h3_9]
 clear h3_0 h3_1 h3_2 h3_3 h3_4 h3_5 h3_6 h3_7 h3_8 h3_9
 have k7a := p7.cell 0 (v := .int .i64 (K : Int)) rfl
 obtain ⟨k8a, k8b, k8c, k8d, k8e, k8f⟩ := p8.c6
 obtain ⟨k9a, k9b⟩ := p9.c2
 go_upto_region 6 with (fail)
 clear k7a k8a k8b k8c k8d k8e k8f k9a k9b
 obtain ⟨zx, Hzx⟩ : ∃ z, z = (divO K zm X0).getD 0 := ⟨_, rfl⟩
 replace Hzx := Lib.hid Hzx
 have szw4 := Ext.size E0
 refine region_gk [isV (.agg #[.int .i64 (K : Int)]), isV (.int .i64 zm), isV (.pointer (some ⟨w.heap.size, 0, none⟩)), isV (.int .i64 (K : Int)), isV (.int .i64 (oneZ K)), isV (.pointer (some ⟨w.heap.size + 1 + 1, 0, none⟩)), isV (.int .i64 p0), isV (.int .i64 X0),
   .one fun v _ => v = .int .i64 zx ∧ divO K zm X0 = some zx,
   .one fun v _ => v = .int .i64 zx] ⟨Good.is _, Good.is _, Good.is _, Good.is _, Good.is _, Good.is _, Good.is _, Good.is _, Good.may _ _, Good.is _, trivial⟩ (E0.s.k (p7.s.k (p8.s.k (p9.s)))) (A := ?A4) ?hA4 ?howe4 ?hfin4
 case hA4 =>
  intro vs
  simp only [putAll, Act.put, sA, sZ, sS, Nat.zero_add, Nat.reduceAdd]
  exact rfl
 case howe4 =>
  clear E0 p7 p8 p9
  intro hf
  refine ⟨oE 0 [] hf rfl ?_, oP0 1 [] hf rfl, oP0 2 [] hf rfl, oE 3 [2] hf rfl ?_, oE 4 [3] hf rfl ?_, oP0 5 [] hf rfl, oE 6 [5] hf rfl ?_, oP2 7 [4, 6] hf rfl, oE 8 [0, 1, 7] hf rfl ?_, oE 9 [8] hf rfl ?_, trivial⟩
  all_goals intro vs W hS hp hx KO hKO
  all_goals simp only [Act.put, sA, sZ, sS] at hKO
  ·have fc0 := BxA.cell (hS.1.2.1) 0 (v := .int .i64 (K : Int)) rfl; go_simp; exact hKO _ W (.refl W) rfl
  ·have e2 := isOf hp.1; simp only [e2] at hKO; have fc0 := BxA.cell (hS.1.2.1) 0 (v := .int .i64 (K : Int)) rfl; go_simp; exact hKO _ W (.refl W) rfl
  ·have e3 := isOf hp.1; simp only [e3] at hKO; go_simp
   refine (Try.adamOne K HK.out _).mono ?_
   rintro e W1 ⟨rfl, hE⟩
   exact hKO _ W1 hE rfl
  ·have e5 := isOf hp.1; simp only [e5] at hKO; have fc0 := hS.1.2.2.2.cell0; go_simp; exact hKO _ W (.refl W) rfl
  ·have e0 := isOf hp.1; have e1 := isOf hp.2.1; have e7 := isOf hp.2.2.1; simp only [e0, e1, e7] at hKO; go_simp
   cases g : divO K zm X0
   ·have HN : Hid (placeO K ⟨lr, b1, b2, eps, wd, false⟩ p0 p1 wt mt vt gt = none) := Lib.hid (by unfold placeO gradO lessO; simp only [HX0.out, HX1.out, Gzt.out, Gzd.out, Gzm.out, Gzq.out, Gzv.out, g, Option.bind_some, Option.bind_none, if_false, Bool.false_eq_true])
    refine (Try.adamDivN K HK.out (a := zm) (b := X0) (mixO_i64 Gzm.out) HI0.out.1 (by have := HI0.out.2; omega) g _).mono ?_
    rintro e W1 ⟨⟨c, hc, rfl⟩, hE⟩
    exact ⟨rfl, SaysP.no HN.out hc, Ext.trans hS.1.1 hE⟩
   ·have g2 : divO K zm X0 = some zx := by rw [Hzx.out, g]; rfl
    refine (Try.adamDivS K HK.out (a := zm) (b := X0) (mixO_i64 Gzm.out) HI0.out.1 (by have := HI0.out.2; omega) g2 _).mono ?_
    rintro e W1 ⟨rfl, hE⟩
    exact hKO _ W1 hE ⟨rfl, g2⟩
  ·have e8 : vs 8 = .int .i64 zx := (hp.1).1
   have Gzx : Hid (divO K zm X0 = some zx) := Lib.hid (hp.1).2
   simp only [e8] at hKO; go_simp; exact hKO _ W (.refl W) rfl
 intro vs W4 hS hp
 clear szw4 E0 p7 p8 p9
 obtain ⟨⟨E0, p7, p8, p9⟩, sz4⟩ := hS
 obtain ⟨h4_0, h4_1, h4_2, h4_3, h4_4, h4_5, h4_6, h4_7, h4_8, h4_9, -⟩ := hp
 obtain ⟨h4_8, Gzx⟩ := h4_8
 replace Gzx := Lib.hid Gzx
 simp only [isOf h4_0, isOf h4_1, isOf h4_2, isOf h4_3, isOf h4_4, isOf h4_5, isOf h4_6, isOf h4_7, isOf h4_9]
 clear h4_0 h4_1 h4_2 h4_3 h4_4 h4_5 h4_6 h4_7 h4_8 h4_9
 have k7a := p7.cell 0 (v := .int .i64 (K : Int)) rfl
 obtain ⟨k8a, k8b, k8c, k8d, k8e, k8f⟩ := p8.c6
 obtain ⟨k9a, k9b⟩ := p9.c2
 go_upto_region 7 with (fail)
 clear k7a k8a k8b k8c k8d k8e k8f k9a k9b
 obtain ⟨zy, Hzy⟩ : ∃ z, z = (divO K zv X1).getD 0 := ⟨_, rfl⟩
 replace Hzy := Lib.hid Hzy
 have szw5 := Ext.size E0
 refine region_gk [isV (.agg #[.int .i64 (K : Int)]), isV (.int .i64 zv), isV (.pointer (some ⟨w.heap.size, 0, none⟩)), isV (.int .i64 (K : Int)), isV (.int .i64 (oneZ K)), isV (.pointer (some ⟨w.heap.size + 1 + 1, 1, none⟩)), isV (.int .i64 p1), isV (.int .i64 X1),
   .one fun v _ => v = .int .i64 zy ∧ divO K zv X1 = some zy,
   .one fun v _ => v = .int .i64 zy] ⟨Good.is _, Good.is _, Good.is _, Good.is _, Good.is _, Good.is _, Good.is _, Good.is _, Good.may _ _, Good.is _, trivial⟩ (E0.s.k (p7.s.k (p8.s.k (p9.s)))) (A := ?A5) ?hA5 ?howe5 ?hfin5
 case hA5 =>
  intro vs
  simp only [putAll, Act.put, sA, sZ, sS, Nat.zero_add, Nat.reduceAdd]
  exact rfl
 case howe5 =>
  clear E0 p7 p8 p9
  intro hf
  refine ⟨oE 0 [] hf rfl ?_, oP0 1 [] hf rfl, oP0 2 [] hf rfl, oE 3 [2] hf rfl ?_, oE 4 [3] hf rfl ?_, oP0 5 [] hf rfl, oE 6 [5] hf rfl ?_, oP2 7 [4, 6] hf rfl, oE 8 [0, 1, 7] hf rfl ?_, oE 9 [8] hf rfl ?_, trivial⟩
  all_goals intro vs W hS hp hx KO hKO
  all_goals simp only [Act.put, sA, sZ, sS] at hKO
  ·have fc0 := BxA.cell (hS.1.2.1) 0 (v := .int .i64 (K : Int)) rfl; go_simp; exact hKO _ W (.refl W) rfl
  ·have e2 := isOf hp.1; simp only [e2] at hKO; have fc0 := BxA.cell (hS.1.2.1) 0 (v := .int .i64 (K : Int)) rfl; go_simp; exact hKO _ W (.refl W) rfl
  ·have e3 := isOf hp.1; simp only [e3] at hKO; go_simp
   refine (Try.adamOne K HK.out _).mono ?_
   rintro e W1 ⟨rfl, hE⟩
   exact hKO _ W1 hE rfl
  ·have e5 := isOf hp.1; simp only [e5] at hKO; have fc1 := hS.1.2.2.2.cell1; go_simp; exact hKO _ W (.refl W) rfl
  ·have e0 := isOf hp.1; have e1 := isOf hp.2.1; have e7 := isOf hp.2.2.1; simp only [e0, e1, e7] at hKO; go_simp
   cases g : divO K zv X1
   ·have HN : Hid (placeO K ⟨lr, b1, b2, eps, wd, false⟩ p0 p1 wt mt vt gt = none) := Lib.hid (by unfold placeO gradO lessO; simp only [HX0.out, HX1.out, Gzt.out, Gzd.out, Gzm.out, Gzq.out, Gzv.out, Gzx.out, g, Option.bind_some, Option.bind_none, if_false, Bool.false_eq_true])
    refine (Try.adamDivN K HK.out (a := zv) (b := X1) (mixO_i64 Gzv.out) HI1.out.1 (by have := HI1.out.2; omega) g _).mono ?_
    rintro e W1 ⟨⟨c, hc, rfl⟩, hE⟩
    exact ⟨rfl, SaysP.no HN.out hc, Ext.trans hS.1.1 hE⟩
   ·have g2 : divO K zv X1 = some zy := by rw [Hzy.out, g]; rfl
    refine (Try.adamDivS K HK.out (a := zv) (b := X1) (mixO_i64 Gzv.out) HI1.out.1 (by have := HI1.out.2; omega) g2 _).mono ?_
    rintro e W1 ⟨rfl, hE⟩
    exact hKO _ W1 hE ⟨rfl, g2⟩
  ·have e8 : vs 8 = .int .i64 zy := (hp.1).1
   have Gzy : Hid (divO K zv X1 = some zy) := Lib.hid (hp.1).2
   simp only [e8] at hKO; go_simp; exact hKO _ W (.refl W) rfl
 intro vs W5 hS hp
 clear szw5 E0 p7 p8 p9
 obtain ⟨⟨E0, p7, p8, p9⟩, sz5⟩ := hS
 obtain ⟨h5_0, h5_1, h5_2, h5_3, h5_4, h5_5, h5_6, h5_7, h5_8, h5_9, -⟩ := hp
 obtain ⟨h5_8, Gzy⟩ := h5_8
 replace Gzy := Lib.hid Gzy
 simp only [isOf h5_0, isOf h5_1, isOf h5_2, isOf h5_3, isOf h5_4, isOf h5_5, isOf h5_6, isOf h5_7, isOf h5_9]
 clear h5_0 h5_1 h5_2 h5_3 h5_4 h5_5 h5_6 h5_7 h5_8 h5_9
 have k7a := p7.cell 0 (v := .int .i64 (K : Int)) rfl
 obtain ⟨k8a, k8b, k8c, k8d, k8e, k8f⟩ := p8.c6
 obtain ⟨k9a, k9b⟩ := p9.c2
 go_upto_region 8 with (fail)
 clear k7a k8a k8b k8c k8d k8e k8f k9a k9b
 obtain ⟨zs, Hzs⟩ : ∃ z, z = (addO (rootW K zy) eps).getD 0 := ⟨_, rfl⟩
 replace Hzs := Lib.hid Hzs
 obtain ⟨zu, Hzu⟩ : ∃ z, z = (divO K zx zs).getD 0 := ⟨_, rfl⟩
 replace Hzu := Lib.hid Hzu
 have HY : Hid (0 ≤ zy) := Lib.hid (divO_nonneg Gzy.out (mixO_nonneg Gzv.out HP.out.b20 HP.out.b21 HP.out.v0 (mulO_sq Gzq.out)) HI1.out.2)
 have szw6 := Ext.size E0
 refine region_gk [isV (.agg #[.int .i64 (K : Int)]), isV (.int .i64 zx), isV (.agg #[.int .i64 (K : Int)]), isV (.agg #[.int .i64 (K : Int)]), isV (.int .i64 zy), isV (.int .i64 (rootW K zy)), isV (.pointer (some ⟨w.heap.size + 1, 3, none⟩)), isV (.int .i64 eps),
   .one fun v _ => v = .int .i64 zs ∧ addO (rootW K zy) eps = some zs,
   .one fun v _ => v = .int .i64 zu ∧ divO K zx zs = some zu,
   .one fun v _ => v = .int .i64 zu] ⟨Good.is _, Good.is _, Good.is _, Good.is _, Good.is _, Good.is _, Good.is _, Good.is _, Good.may _ _, Good.may _ _, Good.is _, trivial⟩ (E0.s.k (p7.s.k (p8.s.k (p9.s)))) (A := ?A6) ?hA6 ?howe6 ?hfin6
 case hA6 =>
  intro vs
  simp only [putAll, Act.put, sA, sZ, sS, Nat.zero_add, Nat.reduceAdd]
  exact rfl
 case howe6 =>
  clear E0 p7 p8 p9
  intro hf
  refine ⟨oE 0 [] hf rfl ?_, oP0 1 [] hf rfl, oE 2 [] hf rfl ?_, oE 3 [] hf rfl ?_, oP0 4 [] hf rfl, oE 5 [3, 4] hf rfl ?_, oP0 6 [] hf rfl, oE 7 [6] hf rfl ?_, oE 8 [2, 5, 7] hf rfl ?_, oE 9 [0, 1, 8] hf rfl ?_, oE 10 [9] hf rfl ?_, trivial⟩
  all_goals intro vs W hS hp hx KO hKO
  all_goals simp only [Act.put, sA, sZ, sS] at hKO
  ·have fc0 := BxA.cell (hS.1.2.1) 0 (v := .int .i64 (K : Int)) rfl; go_simp; exact hKO _ W (.refl W) rfl
  ·have fc0 := BxA.cell (hS.1.2.1) 0 (v := .int .i64 (K : Int)) rfl; go_simp; exact hKO _ W (.refl W) rfl
  ·have fc0 := BxA.cell (hS.1.2.1) 0 (v := .int .i64 (K : Int)) rfl; go_simp; exact hKO _ W (.refl W) rfl
  ·have e3 := isOf hp.1; have e4 := isOf hp.2.1; simp only [e3, e4] at hKO; go_simp
   refine (Try.adamRoot K HK.out (okZ_i64 Gzy.out) HY.out _).mono ?_
   rintro e W1 ⟨rfl, hE⟩
   exact hKO _ W1 hE rfl
  ·have e6 := isOf hp.1; simp only [e6] at hKO; have fc3 := BxA.cell (hS.1.2.2.1) 3 (v := .int .i64 eps) rfl; go_simp; exact hKO _ W (.refl W) rfl
  ·have e2 := isOf hp.1; have e5 := isOf hp.2.1; have e7 := isOf hp.2.2.1; simp only [e2, e5, e7] at hKO; go_simp
   cases g : addO (rootW K zy) eps
   ·have HN : Hid (placeO K ⟨lr, b1, b2, eps, wd, false⟩ p0 p1 wt mt vt gt = none) := Lib.hid (by unfold placeO gradO lessO; simp only [HX0.out, HX1.out, Gzt.out, Gzd.out, Gzm.out, Gzq.out, Gzv.out, Gzx.out, Gzy.out, g, Option.bind_some, Option.bind_none, if_false, Bool.false_eq_true])
    refine (Try.adamAddN K HK.out (a := (rootW K zy)) (b := eps) (rootW_i64 HK.out (okZ_i64 Gzy.out)) HP.out.eps g _).mono ?_
    rintro e W1 ⟨⟨c, hc, rfl⟩, hE⟩
    exact ⟨rfl, SaysP.no HN.out hc, Ext.trans hS.1.1 hE⟩
   ·have g2 : addO (rootW K zy) eps = some zs := by rw [Hzs.out, g]; rfl
    refine (Try.adamAddS K HK.out (a := (rootW K zy)) (b := eps) (rootW_i64 HK.out (okZ_i64 Gzy.out)) HP.out.eps g2 _).mono ?_
    rintro e W1 ⟨rfl, hE⟩
    exact hKO _ W1 hE ⟨rfl, g2⟩
  ·have e0 := isOf hp.1; have e1 := isOf hp.2.1
   have e8 : vs 8 = .int .i64 zs := (hp.2.2.1).1
   have Gzs : Hid (addO (rootW K zy) eps = some zs) := Lib.hid (hp.2.2.1).2
   simp only [e0, e1, e8] at hKO
   have HS : Hid (0 < zs) := Lib.hid (addO_pos Gzs.out (rootW_nonneg K zy) HP.out.eps0)
   go_simp
   cases g : divO K zx zs
   ·have HN : Hid (placeO K ⟨lr, b1, b2, eps, wd, false⟩ p0 p1 wt mt vt gt = none) := Lib.hid (by unfold placeO gradO lessO; simp only [HX0.out, HX1.out, Gzt.out, Gzd.out, Gzm.out, Gzq.out, Gzv.out, Gzx.out, Gzy.out, Gzs.out, g, Option.bind_some, Option.bind_none, if_false, Bool.false_eq_true])
    refine (Try.adamDivN K HK.out (a := zx) (b := zs) (okZ_i64 Gzx.out) (okZ_i64 Gzs.out) (by have := HS.out; omega) g _).mono ?_
    rintro e W1 ⟨⟨c, hc, rfl⟩, hE⟩
    exact ⟨rfl, SaysP.no HN.out hc, Ext.trans hS.1.1 hE⟩
   ·have g2 : divO K zx zs = some zu := by rw [Hzu.out, g]; rfl
    refine (Try.adamDivS K HK.out (a := zx) (b := zs) (okZ_i64 Gzx.out) (okZ_i64 Gzs.out) (by have := HS.out; omega) g2 _).mono ?_
    rintro e W1 ⟨rfl, hE⟩
    exact hKO _ W1 hE ⟨rfl, g2⟩
  ·have e9 : vs 9 = .int .i64 zu := (hp.1).1
   have Gzu : Hid (divO K zx zs = some zu) := Lib.hid (hp.1).2
   simp only [e9] at hKO; go_simp; exact hKO _ W (.refl W) rfl
 intro vs W6 hS hp
 clear szw6 E0 p7 p8 p9
 obtain ⟨⟨E0, p7, p8, p9⟩, sz6⟩ := hS
 obtain ⟨h6_0, h6_1, h6_2, h6_3, h6_4, h6_5, h6_6, h6_7, h6_8, h6_9, h6_10, -⟩ := hp
 obtain ⟨h6_8, Gzs⟩ := h6_8
 replace Gzs := Lib.hid Gzs
 obtain ⟨h6_9, Gzu⟩ := h6_9
 replace Gzu := Lib.hid Gzu
 simp only [isOf h6_0, isOf h6_1, isOf h6_2, isOf h6_3, isOf h6_4, isOf h6_5, isOf h6_6, isOf h6_7, isOf h6_10]
 clear h6_0 h6_1 h6_2 h6_3 h6_4 h6_5 h6_6 h6_7 h6_8 h6_9 h6_10
 have k7a := p7.cell 0 (v := .int .i64 (K : Int)) rfl
 obtain ⟨k8a, k8b, k8c, k8d, k8e, k8f⟩ := p8.c6
 obtain ⟨k9a, k9b⟩ := p9.c2
 go_upto_region 9 with (fail)
 clear k7a k8a k8b k8c k8d k8e k8f k9a k9b
 obtain ⟨zt2, Hzt2⟩ : ∃ z, z = (mulO K lr zu).getD 0 := ⟨_, rfl⟩
 replace Hzt2 := Lib.hid Hzt2
 obtain ⟨zn, Hzn⟩ : ∃ z, z = (subO wt zt2).getD 0 := ⟨_, rfl⟩
 replace Hzn := Lib.hid Hzn
 have szw7 := Ext.size E0
 refine region_gk [isV (.agg #[.int .i64 (K : Int)]), isV (.int .i64 wt), isV (.agg #[.int .i64 (K : Int)]), isV (.pointer (some ⟨w.heap.size + 1, 0, none⟩)), isV (.int .i64 lr), isV (.int .i64 zu),
   .one fun v _ => v = .int .i64 zt2 ∧ mulO K lr zu = some zt2,
   .one fun v _ => v = .int .i64 zn ∧ subO wt zt2 = some zn,
   .one fun v _ => v = .int .i64 zn] ⟨Good.is _, Good.is _, Good.is _, Good.is _, Good.is _, Good.is _, Good.may _ _, Good.may _ _, Good.is _, trivial⟩ (E0.s.k (p7.s.k (p8.s.k (p9.s)))) (A := ?A7) ?hA7 ?howe7 ?hfin7
 case hA7 =>
  intro vs
  simp only [putAll, Act.put, sA, sZ, sS, Nat.zero_add, Nat.reduceAdd]
  exact rfl
 case howe7 =>
  clear E0 p7 p8 p9
  intro hf
  refine ⟨oE 0 [] hf rfl ?_, oP0 1 [] hf rfl, oE 2 [] hf rfl ?_, oP0 3 [] hf rfl, oE 4 [3] hf rfl ?_, oP0 5 [] hf rfl, oE 6 [2, 4, 5] hf rfl ?_, oE 7 [0, 1, 6] hf rfl ?_, oE 8 [7] hf rfl ?_, trivial⟩
  all_goals intro vs W hS hp hx KO hKO
  all_goals simp only [Act.put, sA, sZ, sS] at hKO
  ·have fc0 := BxA.cell (hS.1.2.1) 0 (v := .int .i64 (K : Int)) rfl; go_simp; exact hKO _ W (.refl W) rfl
  ·have fc0 := BxA.cell (hS.1.2.1) 0 (v := .int .i64 (K : Int)) rfl; go_simp; exact hKO _ W (.refl W) rfl
  ·have e3 := isOf hp.1; simp only [e3] at hKO; have fc0 := BxA.cell (hS.1.2.2.1) 0 (v := .int .i64 lr) rfl; go_simp; exact hKO _ W (.refl W) rfl
  ·have e2 := isOf hp.1; have e4 := isOf hp.2.1; have e5 := isOf hp.2.2.1; simp only [e2, e4, e5] at hKO; go_simp
   cases g : mulO K lr zu
   ·have HN : Hid (placeO K ⟨lr, b1, b2, eps, wd, false⟩ p0 p1 wt mt vt gt = none) := Lib.hid (by unfold placeO gradO lessO; simp only [HX0.out, HX1.out, Gzt.out, Gzd.out, Gzm.out, Gzq.out, Gzv.out, Gzx.out, Gzy.out, Gzs.out, Gzu.out, g, Option.bind_some, Option.bind_none, if_false, Bool.false_eq_true])
    refine (Try.adamMulN K HK.out (a := lr) (b := zu) HP.out.lr (okZ_i64 Gzu.out) g _).mono ?_
    rintro e W1 ⟨⟨c, hc, rfl⟩, hE⟩
    exact ⟨rfl, SaysP.no HN.out hc, Ext.trans hS.1.1 hE⟩
   ·have g2 : mulO K lr zu = some zt2 := by rw [Hzt2.out, g]; rfl
    refine (Try.adamMulS K HK.out (a := lr) (b := zu) HP.out.lr (okZ_i64 Gzu.out) g2 _).mono ?_
    rintro e W1 ⟨rfl, hE⟩
    exact hKO _ W1 hE ⟨rfl, g2⟩
  ·have e0 := isOf hp.1; have e1 := isOf hp.2.1
   have e6 : vs 6 = .int .i64 zt2 := (hp.2.2.1).1
   have Gzt2 : Hid (mulO K lr zu = some zt2) := Lib.hid (hp.2.2.1).2
   simp only [e0, e1, e6] at hKO; go_simp
   cases g : subO wt zt2
   ·have HN : Hid (placeO K ⟨lr, b1, b2, eps, wd, false⟩ p0 p1 wt mt vt gt = none) := Lib.hid (by unfold placeO gradO lessO; simp only [HX0.out, HX1.out, Gzt.out, Gzd.out, Gzm.out, Gzq.out, Gzv.out, Gzx.out, Gzy.out, Gzs.out, Gzu.out, Gzt2.out, g, Option.bind_some, Option.bind_none, if_false, Bool.false_eq_true])
    refine (Try.adamSubN K HK.out (a := wt) (b := zt2) HP.out.w (okZ_i64 Gzt2.out) g _).mono ?_
    rintro e W1 ⟨⟨c, hc, rfl⟩, hE⟩
    exact ⟨rfl, SaysP.no HN.out hc, Ext.trans hS.1.1 hE⟩
   ·have g2 : subO wt zt2 = some zn := by rw [Hzn.out, g]; rfl
    refine (Try.adamSubS K HK.out (a := wt) (b := zt2) HP.out.w (okZ_i64 Gzt2.out) g2 _).mono ?_
    rintro e W1 ⟨rfl, hE⟩
    exact hKO _ W1 hE ⟨rfl, g2⟩
  ·have e7 : vs 7 = .int .i64 zn := (hp.1).1
   have Gzn : Hid (subO wt zt2 = some zn) := Lib.hid (hp.1).2
   simp only [e7] at hKO; go_simp; exact hKO _ W (.refl W) rfl
 intro vs W7 hS hp
 clear szw7 E0 p7 p8 p9
 obtain ⟨⟨E0, p7, p8, p9⟩, sz7⟩ := hS
 obtain ⟨h7_0, h7_1, h7_2, h7_3, h7_4, h7_5, h7_6, h7_7, h7_8, -⟩ := hp
 obtain ⟨h7_6, Gzt2⟩ := h7_6
 replace Gzt2 := Lib.hid Gzt2
 obtain ⟨h7_7, Gzn⟩ := h7_7
 replace Gzn := Lib.hid Gzn
 simp only [isOf h7_0, isOf h7_1, isOf h7_2, isOf h7_3, isOf h7_4, isOf h7_5, isOf h7_8]
 clear h7_0 h7_1 h7_2 h7_3 h7_4 h7_5 h7_6 h7_7 h7_8
 have HR : Hid (placeO K ⟨lr, b1, b2, eps, wd, false⟩ p0 p1 wt mt vt gt = some (zn, zm, zv)) := Lib.hid (by unfold placeO gradO lessO; simp only [HX0.out, HX1.out, Gzt.out, Gzd.out, Gzm.out, Gzq.out, Gzv.out, Gzx.out, Gzy.out, Gzs.out, Gzu.out, Gzt2.out, Gzn.out, Option.bind_some, if_false, Bool.false_eq_true])
 have k7a := p7.cell 0 (v := .int .i64 (K : Int)) rfl
 obtain ⟨k8a, k8b, k8c, k8d, k8e, k8f⟩ := p8.c6
 obtain ⟨k9a, k9b⟩ := p9.c2
 go_wp2
 go_ret3
 exact ⟨SaysP.yes HR.out, E0⟩

set_option maxRecDepth 100000 in
set_option maxHeartbeats 16000000 in
theorem Try.adamPlaceA {K : Nat} {lr b1 b2 eps wd p0 p1 wt mt vt gt : Int} (h : PlaceIn K ⟨lr, b1, b2, eps, wd, true⟩ p0 p1 wt mt vt gt) (w : World) :
  Calls Try.prog 45 #[.agg #[.int .i64 (K : Int)], .agg #[.int .i64 lr, .int .i64 b1, .int .i64 b2, .int .i64 eps, .int .i64 wd, .bool true], .agg #[.int .i64 p0, .int .i64 p1], .int .i64 wt, .int .i64 mt, .int .i64 vt, .int .i64 gt] w fun e w' => SaysP 82 e (placeO K ⟨lr, b1, b2, eps, wd, true⟩ p0 p1 wt mt vt gt) ∧ Ext w w' := by
 have HP := Lib.hid h
 have HK := Lib.hid h.k
 obtain ⟨X0, hX0⟩ : ∃ x, oneZ K - p0 = x := ⟨_, rfl⟩
 obtain ⟨X1, hX1⟩ : ∃ x, oneZ K - p1 = x := ⟨_, rfl⟩
 have hw0 : IntKind.i64.wrap (oneZ K - p0) = X0 := by rw [one_wrap h.k h.p00 (Int.le_of_lt h.p01), hX0]
 have hw1 : IntKind.i64.wrap (oneZ K - p1) = X1 := by rw [one_wrap h.k h.p10 (Int.le_of_lt h.p11), hX1]
 have HI0 : Hid (I64 X0 ∧ 0 < X0) := Lib.hid ⟨by rw [← hX0]; exact one_i64 h.k h.p00 (Int.le_of_lt h.p01), by have := h.p01; omega⟩
 have HI1 : Hid (I64 X1 ∧ 0 < X1) := Lib.hid ⟨by rw [← hX1]; exact one_i64 h.k h.p10 (Int.le_of_lt h.p11), by have := h.p11; omega⟩
 have HX0 := Lib.hid hX0
 have HX1 := Lib.hid hX1
 clear h hX0 hX1
 obtain ⟨W0, hW0, E0, p7, p8, p9⟩ := boxed3 w 62 #[.int .i64 (K : Int)] 42 #[.int .i64 lr, .int .i64 b1, .int .i64 b2, .int .i64 eps, .int .i64 wd, .bool true] 43 #[.int .i64 p0, .int .i64 p1]
 replace p9 := p9.b2
 go_enter Try.func45, Try.ntmps45
 have k7a := p7.cell 0 (v := .int .i64 (K : Int)) rfl
 obtain ⟨k8a, k8b, k8c, k8d, k8e, k8f⟩ := p8.c6
 obtain ⟨k9a, k9b⟩ := p9.c2
 go_upto_region 4 with (fail)
 rw [← hW0]
 clear hW0; clear k7a k8a k8b k8c k8d k8e k8f k9a k9b
 obtain ⟨zm, Hzm⟩ : ∃ z, z = (mixO K b1 mt gt).getD 0 := ⟨_, rfl⟩
 replace Hzm := Lib.hid Hzm
 have ltp7 := p7.lt; have ltp8 := p8.lt; have ltp9 := p9.lt; have szw8 := Ext.size E0
 refine region_gk [isV (.agg #[.int .i64 (K : Int)]), isV (.pointer (some ⟨w.heap.size + 1, 1, none⟩)), isV (.int .i64 b1), isV (.int .i64 mt), isV (.int .i64 gt),
   .one fun v _ => v = .int .i64 zm ∧ mixO K b1 mt gt = some zm,
   .one fun v _ => v = .int .i64 zm] ⟨Good.is _, Good.is _, Good.is _, Good.is _, Good.is _, Good.may _ _, Good.is _, trivial⟩ (E0.s.k (p7.s.k (p8.s.k (p9.s)))) (A := ?A8) ?hA8 ?howe8 ?hfin8
 case hA8 =>
  intro vs
  simp only [putAll, Act.put, sA, sZ, sS, Nat.zero_add, Nat.reduceAdd]
  exact rfl
 case howe8 =>
  clear E0 p7 p8 p9
  intro hf
  refine ⟨oE 0 [] hf rfl ?_, oP0 1 [] hf rfl, oE 2 [1] hf rfl ?_, oE 3 [] hf rfl ?_, oP0 4 [] hf rfl, oE 5 [0, 2, 3, 4] hf rfl ?_, oE 6 [5] hf rfl ?_, trivial⟩
  all_goals intro vs W hS hp hx KO hKO
  all_goals simp only [Act.put, sA, sZ, sS] at hKO
  ·have fc0 := BxA.cell (hS.1.2.1) 0 (v := .int .i64 (K : Int)) rfl; go_simp; exact hKO _ W (.refl W) rfl
  ·have e1 := isOf hp.1; simp only [e1] at hKO; have fc1 := BxA.cell (hS.1.2.2.1) 1 (v := .int .i64 b1) rfl; go_simp; exact hKO _ W (.refl W) rfl
  ·have eo6 : vs 6 = .int .i64 mt := hx.at 6 rfl (by kernel_rfl) rfl
   simp only [eo6] at hKO; go_simp; exact hKO _ W (.refl W) rfl
  ·have e0 := isOf hp.1; have e2 := isOf hp.2.1; have e3 := isOf hp.2.2.1; have e4 := isOf hp.2.2.2.1; simp only [e0, e2, e3, e4] at hKO; go_simp
   cases g : mixO K b1 mt gt
   ·have HN : Hid (placeO K ⟨lr, b1, b2, eps, wd, true⟩ p0 p1 wt mt vt gt = none) := Lib.hid (by unfold placeO gradO lessO; simp only [HX0.out, HX1.out, g, Option.bind_some, Option.bind_none, if_true])
    refine (Try.adamMixN K HK.out (be := b1) (a := mt) (b := gt) HP.out.m HP.out.g HP.out.b10 HP.out.b11 g _).mono ?_
    rintro e W1 ⟨⟨c, hc, rfl⟩, hE⟩
    exact ⟨rfl, SaysP.no HN.out hc, Ext.trans hS.1.1 hE⟩
   ·have g2 : mixO K b1 mt gt = some zm := by rw [Hzm.out, g]; rfl
    refine (Try.adamMixS K HK.out (be := b1) (a := mt) (b := gt) HP.out.m HP.out.g HP.out.b10 HP.out.b11 g2 _).mono ?_
    rintro e W1 ⟨rfl, hE⟩
    exact hKO _ W1 hE ⟨rfl, g2⟩
  ·have e5 : vs 5 = .int .i64 zm := (hp.1).1
   have Gzm : Hid (mixO K b1 mt gt = some zm) := Lib.hid (hp.1).2
   simp only [e5] at hKO; go_simp; exact hKO _ W (.refl W) rfl
 intro vs W8 hS hp
 clear szw8 E0 p7 p8 p9
 obtain ⟨⟨E0, p7, p8, p9⟩, sz8⟩ := hS
 obtain ⟨h8_0, h8_1, h8_2, h8_3, h8_4, h8_5, h8_6, -⟩ := hp
 obtain ⟨h8_5, Gzm⟩ := h8_5
 replace Gzm := Lib.hid Gzm
 simp only [isOf h8_0, isOf h8_1, isOf h8_2, isOf h8_3, isOf h8_4, isOf h8_6]
 clear h8_0 h8_1 h8_2 h8_3 h8_4 h8_5 h8_6
 have k7a := p7.cell 0 (v := .int .i64 (K : Int)) rfl
 obtain ⟨k8a, k8b, k8c, k8d, k8e, k8f⟩ := p8.c6
 obtain ⟨k9a, k9b⟩ := p9.c2
 go_upto_region 5 with (fail)
 clear k7a k8a k8b k8c k8d k8e k8f k9a k9b
 obtain ⟨zq, Hzq⟩ : ∃ z, z = (mulO K gt gt).getD 0 := ⟨_, rfl⟩
 replace Hzq := Lib.hid Hzq
 obtain ⟨zv, Hzv⟩ : ∃ z, z = (mixO K b2 vt zq).getD 0 := ⟨_, rfl⟩
 replace Hzv := Lib.hid Hzv
 have szw9 := Ext.size E0
 refine region_gk [isV (.agg #[.int .i64 (K : Int)]), isV (.pointer (some ⟨w.heap.size + 1, 2, none⟩)), isV (.int .i64 b2), isV (.int .i64 vt), isV (.agg #[.int .i64 (K : Int)]), isV (.int .i64 gt), isV (.int .i64 gt),
   .one fun v _ => v = .int .i64 zq ∧ mulO K gt gt = some zq,
   .one fun v _ => v = .int .i64 zv ∧ mixO K b2 vt zq = some zv,
   .one fun v _ => v = .int .i64 zv] ⟨Good.is _, Good.is _, Good.is _, Good.is _, Good.is _, Good.is _, Good.is _, Good.may _ _, Good.may _ _, Good.is _, trivial⟩ (E0.s.k (p7.s.k (p8.s.k (p9.s)))) (A := ?A9) ?hA9 ?howe9 ?hfin9
 case hA9 =>
  intro vs
  simp only [putAll, Act.put, sA, sZ, sS, Nat.zero_add, Nat.reduceAdd]
  exact rfl
 case howe9 =>
  clear E0 p7 p8 p9
  intro hf
  refine ⟨oE 0 [] hf rfl ?_, oP0 1 [] hf rfl, oE 2 [1] hf rfl ?_, oE 3 [] hf rfl ?_, oE 4 [] hf rfl ?_, oP0 5 [] hf rfl, oP0 6 [] hf rfl, oE 7 [4, 5, 6] hf rfl ?_, oE 8 [0, 2, 3, 7] hf rfl ?_, oE 9 [8] hf rfl ?_, trivial⟩
  all_goals intro vs W hS hp hx KO hKO
  all_goals simp only [Act.put, sA, sZ, sS] at hKO
  ·have fc0 := BxA.cell (hS.1.2.1) 0 (v := .int .i64 (K : Int)) rfl; go_simp; exact hKO _ W (.refl W) rfl
  ·have e1 := isOf hp.1; simp only [e1] at hKO; have fc2 := BxA.cell (hS.1.2.2.1) 2 (v := .int .i64 b2) rfl; go_simp; exact hKO _ W (.refl W) rfl
  ·have eo9 : vs 9 = .int .i64 vt := hx.at 9 rfl (by kernel_rfl) rfl
   simp only [eo9] at hKO; go_simp; exact hKO _ W (.refl W) rfl
  ·have fc0 := BxA.cell (hS.1.2.1) 0 (v := .int .i64 (K : Int)) rfl; go_simp; exact hKO _ W (.refl W) rfl
  ·have e4 := isOf hp.1; have e5 := isOf hp.2.1; have e6 := isOf hp.2.2.1; simp only [e4, e5, e6] at hKO; go_simp
   cases g : mulO K gt gt
   ·have HN : Hid (placeO K ⟨lr, b1, b2, eps, wd, true⟩ p0 p1 wt mt vt gt = none) := Lib.hid (by unfold placeO gradO lessO; simp only [HX0.out, HX1.out, Gzm.out, g, Option.bind_some, Option.bind_none, if_true])
    refine (Try.adamMulN K HK.out (a := gt) (b := gt) HP.out.g HP.out.g g _).mono ?_
    rintro e W1 ⟨⟨c, hc, rfl⟩, hE⟩
    exact ⟨rfl, SaysP.no HN.out hc, Ext.trans hS.1.1 hE⟩
   ·have g2 : mulO K gt gt = some zq := by rw [Hzq.out, g]; rfl
    refine (Try.adamMulS K HK.out (a := gt) (b := gt) HP.out.g HP.out.g g2 _).mono ?_
    rintro e W1 ⟨rfl, hE⟩
    exact hKO _ W1 hE ⟨rfl, g2⟩
  ·have e0 := isOf hp.1; have e2 := isOf hp.2.1; have e3 := isOf hp.2.2.1
   have e7 : vs 7 = .int .i64 zq := (hp.2.2.2.1).1
   have Gzq : Hid (mulO K gt gt = some zq) := Lib.hid (hp.2.2.2.1).2
   simp only [e0, e2, e3, e7] at hKO; go_simp
   cases g : mixO K b2 vt zq
   ·have HN : Hid (placeO K ⟨lr, b1, b2, eps, wd, true⟩ p0 p1 wt mt vt gt = none) := Lib.hid (by unfold placeO gradO lessO; simp only [HX0.out, HX1.out, Gzm.out, Gzq.out, g, Option.bind_some, Option.bind_none, if_true])
    refine (Try.adamMixN K HK.out (be := b2) (a := vt) (b := zq) HP.out.v (okZ_i64 Gzq.out) HP.out.b20 HP.out.b21 g _).mono ?_
    rintro e W1 ⟨⟨c, hc, rfl⟩, hE⟩
    exact ⟨rfl, SaysP.no HN.out hc, Ext.trans hS.1.1 hE⟩
   ·have g2 : mixO K b2 vt zq = some zv := by rw [Hzv.out, g]; rfl
    refine (Try.adamMixS K HK.out (be := b2) (a := vt) (b := zq) HP.out.v (okZ_i64 Gzq.out) HP.out.b20 HP.out.b21 g2 _).mono ?_
    rintro e W1 ⟨rfl, hE⟩
    exact hKO _ W1 hE ⟨rfl, g2⟩
  ·have e8 : vs 8 = .int .i64 zv := (hp.1).1
   have Gzv : Hid (mixO K b2 vt zq = some zv) := Lib.hid (hp.1).2
   simp only [e8] at hKO; go_simp; exact hKO _ W (.refl W) rfl
 intro vs W9 hS hp
 clear szw9 E0 p7 p8 p9
 obtain ⟨⟨E0, p7, p8, p9⟩, sz9⟩ := hS
 obtain ⟨h9_0, h9_1, h9_2, h9_3, h9_4, h9_5, h9_6, h9_7, h9_8, h9_9, -⟩ := hp
 obtain ⟨h9_7, Gzq⟩ := h9_7
 replace Gzq := Lib.hid Gzq
 obtain ⟨h9_8, Gzv⟩ := h9_8
 replace Gzv := Lib.hid Gzv
 simp only [isOf h9_0, isOf h9_1, isOf h9_2, isOf h9_3, isOf h9_4, isOf h9_5, isOf h9_6, isOf h9_9]
 clear h9_0 h9_1 h9_2 h9_3 h9_4 h9_5 h9_6 h9_7 h9_8 h9_9
 have k7a := p7.cell 0 (v := .int .i64 (K : Int)) rfl
 obtain ⟨k8a, k8b, k8c, k8d, k8e, k8f⟩ := p8.c6
 obtain ⟨k9a, k9b⟩ := p9.c2
 go_upto_region 6 with (fail)
 clear k7a k8a k8b k8c k8d k8e k8f k9a k9b
 obtain ⟨zx, Hzx⟩ : ∃ z, z = (divO K zm X0).getD 0 := ⟨_, rfl⟩
 replace Hzx := Lib.hid Hzx
 have szw10 := Ext.size E0
 refine region_gk [isV (.agg #[.int .i64 (K : Int)]), isV (.int .i64 zm), isV (.pointer (some ⟨w.heap.size, 0, none⟩)), isV (.int .i64 (K : Int)), isV (.int .i64 (oneZ K)), isV (.pointer (some ⟨w.heap.size + 1 + 1, 0, none⟩)), isV (.int .i64 p0), isV (.int .i64 X0),
   .one fun v _ => v = .int .i64 zx ∧ divO K zm X0 = some zx,
   .one fun v _ => v = .int .i64 zx] ⟨Good.is _, Good.is _, Good.is _, Good.is _, Good.is _, Good.is _, Good.is _, Good.is _, Good.may _ _, Good.is _, trivial⟩ (E0.s.k (p7.s.k (p8.s.k (p9.s)))) (A := ?A10) ?hA10 ?howe10 ?hfin10
 case hA10 =>
  intro vs
  simp only [putAll, Act.put, sA, sZ, sS, Nat.zero_add, Nat.reduceAdd]
  exact rfl
 case howe10 =>
  clear E0 p7 p8 p9
  intro hf
  refine ⟨oE 0 [] hf rfl ?_, oP0 1 [] hf rfl, oP0 2 [] hf rfl, oE 3 [2] hf rfl ?_, oE 4 [3] hf rfl ?_, oP0 5 [] hf rfl, oE 6 [5] hf rfl ?_, oP2 7 [4, 6] hf rfl, oE 8 [0, 1, 7] hf rfl ?_, oE 9 [8] hf rfl ?_, trivial⟩
  all_goals intro vs W hS hp hx KO hKO
  all_goals simp only [Act.put, sA, sZ, sS] at hKO
  ·have fc0 := BxA.cell (hS.1.2.1) 0 (v := .int .i64 (K : Int)) rfl; go_simp; exact hKO _ W (.refl W) rfl
  ·have e2 := isOf hp.1; simp only [e2] at hKO; have fc0 := BxA.cell (hS.1.2.1) 0 (v := .int .i64 (K : Int)) rfl; go_simp; exact hKO _ W (.refl W) rfl
  ·have e3 := isOf hp.1; simp only [e3] at hKO; go_simp
   refine (Try.adamOne K HK.out _).mono ?_
   rintro e W1 ⟨rfl, hE⟩
   exact hKO _ W1 hE rfl
  ·have e5 := isOf hp.1; simp only [e5] at hKO; have fc0 := hS.1.2.2.2.cell0; go_simp; exact hKO _ W (.refl W) rfl
  ·have e0 := isOf hp.1; have e1 := isOf hp.2.1; have e7 := isOf hp.2.2.1; simp only [e0, e1, e7] at hKO; go_simp
   cases g : divO K zm X0
   ·have HN : Hid (placeO K ⟨lr, b1, b2, eps, wd, true⟩ p0 p1 wt mt vt gt = none) := Lib.hid (by unfold placeO gradO lessO; simp only [HX0.out, HX1.out, Gzm.out, Gzq.out, Gzv.out, g, Option.bind_some, Option.bind_none, if_true])
    refine (Try.adamDivN K HK.out (a := zm) (b := X0) (mixO_i64 Gzm.out) HI0.out.1 (by have := HI0.out.2; omega) g _).mono ?_
    rintro e W1 ⟨⟨c, hc, rfl⟩, hE⟩
    exact ⟨rfl, SaysP.no HN.out hc, Ext.trans hS.1.1 hE⟩
   ·have g2 : divO K zm X0 = some zx := by rw [Hzx.out, g]; rfl
    refine (Try.adamDivS K HK.out (a := zm) (b := X0) (mixO_i64 Gzm.out) HI0.out.1 (by have := HI0.out.2; omega) g2 _).mono ?_
    rintro e W1 ⟨rfl, hE⟩
    exact hKO _ W1 hE ⟨rfl, g2⟩
  ·have e8 : vs 8 = .int .i64 zx := (hp.1).1
   have Gzx : Hid (divO K zm X0 = some zx) := Lib.hid (hp.1).2
   simp only [e8] at hKO; go_simp; exact hKO _ W (.refl W) rfl
 intro vs W10 hS hp
 clear szw10 E0 p7 p8 p9
 obtain ⟨⟨E0, p7, p8, p9⟩, sz10⟩ := hS
 obtain ⟨h10_0, h10_1, h10_2, h10_3, h10_4, h10_5, h10_6, h10_7, h10_8, h10_9, -⟩ := hp
 obtain ⟨h10_8, Gzx⟩ := h10_8
 replace Gzx := Lib.hid Gzx
 simp only [isOf h10_0, isOf h10_1, isOf h10_2, isOf h10_3, isOf h10_4, isOf h10_5, isOf h10_6, isOf h10_7, isOf h10_9]
 clear h10_0 h10_1 h10_2 h10_3 h10_4 h10_5 h10_6 h10_7 h10_8 h10_9
 have k7a := p7.cell 0 (v := .int .i64 (K : Int)) rfl
 obtain ⟨k8a, k8b, k8c, k8d, k8e, k8f⟩ := p8.c6
 obtain ⟨k9a, k9b⟩ := p9.c2
 go_upto_region 7 with (fail)
 clear k7a k8a k8b k8c k8d k8e k8f k9a k9b
 obtain ⟨zy, Hzy⟩ : ∃ z, z = (divO K zv X1).getD 0 := ⟨_, rfl⟩
 replace Hzy := Lib.hid Hzy
 have szw11 := Ext.size E0
 refine region_gk [isV (.agg #[.int .i64 (K : Int)]), isV (.int .i64 zv), isV (.pointer (some ⟨w.heap.size, 0, none⟩)), isV (.int .i64 (K : Int)), isV (.int .i64 (oneZ K)), isV (.pointer (some ⟨w.heap.size + 1 + 1, 1, none⟩)), isV (.int .i64 p1), isV (.int .i64 X1),
   .one fun v _ => v = .int .i64 zy ∧ divO K zv X1 = some zy,
   .one fun v _ => v = .int .i64 zy] ⟨Good.is _, Good.is _, Good.is _, Good.is _, Good.is _, Good.is _, Good.is _, Good.is _, Good.may _ _, Good.is _, trivial⟩ (E0.s.k (p7.s.k (p8.s.k (p9.s)))) (A := ?A11) ?hA11 ?howe11 ?hfin11
 case hA11 =>
  intro vs
  simp only [putAll, Act.put, sA, sZ, sS, Nat.zero_add, Nat.reduceAdd]
  exact rfl
 case howe11 =>
  clear E0 p7 p8 p9
  intro hf
  refine ⟨oE 0 [] hf rfl ?_, oP0 1 [] hf rfl, oP0 2 [] hf rfl, oE 3 [2] hf rfl ?_, oE 4 [3] hf rfl ?_, oP0 5 [] hf rfl, oE 6 [5] hf rfl ?_, oP2 7 [4, 6] hf rfl, oE 8 [0, 1, 7] hf rfl ?_, oE 9 [8] hf rfl ?_, trivial⟩
  all_goals intro vs W hS hp hx KO hKO
  all_goals simp only [Act.put, sA, sZ, sS] at hKO
  ·have fc0 := BxA.cell (hS.1.2.1) 0 (v := .int .i64 (K : Int)) rfl; go_simp; exact hKO _ W (.refl W) rfl
  ·have e2 := isOf hp.1; simp only [e2] at hKO; have fc0 := BxA.cell (hS.1.2.1) 0 (v := .int .i64 (K : Int)) rfl; go_simp; exact hKO _ W (.refl W) rfl
  ·have e3 := isOf hp.1; simp only [e3] at hKO; go_simp
   refine (Try.adamOne K HK.out _).mono ?_
   rintro e W1 ⟨rfl, hE⟩
   exact hKO _ W1 hE rfl
  ·have e5 := isOf hp.1; simp only [e5] at hKO; have fc1 := hS.1.2.2.2.cell1; go_simp; exact hKO _ W (.refl W) rfl
  ·have e0 := isOf hp.1; have e1 := isOf hp.2.1; have e7 := isOf hp.2.2.1; simp only [e0, e1, e7] at hKO; go_simp
   cases g : divO K zv X1
   ·have HN : Hid (placeO K ⟨lr, b1, b2, eps, wd, true⟩ p0 p1 wt mt vt gt = none) := Lib.hid (by unfold placeO gradO lessO; simp only [HX0.out, HX1.out, Gzm.out, Gzq.out, Gzv.out, Gzx.out, g, Option.bind_some, Option.bind_none, if_true])
    refine (Try.adamDivN K HK.out (a := zv) (b := X1) (mixO_i64 Gzv.out) HI1.out.1 (by have := HI1.out.2; omega) g _).mono ?_
    rintro e W1 ⟨⟨c, hc, rfl⟩, hE⟩
    exact ⟨rfl, SaysP.no HN.out hc, Ext.trans hS.1.1 hE⟩
   ·have g2 : divO K zv X1 = some zy := by rw [Hzy.out, g]; rfl
    refine (Try.adamDivS K HK.out (a := zv) (b := X1) (mixO_i64 Gzv.out) HI1.out.1 (by have := HI1.out.2; omega) g2 _).mono ?_
    rintro e W1 ⟨rfl, hE⟩
    exact hKO _ W1 hE ⟨rfl, g2⟩
  ·have e8 : vs 8 = .int .i64 zy := (hp.1).1
   have Gzy : Hid (divO K zv X1 = some zy) := Lib.hid (hp.1).2
   simp only [e8] at hKO; go_simp; exact hKO _ W (.refl W) rfl
 intro vs W11 hS hp
 clear szw11 E0 p7 p8 p9
 obtain ⟨⟨E0, p7, p8, p9⟩, sz11⟩ := hS
 obtain ⟨h11_0, h11_1, h11_2, h11_3, h11_4, h11_5, h11_6, h11_7, h11_8, h11_9, -⟩ := hp
 obtain ⟨h11_8, Gzy⟩ := h11_8
 replace Gzy := Lib.hid Gzy
 simp only [isOf h11_0, isOf h11_1, isOf h11_2, isOf h11_3, isOf h11_4, isOf h11_5, isOf h11_6, isOf h11_7, isOf h11_9]
 clear h11_0 h11_1 h11_2 h11_3 h11_4 h11_5 h11_6 h11_7 h11_8 h11_9
 have k7a := p7.cell 0 (v := .int .i64 (K : Int)) rfl
 obtain ⟨k8a, k8b, k8c, k8d, k8e, k8f⟩ := p8.c6
 obtain ⟨k9a, k9b⟩ := p9.c2
 go_upto_region 8 with (fail)
 clear k7a k8a k8b k8c k8d k8e k8f k9a k9b
 obtain ⟨zs, Hzs⟩ : ∃ z, z = (addO (rootW K zy) eps).getD 0 := ⟨_, rfl⟩
 replace Hzs := Lib.hid Hzs
 obtain ⟨zu, Hzu⟩ : ∃ z, z = (divO K zx zs).getD 0 := ⟨_, rfl⟩
 replace Hzu := Lib.hid Hzu
 have HY : Hid (0 ≤ zy) := Lib.hid (divO_nonneg Gzy.out (mixO_nonneg Gzv.out HP.out.b20 HP.out.b21 HP.out.v0 (mulO_sq Gzq.out)) HI1.out.2)
 have szw12 := Ext.size E0
 refine region_gk [isV (.agg #[.int .i64 (K : Int)]), isV (.int .i64 zx), isV (.agg #[.int .i64 (K : Int)]), isV (.agg #[.int .i64 (K : Int)]), isV (.int .i64 zy), isV (.int .i64 (rootW K zy)), isV (.pointer (some ⟨w.heap.size + 1, 3, none⟩)), isV (.int .i64 eps),
   .one fun v _ => v = .int .i64 zs ∧ addO (rootW K zy) eps = some zs,
   .one fun v _ => v = .int .i64 zu ∧ divO K zx zs = some zu,
   .one fun v _ => v = .int .i64 zu] ⟨Good.is _, Good.is _, Good.is _, Good.is _, Good.is _, Good.is _, Good.is _, Good.is _, Good.may _ _, Good.may _ _, Good.is _, trivial⟩ (E0.s.k (p7.s.k (p8.s.k (p9.s)))) (A := ?A12) ?hA12 ?howe12 ?hfin12
 case hA12 =>
  intro vs
  simp only [putAll, Act.put, sA, sZ, sS, Nat.zero_add, Nat.reduceAdd]
  exact rfl
 case howe12 =>
  clear E0 p7 p8 p9
  intro hf
  refine ⟨oE 0 [] hf rfl ?_, oP0 1 [] hf rfl, oE 2 [] hf rfl ?_, oE 3 [] hf rfl ?_, oP0 4 [] hf rfl, oE 5 [3, 4] hf rfl ?_, oP0 6 [] hf rfl, oE 7 [6] hf rfl ?_, oE 8 [2, 5, 7] hf rfl ?_, oE 9 [0, 1, 8] hf rfl ?_, oE 10 [9] hf rfl ?_, trivial⟩
  all_goals intro vs W hS hp hx KO hKO
  all_goals simp only [Act.put, sA, sZ, sS] at hKO
  ·have fc0 := BxA.cell (hS.1.2.1) 0 (v := .int .i64 (K : Int)) rfl; go_simp; exact hKO _ W (.refl W) rfl
  ·have fc0 := BxA.cell (hS.1.2.1) 0 (v := .int .i64 (K : Int)) rfl; go_simp; exact hKO _ W (.refl W) rfl
  ·have fc0 := BxA.cell (hS.1.2.1) 0 (v := .int .i64 (K : Int)) rfl; go_simp; exact hKO _ W (.refl W) rfl
  ·have e3 := isOf hp.1; have e4 := isOf hp.2.1; simp only [e3, e4] at hKO; go_simp
   refine (Try.adamRoot K HK.out (okZ_i64 Gzy.out) HY.out _).mono ?_
   rintro e W1 ⟨rfl, hE⟩
   exact hKO _ W1 hE rfl
  ·have e6 := isOf hp.1; simp only [e6] at hKO; have fc3 := BxA.cell (hS.1.2.2.1) 3 (v := .int .i64 eps) rfl; go_simp; exact hKO _ W (.refl W) rfl
  ·have e2 := isOf hp.1; have e5 := isOf hp.2.1; have e7 := isOf hp.2.2.1; simp only [e2, e5, e7] at hKO; go_simp
   cases g : addO (rootW K zy) eps
   ·have HN : Hid (placeO K ⟨lr, b1, b2, eps, wd, true⟩ p0 p1 wt mt vt gt = none) := Lib.hid (by unfold placeO gradO lessO; simp only [HX0.out, HX1.out, Gzm.out, Gzq.out, Gzv.out, Gzx.out, Gzy.out, g, Option.bind_some, Option.bind_none, if_true])
    refine (Try.adamAddN K HK.out (a := (rootW K zy)) (b := eps) (rootW_i64 HK.out (okZ_i64 Gzy.out)) HP.out.eps g _).mono ?_
    rintro e W1 ⟨⟨c, hc, rfl⟩, hE⟩
    exact ⟨rfl, SaysP.no HN.out hc, Ext.trans hS.1.1 hE⟩
   ·have g2 : addO (rootW K zy) eps = some zs := by rw [Hzs.out, g]; rfl
    refine (Try.adamAddS K HK.out (a := (rootW K zy)) (b := eps) (rootW_i64 HK.out (okZ_i64 Gzy.out)) HP.out.eps g2 _).mono ?_
    rintro e W1 ⟨rfl, hE⟩
    exact hKO _ W1 hE ⟨rfl, g2⟩
  ·have e0 := isOf hp.1; have e1 := isOf hp.2.1
   have e8 : vs 8 = .int .i64 zs := (hp.2.2.1).1
   have Gzs : Hid (addO (rootW K zy) eps = some zs) := Lib.hid (hp.2.2.1).2
   simp only [e0, e1, e8] at hKO
   have HS : Hid (0 < zs) := Lib.hid (addO_pos Gzs.out (rootW_nonneg K zy) HP.out.eps0)
   go_simp
   cases g : divO K zx zs
   ·have HN : Hid (placeO K ⟨lr, b1, b2, eps, wd, true⟩ p0 p1 wt mt vt gt = none) := Lib.hid (by unfold placeO gradO lessO; simp only [HX0.out, HX1.out, Gzm.out, Gzq.out, Gzv.out, Gzx.out, Gzy.out, Gzs.out, g, Option.bind_some, Option.bind_none, if_true])
    refine (Try.adamDivN K HK.out (a := zx) (b := zs) (okZ_i64 Gzx.out) (okZ_i64 Gzs.out) (by have := HS.out; omega) g _).mono ?_
    rintro e W1 ⟨⟨c, hc, rfl⟩, hE⟩
    exact ⟨rfl, SaysP.no HN.out hc, Ext.trans hS.1.1 hE⟩
   ·have g2 : divO K zx zs = some zu := by rw [Hzu.out, g]; rfl
    refine (Try.adamDivS K HK.out (a := zx) (b := zs) (okZ_i64 Gzx.out) (okZ_i64 Gzs.out) (by have := HS.out; omega) g2 _).mono ?_
    rintro e W1 ⟨rfl, hE⟩
    exact hKO _ W1 hE ⟨rfl, g2⟩
  ·have e9 : vs 9 = .int .i64 zu := (hp.1).1
   have Gzu : Hid (divO K zx zs = some zu) := Lib.hid (hp.1).2
   simp only [e9] at hKO; go_simp; exact hKO _ W (.refl W) rfl
 intro vs W12 hS hp
 clear szw12 E0 p7 p8 p9
 obtain ⟨⟨E0, p7, p8, p9⟩, sz12⟩ := hS
 obtain ⟨h12_0, h12_1, h12_2, h12_3, h12_4, h12_5, h12_6, h12_7, h12_8, h12_9, h12_10, -⟩ := hp
 obtain ⟨h12_8, Gzs⟩ := h12_8
 replace Gzs := Lib.hid Gzs
 obtain ⟨h12_9, Gzu⟩ := h12_9
 replace Gzu := Lib.hid Gzu
 simp only [isOf h12_0, isOf h12_1, isOf h12_2, isOf h12_3, isOf h12_4, isOf h12_5, isOf h12_6, isOf h12_7, isOf h12_10]
 clear h12_0 h12_1 h12_2 h12_3 h12_4 h12_5 h12_6 h12_7 h12_8 h12_9 h12_10
 have k7a := p7.cell 0 (v := .int .i64 (K : Int)) rfl
 obtain ⟨k8a, k8b, k8c, k8d, k8e, k8f⟩ := p8.c6
 obtain ⟨k9a, k9b⟩ := p9.c2
 go_upto_region 9 with (fail)
 clear k7a k8a k8b k8c k8d k8e k8f k9a k9b
 obtain ⟨zt2, Hzt2⟩ : ∃ z, z = (mulO K lr zu).getD 0 := ⟨_, rfl⟩
 replace Hzt2 := Lib.hid Hzt2
 obtain ⟨zn, Hzn⟩ : ∃ z, z = (subO wt zt2).getD 0 := ⟨_, rfl⟩
 replace Hzn := Lib.hid Hzn
 have szw13 := Ext.size E0
 refine region_gk [isV (.agg #[.int .i64 (K : Int)]), isV (.int .i64 wt), isV (.agg #[.int .i64 (K : Int)]), isV (.pointer (some ⟨w.heap.size + 1, 0, none⟩)), isV (.int .i64 lr), isV (.int .i64 zu),
   .one fun v _ => v = .int .i64 zt2 ∧ mulO K lr zu = some zt2,
   .one fun v _ => v = .int .i64 zn ∧ subO wt zt2 = some zn,
   .one fun v _ => v = .int .i64 zn] ⟨Good.is _, Good.is _, Good.is _, Good.is _, Good.is _, Good.is _, Good.may _ _, Good.may _ _, Good.is _, trivial⟩ (E0.s.k (p7.s.k (p8.s.k (p9.s)))) (A := ?A13) ?hA13 ?howe13 ?hfin13
 case hA13 =>
  intro vs
  simp only [putAll, Act.put, sA, sZ, sS, Nat.zero_add, Nat.reduceAdd]
  exact rfl
 case howe13 =>
  clear E0 p7 p8 p9
  intro hf
  refine ⟨oE 0 [] hf rfl ?_, oP0 1 [] hf rfl, oE 2 [] hf rfl ?_, oP0 3 [] hf rfl, oE 4 [3] hf rfl ?_, oP0 5 [] hf rfl, oE 6 [2, 4, 5] hf rfl ?_, oE 7 [0, 1, 6] hf rfl ?_, oE 8 [7] hf rfl ?_, trivial⟩
  all_goals intro vs W hS hp hx KO hKO
  all_goals simp only [Act.put, sA, sZ, sS] at hKO
  ·have fc0 := BxA.cell (hS.1.2.1) 0 (v := .int .i64 (K : Int)) rfl; go_simp; exact hKO _ W (.refl W) rfl
  ·have fc0 := BxA.cell (hS.1.2.1) 0 (v := .int .i64 (K : Int)) rfl; go_simp; exact hKO _ W (.refl W) rfl
  ·have e3 := isOf hp.1; simp only [e3] at hKO; have fc0 := BxA.cell (hS.1.2.2.1) 0 (v := .int .i64 lr) rfl; go_simp; exact hKO _ W (.refl W) rfl
  ·have e2 := isOf hp.1; have e4 := isOf hp.2.1; have e5 := isOf hp.2.2.1; simp only [e2, e4, e5] at hKO; go_simp
   cases g : mulO K lr zu
   ·have HN : Hid (placeO K ⟨lr, b1, b2, eps, wd, true⟩ p0 p1 wt mt vt gt = none) := Lib.hid (by unfold placeO gradO lessO; simp only [HX0.out, HX1.out, Gzm.out, Gzq.out, Gzv.out, Gzx.out, Gzy.out, Gzs.out, Gzu.out, g, Option.bind_some, Option.bind_none, if_true])
    refine (Try.adamMulN K HK.out (a := lr) (b := zu) HP.out.lr (okZ_i64 Gzu.out) g _).mono ?_
    rintro e W1 ⟨⟨c, hc, rfl⟩, hE⟩
    exact ⟨rfl, SaysP.no HN.out hc, Ext.trans hS.1.1 hE⟩
   ·have g2 : mulO K lr zu = some zt2 := by rw [Hzt2.out, g]; rfl
    refine (Try.adamMulS K HK.out (a := lr) (b := zu) HP.out.lr (okZ_i64 Gzu.out) g2 _).mono ?_
    rintro e W1 ⟨rfl, hE⟩
    exact hKO _ W1 hE ⟨rfl, g2⟩
  ·have e0 := isOf hp.1; have e1 := isOf hp.2.1
   have e6 : vs 6 = .int .i64 zt2 := (hp.2.2.1).1
   have Gzt2 : Hid (mulO K lr zu = some zt2) := Lib.hid (hp.2.2.1).2
   simp only [e0, e1, e6] at hKO; go_simp
   cases g : subO wt zt2
   ·have HN : Hid (placeO K ⟨lr, b1, b2, eps, wd, true⟩ p0 p1 wt mt vt gt = none) := Lib.hid (by unfold placeO gradO lessO; simp only [HX0.out, HX1.out, Gzm.out, Gzq.out, Gzv.out, Gzx.out, Gzy.out, Gzs.out, Gzu.out, Gzt2.out, g, Option.bind_some, Option.bind_none, if_true])
    refine (Try.adamSubN K HK.out (a := wt) (b := zt2) HP.out.w (okZ_i64 Gzt2.out) g _).mono ?_
    rintro e W1 ⟨⟨c, hc, rfl⟩, hE⟩
    exact ⟨rfl, SaysP.no HN.out hc, Ext.trans hS.1.1 hE⟩
   ·have g2 : subO wt zt2 = some zn := by rw [Hzn.out, g]; rfl
    refine (Try.adamSubS K HK.out (a := wt) (b := zt2) HP.out.w (okZ_i64 Gzt2.out) g2 _).mono ?_
    rintro e W1 ⟨rfl, hE⟩
    exact hKO _ W1 hE ⟨rfl, g2⟩
  ·have e7 : vs 7 = .int .i64 zn := (hp.1).1
   have Gzn : Hid (subO wt zt2 = some zn) := Lib.hid (hp.1).2
   simp only [e7] at hKO; go_simp; exact hKO _ W (.refl W) rfl
 intro vs W13 hS hp
 clear szw13 E0 p7 p8 p9
 obtain ⟨⟨E0, p7, p8, p9⟩, sz13⟩ := hS
 obtain ⟨h13_0, h13_1, h13_2, h13_3, h13_4, h13_5, h13_6, h13_7, h13_8, -⟩ := hp
 obtain ⟨h13_6, Gzt2⟩ := h13_6
 replace Gzt2 := Lib.hid Gzt2
 obtain ⟨h13_7, Gzn⟩ := h13_7
 replace Gzn := Lib.hid Gzn
 simp only [isOf h13_0, isOf h13_1, isOf h13_2, isOf h13_3, isOf h13_4, isOf h13_5, isOf h13_8]
 clear h13_0 h13_1 h13_2 h13_3 h13_4 h13_5 h13_6 h13_7 h13_8
 have k7a := p7.cell 0 (v := .int .i64 (K : Int)) rfl
 obtain ⟨k8a, k8b, k8c, k8d, k8e, k8f⟩ := p8.c6
 obtain ⟨k9a, k9b⟩ := p9.c2
 go_upto_region 11 with (fail)
 clear k7a k8a k8b k8c k8d k8e k8f k9a k9b
 obtain ⟨zq2, Hzq2⟩ : ∃ z, z = (mulO K lr wd).getD 0 := ⟨_, rfl⟩
 replace Hzq2 := Lib.hid Hzq2
 obtain ⟨zq3, Hzq3⟩ : ∃ z, z = (mulO K zq2 wt).getD 0 := ⟨_, rfl⟩
 replace Hzq3 := Lib.hid Hzq3
 obtain ⟨zn2, Hzn2⟩ : ∃ z, z = (subO zn zq3).getD 0 := ⟨_, rfl⟩
 replace Hzn2 := Lib.hid Hzn2
 have szw14 := Ext.size E0
 refine region_gk [isV (.agg #[.int .i64 (K : Int)]), isV (.int .i64 zn), isV (.agg #[.int .i64 (K : Int)]), isV (.agg #[.int .i64 (K : Int)]), isV (.pointer (some ⟨w.heap.size + 1, 0, none⟩)), isV (.int .i64 lr), isV (.pointer (some ⟨w.heap.size + 1, 4, none⟩)), isV (.int .i64 wd),
   .one fun v _ => v = .int .i64 zq2 ∧ mulO K lr wd = some zq2,
   isV (.int .i64 wt),
   .one fun v _ => v = .int .i64 zq3 ∧ mulO K zq2 wt = some zq3 ∧ mulO K lr wd = some zq2,
   .one fun v _ => v = .int .i64 zn2 ∧ subO zn zq3 = some zn2,
   .one fun v _ => v = .int .i64 zn2] ⟨Good.is _, Good.is _, Good.is _, Good.is _, Good.is _, Good.is _, Good.is _, Good.is _, Good.may _ _, Good.is _, Good.may _ _, Good.may _ _, Good.is _, trivial⟩ (E0.s.k (p7.s.k (p8.s.k (p9.s)))) (A := ?A14) ?hA14 ?howe14 ?hfin14
 case hA14 =>
  intro vs
  simp only [putAll, Act.put, sA, sZ, sS, Nat.zero_add, Nat.reduceAdd]
  exact rfl
 case howe14 =>
  clear E0 p7 p8 p9
  intro hf
  refine ⟨oE 0 [] hf rfl ?_, oE 1 [] hf rfl ?_, oE 2 [] hf rfl ?_, oE 3 [] hf rfl ?_, oP0 4 [] hf rfl, oE 5 [4] hf rfl ?_, oP0 6 [] hf rfl, oE 7 [6] hf rfl ?_, oE 8 [3, 5, 7] hf rfl ?_, oP0 9 [] hf rfl, oE 10 [2, 8, 9] hf rfl ?_, oE 11 [0, 1, 10] hf rfl ?_, oE 12 [11] hf rfl ?_, trivial⟩
  all_goals intro vs W hS hp hx KO hKO
  all_goals simp only [Act.put, sA, sZ, sS] at hKO
  ·have fc0 := BxA.cell (hS.1.2.1) 0 (v := .int .i64 (K : Int)) rfl; go_simp; exact hKO _ W (.refl W) rfl
  ·have eo12 : vs 12 = .int .i64 zn := hx.at 12 rfl (by kernel_rfl) rfl
   simp only [eo12] at hKO; go_simp; exact hKO _ W (.refl W) rfl
  ·have fc0 := BxA.cell (hS.1.2.1) 0 (v := .int .i64 (K : Int)) rfl; go_simp; exact hKO _ W (.refl W) rfl
  ·have fc0 := BxA.cell (hS.1.2.1) 0 (v := .int .i64 (K : Int)) rfl; go_simp; exact hKO _ W (.refl W) rfl
  ·have e4 := isOf hp.1; simp only [e4] at hKO; have fc0 := BxA.cell (hS.1.2.2.1) 0 (v := .int .i64 lr) rfl; go_simp; exact hKO _ W (.refl W) rfl
  ·have e6 := isOf hp.1; simp only [e6] at hKO; have fc4 := BxA.cell (hS.1.2.2.1) 4 (v := .int .i64 wd) rfl; go_simp; exact hKO _ W (.refl W) rfl
  ·have e3 := isOf hp.1; have e5 := isOf hp.2.1; have e7 := isOf hp.2.2.1; simp only [e3, e5, e7] at hKO; go_simp
   cases g : mulO K lr wd
   ·have HN : Hid (placeO K ⟨lr, b1, b2, eps, wd, true⟩ p0 p1 wt mt vt gt = none) := Lib.hid (by unfold placeO gradO lessO; simp only [HX0.out, HX1.out, Gzm.out, Gzq.out, Gzv.out, Gzx.out, Gzy.out, Gzs.out, Gzu.out, Gzt2.out, Gzn.out, g, Option.bind_some, Option.bind_none, if_true])
    refine (Try.adamMulN K HK.out (a := lr) (b := wd) HP.out.lr HP.out.wd g _).mono ?_
    rintro e W1 ⟨⟨c, hc, rfl⟩, hE⟩
    exact ⟨rfl, SaysP.no HN.out hc, Ext.trans hS.1.1 hE⟩
   ·have g2 : mulO K lr wd = some zq2 := by rw [Hzq2.out, g]; rfl
    refine (Try.adamMulS K HK.out (a := lr) (b := wd) HP.out.lr HP.out.wd g2 _).mono ?_
    rintro e W1 ⟨rfl, hE⟩
    exact hKO _ W1 hE ⟨rfl, g2⟩
  ·have e2 := isOf hp.1
   have e8 : vs 8 = .int .i64 zq2 := (hp.2.1).1
   have Gzq2 : Hid (mulO K lr wd = some zq2) := Lib.hid (hp.2.1).2
   have e9 := isOf hp.2.2.1; simp only [e2, e8, e9] at hKO; go_simp
   cases g : mulO K zq2 wt
   ·have HN : Hid (placeO K ⟨lr, b1, b2, eps, wd, true⟩ p0 p1 wt mt vt gt = none) := Lib.hid (by unfold placeO gradO lessO; simp only [HX0.out, HX1.out, Gzm.out, Gzq.out, Gzv.out, Gzx.out, Gzy.out, Gzs.out, Gzu.out, Gzt2.out, Gzn.out, Gzq2.out, g, Option.bind_some, Option.bind_none, if_true])
    refine (Try.adamMulN K HK.out (a := zq2) (b := wt) (okZ_i64 Gzq2.out) HP.out.w g _).mono ?_
    rintro e W1 ⟨⟨c, hc, rfl⟩, hE⟩
    exact ⟨rfl, SaysP.no HN.out hc, Ext.trans hS.1.1 hE⟩
   ·have g2 : mulO K zq2 wt = some zq3 := by rw [Hzq3.out, g]; rfl
    refine (Try.adamMulS K HK.out (a := zq2) (b := wt) (okZ_i64 Gzq2.out) HP.out.w g2 _).mono ?_
    rintro e W1 ⟨rfl, hE⟩
    exact hKO _ W1 hE ⟨rfl, g2, Gzq2.out⟩
  ·have e0 := isOf hp.1; have e1 := isOf hp.2.1
   have e10 : vs 10 = .int .i64 zq3 := (hp.2.2.1).1
   have Gzq3 : Hid (mulO K zq2 wt = some zq3) := Lib.hid (hp.2.2.1).2.1
   have Gzq2 : Hid (mulO K lr wd = some zq2) := Lib.hid (hp.2.2.1).2.2
   simp only [e0, e1, e10] at hKO; go_simp
   cases g : subO zn zq3
   ·have HN : Hid (placeO K ⟨lr, b1, b2, eps, wd, true⟩ p0 p1 wt mt vt gt = none) := Lib.hid (by unfold placeO gradO lessO; simp only [HX0.out, HX1.out, Gzm.out, Gzq.out, Gzv.out, Gzx.out, Gzy.out, Gzs.out, Gzu.out, Gzt2.out, Gzn.out, Gzq2.out, Gzq3.out, g, Option.bind_some, Option.bind_none, if_true])
    refine (Try.adamSubN K HK.out (a := zn) (b := zq3) (okZ_i64 Gzn.out) (okZ_i64 Gzq3.out) g _).mono ?_
    rintro e W1 ⟨⟨c, hc, rfl⟩, hE⟩
    exact ⟨rfl, SaysP.no HN.out hc, Ext.trans hS.1.1 hE⟩
   ·have g2 : subO zn zq3 = some zn2 := by rw [Hzn2.out, g]; rfl
    refine (Try.adamSubS K HK.out (a := zn) (b := zq3) (okZ_i64 Gzn.out) (okZ_i64 Gzq3.out) g2 _).mono ?_
    rintro e W1 ⟨rfl, hE⟩
    exact hKO _ W1 hE ⟨rfl, g2⟩
  ·have e11 : vs 11 = .int .i64 zn2 := (hp.1).1
   have Gzn2 : Hid (subO zn zq3 = some zn2) := Lib.hid (hp.1).2
   simp only [e11] at hKO; go_simp; exact hKO _ W (.refl W) rfl
 intro vs W14 hS hp
 clear szw14 E0 p7 p8 p9
 obtain ⟨⟨E0, p7, p8, p9⟩, sz14⟩ := hS
 obtain ⟨h14_0, h14_1, h14_2, h14_3, h14_4, h14_5, h14_6, h14_7, h14_8, h14_9, h14_10, h14_11, h14_12, -⟩ := hp
 obtain ⟨h14_8, Gzq2⟩ := h14_8
 replace Gzq2 := Lib.hid Gzq2
 obtain ⟨h14_10, Gzq3, -⟩ := h14_10
 replace Gzq3 := Lib.hid Gzq3
 obtain ⟨h14_11, Gzn2⟩ := h14_11
 replace Gzn2 := Lib.hid Gzn2
 simp only [isOf h14_0, isOf h14_1, isOf h14_2, isOf h14_3, isOf h14_4, isOf h14_5, isOf h14_6, isOf h14_7, isOf h14_9, isOf h14_12]
 clear h14_0 h14_1 h14_2 h14_3 h14_4 h14_5 h14_6 h14_7 h14_8 h14_9 h14_10 h14_11 h14_12
 have HR : Hid (placeO K ⟨lr, b1, b2, eps, wd, true⟩ p0 p1 wt mt vt gt = some (zn2, zm, zv)) := Lib.hid (by unfold placeO gradO lessO; simp only [HX0.out, HX1.out, Gzm.out, Gzq.out, Gzv.out, Gzx.out, Gzy.out, Gzs.out, Gzu.out, Gzt2.out, Gzn.out, Gzq2.out, Gzq3.out, Gzn2.out, Option.bind_some, if_true])
 have k7a := p7.cell 0 (v := .int .i64 (K : Int)) rfl
 obtain ⟨k8a, k8b, k8c, k8d, k8e, k8f⟩ := p8.c6
 obtain ⟨k9a, k9b⟩ := p9.c2
 go_wp2
 go_ret3
 exact ⟨SaysP.yes HR.out, E0⟩

end Go.Rt
