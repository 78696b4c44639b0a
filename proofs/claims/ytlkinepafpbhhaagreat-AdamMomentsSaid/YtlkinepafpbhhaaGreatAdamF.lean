/-
 Adam: the powers behind a step; what the document says is right; the question that is always live.
-/
import Derived.Test.YtlkinepafpbhhaaGreatSqz
import Derived.Test.YtlkinepafpbhhaaGreatAdamE
import Derived.Test.YtlkinepafpbhhaaGreatSchedM
import Derived.Test.YtlkinepafpbhhaaGreatBoxA
import Derived.Test.YtlkinepafpbhhaaGreatGG
import Derived.Test.YtlkinepafpbhhaaGreatEqPair

namespace Go.Rt

open Go Go.RowKit Go.Proofs

set_option maxRecDepth 100000 in
set_option maxHeartbeats 4000000 in
theorem Tryz.adamPowers (lr b1 b2 eps wd p0 p1 : Int) {x y : Int} (ap : Bool) (K : Nat) (hK : K ≤ 40) (h0 : I64 p0) (h1 : I64 p1) (h2 : I64 b1) (h3 : I64 b2) (hx : mulO K p0 b1 = some x) (hy : mulO K p1 b2 = some y) (w : World) :
  Calls Tryz.prog 13 #[.agg #[.int .i64 lr, .int .i64 b1, .int .i64 b2, .int .i64 eps, .int .i64 wd, .bool ap], .int .i64 (K : Int), .agg #[.int .i64 p0, .int .i64 p1]] w fun e w' => e = .returned (.agg #[.int .i64 x, .int .i64 y]) ∧ Ext w w' := by
 obtain ⟨k1, k2⟩ := okZ_some hx
 obtain ⟨k3, k4⟩ := okZ_some hy
 have HV1 : Hid (fitV (mulZ K p0 b1) = x) := Lib.hid ((fitV_in k1).trans k2)
 have HE1 : Hid (fitE (mulZ K p0 b1) = 0) := Lib.hid (fitE_in k1)
 have HV2 : Hid (fitV (mulZ K p1 b2) = y) := Lib.hid ((fitV_in k3).trans k4)
 have HE2 : Hid (fitE (mulZ K p1 b2) = 0) := Lib.hid (fitE_in k3)
 have HK := Lib.hid hK
 have HI := Lib.hid (And.intro (And.intro h0 h1) (And.intro h2 h3))
 clear hx hy k1 k2 k3 k4 hK h0 h1 h2 h3
 obtain ⟨W0, hW0⟩ : ∃ W0, W0 = (((w.alloc (.cells #[.int .i64 lr, .int .i64 b1, .int .i64 b2, .int .i64 eps, .int .i64 wd, .bool ap] 23)).alloc (.cells #[.int .i64 p0, .int .i64 p1] 24)).alloc (.cells #[.int .i64 0, .int .i64 0] 24)) := ⟨_, rfl⟩
 have E0 : Ext w W0 := by rw [hW0]; exact (((Ext.alloc1 w (.cells #[.int .i64 lr, .int .i64 b1, .int .i64 b2, .int .i64 eps, .int .i64 wd, .bool ap] 23)).alloc (.cells #[.int .i64 p0, .int .i64 p1] 24)).alloc (.cells #[.int .i64 0, .int .i64 0] 24))
 have p3 : BxA W0 w.heap.size 23 #[.int .i64 lr, .int .i64 b1, .int .i64 b2, .int .i64 eps, .int .i64 wd, .bool ap] := by rw [hW0]; exact (BxA.new w 23 #[.int .i64 lr, .int .i64 b1, .int .i64 b2, .int .i64 eps, .int .i64 wd, .bool ap]).ext ((Ext.alloc1 (w.alloc (.cells #[.int .i64 lr, .int .i64 b1, .int .i64 b2, .int .i64 eps, .int .i64 wd, .bool ap] 23)) (.cells #[.int .i64 p0, .int .i64 p1] 24)).alloc (.cells #[.int .i64 0, .int .i64 0] 24))
 have p5 : Bx2 W0 (w.heap.size + 1) 24 (.int .i64 p0) (.int .i64 p1) := by rw [hW0]; simpa using (Bx2.new (w.alloc (.cells #[.int .i64 lr, .int .i64 b1, .int .i64 b2, .int .i64 eps, .int .i64 wd, .bool ap] 23)) 24 (.int .i64 p0) (.int .i64 p1)).ext (Ext.alloc1 ((w.alloc (.cells #[.int .i64 lr, .int .i64 b1, .int .i64 b2, .int .i64 eps, .int .i64 wd, .bool ap] 23)).alloc (.cells #[.int .i64 p0, .int .i64 p1] 24)) (.cells #[.int .i64 0, .int .i64 0] 24))
 have p6 : Bx2 W0 (w.heap.size + 1 + 1) 24 (.int .i64 0) (.int .i64 0) := by rw [hW0]; simpa using (Bx2.new ((w.alloc (.cells #[.int .i64 lr, .int .i64 b1, .int .i64 b2, .int .i64 eps, .int .i64 wd, .bool ap] 23)).alloc (.cells #[.int .i64 p0, .int .i64 p1] 24)) 24 (.int .i64 0) (.int .i64 0))
 go_enter Tryz.func13, Tryz.ntmps13
 obtain ⟨kp3_0, kp3_1, kp3_2, kp3_3, kp3_4, kp3_5⟩ := p3.c6
 obtain ⟨kp5_0, kp5_1⟩ := p5.c2
 obtain ⟨kp6_0, kp6_1⟩ := p6.c2
 go_upto_region 1 with (fail)
 rw [← hW0]
 clear hW0; clear kp3_0 kp3_1 kp3_2 kp3_3 kp3_4 kp3_5 kp5_0 kp5_1 kp6_0 kp6_1; have ltp3 := p3.lt; have ltp5 := p5.lt; have ltp6 := p6.lt; have szw1 := Ext.size E0
 refine region_gs [.one fun v _ => v = .pointer (some ⟨w.heap.size + 1, 0, none⟩),
   .one fun v _ => v = .int .i64 p0,
   .one fun v _ => v = .pointer (some ⟨w.heap.size, 1, none⟩),
   .one fun v _ => v = .int .i64 b1,
   .one fun v _ => v = .int .i64 (K : Int),
   .one fun v _ => v = .tuple #[.int .i64 x, .int .i64 0],
   .one fun v _ => v = .tuple #[.int .i64 x, .int .i64 0],
   .one fun v _ => v = .int .i64 x,
   .one fun v _ => v = .int .i64 0,
   .one fun v _ => v = .int .i64 x,
   .one fun v _ => v = .int .i64 0]
  (fun W => Ext w W ∧ BxA W w.heap.size 23 #[.int .i64 lr, .int .i64 b1, .int .i64 b2, .int .i64 eps, .int .i64 wd, .bool ap] ∧ Bx2 W (w.heap.size + 1) 24 (.int .i64 p0) (.int .i64 p1) ∧ Bx2 W (w.heap.size + 1 + 1) 24 (.int .i64 0) (.int .i64 0) ∧ W0.heap.size ≤ W.heap.size) ⟨Good.is _, Good.is _, Good.is _, Good.is _, Good.is _, Good.is _, Good.is _, Good.is _, Good.is _, Good.is _, Good.is _, trivial⟩
  ⟨E0, p3, p5, p6, Nat.le_refl _⟩ (A := ?A1) ?hA1 ?howe1 ?hfin1
 case hA1 =>
  intro vs
  simp only [putAll, Act.put, sA, sZ, sS, Nat.zero_add, Nat.reduceAdd]
  exact rfl
 case howe1 =>
  clear E0 p3 p5 p6
  intro hf
  refine ⟨oE 0 [] hf rfl ?_, oE 1 [0] hf rfl ?_, oE 2 [] hf rfl ?_, oE 3 [2] hf rfl ?_, oE 4 [] hf rfl ?_, oE 5 [1, 3, 4] hf rfl ?_, oE 6 [5] hf rfl ?_, oE 7 [6] hf rfl ?_, oE 8 [6] hf rfl ?_, oE 9 [7] hf rfl ?_, oE 10 [8] hf rfl ?_, trivial⟩
  all_goals intro vs W hS hp hx KO hKO
  all_goals simp only [Act.put, sA, sZ, sS] at hKO
  ·go_simp; exact hKO _ W (.refl W) rfl
  ·have e0 := isOf hp.1; simp only [e0] at hKO; have fc0 := hS.2.2.1.cell0; go_simp; exact hKO _ W (.refl W) rfl
  ·go_simp; exact hKO _ W (.refl W) rfl
  ·have e2 := isOf hp.1; simp only [e2] at hKO; have fc1 := BxA.cell (hS.2.1) 1 (v := .int .i64 b1) rfl; go_simp; exact hKO _ W (.refl W) rfl
  ·go_simp; exact hKO _ W (.refl W) rfl
  ·have e1 := isOf hp.1; have e3 := isOf hp.2.1; have e4 := isOf hp.2.2.1; simp only [e1, e3, e4] at hKO; go_simp
   refine (Tryz.fixMulV p0 b1 K HK.out _ HI.out.1.1.1 HI.out.1.1.2 HI.out.2.1.1 HI.out.2.1.2 HV1.out HE1.out).mono ?_
   rintro e W1 ⟨rfl, hE⟩
   exact hKO _ W1 hE rfl
  ·have e5 := isOf hp.1; simp only [e5] at hKO; go_simp; exact hKO _ W (.refl W) rfl
  ·have e6 := isOf hp.1; simp only [e6] at hKO; go_simp; exact hKO _ W (.refl W) rfl
  ·have e6 := isOf hp.1; simp only [e6] at hKO; go_simp; exact hKO _ W (.refl W) rfl
  ·have e7 := isOf hp.1; simp only [e7] at hKO; go_simp; exact hKO _ W (.refl W) rfl
  ·have e8 := isOf hp.1; simp only [e8] at hKO; go_simp; exact hKO _ W (.refl W) rfl
 intro vs W1 hS hp
 clear szw1 E0 p3 p5 p6
 obtain ⟨E0, p3, p5, p6, sz1⟩ := hS
 obtain ⟨h1_0, h1_1, h1_2, h1_3, h1_4, h1_5, h1_6, h1_7, h1_8, h1_9, h1_10, -⟩ := hp
 replace h1_0 : vs 0 = .pointer (some ⟨w.heap.size + 1, 0, none⟩) := h1_0
 replace h1_1 : vs 1 = .int .i64 p0 := h1_1
 replace h1_2 : vs 2 = .pointer (some ⟨w.heap.size, 1, none⟩) := h1_2
 replace h1_3 : vs 3 = .int .i64 b1 := h1_3
 replace h1_4 : vs 4 = .int .i64 (K : Int) := h1_4
 replace h1_5 : vs 5 = .tuple #[.int .i64 x, .int .i64 0] := h1_5
 replace h1_6 : vs 6 = .tuple #[.int .i64 x, .int .i64 0] := h1_6
 replace h1_7 : vs 7 = .int .i64 x := h1_7
 replace h1_8 : vs 8 = .int .i64 0 := h1_8
 replace h1_9 : vs 9 = .int .i64 x := h1_9
 replace h1_10 : vs 10 = .int .i64 0 := h1_10
 simp only [h1_0, h1_1, h1_2, h1_3, h1_4, h1_5, h1_6, h1_7, h1_8, h1_9, h1_10]
 clear h1_0 h1_1 h1_2 h1_3 h1_4 h1_5 h1_6 h1_7 h1_8 h1_9 h1_10
 obtain ⟨kp3_0, kp3_1, kp3_2, kp3_3, kp3_4, kp3_5⟩ := p3.c6
 obtain ⟨kp5_0, kp5_1⟩ := p5.c2
 obtain ⟨kp6_0, kp6_1⟩ := p6.c2
 go_upto_region 2 with (fail)
 clear kp3_0 kp3_1 kp3_2 kp3_3 kp3_4 kp3_5 kp5_0 kp5_1 kp6_0 kp6_1; have szw2 := Ext.size E0
 refine region_gs [.one fun v _ => v = .pointer (some ⟨w.heap.size + 1, 1, none⟩),
   .one fun v _ => v = .int .i64 p1,
   .one fun v _ => v = .pointer (some ⟨w.heap.size, 2, none⟩),
   .one fun v _ => v = .int .i64 b2,
   .one fun v _ => v = .int .i64 (K : Int),
   .one fun v _ => v = .tuple #[.int .i64 y, .int .i64 0],
   .one fun v _ => v = .tuple #[.int .i64 y, .int .i64 0],
   .one fun v _ => v = .int .i64 y,
   .one fun v _ => v = .int .i64 0,
   .one fun v _ => v = .int .i64 y,
   .one fun v _ => v = .int .i64 0]
  (fun W => Ext w W ∧ BxA W w.heap.size 23 #[.int .i64 lr, .int .i64 b1, .int .i64 b2, .int .i64 eps, .int .i64 wd, .bool ap] ∧ Bx2 W (w.heap.size + 1) 24 (.int .i64 p0) (.int .i64 p1) ∧ Bx2 W (w.heap.size + 1 + 1) 24 (.int .i64 0) (.int .i64 0) ∧ W1.heap.size ≤ W.heap.size) ⟨Good.is _, Good.is _, Good.is _, Good.is _, Good.is _, Good.is _, Good.is _, Good.is _, Good.is _, Good.is _, Good.is _, trivial⟩
  ⟨E0, p3, p5, p6, Nat.le_refl _⟩ (A := ?A2) ?hA2 ?howe2 ?hfin2
 case hA2 =>
  intro vs
  simp only [putAll, Act.put, sA, sZ, sS, Nat.zero_add, Nat.reduceAdd]
  exact rfl
 case howe2 =>
  clear E0 p3 p5 p6
  intro hf
  refine ⟨oE 0 [] hf rfl ?_, oE 1 [0] hf rfl ?_, oE 2 [] hf rfl ?_, oE 3 [2] hf rfl ?_, oE 4 [] hf rfl ?_, oE 5 [1, 3, 4] hf rfl ?_, oE 6 [5] hf rfl ?_, oE 7 [6] hf rfl ?_, oE 8 [6] hf rfl ?_, oE 9 [7] hf rfl ?_, oE 10 [8] hf rfl ?_, trivial⟩
  all_goals intro vs W hS hp hx KO hKO
  all_goals simp only [Act.put, sA, sZ, sS] at hKO
  ·go_simp; exact hKO _ W (.refl W) rfl
  ·have e0 := isOf hp.1; simp only [e0] at hKO; have fc1 := hS.2.2.1.cell1; go_simp; exact hKO _ W (.refl W) rfl
  ·go_simp; exact hKO _ W (.refl W) rfl
  ·have e2 := isOf hp.1; simp only [e2] at hKO; have fc2 := BxA.cell (hS.2.1) 2 (v := .int .i64 b2) rfl; go_simp; exact hKO _ W (.refl W) rfl
  ·go_simp; exact hKO _ W (.refl W) rfl
  ·have e1 := isOf hp.1; have e3 := isOf hp.2.1; have e4 := isOf hp.2.2.1; simp only [e1, e3, e4] at hKO; go_simp
   refine (Tryz.fixMulV p1 b2 K HK.out _ HI.out.1.2.1 HI.out.1.2.2 HI.out.2.2.1 HI.out.2.2.2 HV2.out HE2.out).mono ?_
   rintro e W1 ⟨rfl, hE⟩
   exact hKO _ W1 hE rfl
  ·have e5 := isOf hp.1; simp only [e5] at hKO; go_simp; exact hKO _ W (.refl W) rfl
  ·have e6 := isOf hp.1; simp only [e6] at hKO; go_simp; exact hKO _ W (.refl W) rfl
  ·have e6 := isOf hp.1; simp only [e6] at hKO; go_simp; exact hKO _ W (.refl W) rfl
  ·have e7 := isOf hp.1; simp only [e7] at hKO; go_simp; exact hKO _ W (.refl W) rfl
  ·have e8 := isOf hp.1; simp only [e8] at hKO; go_simp; exact hKO _ W (.refl W) rfl
 intro vs W2 hS hp
 clear szw2 E0 p3 p5 p6
 obtain ⟨E0, p3, p5, p6, sz2⟩ := hS
 obtain ⟨h2_0, h2_1, h2_2, h2_3, h2_4, h2_5, h2_6, h2_7, h2_8, h2_9, h2_10, -⟩ := hp
 replace h2_0 : vs 0 = .pointer (some ⟨w.heap.size + 1, 1, none⟩) := h2_0
 replace h2_1 : vs 1 = .int .i64 p1 := h2_1
 replace h2_2 : vs 2 = .pointer (some ⟨w.heap.size, 2, none⟩) := h2_2
 replace h2_3 : vs 3 = .int .i64 b2 := h2_3
 replace h2_4 : vs 4 = .int .i64 (K : Int) := h2_4
 replace h2_5 : vs 5 = .tuple #[.int .i64 y, .int .i64 0] := h2_5
 replace h2_6 : vs 6 = .tuple #[.int .i64 y, .int .i64 0] := h2_6
 replace h2_7 : vs 7 = .int .i64 y := h2_7
 replace h2_8 : vs 8 = .int .i64 0 := h2_8
 replace h2_9 : vs 9 = .int .i64 y := h2_9
 replace h2_10 : vs 10 = .int .i64 0 := h2_10
 simp only [h2_0, h2_1, h2_2, h2_3, h2_4, h2_5, h2_6, h2_7, h2_8, h2_9, h2_10]
 clear h2_0 h2_1 h2_2 h2_3 h2_4 h2_5 h2_6 h2_7 h2_8 h2_9 h2_10
 have r6 : RowI W2 (w.heap.size + 1 + 1) 24 [0, 0] := p6
 have z60 := r6.froz 0
 have z61 := r6.froz 1
 obtain ⟨kp3_0, kp3_1, kp3_2, kp3_3, kp3_4, kp3_5⟩ := p3.c6
 obtain ⟨kp5_0, kp5_1⟩ := p5.c2
 obtain ⟨kp6_0, kp6_1⟩ := p6.c2
 go_wp2; clear kp3_0 kp3_1 kp3_2 kp3_3 kp3_4 kp3_5 kp5_0 kp5_1 kp6_0 kp6_1
 have hw1 := Wr.row r6 0 x
 have r7 := r6.set 0 x
 have hw2 := Wr.row r7 1 y
 have r8 := r7.set 1 y
 have k80 := BxA.cell r8 0 (v := .int .i64 x) rfl
 have k81 := BxA.cell r8 1 (v := .int .i64 y) rfl
 exact bodyPost_ret (v := .agg #[.int .i64 x, .int .i64 y]) (by simp [results, Tryz.results13, go_sem, k80, k81]) rfl ⟨rfl, Ext.wr (Ext.wr E0 hw1 (by omega)) hw2 (by omega)⟩

theorem mulZ_nat (K a b : Nat) : mulZ K (a : Int) (b : Int) = ((nearN (a * b) (2 ^ K) : Nat) : Int) := by
 have h := near_ratio (a * b) (2 ^ K) (Nat.pow_pos (by omega))
 rw [← h]
 rfl

theorem divZ_nat (K a : Nat) {b : Nat} (hb : 0 < b) : divZ K (a : Int) (b : Int) = ((nearN (a * 2 ^ K) b : Nat) : Int) := by
 have h := near_ratio (a * 2 ^ K) b hb
 rw [← h]
 rfl

theorem mulO_nat {K a b c : Nat} (h : nearN (a * b) (2 ^ K) = c) (hc : c < 9223372036854775808) : mulO K (a : Int) (b : Int) = some (c : Int) := by
 unfold mulO
 rw [mulZ_nat, h]
 exact okZ_in (by omega) (by omega)

theorem divO_nat {K a b c : Nat} (hb : 0 < b) (h : nearN (a * 2 ^ K) b = c) (hc : c < 9223372036854775808) : divO K (a : Int) (b : Int) = some (c : Int) := by
 unfold divO
 rw [divZ_nat K a hb, h]
 exact okZ_in (by omega) (by omega)

theorem mix_of {K : Nat} {be a b x y z c : Int} (h0 : oneZ K - be = c) (h1 : mulO K be a = some x) (h2 : mulO K c b = some y) (h3 : addO x y = some z) : mixO K be a b = some z := by
 unfold mixO
 rw [h0, h1, Option.bind_some, h2, Option.bind_some, h3]

theorem place_of {K : Nat} {A : AdamP} {p0 p1 w m v g d m' q v' c0 c1 x y r s u t n n' : Int} (h1 : gradO K A w g = some d) (h2 : mixO K A.b1 m d = some m') (h3 : mulO K d d = some q) (h4 : mixO K A.b2 v q = some v') (k0 : oneZ K - p0 = c0) (k1 : oneZ K - p1 = c1)
  (h5 : divO K m' c0 = some x) (h6 : divO K v' c1 = some y) (hr : rootW K y = r) (h7 : addO r A.eps = some s) (h8 : divO K x s = some u) (h9 : mulO K A.lr u = some t) (h10 : subO w t = some n) (h11 : lessO K A w n = some n') :
  placeO K A p0 p1 w m v g = some (n', m', v') := by
 unfold placeO
 rw [h1, Option.bind_some, h2, Option.bind_some, h3, Option.bind_some, h4, Option.bind_some, k0, k1, h5, Option.bind_some, h6, Option.bind_some, hr, h7, Option.bind_some, h8, Option.bind_some, h9, Option.bind_some, h10, Option.bind_some, h11, Option.bind_some]

theorem place18 : placeO 8 ⟨16, 128, 128, 1, 0, false⟩ 128 128 256 0 0 256 = some (240, 128, 128) := by
 have hr : rootW 8 256 = 256 := by
  unfold rootW
  rw [show (256 : Int).toNat * 2 ^ 8 = 65536 from rfl, show rt 65536 2 = 256 from rt_eq (by omega) ⟨by decide, by decide⟩]
  rfl
 have m0 : mulO 8 0 256 = some 0 := mulO_nat (K := 8) (a := 0) (b := 256) (c := 0) (by decide) (by omega)
 have m1 : mulO 8 128 0 = some 0 := mulO_nat (K := 8) (a := 128) (b := 0) (c := 0) (by decide) (by omega)
 have m2 : mulO 8 128 256 = some 128 := mulO_nat (K := 8) (a := 128) (b := 256) (c := 128) (by decide) (by omega)
 have m3 : mulO 8 256 256 = some 256 := mulO_nat (K := 8) (a := 256) (b := 256) (c := 256) (by decide) (by omega)
 have d1 : divO 8 128 128 = some 256 := divO_nat (K := 8) (a := 128) (b := 128) (c := 256) (by omega) (by decide) (by omega)
 have d2 : divO 8 256 257 = some 255 := divO_nat (K := 8) (a := 256) (b := 257) (c := 255) (by omega) (by decide) (by omega)
 have m4 : mulO 8 16 255 = some 16 := mulO_nat (K := 8) (a := 16) (b := 255) (c := 16) (by decide) (by omega)
 have e1 : addO 256 0 = some 256 := okZ_in (by omega) (by omega)
 have e2 : addO 0 128 = some 128 := okZ_in (by omega) (by omega)
 have e5 : addO 256 1 = some 257 := okZ_in (by omega) (by omega)
 have e8 : subO 256 16 = some 240 := okZ_in (by omega) (by omega)
 have g1 : gradO 8 ⟨16, 128, 128, 1, 0, false⟩ 256 256 = some 256 := by
  have h : gradO 8 ⟨16, 128, 128, 1, 0, false⟩ 256 256 = (mulO 8 0 256).bind fun t => addO 256 t := rfl
  rw [h, m0]
  exact e1
 exact place_of g1 (mix_of (show oneZ 8 - 128 = 128 from rfl) m1 m2 e2) m3 (mix_of (show oneZ 8 - 128 = 128 from rfl) m1 m2 e2) rfl rfl d1 d1 hr e5 d2 m4 e8 rfl

set_option maxRecDepth 100000 in
set_option maxHeartbeats 8000000 in
theorem Tryz.alive18 (w : World) : Calls Tryz.prog 6 #[] w fun e w' => e = .returned (.bool true) ∧ Ext w w' := by
 have HR : Hid (rightA ⟨16, 128, 128, 1, 0, false⟩ ((8 : Nat) : Int) = true) := Lib.hid (by decide +kernel)
 have HM : Hid (mayB 8 128 = true ∧ mayB 8 256 = false) := Lib.hid (by decide +kernel)
 have HP1 : Hid (mulO 8 256 128 = some 128) := Lib.hid (mulO_nat (K := 8) (a := 256) (b := 128) (c := 128) (by decide) (by omega))
 have HI : Hid (I64 16 ∧ I64 1 ∧ I64 0 ∧ I64 128 ∧ I64 256) := Lib.hid (by unfold I64; omega)
 have heq : ∀ W, (Op.equalIn 10000 24 (.agg #[.int .i64 128, .int .i64 128]) (.agg #[.int .i64 128, .int .i64 128])).run Tryz.prog W = .ok true W := fun W => by
  have := run_eqPair (P := Tryz.prog) (t := 24) (e := 2) (k := .i64) 9998 Tryz.underlying24 (by kernel_rfl) (by kernel_rfl) Tryz.underlying2 128 128 128 128 W
  simpa using this
 go_enter Tryz.func6, Tryz.ntmps6
 have E0 := Ext.refl w
 go_upto_region 2 with (fail)
 have p1 := BxA.new w 23 #[.int .i64 16, .int .i64 128, .int .i64 128, .int .i64 1, .int .i64 0, .bool false]
 have hE := Ext.alloc1 w (.cells #[.int .i64 16, .int .i64 128, .int .i64 128, .int .i64 1, .int .i64 0, .bool false] 23)
 have hsz := Ext.size E0
 obtain ⟨U1, hU1⟩ : ∃ U1, U1 = w.alloc (.cells #[.int .i64 16, .int .i64 128, .int .i64 128, .int .i64 1, .int .i64 0, .bool false] 23) := ⟨_, rfl⟩
 rw [← hU1] at p1 hE ⊢
 clear hU1; replace E0 := (Ext.trans E0 hE); clear hE
 obtain ⟨g1, hg1⟩ : ∃ g, g = w.heap.size := ⟨_, rfl⟩
 rw [← hg1] at p1 hsz ⊢
 clear hg1 hsz
 obtain ⟨kp1_0, kp1_1, kp1_2, kp1_3, kp1_4, kp1_5⟩ := p1.c6
 go_wp2_with fail
 clear kp1_0 kp1_1 kp1_2 kp1_3 kp1_4 kp1_5
 refine (Tryz.adamPowers 16 128 128 1 0 256 256 false 8 (by omega) HI.out.2.2.2.2 HI.out.2.2.2.2 HI.out.2.2.2.1 HI.out.2.2.2.1 HP1.out HP1.out _).mono ?_
 rintro e Wp ⟨rfl, hE⟩
 replace E0 := (Ext.trans E0 hE); replace p1 := (p1.ext hE); clear hE
 obtain ⟨kp1_0, kp1_1, kp1_2, kp1_3, kp1_4, kp1_5⟩ := p1.c6
 go_upto_region 3 with (fail)
 clear kp1_0 kp1_1 kp1_2 kp1_3 kp1_4 kp1_5
 have p2 := BxA.new Wp 24 #[.int .i64 128, .int .i64 128]
 have hE := Ext.alloc1 Wp (.cells #[.int .i64 128, .int .i64 128] 24)
 have hsz := Ext.size E0
 obtain ⟨U2, hU2⟩ : ∃ U2, U2 = Wp.alloc (.cells #[.int .i64 128, .int .i64 128] 24) := ⟨_, rfl⟩
 rw [← hU2] at p2 hE ⊢
 clear hU2; replace E0 := (Ext.trans E0 hE); replace p1 := (p1.ext hE); clear hE
 obtain ⟨g2, hg2⟩ : ∃ g, g = Wp.heap.size := ⟨_, rfl⟩
 rw [← hg2] at p2 hsz ⊢
 clear hg2 hsz
 replace p2 : Bx2 U2 g2 24 (.int .i64 128) (.int .i64 128) := p2
 obtain ⟨kp1_0, kp1_1, kp1_2, kp1_3, kp1_4, kp1_5⟩ := p1.c6
 obtain ⟨kp2_0, kp2_1⟩ := p2.c2
 go_wp2_with fail
 clear kp1_0 kp1_1 kp1_2 kp1_3 kp1_4 kp1_5 kp2_0 kp2_1
 obtain ⟨Wb, hWb⟩ : ∃ Wb, Wb = ((((U2.alloc (.cells #[.int .i64 256] 2)).alloc (.cells #[.int .i64 0] 2)).alloc (.cells #[.int .i64 0] 2)).alloc (.cells #[.int .i64 256] 2)) := ⟨_, rfl⟩
 have hE : Ext U2 Wb := by rw [hWb]; exact ((((Ext.alloc1 U2 (.cells #[.int .i64 256] 2)).alloc (.cells #[.int .i64 0] 2)).alloc (.cells #[.int .i64 0] 2)).alloc (.cells #[.int .i64 256] 2))
 have r0 : RowI Wb (U2.heap.size) 2 [256] := by rw [hWb]; exact (BxA.new U2 2 #[.int .i64 256]).ext (((Ext.alloc1 (U2.alloc (.cells #[.int .i64 256] 2)) (.cells #[.int .i64 0] 2)).alloc (.cells #[.int .i64 0] 2)).alloc (.cells #[.int .i64 256] 2))
 have r1 : RowI Wb (U2.heap.size + 1) 2 [0] := by rw [hWb]; simpa [RowI] using (BxA.new (U2.alloc (.cells #[.int .i64 256] 2)) 2 #[.int .i64 0]).ext ((Ext.alloc1 ((U2.alloc (.cells #[.int .i64 256] 2)).alloc (.cells #[.int .i64 0] 2)) (.cells #[.int .i64 0] 2)).alloc (.cells #[.int .i64 256] 2))
 have r2 : RowI Wb (U2.heap.size + 1 + 1) 2 [0] := by rw [hWb]; simpa [RowI] using (BxA.new ((U2.alloc (.cells #[.int .i64 256] 2)).alloc (.cells #[.int .i64 0] 2)) 2 #[.int .i64 0]).ext (Ext.alloc1 (((U2.alloc (.cells #[.int .i64 256] 2)).alloc (.cells #[.int .i64 0] 2)).alloc (.cells #[.int .i64 0] 2)) (.cells #[.int .i64 256] 2))
 have r3 : RowI Wb (U2.heap.size + 1 + 1 + 1) 2 [256] := by rw [hWb]; simpa [RowI] using (BxA.new (((U2.alloc (.cells #[.int .i64 256] 2)).alloc (.cells #[.int .i64 0] 2)).alloc (.cells #[.int .i64 0] 2)) 2 #[.int .i64 256])
 rw [← hWb]
 clear hWb; replace E0 := (Ext.trans E0 hE); replace p1 := (p1.ext hE); replace p2 := (p2.ext hE); clear hE
 have i0 := (r0.iw (n := 1) (fun x hx => by simp at hx; subst hx; exact ⟨by omega, by omega⟩) rfl (by omega)).mono (Nat.zero_le _) r0.lt
 have i1 := (r1.iw (n := 1) (fun x hx => by simp at hx; subst hx; exact ⟨by omega, by omega⟩) rfl (by omega)).mono (Nat.zero_le _) r1.lt
 have i2 := (r2.iw (n := 1) (fun x hx => by simp at hx; subst hx; exact ⟨by omega, by omega⟩) rfl (by omega)).mono (Nat.zero_le _) r2.lt
 have i3 := (r3.iw (n := 1) (fun x hx => by simp at hx; subst hx; exact ⟨by omega, by omega⟩) rfl (by omega)).mono (Nat.zero_le _) r3.lt
 have hnb : negB [0] = false := by decide
 have szb := Ext.size E0
 refine (Tryz.adamStepGo 16 128 128 1 0 128 128 false 8 _ HR.out HM.out.1 HM.out.1 hnb (by omega) HI.out.1 HI.out.2.1 HI.out.2.2.1 i0 i1 i2 i3).mono ?_
 rintro e Wp2 ⟨hE, hR | hR⟩
 ·obtain ⟨-, vz, rfl, g1r, g2r, g3r, rfl, j1, j2, j3⟩ := hR
  clear i0 i1 i2 i3 r0 r1 r2 r3 hnb szb
  have l1 : outL 1 (fun i => p1of (placeO 8 ⟨16, 128, 128, 1, 0, false⟩ 128 128 (atL [256] i) (atL [0] i) (atL [0] i) (atL [256] i))) = [240] := by
   show [p1of (placeO 8 ⟨16, 128, 128, 1, 0, false⟩ 128 128 256 0 0 256)] = [240]
   rw [place18]
   rfl
  rw [l1] at j1
  clear l1
  have m1 : Wp2.cell? ⟨g1r, 0, none⟩ = some (.int .i64 240) := by have h9 := j1.cell (i := 0) (by omega); simpa [atL] using h9
  have l2 : outL 1 (fun i => p2of (placeO 8 ⟨16, 128, 128, 1, 0, false⟩ 128 128 (atL [256] i) (atL [0] i) (atL [0] i) (atL [256] i))) = [128] := by
   show [p2of (placeO 8 ⟨16, 128, 128, 1, 0, false⟩ 128 128 256 0 0 256)] = [128]
   rw [place18]
   rfl
  rw [l2] at j2
  clear l2
  have m2 : Wp2.cell? ⟨g2r, 0, none⟩ = some (.int .i64 128) := by have h9 := j2.cell (i := 0) (by omega); simpa [atL] using h9
  have l3 : outL 1 (fun i => p3of (placeO 8 ⟨16, 128, 128, 1, 0, false⟩ 128 128 (atL [256] i) (atL [0] i) (atL [0] i) (atL [256] i))) = [128] := by
   show [p3of (placeO 8 ⟨16, 128, 128, 1, 0, false⟩ 128 128 256 0 0 256)] = [128]
   rw [place18]
   rfl
  rw [l3] at j3
  clear l3
  have m3 : Wp2.cell? ⟨g3r, 0, none⟩ = some (.int .i64 128) := by have h9 := j3.cell (i := 0) (by omega); simpa [atL] using h9
  replace E0 := (Ext.trans E0 hE); replace p1 := (p1.ext hE); replace p2 := (p2.ext hE); clear hE j1 j2 j3
  simp only [Three.val]
  obtain ⟨kp1_0, kp1_1, kp1_2, kp1_3, kp1_4, kp1_5⟩ := p1.c6
  obtain ⟨kp2_0, kp2_1⟩ := p2.c2
  go_upto_region 4 with (fail)
  clear kp1_0 kp1_1 kp1_2 kp1_3 kp1_4 kp1_5 kp2_0 kp2_1
  have p3 := BxA.new Wp2 27 #[.slice (some ⟨g1r, 0, none⟩) 1 1, .slice (some ⟨g2r, 0, none⟩) 1 1, .slice (some ⟨g3r, 0, none⟩) 1 1, .slice none 0 0]
  have hE := Ext.alloc1 Wp2 (.cells #[.slice (some ⟨g1r, 0, none⟩) 1 1, .slice (some ⟨g2r, 0, none⟩) 1 1, .slice (some ⟨g3r, 0, none⟩) 1 1, .slice none 0 0] 27)
  have hsz := Ext.size E0
  obtain ⟨U3, hU3⟩ : ∃ U3, U3 = Wp2.alloc (.cells #[.slice (some ⟨g1r, 0, none⟩) 1 1, .slice (some ⟨g2r, 0, none⟩) 1 1, .slice (some ⟨g3r, 0, none⟩) 1 1, .slice none 0 0] 27) := ⟨_, rfl⟩
  rw [← hU3] at p3 hE ⊢
  clear hU3; replace E0 := (Ext.trans E0 hE); replace p1 := (p1.ext hE); replace p2 := (p2.ext hE)
  replace m1 := (hE.cell m1)
  replace m2 := (hE.cell m2)
  replace m3 := (hE.cell m3)
  clear hE
  obtain ⟨g3, hg3⟩ : ∃ g, g = Wp2.heap.size := ⟨_, rfl⟩
  rw [← hg3] at p3 hsz ⊢
  clear hg3 hsz
  obtain ⟨kp1_0, kp1_1, kp1_2, kp1_3, kp1_4, kp1_5⟩ := p1.c6
  obtain ⟨kp2_0, kp2_1⟩ := p2.c2
  obtain ⟨kp3_0, kp3_1, kp3_2, kp3_3⟩ := p3.c4
  go_wp2_with fail
  clear kp1_0 kp1_1 kp1_2 kp1_3 kp1_4 kp1_5 kp2_0 kp2_1 kp3_0 kp3_1 kp3_2 kp3_3
  refine (Tryz.adamStepArg 16 128 128 1 0 256 0 false 8 (lv := []) _ HR.out (Iw.nil _ _ _) (.inl HM.out.2)).mono ?_
  rintro e Wq ⟨rfl, hE⟩
  replace E0 := (Ext.trans E0 hE); replace p1 := (p1.ext hE); replace p2 := (p2.ext hE)
  replace m1 := (hE.cell m1)
  replace m2 := (hE.cell m2)
  replace m3 := (hE.cell m3)
  replace p3 := (p3.ext hE); clear hE
  obtain ⟨kp1_0, kp1_1, kp1_2, kp1_3, kp1_4, kp1_5⟩ := p1.c6
  obtain ⟨kp2_0, kp2_1⟩ := p2.c2
  obtain ⟨kp3_0, kp3_1, kp3_2, kp3_3⟩ := p3.c4
  go_upto_region 5 with (fail)
  clear kp1_0 kp1_1 kp1_2 kp1_3 kp1_4 kp1_5 kp2_0 kp2_1 kp3_0 kp3_1 kp3_2 kp3_3
  have p5 := BxA.new Wq 27 #[.slice none 0 0, .slice none 0 0, .slice none 0 0, .slice none 0 0]
  have hE := Ext.alloc1 Wq (.cells #[.slice none 0 0, .slice none 0 0, .slice none 0 0, .slice none 0 0] 27)
  have hsz := Ext.size E0
  obtain ⟨U5, hU5⟩ : ∃ U5, U5 = Wq.alloc (.cells #[.slice none 0 0, .slice none 0 0, .slice none 0 0, .slice none 0 0] 27) := ⟨_, rfl⟩
  rw [← hU5] at p5 hE ⊢
  clear hU5; replace E0 := (Ext.trans E0 hE); replace p1 := (p1.ext hE); replace p2 := (p2.ext hE)
  replace m1 := (hE.cell m1)
  replace m2 := (hE.cell m2)
  replace m3 := (hE.cell m3)
  replace p3 := (p3.ext hE); clear hE
  obtain ⟨g5, hg5⟩ : ∃ g, g = Wq.heap.size := ⟨_, rfl⟩
  rw [← hg5] at p5 hsz ⊢
  clear hg5 hsz
  obtain ⟨kp1_0, kp1_1, kp1_2, kp1_3, kp1_4, kp1_5⟩ := p1.c6
  obtain ⟨kp2_0, kp2_1⟩ := p2.c2
  obtain ⟨kp3_0, kp3_1, kp3_2, kp3_3⟩ := p3.c4
  obtain ⟨kp5_0, kp5_1, kp5_2, kp5_3⟩ := p5.c4
  go_wp2_with fail
  clear kp1_0 kp1_1 kp1_2 kp1_3 kp1_4 kp1_5 kp2_0 kp2_1 kp3_0 kp3_1 kp3_2 kp3_3 kp5_0 kp5_1 kp5_2 kp5_3
  refine (Tryz.adamRight 16 128 128 1 0 8 false _).mono ?_
  rintro e Wz ⟨rfl, hE⟩
  rw [show rightA ⟨16, 128, 128, 1, 0, false⟩ 8 = true from HR.out]
  replace E0 := Ext.trans E0 hE; go_wp2; go_ret
  exact ⟨rfl, E0⟩
 ·obtain ⟨⟨i, hi, hn⟩, -⟩ := hR
  obtain rfl : i = 0 := by omega
  have h9 : placeO 8 ⟨16, 128, 128, 1, 0, false⟩ 128 128 256 0 0 256 = none := hn
  rw [place18] at h9
  cases h9

end Go.Rt
