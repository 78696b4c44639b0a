/-
 Adam: a step of rows, or why there is none, by the program.
-/
import Derived.Test.YtlkinepafpbhhaaGreatSqz
import Derived.Test.YtlkinepafpbhhaaGreatAdamD
namespace Go.Rt
open Go Go.RowKit Go.Proofs

/-- three new rows of n, told place by place -/
def RowsAt (w w' : World) (v : Value) (n : Nat) (f1 f2 f3 : Nat → Int) : Prop :=
 ∃ g1 g2 g3, v = .agg (Three.val n g1 g2 g3) ∧ Iw w.heap.size w'.heap.size w' (some ⟨g1, 0, none⟩) n n (outL n f1) ∧ Iw w.heap.size w'.heap.size w' (some ⟨g2, 0, none⟩) n n (outL n f2) ∧ Iw w.heap.size w'.heap.size w' (some ⟨g3, 0, none⟩) n n (outL n f3)

theorem placeIn {K : Nat} {A : AdamP} {p0 p1 w m v g : Int} (hR : rightA A (K : Int) = true) (h1 : I64 A.lr) (h2 : I64 A.eps) (h3 : I64 A.wd) (hp0 : mayB K p0 = true) (hp1 : mayB K p1 = true) (hw : I64 w) (hm : I64 m) (hv0 : 0 ≤ v) (hv : I64 v) (hg : I64 g) : PlaceIn K A p0 p1 w m v g := by
 have h := rightA_iff.1 hR
 rw [Int.toNat_natCast] at h
 have k0 := mayB_iff.1 hp0
 have k1 := mayB_iff.1 hp1
 exact ⟨by omega, h1, h.2.2.2.1, h2, by omega, by omega, by omega, by omega, h3, k0.1, k0.2, k1.1, k1.2, hw, hm, hv0, hv, hg⟩

set_option maxRecDepth 100000 in
set_option maxHeartbeats 8000000 in
theorem Tryz.adamStepNo (lr b1 b2 eps wd p0 p1 : Int) (ap : Bool) (f : Int) {n0 n1 n2 n3 : Nat} {a0 : Option Addr} {c0 : Nat}  {a1 : Option Addr} {c1 : Nat}  {a2 : Option Addr} {c2 : Nat}  {a3 : Option Addr} {c3 : Nat} (w : World) (hR : rightA ⟨lr, b1, b2, eps, wd, ap⟩ f = false) :
  Calls Tryz.prog 7 #[.agg #[.int .i64 lr, .int .i64 b1, .int .i64 b2, .int .i64 eps, .int .i64 wd, .bool ap], .int .i64 f, .agg #[.int .i64 p0, .int .i64 p1], .agg #[.slice a0 n0 c0, .slice a1 n1 c1, .slice a2 n2 c2, .slice a3 n3 c3]] w fun e w' => e = .returned (.tuple #[.agg #[.slice none 0 0, .slice none 0 0, .slice none 0 0, .slice none 0 0], .int .i64 1]) ∧ Ext w w' := by
 have hmf : ∀ (fn : Fn) (first cap : Array Value) (W : World), (Instr.makeFunc fn first cap).run Tryz.prog W = .ok (.func fn first cap) W := fun _ _ _ _ => rfl
 obtain ⟨W0, hW0⟩ : ∃ W0, W0 = (((((w.alloc (.cells #[.int .i64 lr, .int .i64 b1, .int .i64 b2, .int .i64 eps, .int .i64 wd, .bool ap] 23)).alloc (.cells #[.int .i64 f] 3)).alloc (.cells #[.int .i64 p0, .int .i64 p1] 24)).alloc (.cells #[.slice a0 n0 c0, .slice a1 n1 c1, .slice a2 n2 c2, .slice a3 n3 c3] 27)).alloc (.cells #[.slice none 0 0, .slice none 0 0, .slice none 0 0, .slice none 0 0] 27)) := ⟨_, rfl⟩
 have E0 : Ext w W0 := by rw [hW0]; exact (((((Ext.alloc1 w (.cells #[.int .i64 lr, .int .i64 b1, .int .i64 b2, .int .i64 eps, .int .i64 wd, .bool ap] 23)).alloc (.cells #[.int .i64 f] 3)).alloc (.cells #[.int .i64 p0, .int .i64 p1] 24)).alloc (.cells #[.slice a0 n0 c0, .slice a1 n1 c1, .slice a2 n2 c2, .slice a3 n3 c3] 27)).alloc (.cells #[.slice none 0 0, .slice none 0 0, .slice none 0 0, .slice none 0 0] 27))
 have p4 : BxA W0 w.heap.size 23 #[.int .i64 lr, .int .i64 b1, .int .i64 b2, .int .i64 eps, .int .i64 wd, .bool ap] := by rw [hW0]; exact (BxA.new w 23 #[.int .i64 lr, .int .i64 b1, .int .i64 b2, .int .i64 eps, .int .i64 wd, .bool ap]).ext ((((Ext.alloc1 (w.alloc (.cells #[.int .i64 lr, .int .i64 b1, .int .i64 b2, .int .i64 eps, .int .i64 wd, .bool ap] 23)) (.cells #[.int .i64 f] 3)).alloc (.cells #[.int .i64 p0, .int .i64 p1] 24)).alloc (.cells #[.slice a0 n0 c0, .slice a1 n1 c1, .slice a2 n2 c2, .slice a3 n3 c3] 27)).alloc (.cells #[.slice none 0 0, .slice none 0 0, .slice none 0 0, .slice none 0 0] 27))
 have p5 : BxA W0 (w.heap.size + 1) 3 #[.int .i64 f] := by rw [hW0]; simpa using (BxA.new (w.alloc (.cells #[.int .i64 lr, .int .i64 b1, .int .i64 b2, .int .i64 eps, .int .i64 wd, .bool ap] 23)) 3 #[.int .i64 f]).ext (((Ext.alloc1 ((w.alloc (.cells #[.int .i64 lr, .int .i64 b1, .int .i64 b2, .int .i64 eps, .int .i64 wd, .bool ap] 23)).alloc (.cells #[.int .i64 f] 3)) (.cells #[.int .i64 p0, .int .i64 p1] 24)).alloc (.cells #[.slice a0 n0 c0, .slice a1 n1 c1, .slice a2 n2 c2, .slice a3 n3 c3] 27)).alloc (.cells #[.slice none 0 0, .slice none 0 0, .slice none 0 0, .slice none 0 0] 27))
 have p6 : Bx2 W0 (w.heap.size + 1 + 1) 24 (.int .i64 p0) (.int .i64 p1) := by rw [hW0]; simpa using (Bx2.new ((w.alloc (.cells #[.int .i64 lr, .int .i64 b1, .int .i64 b2, .int .i64 eps, .int .i64 wd, .bool ap] 23)).alloc (.cells #[.int .i64 f] 3)) 24 (.int .i64 p0) (.int .i64 p1)).ext ((Ext.alloc1 (((w.alloc (.cells #[.int .i64 lr, .int .i64 b1, .int .i64 b2, .int .i64 eps, .int .i64 wd, .bool ap] 23)).alloc (.cells #[.int .i64 f] 3)).alloc (.cells #[.int .i64 p0, .int .i64 p1] 24)) (.cells #[.slice a0 n0 c0, .slice a1 n1 c1, .slice a2 n2 c2, .slice a3 n3 c3] 27)).alloc (.cells #[.slice none 0 0, .slice none 0 0, .slice none 0 0, .slice none 0 0] 27))
 have p7 : BxA W0 (w.heap.size + 1 + 1 + 1) 27 #[.slice a0 n0 c0, .slice a1 n1 c1, .slice a2 n2 c2, .slice a3 n3 c3] := by rw [hW0]; simpa using (BxA.new (((w.alloc (.cells #[.int .i64 lr, .int .i64 b1, .int .i64 b2, .int .i64 eps, .int .i64 wd, .bool ap] 23)).alloc (.cells #[.int .i64 f] 3)).alloc (.cells #[.int .i64 p0, .int .i64 p1] 24)) 27 #[.slice a0 n0 c0, .slice a1 n1 c1, .slice a2 n2 c2, .slice a3 n3 c3]).ext (Ext.alloc1 ((((w.alloc (.cells #[.int .i64 lr, .int .i64 b1, .int .i64 b2, .int .i64 eps, .int .i64 wd, .bool ap] 23)).alloc (.cells #[.int .i64 f] 3)).alloc (.cells #[.int .i64 p0, .int .i64 p1] 24)).alloc (.cells #[.slice a0 n0 c0, .slice a1 n1 c1, .slice a2 n2 c2, .slice a3 n3 c3] 27)) (.cells #[.slice none 0 0, .slice none 0 0, .slice none 0 0, .slice none 0 0] 27))
 have p8 : BxA W0 (w.heap.size + 1 + 1 + 1 + 1) 27 #[.slice none 0 0, .slice none 0 0, .slice none 0 0, .slice none 0 0] := by rw [hW0]; simpa using (BxA.new ((((w.alloc (.cells #[.int .i64 lr, .int .i64 b1, .int .i64 b2, .int .i64 eps, .int .i64 wd, .bool ap] 23)).alloc (.cells #[.int .i64 f] 3)).alloc (.cells #[.int .i64 p0, .int .i64 p1] 24)).alloc (.cells #[.slice a0 n0 c0, .slice a1 n1 c1, .slice a2 n2 c2, .slice a3 n3 c3] 27)) 27 #[.slice none 0 0, .slice none 0 0, .slice none 0 0, .slice none 0 0])
 go_enter Tryz.func7, Tryz.ntmps7
 obtain ⟨kp4_0, kp4_1, kp4_2, kp4_3, kp4_4, kp4_5⟩ := p4.c6
 have kp5_0 := p5.cell 0 (v := .int .i64 f) rfl
 obtain ⟨kp6_0, kp6_1⟩ := p6.c2
 obtain ⟨kp7_0, kp7_1, kp7_2, kp7_3⟩ := p7.c4
 obtain ⟨kp8_0, kp8_1, kp8_2, kp8_3⟩ := p8.c4
 go_upto_region 4 with (fail)
 rw [← hW0]
 clear hW0; clear kp4_0 kp4_1 kp4_2 kp4_3 kp4_4 kp4_5 kp5_0 kp6_0 kp6_1 kp7_0 kp7_1 kp7_2 kp7_3 kp8_0 kp8_1 kp8_2 kp8_3; have ltp4 := p4.lt; have ltp5 := p5.lt; have ltp6 := p6.lt; have ltp7 := p7.lt; have ltp8 := p8.lt; have szw1 := Ext.size E0
 refine region_gs [.one fun v _ => v = .agg #[.int .i64 lr, .int .i64 b1, .int .i64 b2, .int .i64 eps, .int .i64 wd, .bool ap],
   .one fun v _ => v = .int .i64 f,
   .one fun v _ => v = .bool false,
   .one fun v _ => v = .bool true,
   .one fun v _ => v = .bool true,
   .one fun v _ => v = undef,
   .one fun v _ => v = undef,
   .one fun v _ => v = undef,
   .one fun v _ => v = undef,
   .one fun v _ => v = undef,
   .one fun v _ => v = .bool true,
   .one fun v _ => v = .bool true,
   .one fun v _ => v = undef,
   .one fun v _ => v = undef,
   .one fun v _ => v = undef,
   .one fun v _ => v = undef,
   .one fun v _ => v = undef,
   .one fun v _ => v = .bool true,
   .one fun v _ => v = .bool true,
   .one fun v _ => v = undef,
   .one fun v _ => v = undef,
   .one fun v _ => v = undef,
   .one fun v _ => v = undef,
   .one fun v _ => v = .bool true,
   .one fun v _ => v = .bool true]
  (fun W => Ext w W ∧ BxA W w.heap.size 23 #[.int .i64 lr, .int .i64 b1, .int .i64 b2, .int .i64 eps, .int .i64 wd, .bool ap] ∧ BxA W (w.heap.size + 1) 3 #[.int .i64 f] ∧ Bx2 W (w.heap.size + 1 + 1) 24 (.int .i64 p0) (.int .i64 p1) ∧ BxA W (w.heap.size + 1 + 1 + 1) 27 #[.slice a0 n0 c0, .slice a1 n1 c1, .slice a2 n2 c2, .slice a3 n3 c3] ∧ BxA W (w.heap.size + 1 + 1 + 1 + 1) 27 #[.slice none 0 0, .slice none 0 0, .slice none 0 0, .slice none 0 0] ∧ W0.heap.size ≤ W.heap.size) ⟨Good.is _, Good.is _, Good.is _, Good.is _, Good.is _, Good.is _, Good.is _, Good.is _, Good.is _, Good.is _, Good.is _, Good.is _, Good.is _, Good.is _, Good.is _, Good.is _, Good.is _, Good.is _, Good.is _, Good.is _, Good.is _, Good.is _, Good.is _, Good.is _, Good.is _, trivial⟩
  ⟨E0, p4, p5, p6, p7, p8, Nat.le_refl _⟩ (A := ?A1) ?hA1 ?howe1 ?hfin1
 case hA1 =>
  intro vs
  simp only [putAll, Act.put, sA, sZ, sS, Nat.zero_add, Nat.reduceAdd]
  exact rfl
 case howe1 =>
  clear E0 p4 p5 p6 p7 p8
  intro hf
  refine ⟨oE 0 [] hf rfl ?_, oE 1 [] hf rfl ?_, oE 2 [0, 1] hf rfl ?_, oE 3 [2] hf rfl ?_, oE 4 [3] hf rfl ?_, oE 5 [4] hf rfl ?_, oE 6 [4] hf rfl ?_, oE 7 [4] hf rfl ?_, oE 8 [4] hf rfl ?_, oE 9 [4] hf rfl ?_, oE 10 [4, 9] hf rfl ?_, oE 11 [10] hf rfl ?_, oE 12 [11] hf rfl ?_, oE 13 [11] hf rfl ?_, oE 14 [11] hf rfl ?_, oE 15 [11] hf rfl ?_, oE 16 [11] hf rfl ?_, oE 17 [11, 16] hf rfl ?_, oE 18 [17] hf rfl ?_, oE 19 [18] hf rfl ?_, oE 20 [18] hf rfl ?_, oE 21 [18] hf rfl ?_, oE 22 [18] hf rfl ?_, oE 23 [18, 22] hf rfl ?_, oE 24 [23] hf rfl ?_, trivial⟩
  all_goals intro vs W hS hp hx KO hKO
  all_goals simp only [Act.put, sA, sZ, sS] at hKO
  ·have fc0 := BxA.cell (hS.2.1) 0 (v := .int .i64 lr) rfl; have fc1 := BxA.cell (hS.2.1) 1 (v := .int .i64 b1) rfl; have fc2 := BxA.cell (hS.2.1) 2 (v := .int .i64 b2) rfl; have fc3 := BxA.cell (hS.2.1) 3 (v := .int .i64 eps) rfl; have fc4 := BxA.cell (hS.2.1) 4 (v := .int .i64 wd) rfl; have fc5 := BxA.cell (hS.2.1) 5 (v := .bool ap) rfl; go_simp; exact hKO _ W (.refl W) rfl
  ·have fc0 := BxA.cell (hS.2.2.1) 0 (v := .int .i64 f) rfl; go_simp; exact hKO _ W (.refl W) rfl
  ·have e0 := isOf hp.1; have e1 := isOf hp.2.1; simp only [e0, e1] at hKO; go_simp
   refine (Tryz.adamRight lr b1 b2 eps wd f ap _).mono ?_
   rintro e W1 ⟨rfl, hE⟩
   rw [hR]
   exact hKO _ W1 hE rfl
  ·have e2 := isOf hp.1; simp only [e2] at hKO; go_simp; exact hKO _ W (.refl W) rfl
  ·have e3 := isOf hp.1; simp only [e3] at hKO; go_simp; exact hKO _ W (.refl W) rfl
  ·have e4 := isOf hp.1; simp only [e4] at hKO; go_simp; exact hKO _ W (.refl W) rfl
  ·have e4 := isOf hp.1; simp only [e4] at hKO; go_simp; exact hKO _ W (.refl W) rfl
  ·have e4 := isOf hp.1; simp only [e4] at hKO; go_simp; exact hKO _ W (.refl W) rfl
  ·have e4 := isOf hp.1; simp only [e4] at hKO; go_simp; exact hKO _ W (.refl W) rfl
  ·have e4 := isOf hp.1; simp only [e4] at hKO; go_simp; exact hKO _ W (.refl W) rfl
  ·have e4 := isOf hp.1; have e9 := isOf hp.2.1; simp only [e4, e9] at hKO; go_simp; exact hKO _ W (.refl W) rfl
  ·have e10 := isOf hp.1; simp only [e10] at hKO; go_simp; exact hKO _ W (.refl W) rfl
  ·have e11 := isOf hp.1; simp only [e11] at hKO; go_simp; exact hKO _ W (.refl W) rfl
  ·have e11 := isOf hp.1; simp only [e11] at hKO; go_simp; exact hKO _ W (.refl W) rfl
  ·have e11 := isOf hp.1; simp only [e11] at hKO; go_simp; exact hKO _ W (.refl W) rfl
  ·have e11 := isOf hp.1; simp only [e11] at hKO; go_simp; exact hKO _ W (.refl W) rfl
  ·have e11 := isOf hp.1; simp only [e11] at hKO; go_simp; exact hKO _ W (.refl W) rfl
  ·have e11 := isOf hp.1; have e16 := isOf hp.2.1; simp only [e11, e16] at hKO; go_simp; exact hKO _ W (.refl W) rfl
  ·have e17 := isOf hp.1; simp only [e17] at hKO; go_simp; exact hKO _ W (.refl W) rfl
  ·have e18 := isOf hp.1; simp only [e18] at hKO; go_simp; exact hKO _ W (.refl W) rfl
  ·have e18 := isOf hp.1; simp only [e18] at hKO; go_simp; exact hKO _ W (.refl W) rfl
  ·have e18 := isOf hp.1; simp only [e18] at hKO; go_simp; exact hKO _ W (.refl W) rfl
  ·have e18 := isOf hp.1; simp only [e18] at hKO; go_simp; exact hKO _ W (.refl W) rfl
  ·have e18 := isOf hp.1; have e22 := isOf hp.2.1; simp only [e18, e22] at hKO; go_simp; exact hKO _ W (.refl W) rfl
  ·have e23 := isOf hp.1; simp only [e23] at hKO; go_simp; exact hKO _ W (.refl W) rfl
 intro vs W1 hS hp
 clear szw1 E0 p4 p5 p6 p7 p8
 obtain ⟨E0, p4, p5, p6, p7, p8, sz1⟩ := hS
 obtain ⟨h1_0, h1_1, h1_2, h1_3, h1_4, h1_5, h1_6, h1_7, h1_8, h1_9, h1_10, h1_11, h1_12, h1_13, h1_14, h1_15, h1_16, h1_17, h1_18, h1_19, h1_20, h1_21, h1_22, h1_23, h1_24, -⟩ := hp
 replace h1_0 : vs 0 = .agg #[.int .i64 lr, .int .i64 b1, .int .i64 b2, .int .i64 eps, .int .i64 wd, .bool ap] := h1_0
 replace h1_1 : vs 1 = .int .i64 f := h1_1
 replace h1_2 : vs 2 = .bool false := h1_2
 replace h1_3 : vs 3 = .bool true := h1_3
 replace h1_4 : vs 4 = .bool true := h1_4
 replace h1_5 : vs 5 = undef := h1_5
 replace h1_6 : vs 6 = undef := h1_6
 replace h1_7 : vs 7 = undef := h1_7
 replace h1_8 : vs 8 = undef := h1_8
 replace h1_9 : vs 9 = undef := h1_9
 replace h1_10 : vs 10 = .bool true := h1_10
 replace h1_11 : vs 11 = .bool true := h1_11
 replace h1_12 : vs 12 = undef := h1_12
 replace h1_13 : vs 13 = undef := h1_13
 replace h1_14 : vs 14 = undef := h1_14
 replace h1_15 : vs 15 = undef := h1_15
 replace h1_16 : vs 16 = undef := h1_16
 replace h1_17 : vs 17 = .bool true := h1_17
 replace h1_18 : vs 18 = .bool true := h1_18
 replace h1_19 : vs 19 = undef := h1_19
 replace h1_20 : vs 20 = undef := h1_20
 replace h1_21 : vs 21 = undef := h1_21
 replace h1_22 : vs 22 = undef := h1_22
 replace h1_23 : vs 23 = .bool true := h1_23
 replace h1_24 : vs 24 = .bool true := h1_24
 simp only [h1_0, h1_1, h1_2, h1_3, h1_4, h1_5, h1_6, h1_7, h1_8, h1_9, h1_10, h1_11, h1_12, h1_13, h1_14, h1_15, h1_16, h1_17, h1_18, h1_19, h1_20, h1_21, h1_22, h1_23, h1_24]
 clear h1_0 h1_1 h1_2 h1_3 h1_4 h1_5 h1_6 h1_7 h1_8 h1_9 h1_10 h1_11 h1_12 h1_13 h1_14 h1_15 h1_16 h1_17 h1_18 h1_19 h1_20 h1_21 h1_22 h1_23 h1_24
 have z8 : ∀ i, W1.frozen? ⟨w.heap.size + 1 + 1 + 1 + 1, i, none⟩ = false := fun i => by simp [World.frozen?, show W1.heap[w.heap.size + 1 + 1 + 1 + 1]? = _ from p8]
 have z80 := z8 0
 have z81 := z8 1
 have z82 := z8 2
 have z83 := z8 3
 clear z8
 obtain ⟨kp4_0, kp4_1, kp4_2, kp4_3, kp4_4, kp4_5⟩ := p4.c6
 have kp5_0 := p5.cell 0 (v := .int .i64 f) rfl
 obtain ⟨kp6_0, kp6_1⟩ := p6.c2
 obtain ⟨kp7_0, kp7_1, kp7_2, kp7_3⟩ := p7.c4
 obtain ⟨kp8_0, kp8_1, kp8_2, kp8_3⟩ := p8.c4
 go_wp2; clear kp4_0 kp4_1 kp4_2 kp4_3 kp4_4 kp4_5 kp5_0 kp6_0 kp6_1 kp7_0 kp7_1 kp7_2 kp7_3 kp8_0 kp8_1 kp8_2 kp8_3
 obtain ⟨W2, hW2, hw, hq⟩ := (Form4.of p8).put none 0 0 none 0 0 none 0 0 none 0 0
 rw [← hW2]
 have k80 := hq.cell 0 (v := .slice none 0 0) rfl
 have k81 := hq.cell 1 (v := .slice none 0 0) rfl
 have k82 := hq.cell 2 (v := .slice none 0 0) rfl
 have k83 := hq.cell 3 (v := .slice none 0 0) rfl
 exact bodyPost_ret (v := .tuple #[.agg #[.slice none 0 0, .slice none 0 0, .slice none 0 0, .slice none 0 0], .int .i64 1]) (by simp [results, Tryz.results7, go_sem, k80, k81, k82, k83]) rfl ⟨rfl, Ext.wr E0 hw (by omega)⟩

set_option maxRecDepth 100000 in
set_option maxHeartbeats 8000000 in
theorem Tryz.adamStepArg (lr b1 b2 eps wd p0 p1 : Int) (ap : Bool) (K : Nat) {n0 n1 n2 n3 : Nat} {a0 : Option Addr} {c0 : Nat}  {a1 : Option Addr} {c1 : Nat}  {a2 : Option Addr} {c2 : Nat}  {a3 : Option Addr} {c3 : Nat} {lv : List Int} (w : World) (hR : rightA ⟨lr, b1, b2, eps, wd, ap⟩ (K : Int) = true) (hiv : Iw 0 w.heap.size w a2 n2 c2 lv) (hB : mayB K p0 = false ∨ mayB K p1 = false ∨ negB lv = true) :
  Calls Tryz.prog 7 #[.agg #[.int .i64 lr, .int .i64 b1, .int .i64 b2, .int .i64 eps, .int .i64 wd, .bool ap], .int .i64 (K : Int), .agg #[.int .i64 p0, .int .i64 p1], .agg #[.slice a0 n0 c0, .slice a1 n1 c1, .slice a2 n2 c2, .slice a3 n3 c3]] w fun e w' => e = .returned (.tuple #[.agg #[.slice none 0 0, .slice none 0 0, .slice none 0 0, .slice none 0 0], .int .i64 1]) ∧ Ext w w' := by
 have HR := Lib.hid hR
 have HK : Hid (K ≤ 40) := Lib.hid (by have := rightA_iff.1 hR; omega)
 clear hR
 cases g0 : mayB K p0
 ·have H0 := Lib.hid g0
  clear g0 hB
  have hmf : ∀ (fn : Fn) (first cap : Array Value) (W : World), (Instr.makeFunc fn first cap).run Tryz.prog W = .ok (.func fn first cap) W := fun _ _ _ _ => rfl
  obtain ⟨W0, hW0⟩ : ∃ W0, W0 = (((((w.alloc (.cells #[.int .i64 lr, .int .i64 b1, .int .i64 b2, .int .i64 eps, .int .i64 wd, .bool ap] 23)).alloc (.cells #[.int .i64 (K : Int)] 3)).alloc (.cells #[.int .i64 p0, .int .i64 p1] 24)).alloc (.cells #[.slice a0 n0 c0, .slice a1 n1 c1, .slice a2 n2 c2, .slice a3 n3 c3] 27)).alloc (.cells #[.slice none 0 0, .slice none 0 0, .slice none 0 0, .slice none 0 0] 27)) := ⟨_, rfl⟩
  have E0 : Ext w W0 := by rw [hW0]; exact (((((Ext.alloc1 w (.cells #[.int .i64 lr, .int .i64 b1, .int .i64 b2, .int .i64 eps, .int .i64 wd, .bool ap] 23)).alloc (.cells #[.int .i64 (K : Int)] 3)).alloc (.cells #[.int .i64 p0, .int .i64 p1] 24)).alloc (.cells #[.slice a0 n0 c0, .slice a1 n1 c1, .slice a2 n2 c2, .slice a3 n3 c3] 27)).alloc (.cells #[.slice none 0 0, .slice none 0 0, .slice none 0 0, .slice none 0 0] 27))
  replace hiv : Iw 0 w.heap.size W0 a2 n2 c2 (lv) := hiv.ext E0
  have p4 : BxA W0 w.heap.size 23 #[.int .i64 lr, .int .i64 b1, .int .i64 b2, .int .i64 eps, .int .i64 wd, .bool ap] := by rw [hW0]; exact (BxA.new w 23 #[.int .i64 lr, .int .i64 b1, .int .i64 b2, .int .i64 eps, .int .i64 wd, .bool ap]).ext ((((Ext.alloc1 (w.alloc (.cells #[.int .i64 lr, .int .i64 b1, .int .i64 b2, .int .i64 eps, .int .i64 wd, .bool ap] 23)) (.cells #[.int .i64 (K : Int)] 3)).alloc (.cells #[.int .i64 p0, .int .i64 p1] 24)).alloc (.cells #[.slice a0 n0 c0, .slice a1 n1 c1, .slice a2 n2 c2, .slice a3 n3 c3] 27)).alloc (.cells #[.slice none 0 0, .slice none 0 0, .slice none 0 0, .slice none 0 0] 27))
  have p5 : BxA W0 (w.heap.size + 1) 3 #[.int .i64 (K : Int)] := by rw [hW0]; simpa using (BxA.new (w.alloc (.cells #[.int .i64 lr, .int .i64 b1, .int .i64 b2, .int .i64 eps, .int .i64 wd, .bool ap] 23)) 3 #[.int .i64 (K : Int)]).ext (((Ext.alloc1 ((w.alloc (.cells #[.int .i64 lr, .int .i64 b1, .int .i64 b2, .int .i64 eps, .int .i64 wd, .bool ap] 23)).alloc (.cells #[.int .i64 (K : Int)] 3)) (.cells #[.int .i64 p0, .int .i64 p1] 24)).alloc (.cells #[.slice a0 n0 c0, .slice a1 n1 c1, .slice a2 n2 c2, .slice a3 n3 c3] 27)).alloc (.cells #[.slice none 0 0, .slice none 0 0, .slice none 0 0, .slice none 0 0] 27))
  have p6 : Bx2 W0 (w.heap.size + 1 + 1) 24 (.int .i64 p0) (.int .i64 p1) := by rw [hW0]; simpa using (Bx2.new ((w.alloc (.cells #[.int .i64 lr, .int .i64 b1, .int .i64 b2, .int .i64 eps, .int .i64 wd, .bool ap] 23)).alloc (.cells #[.int .i64 (K : Int)] 3)) 24 (.int .i64 p0) (.int .i64 p1)).ext ((Ext.alloc1 (((w.alloc (.cells #[.int .i64 lr, .int .i64 b1, .int .i64 b2, .int .i64 eps, .int .i64 wd, .bool ap] 23)).alloc (.cells #[.int .i64 (K : Int)] 3)).alloc (.cells #[.int .i64 p0, .int .i64 p1] 24)) (.cells #[.slice a0 n0 c0, .slice a1 n1 c1, .slice a2 n2 c2, .slice a3 n3 c3] 27)).alloc (.cells #[.slice none 0 0, .slice none 0 0, .slice none 0 0, .slice none 0 0] 27))
  have p7 : BxA W0 (w.heap.size + 1 + 1 + 1) 27 #[.slice a0 n0 c0, .slice a1 n1 c1, .slice a2 n2 c2, .slice a3 n3 c3] := by rw [hW0]; simpa using (BxA.new (((w.alloc (.cells #[.int .i64 lr, .int .i64 b1, .int .i64 b2, .int .i64 eps, .int .i64 wd, .bool ap] 23)).alloc (.cells #[.int .i64 (K : Int)] 3)).alloc (.cells #[.int .i64 p0, .int .i64 p1] 24)) 27 #[.slice a0 n0 c0, .slice a1 n1 c1, .slice a2 n2 c2, .slice a3 n3 c3]).ext (Ext.alloc1 ((((w.alloc (.cells #[.int .i64 lr, .int .i64 b1, .int .i64 b2, .int .i64 eps, .int .i64 wd, .bool ap] 23)).alloc (.cells #[.int .i64 (K : Int)] 3)).alloc (.cells #[.int .i64 p0, .int .i64 p1] 24)).alloc (.cells #[.slice a0 n0 c0, .slice a1 n1 c1, .slice a2 n2 c2, .slice a3 n3 c3] 27)) (.cells #[.slice none 0 0, .slice none 0 0, .slice none 0 0, .slice none 0 0] 27))
  have p8 : BxA W0 (w.heap.size + 1 + 1 + 1 + 1) 27 #[.slice none 0 0, .slice none 0 0, .slice none 0 0, .slice none 0 0] := by rw [hW0]; simpa using (BxA.new ((((w.alloc (.cells #[.int .i64 lr, .int .i64 b1, .int .i64 b2, .int .i64 eps, .int .i64 wd, .bool ap] 23)).alloc (.cells #[.int .i64 (K : Int)] 3)).alloc (.cells #[.int .i64 p0, .int .i64 p1] 24)).alloc (.cells #[.slice a0 n0 c0, .slice a1 n1 c1, .slice a2 n2 c2, .slice a3 n3 c3] 27)) 27 #[.slice none 0 0, .slice none 0 0, .slice none 0 0, .slice none 0 0])
  go_enter Tryz.func7, Tryz.ntmps7
  obtain ⟨kp4_0, kp4_1, kp4_2, kp4_3, kp4_4, kp4_5⟩ := p4.c6
  have kp5_0 := p5.cell 0 (v := .int .i64 (K : Int)) rfl
  obtain ⟨kp6_0, kp6_1⟩ := p6.c2
  obtain ⟨kp7_0, kp7_1, kp7_2, kp7_3⟩ := p7.c4
  obtain ⟨kp8_0, kp8_1, kp8_2, kp8_3⟩ := p8.c4
  go_upto_region 4 with (fail)
  rw [← hW0]
  clear hW0; clear kp4_0 kp4_1 kp4_2 kp4_3 kp4_4 kp4_5 kp5_0 kp6_0 kp6_1 kp7_0 kp7_1 kp7_2 kp7_3 kp8_0 kp8_1 kp8_2 kp8_3; have ltp4 := p4.lt; have ltp5 := p5.lt; have ltp6 := p6.lt; have ltp7 := p7.lt; have ltp8 := p8.lt; have szw2 := Ext.size E0
  refine region_gs [.one fun v _ => v = .agg #[.int .i64 lr, .int .i64 b1, .int .i64 b2, .int .i64 eps, .int .i64 wd, .bool ap],
    .one fun v _ => v = .int .i64 (K : Int),
    .one fun v _ => v = .bool true,
    .one fun v _ => v = .bool false,
    .one fun v _ => v = .bool false,
    .one fun v _ => v = .func (.func 20) #[] #[.pointer (some ⟨w.heap.size + 1, 0, none⟩)],
    .one fun v _ => v = .pointer (some ⟨w.heap.size + 1 + 1, 0, none⟩),
    .one fun v _ => v = .int .i64 p0,
    .one fun v _ => v = .bool false,
    .one fun v _ => v = .bool true,
    .one fun v _ => v = .bool true,
    .one fun v _ => v = .bool true,
    .one fun v _ => v = undef,
    .one fun v _ => v = undef,
    .one fun v _ => v = undef,
    .one fun v _ => v = undef,
    .one fun v _ => v = undef,
    .one fun v _ => v = .bool true,
    .one fun v _ => v = .bool true,
    .one fun v _ => v = undef,
    .one fun v _ => v = undef,
    .one fun v _ => v = undef,
    .one fun v _ => v = undef,
    .one fun v _ => v = .bool true,
    .one fun v _ => v = .bool true]
   (fun W => Ext w W ∧ Iw 0 w.heap.size W a2 n2 c2 (lv) ∧ BxA W w.heap.size 23 #[.int .i64 lr, .int .i64 b1, .int .i64 b2, .int .i64 eps, .int .i64 wd, .bool ap] ∧ BxA W (w.heap.size + 1) 3 #[.int .i64 (K : Int)] ∧ Bx2 W (w.heap.size + 1 + 1) 24 (.int .i64 p0) (.int .i64 p1) ∧ BxA W (w.heap.size + 1 + 1 + 1) 27 #[.slice a0 n0 c0, .slice a1 n1 c1, .slice a2 n2 c2, .slice a3 n3 c3] ∧ BxA W (w.heap.size + 1 + 1 + 1 + 1) 27 #[.slice none 0 0, .slice none 0 0, .slice none 0 0, .slice none 0 0] ∧ W0.heap.size ≤ W.heap.size) ⟨Good.is _, Good.is _, Good.is _, Good.is _, Good.is _, Good.is _, Good.is _, Good.is _, Good.is _, Good.is _, Good.is _, Good.is _, Good.is _, Good.is _, Good.is _, Good.is _, Good.is _, Good.is _, Good.is _, Good.is _, Good.is _, Good.is _, Good.is _, Good.is _, Good.is _, trivial⟩
   ⟨E0, hiv, p4, p5, p6, p7, p8, Nat.le_refl _⟩ (A := ?A2) ?hA2 ?howe2 ?hfin2
  case hA2 =>
   intro vs
   simp only [putAll, Act.put, sA, sZ, sS, Nat.zero_add, Nat.reduceAdd]
   exact rfl
  case howe2 =>
   clear E0 hiv p4 p5 p6 p7 p8
   intro hf
   refine ⟨oE 0 [] hf rfl ?_, oE 1 [] hf rfl ?_, oE 2 [0, 1] hf rfl ?_, oE 3 [2] hf rfl ?_, oE 4 [3] hf rfl ?_, oE 5 [4] hf rfl ?_, oE 6 [4] hf rfl ?_, oE 7 [4, 6] hf rfl ?_, oE 8 [4, 5, 7] hf rfl ?_, oE 9 [4, 8] hf rfl ?_, oE 10 [4, 9] hf rfl ?_, oE 11 [10] hf rfl ?_, oE 12 [11] hf rfl ?_, oE 13 [11] hf rfl ?_, oE 14 [11] hf rfl ?_, oE 15 [11] hf rfl ?_, oE 16 [11] hf rfl ?_, oE 17 [11, 16] hf rfl ?_, oE 18 [17] hf rfl ?_, oE 19 [18] hf rfl ?_, oE 20 [18] hf rfl ?_, oE 21 [18] hf rfl ?_, oE 22 [18] hf rfl ?_, oE 23 [18, 22] hf rfl ?_, oE 24 [23] hf rfl ?_, trivial⟩
   all_goals intro vs W hS hp hx KO hKO
   all_goals simp only [Act.put, sA, sZ, sS] at hKO
   ·have fc0 := BxA.cell (hS.2.2.1) 0 (v := .int .i64 lr) rfl; have fc1 := BxA.cell (hS.2.2.1) 1 (v := .int .i64 b1) rfl; have fc2 := BxA.cell (hS.2.2.1) 2 (v := .int .i64 b2) rfl; have fc3 := BxA.cell (hS.2.2.1) 3 (v := .int .i64 eps) rfl; have fc4 := BxA.cell (hS.2.2.1) 4 (v := .int .i64 wd) rfl; have fc5 := BxA.cell (hS.2.2.1) 5 (v := .bool ap) rfl; go_simp; exact hKO _ W (.refl W) rfl
   ·have fc0 := BxA.cell (hS.2.2.2.1) 0 (v := .int .i64 (K : Int)) rfl; go_simp; exact hKO _ W (.refl W) rfl
   ·have e0 := isOf hp.1; have e1 := isOf hp.2.1; simp only [e0, e1] at hKO; go_simp
    refine (Tryz.adamRight lr b1 b2 eps wd (K : Int) ap _).mono ?_
    rintro e W1 ⟨rfl, hE⟩
    rw [HR.out]
    exact hKO _ W1 hE rfl
   ·have e2 := isOf hp.1; simp only [e2] at hKO; go_simp; exact hKO _ W (.refl W) rfl
   ·have e3 := isOf hp.1; simp only [e3] at hKO; go_simp; exact hKO _ W (.refl W) rfl
   ·have e4 := isOf hp.1; simp only [e4] at hKO; go_simp; exact hKO _ W (.refl W) rfl
   ·have e4 := isOf hp.1; simp only [e4] at hKO; go_simp; exact hKO _ W (.refl W) rfl
   ·have e4 := isOf hp.1; have e6 := isOf hp.2.1; simp only [e4, e6] at hKO; have fc0 := hS.2.2.2.2.1.cell0; go_simp; exact hKO _ W (.refl W) rfl
   ·have e4 := isOf hp.1; have e5 := isOf hp.2.1; have e7 := isOf hp.2.2.1; simp only [e4, e5, e7] at hKO; go_simp
    refine (Tryz.adamBehind K HK.out p0 hS.2.2.2.1).mono ?_
    rintro e W1 ⟨rfl, hE⟩
    rw [H0.out]
    exact hKO _ W1 hE rfl
   ·have e4 := isOf hp.1; have e8 := isOf hp.2.1; simp only [e4, e8] at hKO; go_simp; exact hKO _ W (.refl W) rfl
   ·have e4 := isOf hp.1; have e9 := isOf hp.2.1; simp only [e4, e9] at hKO; go_simp; exact hKO _ W (.refl W) rfl
   ·have e10 := isOf hp.1; simp only [e10] at hKO; go_simp; exact hKO _ W (.refl W) rfl
   ·have e11 := isOf hp.1; simp only [e11] at hKO; go_simp; exact hKO _ W (.refl W) rfl
   ·have e11 := isOf hp.1; simp only [e11] at hKO; go_simp; exact hKO _ W (.refl W) rfl
   ·have e11 := isOf hp.1; simp only [e11] at hKO; go_simp; exact hKO _ W (.refl W) rfl
   ·have e11 := isOf hp.1; simp only [e11] at hKO; go_simp; exact hKO _ W (.refl W) rfl
   ·have e11 := isOf hp.1; simp only [e11] at hKO; go_simp; exact hKO _ W (.refl W) rfl
   ·have e11 := isOf hp.1; have e16 := isOf hp.2.1; simp only [e11, e16] at hKO; go_simp; exact hKO _ W (.refl W) rfl
   ·have e17 := isOf hp.1; simp only [e17] at hKO; go_simp; exact hKO _ W (.refl W) rfl
   ·have e18 := isOf hp.1; simp only [e18] at hKO; go_simp; exact hKO _ W (.refl W) rfl
   ·have e18 := isOf hp.1; simp only [e18] at hKO; go_simp; exact hKO _ W (.refl W) rfl
   ·have e18 := isOf hp.1; simp only [e18] at hKO; go_simp; exact hKO _ W (.refl W) rfl
   ·have e18 := isOf hp.1; simp only [e18] at hKO; go_simp; exact hKO _ W (.refl W) rfl
   ·have e18 := isOf hp.1; have e22 := isOf hp.2.1; simp only [e18, e22] at hKO; go_simp; exact hKO _ W (.refl W) rfl
   ·have e23 := isOf hp.1; simp only [e23] at hKO; go_simp; exact hKO _ W (.refl W) rfl
  intro vs W2 hS hp
  clear szw2 E0 hiv p4 p5 p6 p7 p8
  obtain ⟨E0, hiv, p4, p5, p6, p7, p8, sz2⟩ := hS
  obtain ⟨h2_0, h2_1, h2_2, h2_3, h2_4, h2_5, h2_6, h2_7, h2_8, h2_9, h2_10, h2_11, h2_12, h2_13, h2_14, h2_15, h2_16, h2_17, h2_18, h2_19, h2_20, h2_21, h2_22, h2_23, h2_24, -⟩ := hp
  replace h2_0 : vs 0 = .agg #[.int .i64 lr, .int .i64 b1, .int .i64 b2, .int .i64 eps, .int .i64 wd, .bool ap] := h2_0
  replace h2_1 : vs 1 = .int .i64 (K : Int) := h2_1
  replace h2_2 : vs 2 = .bool true := h2_2
  replace h2_3 : vs 3 = .bool false := h2_3
  replace h2_4 : vs 4 = .bool false := h2_4
  replace h2_5 : vs 5 = .func (.func 20) #[] #[.pointer (some ⟨w.heap.size + 1, 0, none⟩)] := h2_5
  replace h2_6 : vs 6 = .pointer (some ⟨w.heap.size + 1 + 1, 0, none⟩) := h2_6
  replace h2_7 : vs 7 = .int .i64 p0 := h2_7
  replace h2_8 : vs 8 = .bool false := h2_8
  replace h2_9 : vs 9 = .bool true := h2_9
  replace h2_10 : vs 10 = .bool true := h2_10
  replace h2_11 : vs 11 = .bool true := h2_11
  replace h2_12 : vs 12 = undef := h2_12
  replace h2_13 : vs 13 = undef := h2_13
  replace h2_14 : vs 14 = undef := h2_14
  replace h2_15 : vs 15 = undef := h2_15
  replace h2_16 : vs 16 = undef := h2_16
  replace h2_17 : vs 17 = .bool true := h2_17
  replace h2_18 : vs 18 = .bool true := h2_18
  replace h2_19 : vs 19 = undef := h2_19
  replace h2_20 : vs 20 = undef := h2_20
  replace h2_21 : vs 21 = undef := h2_21
  replace h2_22 : vs 22 = undef := h2_22
  replace h2_23 : vs 23 = .bool true := h2_23
  replace h2_24 : vs 24 = .bool true := h2_24
  simp only [h2_0, h2_1, h2_2, h2_3, h2_4, h2_5, h2_6, h2_7, h2_8, h2_9, h2_10, h2_11, h2_12, h2_13, h2_14, h2_15, h2_16, h2_17, h2_18, h2_19, h2_20, h2_21, h2_22, h2_23, h2_24]
  clear h2_0 h2_1 h2_2 h2_3 h2_4 h2_5 h2_6 h2_7 h2_8 h2_9 h2_10 h2_11 h2_12 h2_13 h2_14 h2_15 h2_16 h2_17 h2_18 h2_19 h2_20 h2_21 h2_22 h2_23 h2_24
  have z8 : ∀ i, W2.frozen? ⟨w.heap.size + 1 + 1 + 1 + 1, i, none⟩ = false := fun i => by simp [World.frozen?, show W2.heap[w.heap.size + 1 + 1 + 1 + 1]? = _ from p8]
  have z80 := z8 0
  have z81 := z8 1
  have z82 := z8 2
  have z83 := z8 3
  clear z8
  obtain ⟨kp4_0, kp4_1, kp4_2, kp4_3, kp4_4, kp4_5⟩ := p4.c6
  have kp5_0 := p5.cell 0 (v := .int .i64 (K : Int)) rfl
  obtain ⟨kp6_0, kp6_1⟩ := p6.c2
  obtain ⟨kp7_0, kp7_1, kp7_2, kp7_3⟩ := p7.c4
  obtain ⟨kp8_0, kp8_1, kp8_2, kp8_3⟩ := p8.c4
  go_wp2; clear kp4_0 kp4_1 kp4_2 kp4_3 kp4_4 kp4_5 kp5_0 kp6_0 kp6_1 kp7_0 kp7_1 kp7_2 kp7_3 kp8_0 kp8_1 kp8_2 kp8_3
  obtain ⟨W2, hW2, hw, hq⟩ := (Form4.of p8).put none 0 0 none 0 0 none 0 0 none 0 0
  rw [← hW2]
  have k80 := hq.cell 0 (v := .slice none 0 0) rfl
  have k81 := hq.cell 1 (v := .slice none 0 0) rfl
  have k82 := hq.cell 2 (v := .slice none 0 0) rfl
  have k83 := hq.cell 3 (v := .slice none 0 0) rfl
  exact bodyPost_ret (v := .tuple #[.agg #[.slice none 0 0, .slice none 0 0, .slice none 0 0, .slice none 0 0], .int .i64 1]) (by simp [results, Tryz.results7, go_sem, k80, k81, k82, k83]) rfl ⟨rfl, Ext.wr E0 hw (by omega)⟩
 ·have H0 := Lib.hid g0
  clear g0
  cases g1 : mayB K p1
  ·have H1 := Lib.hid g1
   clear g1 hB
   have hmf : ∀ (fn : Fn) (first cap : Array Value) (W : World), (Instr.makeFunc fn first cap).run Tryz.prog W = .ok (.func fn first cap) W := fun _ _ _ _ => rfl
   obtain ⟨W0, hW0⟩ : ∃ W0, W0 = (((((w.alloc (.cells #[.int .i64 lr, .int .i64 b1, .int .i64 b2, .int .i64 eps, .int .i64 wd, .bool ap] 23)).alloc (.cells #[.int .i64 (K : Int)] 3)).alloc (.cells #[.int .i64 p0, .int .i64 p1] 24)).alloc (.cells #[.slice a0 n0 c0, .slice a1 n1 c1, .slice a2 n2 c2, .slice a3 n3 c3] 27)).alloc (.cells #[.slice none 0 0, .slice none 0 0, .slice none 0 0, .slice none 0 0] 27)) := ⟨_, rfl⟩
   have E0 : Ext w W0 := by rw [hW0]; exact (((((Ext.alloc1 w (.cells #[.int .i64 lr, .int .i64 b1, .int .i64 b2, .int .i64 eps, .int .i64 wd, .bool ap] 23)).alloc (.cells #[.int .i64 (K : Int)] 3)).alloc (.cells #[.int .i64 p0, .int .i64 p1] 24)).alloc (.cells #[.slice a0 n0 c0, .slice a1 n1 c1, .slice a2 n2 c2, .slice a3 n3 c3] 27)).alloc (.cells #[.slice none 0 0, .slice none 0 0, .slice none 0 0, .slice none 0 0] 27))
   replace hiv : Iw 0 w.heap.size W0 a2 n2 c2 (lv) := hiv.ext E0
   have p4 : BxA W0 w.heap.size 23 #[.int .i64 lr, .int .i64 b1, .int .i64 b2, .int .i64 eps, .int .i64 wd, .bool ap] := by rw [hW0]; exact (BxA.new w 23 #[.int .i64 lr, .int .i64 b1, .int .i64 b2, .int .i64 eps, .int .i64 wd, .bool ap]).ext ((((Ext.alloc1 (w.alloc (.cells #[.int .i64 lr, .int .i64 b1, .int .i64 b2, .int .i64 eps, .int .i64 wd, .bool ap] 23)) (.cells #[.int .i64 (K : Int)] 3)).alloc (.cells #[.int .i64 p0, .int .i64 p1] 24)).alloc (.cells #[.slice a0 n0 c0, .slice a1 n1 c1, .slice a2 n2 c2, .slice a3 n3 c3] 27)).alloc (.cells #[.slice none 0 0, .slice none 0 0, .slice none 0 0, .slice none 0 0] 27))
   have p5 : BxA W0 (w.heap.size + 1) 3 #[.int .i64 (K : Int)] := by rw [hW0]; simpa using (BxA.new (w.alloc (.cells #[.int .i64 lr, .int .i64 b1, .int .i64 b2, .int .i64 eps, .int .i64 wd, .bool ap] 23)) 3 #[.int .i64 (K : Int)]).ext (((Ext.alloc1 ((w.alloc (.cells #[.int .i64 lr, .int .i64 b1, .int .i64 b2, .int .i64 eps, .int .i64 wd, .bool ap] 23)).alloc (.cells #[.int .i64 (K : Int)] 3)) (.cells #[.int .i64 p0, .int .i64 p1] 24)).alloc (.cells #[.slice a0 n0 c0, .slice a1 n1 c1, .slice a2 n2 c2, .slice a3 n3 c3] 27)).alloc (.cells #[.slice none 0 0, .slice none 0 0, .slice none 0 0, .slice none 0 0] 27))
   have p6 : Bx2 W0 (w.heap.size + 1 + 1) 24 (.int .i64 p0) (.int .i64 p1) := by rw [hW0]; simpa using (Bx2.new ((w.alloc (.cells #[.int .i64 lr, .int .i64 b1, .int .i64 b2, .int .i64 eps, .int .i64 wd, .bool ap] 23)).alloc (.cells #[.int .i64 (K : Int)] 3)) 24 (.int .i64 p0) (.int .i64 p1)).ext ((Ext.alloc1 (((w.alloc (.cells #[.int .i64 lr, .int .i64 b1, .int .i64 b2, .int .i64 eps, .int .i64 wd, .bool ap] 23)).alloc (.cells #[.int .i64 (K : Int)] 3)).alloc (.cells #[.int .i64 p0, .int .i64 p1] 24)) (.cells #[.slice a0 n0 c0, .slice a1 n1 c1, .slice a2 n2 c2, .slice a3 n3 c3] 27)).alloc (.cells #[.slice none 0 0, .slice none 0 0, .slice none 0 0, .slice none 0 0] 27))
   have p7 : BxA W0 (w.heap.size + 1 + 1 + 1) 27 #[.slice a0 n0 c0, .slice a1 n1 c1, .slice a2 n2 c2, .slice a3 n3 c3] := by rw [hW0]; simpa using (BxA.new (((w.alloc (.cells #[.int .i64 lr, .int .i64 b1, .int .i64 b2, .int .i64 eps, .int .i64 wd, .bool ap] 23)).alloc (.cells #[.int .i64 (K : Int)] 3)).alloc (.cells #[.int .i64 p0, .int .i64 p1] 24)) 27 #[.slice a0 n0 c0, .slice a1 n1 c1, .slice a2 n2 c2, .slice a3 n3 c3]).ext (Ext.alloc1 ((((w.alloc (.cells #[.int .i64 lr, .int .i64 b1, .int .i64 b2, .int .i64 eps, .int .i64 wd, .bool ap] 23)).alloc (.cells #[.int .i64 (K : Int)] 3)).alloc (.cells #[.int .i64 p0, .int .i64 p1] 24)).alloc (.cells #[.slice a0 n0 c0, .slice a1 n1 c1, .slice a2 n2 c2, .slice a3 n3 c3] 27)) (.cells #[.slice none 0 0, .slice none 0 0, .slice none 0 0, .slice none 0 0] 27))
   have p8 : BxA W0 (w.heap.size + 1 + 1 + 1 + 1) 27 #[.slice none 0 0, .slice none 0 0, .slice none 0 0, .slice none 0 0] := by rw [hW0]; simpa using (BxA.new ((((w.alloc (.cells #[.int .i64 lr, .int .i64 b1, .int .i64 b2, .int .i64 eps, .int .i64 wd, .bool ap] 23)).alloc (.cells #[.int .i64 (K : Int)] 3)).alloc (.cells #[.int .i64 p0, .int .i64 p1] 24)).alloc (.cells #[.slice a0 n0 c0, .slice a1 n1 c1, .slice a2 n2 c2, .slice a3 n3 c3] 27)) 27 #[.slice none 0 0, .slice none 0 0, .slice none 0 0, .slice none 0 0])
   go_enter Tryz.func7, Tryz.ntmps7
   obtain ⟨kp4_0, kp4_1, kp4_2, kp4_3, kp4_4, kp4_5⟩ := p4.c6
   have kp5_0 := p5.cell 0 (v := .int .i64 (K : Int)) rfl
   obtain ⟨kp6_0, kp6_1⟩ := p6.c2
   obtain ⟨kp7_0, kp7_1, kp7_2, kp7_3⟩ := p7.c4
   obtain ⟨kp8_0, kp8_1, kp8_2, kp8_3⟩ := p8.c4
   go_upto_region 4 with (fail)
   rw [← hW0]
   clear hW0; clear kp4_0 kp4_1 kp4_2 kp4_3 kp4_4 kp4_5 kp5_0 kp6_0 kp6_1 kp7_0 kp7_1 kp7_2 kp7_3 kp8_0 kp8_1 kp8_2 kp8_3; have ltp4 := p4.lt; have ltp5 := p5.lt; have ltp6 := p6.lt; have ltp7 := p7.lt; have ltp8 := p8.lt; have szw3 := Ext.size E0
   refine region_gs [.one fun v _ => v = .agg #[.int .i64 lr, .int .i64 b1, .int .i64 b2, .int .i64 eps, .int .i64 wd, .bool ap],
     .one fun v _ => v = .int .i64 (K : Int),
     .one fun v _ => v = .bool true,
     .one fun v _ => v = .bool false,
     .one fun v _ => v = .bool false,
     .one fun v _ => v = .func (.func 20) #[] #[.pointer (some ⟨w.heap.size + 1, 0, none⟩)],
     .one fun v _ => v = .pointer (some ⟨w.heap.size + 1 + 1, 0, none⟩),
     .one fun v _ => v = .int .i64 p0,
     .one fun v _ => v = .bool true,
     .one fun v _ => v = .bool false,
     .one fun v _ => v = .bool false,
     .one fun v _ => v = .bool false,
     .one fun v _ => v = .func (.func 20) #[] #[.pointer (some ⟨w.heap.size + 1, 0, none⟩)],
     .one fun v _ => v = .pointer (some ⟨w.heap.size + 1 + 1, 1, none⟩),
     .one fun v _ => v = .int .i64 p1,
     .one fun v _ => v = .bool false,
     .one fun v _ => v = .bool true,
     .one fun v _ => v = .bool true,
     .one fun v _ => v = .bool true,
     .one fun v _ => v = undef,
     .one fun v _ => v = undef,
     .one fun v _ => v = undef,
     .one fun v _ => v = undef,
     .one fun v _ => v = .bool true,
     .one fun v _ => v = .bool true]
    (fun W => Ext w W ∧ Iw 0 w.heap.size W a2 n2 c2 (lv) ∧ BxA W w.heap.size 23 #[.int .i64 lr, .int .i64 b1, .int .i64 b2, .int .i64 eps, .int .i64 wd, .bool ap] ∧ BxA W (w.heap.size + 1) 3 #[.int .i64 (K : Int)] ∧ Bx2 W (w.heap.size + 1 + 1) 24 (.int .i64 p0) (.int .i64 p1) ∧ BxA W (w.heap.size + 1 + 1 + 1) 27 #[.slice a0 n0 c0, .slice a1 n1 c1, .slice a2 n2 c2, .slice a3 n3 c3] ∧ BxA W (w.heap.size + 1 + 1 + 1 + 1) 27 #[.slice none 0 0, .slice none 0 0, .slice none 0 0, .slice none 0 0] ∧ W0.heap.size ≤ W.heap.size) ⟨Good.is _, Good.is _, Good.is _, Good.is _, Good.is _, Good.is _, Good.is _, Good.is _, Good.is _, Good.is _, Good.is _, Good.is _, Good.is _, Good.is _, Good.is _, Good.is _, Good.is _, Good.is _, Good.is _, Good.is _, Good.is _, Good.is _, Good.is _, Good.is _, Good.is _, trivial⟩
    ⟨E0, hiv, p4, p5, p6, p7, p8, Nat.le_refl _⟩ (A := ?A3) ?hA3 ?howe3 ?hfin3
   case hA3 =>
    intro vs
    simp only [putAll, Act.put, sA, sZ, sS, Nat.zero_add, Nat.reduceAdd]
    exact rfl
   case howe3 =>
    clear E0 hiv p4 p5 p6 p7 p8
    intro hf
    refine ⟨oE 0 [] hf rfl ?_, oE 1 [] hf rfl ?_, oE 2 [0, 1] hf rfl ?_, oE 3 [2] hf rfl ?_, oE 4 [3] hf rfl ?_, oE 5 [4] hf rfl ?_, oE 6 [4] hf rfl ?_, oE 7 [4, 6] hf rfl ?_, oE 8 [4, 5, 7] hf rfl ?_, oE 9 [4, 8] hf rfl ?_, oE 10 [4, 9] hf rfl ?_, oE 11 [10] hf rfl ?_, oE 12 [11] hf rfl ?_, oE 13 [11] hf rfl ?_, oE 14 [11, 13] hf rfl ?_, oE 15 [11, 12, 14] hf rfl ?_, oE 16 [11, 15] hf rfl ?_, oE 17 [11, 16] hf rfl ?_, oE 18 [17] hf rfl ?_, oE 19 [18] hf rfl ?_, oE 20 [18] hf rfl ?_, oE 21 [18] hf rfl ?_, oE 22 [18] hf rfl ?_, oE 23 [18, 22] hf rfl ?_, oE 24 [23] hf rfl ?_, trivial⟩
    all_goals intro vs W hS hp hx KO hKO
    all_goals simp only [Act.put, sA, sZ, sS] at hKO
    ·have fc0 := BxA.cell (hS.2.2.1) 0 (v := .int .i64 lr) rfl; have fc1 := BxA.cell (hS.2.2.1) 1 (v := .int .i64 b1) rfl; have fc2 := BxA.cell (hS.2.2.1) 2 (v := .int .i64 b2) rfl; have fc3 := BxA.cell (hS.2.2.1) 3 (v := .int .i64 eps) rfl; have fc4 := BxA.cell (hS.2.2.1) 4 (v := .int .i64 wd) rfl; have fc5 := BxA.cell (hS.2.2.1) 5 (v := .bool ap) rfl; go_simp; exact hKO _ W (.refl W) rfl
    ·have fc0 := BxA.cell (hS.2.2.2.1) 0 (v := .int .i64 (K : Int)) rfl; go_simp; exact hKO _ W (.refl W) rfl
    ·have e0 := isOf hp.1; have e1 := isOf hp.2.1; simp only [e0, e1] at hKO; go_simp
     refine (Tryz.adamRight lr b1 b2 eps wd (K : Int) ap _).mono ?_
     rintro e W1 ⟨rfl, hE⟩
     rw [HR.out]
     exact hKO _ W1 hE rfl
    ·have e2 := isOf hp.1; simp only [e2] at hKO; go_simp; exact hKO _ W (.refl W) rfl
    ·have e3 := isOf hp.1; simp only [e3] at hKO; go_simp; exact hKO _ W (.refl W) rfl
    ·have e4 := isOf hp.1; simp only [e4] at hKO; go_simp; exact hKO _ W (.refl W) rfl
    ·have e4 := isOf hp.1; simp only [e4] at hKO; go_simp; exact hKO _ W (.refl W) rfl
    ·have e4 := isOf hp.1; have e6 := isOf hp.2.1; simp only [e4, e6] at hKO; have fc0 := hS.2.2.2.2.1.cell0; go_simp; exact hKO _ W (.refl W) rfl
    ·have e4 := isOf hp.1; have e5 := isOf hp.2.1; have e7 := isOf hp.2.2.1; simp only [e4, e5, e7] at hKO; go_simp
     refine (Tryz.adamBehind K HK.out p0 hS.2.2.2.1).mono ?_
     rintro e W1 ⟨rfl, hE⟩
     rw [H0.out]
     exact hKO _ W1 hE rfl
    ·have e4 := isOf hp.1; have e8 := isOf hp.2.1; simp only [e4, e8] at hKO; go_simp; exact hKO _ W (.refl W) rfl
    ·have e4 := isOf hp.1; have e9 := isOf hp.2.1; simp only [e4, e9] at hKO; go_simp; exact hKO _ W (.refl W) rfl
    ·have e10 := isOf hp.1; simp only [e10] at hKO; go_simp; exact hKO _ W (.refl W) rfl
    ·have e11 := isOf hp.1; simp only [e11] at hKO; go_simp; exact hKO _ W (.refl W) rfl
    ·have e11 := isOf hp.1; simp only [e11] at hKO; go_simp; exact hKO _ W (.refl W) rfl
    ·have e11 := isOf hp.1; have e13 := isOf hp.2.1; simp only [e11, e13] at hKO; have fc1 := hS.2.2.2.2.1.cell1; go_simp; exact hKO _ W (.refl W) rfl
    ·have e11 := isOf hp.1; have e12 := isOf hp.2.1; have e14 := isOf hp.2.2.1; simp only [e11, e12, e14] at hKO; go_simp
     refine (Tryz.adamBehind K HK.out p1 hS.2.2.2.1).mono ?_
     rintro e W1 ⟨rfl, hE⟩
     rw [H1.out]
     exact hKO _ W1 hE rfl
    ·have e11 := isOf hp.1; have e15 := isOf hp.2.1; simp only [e11, e15] at hKO; go_simp; exact hKO _ W (.refl W) rfl
    ·have e11 := isOf hp.1; have e16 := isOf hp.2.1; simp only [e11, e16] at hKO; go_simp; exact hKO _ W (.refl W) rfl
    ·have e17 := isOf hp.1; simp only [e17] at hKO; go_simp; exact hKO _ W (.refl W) rfl
    ·have e18 := isOf hp.1; simp only [e18] at hKO; go_simp; exact hKO _ W (.refl W) rfl
    ·have e18 := isOf hp.1; simp only [e18] at hKO; go_simp; exact hKO _ W (.refl W) rfl
    ·have e18 := isOf hp.1; simp only [e18] at hKO; go_simp; exact hKO _ W (.refl W) rfl
    ·have e18 := isOf hp.1; simp only [e18] at hKO; go_simp; exact hKO _ W (.refl W) rfl
    ·have e18 := isOf hp.1; have e22 := isOf hp.2.1; simp only [e18, e22] at hKO; go_simp; exact hKO _ W (.refl W) rfl
    ·have e23 := isOf hp.1; simp only [e23] at hKO; go_simp; exact hKO _ W (.refl W) rfl
   intro vs W3 hS hp
   clear szw3 E0 hiv p4 p5 p6 p7 p8
   obtain ⟨E0, hiv, p4, p5, p6, p7, p8, sz3⟩ := hS
   obtain ⟨h3_0, h3_1, h3_2, h3_3, h3_4, h3_5, h3_6, h3_7, h3_8, h3_9, h3_10, h3_11, h3_12, h3_13, h3_14, h3_15, h3_16, h3_17, h3_18, h3_19, h3_20, h3_21, h3_22, h3_23, h3_24, -⟩ := hp
   replace h3_0 : vs 0 = .agg #[.int .i64 lr, .int .i64 b1, .int .i64 b2, .int .i64 eps, .int .i64 wd, .bool ap] := h3_0
   replace h3_1 : vs 1 = .int .i64 (K : Int) := h3_1
   replace h3_2 : vs 2 = .bool true := h3_2
   replace h3_3 : vs 3 = .bool false := h3_3
   replace h3_4 : vs 4 = .bool false := h3_4
   replace h3_5 : vs 5 = .func (.func 20) #[] #[.pointer (some ⟨w.heap.size + 1, 0, none⟩)] := h3_5
   replace h3_6 : vs 6 = .pointer (some ⟨w.heap.size + 1 + 1, 0, none⟩) := h3_6
   replace h3_7 : vs 7 = .int .i64 p0 := h3_7
   replace h3_8 : vs 8 = .bool true := h3_8
   replace h3_9 : vs 9 = .bool false := h3_9
   replace h3_10 : vs 10 = .bool false := h3_10
   replace h3_11 : vs 11 = .bool false := h3_11
   replace h3_12 : vs 12 = .func (.func 20) #[] #[.pointer (some ⟨w.heap.size + 1, 0, none⟩)] := h3_12
   replace h3_13 : vs 13 = .pointer (some ⟨w.heap.size + 1 + 1, 1, none⟩) := h3_13
   replace h3_14 : vs 14 = .int .i64 p1 := h3_14
   replace h3_15 : vs 15 = .bool false := h3_15
   replace h3_16 : vs 16 = .bool true := h3_16
   replace h3_17 : vs 17 = .bool true := h3_17
   replace h3_18 : vs 18 = .bool true := h3_18
   replace h3_19 : vs 19 = undef := h3_19
   replace h3_20 : vs 20 = undef := h3_20
   replace h3_21 : vs 21 = undef := h3_21
   replace h3_22 : vs 22 = undef := h3_22
   replace h3_23 : vs 23 = .bool true := h3_23
   replace h3_24 : vs 24 = .bool true := h3_24
   simp only [h3_0, h3_1, h3_2, h3_3, h3_4, h3_5, h3_6, h3_7, h3_8, h3_9, h3_10, h3_11, h3_12, h3_13, h3_14, h3_15, h3_16, h3_17, h3_18, h3_19, h3_20, h3_21, h3_22, h3_23, h3_24]
   clear h3_0 h3_1 h3_2 h3_3 h3_4 h3_5 h3_6 h3_7 h3_8 h3_9 h3_10 h3_11 h3_12 h3_13 h3_14 h3_15 h3_16 h3_17 h3_18 h3_19 h3_20 h3_21 h3_22 h3_23 h3_24
   have z8 : ∀ i, W3.frozen? ⟨w.heap.size + 1 + 1 + 1 + 1, i, none⟩ = false := fun i => by simp [World.frozen?, show W3.heap[w.heap.size + 1 + 1 + 1 + 1]? = _ from p8]
   have z80 := z8 0
   have z81 := z8 1
   have z82 := z8 2
   have z83 := z8 3
   clear z8
   obtain ⟨kp4_0, kp4_1, kp4_2, kp4_3, kp4_4, kp4_5⟩ := p4.c6
   have kp5_0 := p5.cell 0 (v := .int .i64 (K : Int)) rfl
   obtain ⟨kp6_0, kp6_1⟩ := p6.c2
   obtain ⟨kp7_0, kp7_1, kp7_2, kp7_3⟩ := p7.c4
   obtain ⟨kp8_0, kp8_1, kp8_2, kp8_3⟩ := p8.c4
   go_wp2; clear kp4_0 kp4_1 kp4_2 kp4_3 kp4_4 kp4_5 kp5_0 kp6_0 kp6_1 kp7_0 kp7_1 kp7_2 kp7_3 kp8_0 kp8_1 kp8_2 kp8_3
   obtain ⟨W2, hW2, hw, hq⟩ := (Form4.of p8).put none 0 0 none 0 0 none 0 0 none 0 0
   rw [← hW2]
   have k80 := hq.cell 0 (v := .slice none 0 0) rfl
   have k81 := hq.cell 1 (v := .slice none 0 0) rfl
   have k82 := hq.cell 2 (v := .slice none 0 0) rfl
   have k83 := hq.cell 3 (v := .slice none 0 0) rfl
   exact bodyPost_ret (v := .tuple #[.agg #[.slice none 0 0, .slice none 0 0, .slice none 0 0, .slice none 0 0], .int .i64 1]) (by simp [results, Tryz.results7, go_sem, k80, k81, k82, k83]) rfl ⟨rfl, Ext.wr E0 hw (by omega)⟩
  ·have H1 := Lib.hid g1
   clear g1
   have H2 : Hid (negB lv = true) := Lib.hid (by have := H0.out; have := H1.out; simp_all)
   clear hB
   have hmf : ∀ (fn : Fn) (first cap : Array Value) (W : World), (Instr.makeFunc fn first cap).run Tryz.prog W = .ok (.func fn first cap) W := fun _ _ _ _ => rfl
   obtain ⟨W0, hW0⟩ : ∃ W0, W0 = (((((w.alloc (.cells #[.int .i64 lr, .int .i64 b1, .int .i64 b2, .int .i64 eps, .int .i64 wd, .bool ap] 23)).alloc (.cells #[.int .i64 (K : Int)] 3)).alloc (.cells #[.int .i64 p0, .int .i64 p1] 24)).alloc (.cells #[.slice a0 n0 c0, .slice a1 n1 c1, .slice a2 n2 c2, .slice a3 n3 c3] 27)).alloc (.cells #[.slice none 0 0, .slice none 0 0, .slice none 0 0, .slice none 0 0] 27)) := ⟨_, rfl⟩
   have E0 : Ext w W0 := by rw [hW0]; exact (((((Ext.alloc1 w (.cells #[.int .i64 lr, .int .i64 b1, .int .i64 b2, .int .i64 eps, .int .i64 wd, .bool ap] 23)).alloc (.cells #[.int .i64 (K : Int)] 3)).alloc (.cells #[.int .i64 p0, .int .i64 p1] 24)).alloc (.cells #[.slice a0 n0 c0, .slice a1 n1 c1, .slice a2 n2 c2, .slice a3 n3 c3] 27)).alloc (.cells #[.slice none 0 0, .slice none 0 0, .slice none 0 0, .slice none 0 0] 27))
   replace hiv : Iw 0 w.heap.size W0 a2 n2 c2 (lv) := hiv.ext E0
   have p4 : BxA W0 w.heap.size 23 #[.int .i64 lr, .int .i64 b1, .int .i64 b2, .int .i64 eps, .int .i64 wd, .bool ap] := by rw [hW0]; exact (BxA.new w 23 #[.int .i64 lr, .int .i64 b1, .int .i64 b2, .int .i64 eps, .int .i64 wd, .bool ap]).ext ((((Ext.alloc1 (w.alloc (.cells #[.int .i64 lr, .int .i64 b1, .int .i64 b2, .int .i64 eps, .int .i64 wd, .bool ap] 23)) (.cells #[.int .i64 (K : Int)] 3)).alloc (.cells #[.int .i64 p0, .int .i64 p1] 24)).alloc (.cells #[.slice a0 n0 c0, .slice a1 n1 c1, .slice a2 n2 c2, .slice a3 n3 c3] 27)).alloc (.cells #[.slice none 0 0, .slice none 0 0, .slice none 0 0, .slice none 0 0] 27))
   have p5 : BxA W0 (w.heap.size + 1) 3 #[.int .i64 (K : Int)] := by rw [hW0]; simpa using (BxA.new (w.alloc (.cells #[.int .i64 lr, .int .i64 b1, .int .i64 b2, .int .i64 eps, .int .i64 wd, .bool ap] 23)) 3 #[.int .i64 (K : Int)]).ext (((Ext.alloc1 ((w.alloc (.cells #[.int .i64 lr, .int .i64 b1, .int .i64 b2, .int .i64 eps, .int .i64 wd, .bool ap] 23)).alloc (.cells #[.int .i64 (K : Int)] 3)) (.cells #[.int .i64 p0, .int .i64 p1] 24)).alloc (.cells #[.slice a0 n0 c0, .slice a1 n1 c1, .slice a2 n2 c2, .slice a3 n3 c3] 27)).alloc (.cells #[.slice none 0 0, .slice none 0 0, .slice none 0 0, .slice none 0 0] 27))
   have p6 : Bx2 W0 (w.heap.size + 1 + 1) 24 (.int .i64 p0) (.int .i64 p1) := by rw [hW0]; simpa using (Bx2.new ((w.alloc (.cells #[.int .i64 lr, .int .i64 b1, .int .i64 b2, .int .i64 eps, .int .i64 wd, .bool ap] 23)).alloc (.cells #[.int .i64 (K : Int)] 3)) 24 (.int .i64 p0) (.int .i64 p1)).ext ((Ext.alloc1 (((w.alloc (.cells #[.int .i64 lr, .int .i64 b1, .int .i64 b2, .int .i64 eps, .int .i64 wd, .bool ap] 23)).alloc (.cells #[.int .i64 (K : Int)] 3)).alloc (.cells #[.int .i64 p0, .int .i64 p1] 24)) (.cells #[.slice a0 n0 c0, .slice a1 n1 c1, .slice a2 n2 c2, .slice a3 n3 c3] 27)).alloc (.cells #[.slice none 0 0, .slice none 0 0, .slice none 0 0, .slice none 0 0] 27))
   have p7 : BxA W0 (w.heap.size + 1 + 1 + 1) 27 #[.slice a0 n0 c0, .slice a1 n1 c1, .slice a2 n2 c2, .slice a3 n3 c3] := by rw [hW0]; simpa using (BxA.new (((w.alloc (.cells #[.int .i64 lr, .int .i64 b1, .int .i64 b2, .int .i64 eps, .int .i64 wd, .bool ap] 23)).alloc (.cells #[.int .i64 (K : Int)] 3)).alloc (.cells #[.int .i64 p0, .int .i64 p1] 24)) 27 #[.slice a0 n0 c0, .slice a1 n1 c1, .slice a2 n2 c2, .slice a3 n3 c3]).ext (Ext.alloc1 ((((w.alloc (.cells #[.int .i64 lr, .int .i64 b1, .int .i64 b2, .int .i64 eps, .int .i64 wd, .bool ap] 23)).alloc (.cells #[.int .i64 (K : Int)] 3)).alloc (.cells #[.int .i64 p0, .int .i64 p1] 24)).alloc (.cells #[.slice a0 n0 c0, .slice a1 n1 c1, .slice a2 n2 c2, .slice a3 n3 c3] 27)) (.cells #[.slice none 0 0, .slice none 0 0, .slice none 0 0, .slice none 0 0] 27))
   have p8 : BxA W0 (w.heap.size + 1 + 1 + 1 + 1) 27 #[.slice none 0 0, .slice none 0 0, .slice none 0 0, .slice none 0 0] := by rw [hW0]; simpa using (BxA.new ((((w.alloc (.cells #[.int .i64 lr, .int .i64 b1, .int .i64 b2, .int .i64 eps, .int .i64 wd, .bool ap] 23)).alloc (.cells #[.int .i64 (K : Int)] 3)).alloc (.cells #[.int .i64 p0, .int .i64 p1] 24)).alloc (.cells #[.slice a0 n0 c0, .slice a1 n1 c1, .slice a2 n2 c2, .slice a3 n3 c3] 27)) 27 #[.slice none 0 0, .slice none 0 0, .slice none 0 0, .slice none 0 0])
   go_enter Tryz.func7, Tryz.ntmps7
   obtain ⟨kp4_0, kp4_1, kp4_2, kp4_3, kp4_4, kp4_5⟩ := p4.c6
   have kp5_0 := p5.cell 0 (v := .int .i64 (K : Int)) rfl
   obtain ⟨kp6_0, kp6_1⟩ := p6.c2
   obtain ⟨kp7_0, kp7_1, kp7_2, kp7_3⟩ := p7.c4
   obtain ⟨kp8_0, kp8_1, kp8_2, kp8_3⟩ := p8.c4
   go_upto_region 4 with (fail)
   rw [← hW0]
   clear hW0; clear kp4_0 kp4_1 kp4_2 kp4_3 kp4_4 kp4_5 kp5_0 kp6_0 kp6_1 kp7_0 kp7_1 kp7_2 kp7_3 kp8_0 kp8_1 kp8_2 kp8_3; have ltp4 := p4.lt; have ltp5 := p5.lt; have ltp6 := p6.lt; have ltp7 := p7.lt; have ltp8 := p8.lt; have szw4 := Ext.size E0
   refine region_gs [.one fun v _ => v = .agg #[.int .i64 lr, .int .i64 b1, .int .i64 b2, .int .i64 eps, .int .i64 wd, .bool ap],
     .one fun v _ => v = .int .i64 (K : Int),
     .one fun v _ => v = .bool true,
     .one fun v _ => v = .bool false,
     .one fun v _ => v = .bool false,
     .one fun v _ => v = .func (.func 20) #[] #[.pointer (some ⟨w.heap.size + 1, 0, none⟩)],
     .one fun v _ => v = .pointer (some ⟨w.heap.size + 1 + 1, 0, none⟩),
     .one fun v _ => v = .int .i64 p0,
     .one fun v _ => v = .bool true,
     .one fun v _ => v = .bool false,
     .one fun v _ => v = .bool false,
     .one fun v _ => v = .bool false,
     .one fun v _ => v = .func (.func 20) #[] #[.pointer (some ⟨w.heap.size + 1, 0, none⟩)],
     .one fun v _ => v = .pointer (some ⟨w.heap.size + 1 + 1, 1, none⟩),
     .one fun v _ => v = .int .i64 p1,
     .one fun v _ => v = .bool true,
     .one fun v _ => v = .bool false,
     .one fun v _ => v = .bool false,
     .one fun v _ => v = .bool false,
     .one fun v _ => v = .pointer (some ⟨w.heap.size + 1 + 1 + 1, 2, none⟩),
     .one fun v _ => v = .slice a2 n2 c2,
     .one fun v _ => v = .func (.func 19) #[] #[],
     .one fun v _ => v = .bool true,
     .one fun v _ => v = .bool true,
     .one fun v _ => v = .bool true]
    (fun W => Ext w W ∧ Iw 0 w.heap.size W a2 n2 c2 (lv) ∧ BxA W w.heap.size 23 #[.int .i64 lr, .int .i64 b1, .int .i64 b2, .int .i64 eps, .int .i64 wd, .bool ap] ∧ BxA W (w.heap.size + 1) 3 #[.int .i64 (K : Int)] ∧ Bx2 W (w.heap.size + 1 + 1) 24 (.int .i64 p0) (.int .i64 p1) ∧ BxA W (w.heap.size + 1 + 1 + 1) 27 #[.slice a0 n0 c0, .slice a1 n1 c1, .slice a2 n2 c2, .slice a3 n3 c3] ∧ BxA W (w.heap.size + 1 + 1 + 1 + 1) 27 #[.slice none 0 0, .slice none 0 0, .slice none 0 0, .slice none 0 0] ∧ W0.heap.size ≤ W.heap.size) ⟨Good.is _, Good.is _, Good.is _, Good.is _, Good.is _, Good.is _, Good.is _, Good.is _, Good.is _, Good.is _, Good.is _, Good.is _, Good.is _, Good.is _, Good.is _, Good.is _, Good.is _, Good.is _, Good.is _, Good.is _, Good.is _, Good.is _, Good.is _, Good.is _, Good.is _, trivial⟩
    ⟨E0, hiv, p4, p5, p6, p7, p8, Nat.le_refl _⟩ (A := ?A4) ?hA4 ?howe4 ?hfin4
   case hA4 =>
    intro vs
    simp only [putAll, Act.put, sA, sZ, sS, Nat.zero_add, Nat.reduceAdd]
    exact rfl
   case howe4 =>
    clear E0 hiv p4 p5 p6 p7 p8
    intro hf
    refine ⟨oE 0 [] hf rfl ?_, oE 1 [] hf rfl ?_, oE 2 [0, 1] hf rfl ?_, oE 3 [2] hf rfl ?_, oE 4 [3] hf rfl ?_, oE 5 [4] hf rfl ?_, oE 6 [4] hf rfl ?_, oE 7 [4, 6] hf rfl ?_, oE 8 [4, 5, 7] hf rfl ?_, oE 9 [4, 8] hf rfl ?_, oE 10 [4, 9] hf rfl ?_, oE 11 [10] hf rfl ?_, oE 12 [11] hf rfl ?_, oE 13 [11] hf rfl ?_, oE 14 [11, 13] hf rfl ?_, oE 15 [11, 12, 14] hf rfl ?_, oE 16 [11, 15] hf rfl ?_, oE 17 [11, 16] hf rfl ?_, oE 18 [17] hf rfl ?_, oE 19 [18] hf rfl ?_, oE 20 [18, 19] hf rfl ?_, oE 21 [18] hf rfl ?_, oE 22 [18, 20, 21] hf rfl ?_, oE 23 [18, 22] hf rfl ?_, oE 24 [23] hf rfl ?_, trivial⟩
    all_goals intro vs W hS hp hx KO hKO
    all_goals simp only [Act.put, sA, sZ, sS] at hKO
    ·have fc0 := BxA.cell (hS.2.2.1) 0 (v := .int .i64 lr) rfl; have fc1 := BxA.cell (hS.2.2.1) 1 (v := .int .i64 b1) rfl; have fc2 := BxA.cell (hS.2.2.1) 2 (v := .int .i64 b2) rfl; have fc3 := BxA.cell (hS.2.2.1) 3 (v := .int .i64 eps) rfl; have fc4 := BxA.cell (hS.2.2.1) 4 (v := .int .i64 wd) rfl; have fc5 := BxA.cell (hS.2.2.1) 5 (v := .bool ap) rfl; go_simp; exact hKO _ W (.refl W) rfl
    ·have fc0 := BxA.cell (hS.2.2.2.1) 0 (v := .int .i64 (K : Int)) rfl; go_simp; exact hKO _ W (.refl W) rfl
    ·have e0 := isOf hp.1; have e1 := isOf hp.2.1; simp only [e0, e1] at hKO; go_simp
     refine (Tryz.adamRight lr b1 b2 eps wd (K : Int) ap _).mono ?_
     rintro e W1 ⟨rfl, hE⟩
     rw [HR.out]
     exact hKO _ W1 hE rfl
    ·have e2 := isOf hp.1; simp only [e2] at hKO; go_simp; exact hKO _ W (.refl W) rfl
    ·have e3 := isOf hp.1; simp only [e3] at hKO; go_simp; exact hKO _ W (.refl W) rfl
    ·have e4 := isOf hp.1; simp only [e4] at hKO; go_simp; exact hKO _ W (.refl W) rfl
    ·have e4 := isOf hp.1; simp only [e4] at hKO; go_simp; exact hKO _ W (.refl W) rfl
    ·have e4 := isOf hp.1; have e6 := isOf hp.2.1; simp only [e4, e6] at hKO; have fc0 := hS.2.2.2.2.1.cell0; go_simp; exact hKO _ W (.refl W) rfl
    ·have e4 := isOf hp.1; have e5 := isOf hp.2.1; have e7 := isOf hp.2.2.1; simp only [e4, e5, e7] at hKO; go_simp
     refine (Tryz.adamBehind K HK.out p0 hS.2.2.2.1).mono ?_
     rintro e W1 ⟨rfl, hE⟩
     rw [H0.out]
     exact hKO _ W1 hE rfl
    ·have e4 := isOf hp.1; have e8 := isOf hp.2.1; simp only [e4, e8] at hKO; go_simp; exact hKO _ W (.refl W) rfl
    ·have e4 := isOf hp.1; have e9 := isOf hp.2.1; simp only [e4, e9] at hKO; go_simp; exact hKO _ W (.refl W) rfl
    ·have e10 := isOf hp.1; simp only [e10] at hKO; go_simp; exact hKO _ W (.refl W) rfl
    ·have e11 := isOf hp.1; simp only [e11] at hKO; go_simp; exact hKO _ W (.refl W) rfl
    ·have e11 := isOf hp.1; simp only [e11] at hKO; go_simp; exact hKO _ W (.refl W) rfl
    ·have e11 := isOf hp.1; have e13 := isOf hp.2.1; simp only [e11, e13] at hKO; have fc1 := hS.2.2.2.2.1.cell1; go_simp; exact hKO _ W (.refl W) rfl
    ·have e11 := isOf hp.1; have e12 := isOf hp.2.1; have e14 := isOf hp.2.2.1; simp only [e11, e12, e14] at hKO; go_simp
     refine (Tryz.adamBehind K HK.out p1 hS.2.2.2.1).mono ?_
     rintro e W1 ⟨rfl, hE⟩
     rw [H1.out]
     exact hKO _ W1 hE rfl
    ·have e11 := isOf hp.1; have e15 := isOf hp.2.1; simp only [e11, e15] at hKO; go_simp; exact hKO _ W (.refl W) rfl
    ·have e11 := isOf hp.1; have e16 := isOf hp.2.1; simp only [e11, e16] at hKO; go_simp; exact hKO _ W (.refl W) rfl
    ·have e17 := isOf hp.1; simp only [e17] at hKO; go_simp; exact hKO _ W (.refl W) rfl
    ·have e18 := isOf hp.1; simp only [e18] at hKO; go_simp; exact hKO _ W (.refl W) rfl
    ·have e18 := isOf hp.1; have e19 := isOf hp.2.1; simp only [e18, e19] at hKO; have fc2 := BxA.cell (hS.2.2.2.2.2.1) 2 (v := .slice a2 n2 c2) rfl; go_simp; exact hKO _ W (.refl W) rfl
    ·have e18 := isOf hp.1; simp only [e18] at hKO; go_simp; exact hKO _ W (.refl W) rfl
    ·have e18 := isOf hp.1; have e20 := isOf hp.2.1; have e21 := isOf hp.2.2.1; simp only [e18, e20, e21] at hKO; go_simp
     refine (Tryz.adamNeg hS.2.1).mono ?_
     rintro e W1 ⟨rfl, hE⟩
     rw [H2.out]
     exact hKO _ W1 hE rfl
    ·have e18 := isOf hp.1; have e22 := isOf hp.2.1; simp only [e18, e22] at hKO; go_simp; exact hKO _ W (.refl W) rfl
    ·have e23 := isOf hp.1; simp only [e23] at hKO; go_simp; exact hKO _ W (.refl W) rfl
   intro vs W4 hS hp
   clear szw4 E0 hiv p4 p5 p6 p7 p8
   obtain ⟨E0, hiv, p4, p5, p6, p7, p8, sz4⟩ := hS
   obtain ⟨h4_0, h4_1, h4_2, h4_3, h4_4, h4_5, h4_6, h4_7, h4_8, h4_9, h4_10, h4_11, h4_12, h4_13, h4_14, h4_15, h4_16, h4_17, h4_18, h4_19, h4_20, h4_21, h4_22, h4_23, h4_24, -⟩ := hp
   replace h4_0 : vs 0 = .agg #[.int .i64 lr, .int .i64 b1, .int .i64 b2, .int .i64 eps, .int .i64 wd, .bool ap] := h4_0
   replace h4_1 : vs 1 = .int .i64 (K : Int) := h4_1
   replace h4_2 : vs 2 = .bool true := h4_2
   replace h4_3 : vs 3 = .bool false := h4_3
   replace h4_4 : vs 4 = .bool false := h4_4
   replace h4_5 : vs 5 = .func (.func 20) #[] #[.pointer (some ⟨w.heap.size + 1, 0, none⟩)] := h4_5
   replace h4_6 : vs 6 = .pointer (some ⟨w.heap.size + 1 + 1, 0, none⟩) := h4_6
   replace h4_7 : vs 7 = .int .i64 p0 := h4_7
   replace h4_8 : vs 8 = .bool true := h4_8
   replace h4_9 : vs 9 = .bool false := h4_9
   replace h4_10 : vs 10 = .bool false := h4_10
   replace h4_11 : vs 11 = .bool false := h4_11
   replace h4_12 : vs 12 = .func (.func 20) #[] #[.pointer (some ⟨w.heap.size + 1, 0, none⟩)] := h4_12
   replace h4_13 : vs 13 = .pointer (some ⟨w.heap.size + 1 + 1, 1, none⟩) := h4_13
   replace h4_14 : vs 14 = .int .i64 p1 := h4_14
   replace h4_15 : vs 15 = .bool true := h4_15
   replace h4_16 : vs 16 = .bool false := h4_16
   replace h4_17 : vs 17 = .bool false := h4_17
   replace h4_18 : vs 18 = .bool false := h4_18
   replace h4_19 : vs 19 = .pointer (some ⟨w.heap.size + 1 + 1 + 1, 2, none⟩) := h4_19
   replace h4_20 : vs 20 = .slice a2 n2 c2 := h4_20
   replace h4_21 : vs 21 = .func (.func 19) #[] #[] := h4_21
   replace h4_22 : vs 22 = .bool true := h4_22
   replace h4_23 : vs 23 = .bool true := h4_23
   replace h4_24 : vs 24 = .bool true := h4_24
   simp only [h4_0, h4_1, h4_2, h4_3, h4_4, h4_5, h4_6, h4_7, h4_8, h4_9, h4_10, h4_11, h4_12, h4_13, h4_14, h4_15, h4_16, h4_17, h4_18, h4_19, h4_20, h4_21, h4_22, h4_23, h4_24]
   clear h4_0 h4_1 h4_2 h4_3 h4_4 h4_5 h4_6 h4_7 h4_8 h4_9 h4_10 h4_11 h4_12 h4_13 h4_14 h4_15 h4_16 h4_17 h4_18 h4_19 h4_20 h4_21 h4_22 h4_23 h4_24
   have z8 : ∀ i, W4.frozen? ⟨w.heap.size + 1 + 1 + 1 + 1, i, none⟩ = false := fun i => by simp [World.frozen?, show W4.heap[w.heap.size + 1 + 1 + 1 + 1]? = _ from p8]
   have z80 := z8 0
   have z81 := z8 1
   have z82 := z8 2
   have z83 := z8 3
   clear z8
   obtain ⟨kp4_0, kp4_1, kp4_2, kp4_3, kp4_4, kp4_5⟩ := p4.c6
   have kp5_0 := p5.cell 0 (v := .int .i64 (K : Int)) rfl
   obtain ⟨kp6_0, kp6_1⟩ := p6.c2
   obtain ⟨kp7_0, kp7_1, kp7_2, kp7_3⟩ := p7.c4
   obtain ⟨kp8_0, kp8_1, kp8_2, kp8_3⟩ := p8.c4
   go_wp2; clear kp4_0 kp4_1 kp4_2 kp4_3 kp4_4 kp4_5 kp5_0 kp6_0 kp6_1 kp7_0 kp7_1 kp7_2 kp7_3 kp8_0 kp8_1 kp8_2 kp8_3
   obtain ⟨W2, hW2, hw, hq⟩ := (Form4.of p8).put none 0 0 none 0 0 none 0 0 none 0 0
   rw [← hW2]
   have k80 := hq.cell 0 (v := .slice none 0 0) rfl
   have k81 := hq.cell 1 (v := .slice none 0 0) rfl
   have k82 := hq.cell 2 (v := .slice none 0 0) rfl
   have k83 := hq.cell 3 (v := .slice none 0 0) rfl
   exact bodyPost_ret (v := .tuple #[.agg #[.slice none 0 0, .slice none 0 0, .slice none 0 0, .slice none 0 0], .int .i64 1]) (by simp [results, Tryz.results7, go_sem, k80, k81, k82, k83]) rfl ⟨rfl, Ext.wr E0 hw (by omega)⟩

set_option maxRecDepth 100000 in
set_option maxHeartbeats 8000000 in
theorem Tryz.adamStepShape (lr b1 b2 eps wd p0 p1 : Int) (ap : Bool) (K : Nat) {n0 n1 n2 n3 : Nat} {a0 : Option Addr} {c0 : Nat}  {a1 : Option Addr} {c1 : Nat}  {a2 : Option Addr} {c2 : Nat}  {a3 : Option Addr} {c3 : Nat} {lv : List Int} (w : World) (hR : rightA ⟨lr, b1, b2, eps, wd, ap⟩ (K : Int) = true) (h0 : mayB K p0 = true) (h1 : mayB K p1 = true) (h2 : negB lv = false) (hiv : Iw 0 w.heap.size w a2 n2 c2 lv) (hN : n1 ≠ n0 ∨ n2 ≠ n0 ∨ n3 ≠ n0) :
  Calls Tryz.prog 7 #[.agg #[.int .i64 lr, .int .i64 b1, .int .i64 b2, .int .i64 eps, .int .i64 wd, .bool ap], .int .i64 (K : Int), .agg #[.int .i64 p0, .int .i64 p1], .agg #[.slice a0 n0 c0, .slice a1 n1 c1, .slice a2 n2 c2, .slice a3 n3 c3]] w fun e w' => e = .returned (.tuple #[.agg #[.slice none 0 0, .slice none 0 0, .slice none 0 0, .slice none 0 0], .int .i64 5]) ∧ Ext w w' := by
 have HR := Lib.hid hR
 have HK : Hid (K ≤ 40) := Lib.hid (by have := rightA_iff.1 hR; omega)
 have H0 := Lib.hid h0
 have H1 := Lib.hid h1
 have H2 := Lib.hid h2
 clear hR h0 h1 h2
 have hmf : ∀ (fn : Fn) (first cap : Array Value) (W : World), (Instr.makeFunc fn first cap).run Tryz.prog W = .ok (.func fn first cap) W := fun _ _ _ _ => rfl
 obtain ⟨W0, hW0⟩ : ∃ W0, W0 = (((((w.alloc (.cells #[.int .i64 lr, .int .i64 b1, .int .i64 b2, .int .i64 eps, .int .i64 wd, .bool ap] 23)).alloc (.cells #[.int .i64 (K : Int)] 3)).alloc (.cells #[.int .i64 p0, .int .i64 p1] 24)).alloc (.cells #[.slice a0 n0 c0, .slice a1 n1 c1, .slice a2 n2 c2, .slice a3 n3 c3] 27)).alloc (.cells #[.slice none 0 0, .slice none 0 0, .slice none 0 0, .slice none 0 0] 27)) := ⟨_, rfl⟩
 have E0 : Ext w W0 := by rw [hW0]; exact (((((Ext.alloc1 w (.cells #[.int .i64 lr, .int .i64 b1, .int .i64 b2, .int .i64 eps, .int .i64 wd, .bool ap] 23)).alloc (.cells #[.int .i64 (K : Int)] 3)).alloc (.cells #[.int .i64 p0, .int .i64 p1] 24)).alloc (.cells #[.slice a0 n0 c0, .slice a1 n1 c1, .slice a2 n2 c2, .slice a3 n3 c3] 27)).alloc (.cells #[.slice none 0 0, .slice none 0 0, .slice none 0 0, .slice none 0 0] 27))
 replace hiv : Iw 0 w.heap.size W0 a2 n2 c2 (lv) := hiv.ext E0
 have p4 : BxA W0 w.heap.size 23 #[.int .i64 lr, .int .i64 b1, .int .i64 b2, .int .i64 eps, .int .i64 wd, .bool ap] := by rw [hW0]; exact (BxA.new w 23 #[.int .i64 lr, .int .i64 b1, .int .i64 b2, .int .i64 eps, .int .i64 wd, .bool ap]).ext ((((Ext.alloc1 (w.alloc (.cells #[.int .i64 lr, .int .i64 b1, .int .i64 b2, .int .i64 eps, .int .i64 wd, .bool ap] 23)) (.cells #[.int .i64 (K : Int)] 3)).alloc (.cells #[.int .i64 p0, .int .i64 p1] 24)).alloc (.cells #[.slice a0 n0 c0, .slice a1 n1 c1, .slice a2 n2 c2, .slice a3 n3 c3] 27)).alloc (.cells #[.slice none 0 0, .slice none 0 0, .slice none 0 0, .slice none 0 0] 27))
 have p5 : BxA W0 (w.heap.size + 1) 3 #[.int .i64 (K : Int)] := by rw [hW0]; simpa using (BxA.new (w.alloc (.cells #[.int .i64 lr, .int .i64 b1, .int .i64 b2, .int .i64 eps, .int .i64 wd, .bool ap] 23)) 3 #[.int .i64 (K : Int)]).ext (((Ext.alloc1 ((w.alloc (.cells #[.int .i64 lr, .int .i64 b1, .int .i64 b2, .int .i64 eps, .int .i64 wd, .bool ap] 23)).alloc (.cells #[.int .i64 (K : Int)] 3)) (.cells #[.int .i64 p0, .int .i64 p1] 24)).alloc (.cells #[.slice a0 n0 c0, .slice a1 n1 c1, .slice a2 n2 c2, .slice a3 n3 c3] 27)).alloc (.cells #[.slice none 0 0, .slice none 0 0, .slice none 0 0, .slice none 0 0] 27))
 have p6 : Bx2 W0 (w.heap.size + 1 + 1) 24 (.int .i64 p0) (.int .i64 p1) := by rw [hW0]; simpa using (Bx2.new ((w.alloc (.cells #[.int .i64 lr, .int .i64 b1, .int .i64 b2, .int .i64 eps, .int .i64 wd, .bool ap] 23)).alloc (.cells #[.int .i64 (K : Int)] 3)) 24 (.int .i64 p0) (.int .i64 p1)).ext ((Ext.alloc1 (((w.alloc (.cells #[.int .i64 lr, .int .i64 b1, .int .i64 b2, .int .i64 eps, .int .i64 wd, .bool ap] 23)).alloc (.cells #[.int .i64 (K : Int)] 3)).alloc (.cells #[.int .i64 p0, .int .i64 p1] 24)) (.cells #[.slice a0 n0 c0, .slice a1 n1 c1, .slice a2 n2 c2, .slice a3 n3 c3] 27)).alloc (.cells #[.slice none 0 0, .slice none 0 0, .slice none 0 0, .slice none 0 0] 27))
 have p7 : BxA W0 (w.heap.size + 1 + 1 + 1) 27 #[.slice a0 n0 c0, .slice a1 n1 c1, .slice a2 n2 c2, .slice a3 n3 c3] := by rw [hW0]; simpa using (BxA.new (((w.alloc (.cells #[.int .i64 lr, .int .i64 b1, .int .i64 b2, .int .i64 eps, .int .i64 wd, .bool ap] 23)).alloc (.cells #[.int .i64 (K : Int)] 3)).alloc (.cells #[.int .i64 p0, .int .i64 p1] 24)) 27 #[.slice a0 n0 c0, .slice a1 n1 c1, .slice a2 n2 c2, .slice a3 n3 c3]).ext (Ext.alloc1 ((((w.alloc (.cells #[.int .i64 lr, .int .i64 b1, .int .i64 b2, .int .i64 eps, .int .i64 wd, .bool ap] 23)).alloc (.cells #[.int .i64 (K : Int)] 3)).alloc (.cells #[.int .i64 p0, .int .i64 p1] 24)).alloc (.cells #[.slice a0 n0 c0, .slice a1 n1 c1, .slice a2 n2 c2, .slice a3 n3 c3] 27)) (.cells #[.slice none 0 0, .slice none 0 0, .slice none 0 0, .slice none 0 0] 27))
 have p8 : BxA W0 (w.heap.size + 1 + 1 + 1 + 1) 27 #[.slice none 0 0, .slice none 0 0, .slice none 0 0, .slice none 0 0] := by rw [hW0]; simpa using (BxA.new ((((w.alloc (.cells #[.int .i64 lr, .int .i64 b1, .int .i64 b2, .int .i64 eps, .int .i64 wd, .bool ap] 23)).alloc (.cells #[.int .i64 (K : Int)] 3)).alloc (.cells #[.int .i64 p0, .int .i64 p1] 24)).alloc (.cells #[.slice a0 n0 c0, .slice a1 n1 c1, .slice a2 n2 c2, .slice a3 n3 c3] 27)) 27 #[.slice none 0 0, .slice none 0 0, .slice none 0 0, .slice none 0 0])
 go_enter Tryz.func7, Tryz.ntmps7
 obtain ⟨kp4_0, kp4_1, kp4_2, kp4_3, kp4_4, kp4_5⟩ := p4.c6
 have kp5_0 := p5.cell 0 (v := .int .i64 (K : Int)) rfl
 obtain ⟨kp6_0, kp6_1⟩ := p6.c2
 obtain ⟨kp7_0, kp7_1, kp7_2, kp7_3⟩ := p7.c4
 obtain ⟨kp8_0, kp8_1, kp8_2, kp8_3⟩ := p8.c4
 go_upto_region 4 with (fail)
 rw [← hW0]
 clear hW0; clear kp4_0 kp4_1 kp4_2 kp4_3 kp4_4 kp4_5 kp5_0 kp6_0 kp6_1 kp7_0 kp7_1 kp7_2 kp7_3 kp8_0 kp8_1 kp8_2 kp8_3; have ltp4 := p4.lt; have ltp5 := p5.lt; have ltp6 := p6.lt; have ltp7 := p7.lt; have ltp8 := p8.lt; have szw5 := Ext.size E0
 refine region_gs [.one fun v _ => v = .agg #[.int .i64 lr, .int .i64 b1, .int .i64 b2, .int .i64 eps, .int .i64 wd, .bool ap],
   .one fun v _ => v = .int .i64 (K : Int),
   .one fun v _ => v = .bool true,
   .one fun v _ => v = .bool false,
   .one fun v _ => v = .bool false,
   .one fun v _ => v = .func (.func 20) #[] #[.pointer (some ⟨w.heap.size + 1, 0, none⟩)],
   .one fun v _ => v = .pointer (some ⟨w.heap.size + 1 + 1, 0, none⟩),
   .one fun v _ => v = .int .i64 p0,
   .one fun v _ => v = .bool true,
   .one fun v _ => v = .bool false,
   .one fun v _ => v = .bool false,
   .one fun v _ => v = .bool false,
   .one fun v _ => v = .func (.func 20) #[] #[.pointer (some ⟨w.heap.size + 1, 0, none⟩)],
   .one fun v _ => v = .pointer (some ⟨w.heap.size + 1 + 1, 1, none⟩),
   .one fun v _ => v = .int .i64 p1,
   .one fun v _ => v = .bool true,
   .one fun v _ => v = .bool false,
   .one fun v _ => v = .bool false,
   .one fun v _ => v = .bool false,
   .one fun v _ => v = .pointer (some ⟨w.heap.size + 1 + 1 + 1, 2, none⟩),
   .one fun v _ => v = .slice a2 n2 c2,
   .one fun v _ => v = .func (.func 19) #[] #[],
   .one fun v _ => v = .bool false,
   .one fun v _ => v = .bool false,
   .one fun v _ => v = .bool false]
  (fun W => Ext w W ∧ Iw 0 w.heap.size W a2 n2 c2 (lv) ∧ BxA W w.heap.size 23 #[.int .i64 lr, .int .i64 b1, .int .i64 b2, .int .i64 eps, .int .i64 wd, .bool ap] ∧ BxA W (w.heap.size + 1) 3 #[.int .i64 (K : Int)] ∧ Bx2 W (w.heap.size + 1 + 1) 24 (.int .i64 p0) (.int .i64 p1) ∧ BxA W (w.heap.size + 1 + 1 + 1) 27 #[.slice a0 n0 c0, .slice a1 n1 c1, .slice a2 n2 c2, .slice a3 n3 c3] ∧ BxA W (w.heap.size + 1 + 1 + 1 + 1) 27 #[.slice none 0 0, .slice none 0 0, .slice none 0 0, .slice none 0 0] ∧ W0.heap.size ≤ W.heap.size) ⟨Good.is _, Good.is _, Good.is _, Good.is _, Good.is _, Good.is _, Good.is _, Good.is _, Good.is _, Good.is _, Good.is _, Good.is _, Good.is _, Good.is _, Good.is _, Good.is _, Good.is _, Good.is _, Good.is _, Good.is _, Good.is _, Good.is _, Good.is _, Good.is _, Good.is _, trivial⟩
  ⟨E0, hiv, p4, p5, p6, p7, p8, Nat.le_refl _⟩ (A := ?A5) ?hA5 ?howe5 ?hfin5
 case hA5 =>
  intro vs
  simp only [putAll, Act.put, sA, sZ, sS, Nat.zero_add, Nat.reduceAdd]
  exact rfl
 case howe5 =>
  clear E0 hiv p4 p5 p6 p7 p8
  intro hf
  refine ⟨oE 0 [] hf rfl ?_, oE 1 [] hf rfl ?_, oE 2 [0, 1] hf rfl ?_, oE 3 [2] hf rfl ?_, oE 4 [3] hf rfl ?_, oE 5 [4] hf rfl ?_, oE 6 [4] hf rfl ?_, oE 7 [4, 6] hf rfl ?_, oE 8 [4, 5, 7] hf rfl ?_, oE 9 [4, 8] hf rfl ?_, oE 10 [4, 9] hf rfl ?_, oE 11 [10] hf rfl ?_, oE 12 [11] hf rfl ?_, oE 13 [11] hf rfl ?_, oE 14 [11, 13] hf rfl ?_, oE 15 [11, 12, 14] hf rfl ?_, oE 16 [11, 15] hf rfl ?_, oE 17 [11, 16] hf rfl ?_, oE 18 [17] hf rfl ?_, oE 19 [18] hf rfl ?_, oE 20 [18, 19] hf rfl ?_, oE 21 [18] hf rfl ?_, oE 22 [18, 20, 21] hf rfl ?_, oE 23 [18, 22] hf rfl ?_, oE 24 [23] hf rfl ?_, trivial⟩
  all_goals intro vs W hS hp hx KO hKO
  all_goals simp only [Act.put, sA, sZ, sS] at hKO
  ·have fc0 := BxA.cell (hS.2.2.1) 0 (v := .int .i64 lr) rfl; have fc1 := BxA.cell (hS.2.2.1) 1 (v := .int .i64 b1) rfl; have fc2 := BxA.cell (hS.2.2.1) 2 (v := .int .i64 b2) rfl; have fc3 := BxA.cell (hS.2.2.1) 3 (v := .int .i64 eps) rfl; have fc4 := BxA.cell (hS.2.2.1) 4 (v := .int .i64 wd) rfl; have fc5 := BxA.cell (hS.2.2.1) 5 (v := .bool ap) rfl; go_simp; exact hKO _ W (.refl W) rfl
  ·have fc0 := BxA.cell (hS.2.2.2.1) 0 (v := .int .i64 (K : Int)) rfl; go_simp; exact hKO _ W (.refl W) rfl
  ·have e0 := isOf hp.1; have e1 := isOf hp.2.1; simp only [e0, e1] at hKO; go_simp
   refine (Tryz.adamRight lr b1 b2 eps wd (K : Int) ap _).mono ?_
   rintro e W1 ⟨rfl, hE⟩
   rw [HR.out]
   exact hKO _ W1 hE rfl
  ·have e2 := isOf hp.1; simp only [e2] at hKO; go_simp; exact hKO _ W (.refl W) rfl
  ·have e3 := isOf hp.1; simp only [e3] at hKO; go_simp; exact hKO _ W (.refl W) rfl
  ·have e4 := isOf hp.1; simp only [e4] at hKO; go_simp; exact hKO _ W (.refl W) rfl
  ·have e4 := isOf hp.1; simp only [e4] at hKO; go_simp; exact hKO _ W (.refl W) rfl
  ·have e4 := isOf hp.1; have e6 := isOf hp.2.1; simp only [e4, e6] at hKO; have fc0 := hS.2.2.2.2.1.cell0; go_simp; exact hKO _ W (.refl W) rfl
  ·have e4 := isOf hp.1; have e5 := isOf hp.2.1; have e7 := isOf hp.2.2.1; simp only [e4, e5, e7] at hKO; go_simp
   refine (Tryz.adamBehind K HK.out p0 hS.2.2.2.1).mono ?_
   rintro e W1 ⟨rfl, hE⟩
   rw [H0.out]
   exact hKO _ W1 hE rfl
  ·have e4 := isOf hp.1; have e8 := isOf hp.2.1; simp only [e4, e8] at hKO; go_simp; exact hKO _ W (.refl W) rfl
  ·have e4 := isOf hp.1; have e9 := isOf hp.2.1; simp only [e4, e9] at hKO; go_simp; exact hKO _ W (.refl W) rfl
  ·have e10 := isOf hp.1; simp only [e10] at hKO; go_simp; exact hKO _ W (.refl W) rfl
  ·have e11 := isOf hp.1; simp only [e11] at hKO; go_simp; exact hKO _ W (.refl W) rfl
  ·have e11 := isOf hp.1; simp only [e11] at hKO; go_simp; exact hKO _ W (.refl W) rfl
  ·have e11 := isOf hp.1; have e13 := isOf hp.2.1; simp only [e11, e13] at hKO; have fc1 := hS.2.2.2.2.1.cell1; go_simp; exact hKO _ W (.refl W) rfl
  ·have e11 := isOf hp.1; have e12 := isOf hp.2.1; have e14 := isOf hp.2.2.1; simp only [e11, e12, e14] at hKO; go_simp
   refine (Tryz.adamBehind K HK.out p1 hS.2.2.2.1).mono ?_
   rintro e W1 ⟨rfl, hE⟩
   rw [H1.out]
   exact hKO _ W1 hE rfl
  ·have e11 := isOf hp.1; have e15 := isOf hp.2.1; simp only [e11, e15] at hKO; go_simp; exact hKO _ W (.refl W) rfl
  ·have e11 := isOf hp.1; have e16 := isOf hp.2.1; simp only [e11, e16] at hKO; go_simp; exact hKO _ W (.refl W) rfl
  ·have e17 := isOf hp.1; simp only [e17] at hKO; go_simp; exact hKO _ W (.refl W) rfl
  ·have e18 := isOf hp.1; simp only [e18] at hKO; go_simp; exact hKO _ W (.refl W) rfl
  ·have e18 := isOf hp.1; have e19 := isOf hp.2.1; simp only [e18, e19] at hKO; have fc2 := BxA.cell (hS.2.2.2.2.2.1) 2 (v := .slice a2 n2 c2) rfl; go_simp; exact hKO _ W (.refl W) rfl
  ·have e18 := isOf hp.1; simp only [e18] at hKO; go_simp; exact hKO _ W (.refl W) rfl
  ·have e18 := isOf hp.1; have e20 := isOf hp.2.1; have e21 := isOf hp.2.2.1; simp only [e18, e20, e21] at hKO; go_simp
   refine (Tryz.adamNeg hS.2.1).mono ?_
   rintro e W1 ⟨rfl, hE⟩
   rw [H2.out]
   exact hKO _ W1 hE rfl
  ·have e18 := isOf hp.1; have e22 := isOf hp.2.1; simp only [e18, e22] at hKO; go_simp; exact hKO _ W (.refl W) rfl
  ·have e23 := isOf hp.1; simp only [e23] at hKO; go_simp; exact hKO _ W (.refl W) rfl
 intro vs W5 hS hp
 clear szw5 E0 hiv p4 p5 p6 p7 p8
 obtain ⟨E0, hiv, p4, p5, p6, p7, p8, sz5⟩ := hS
 obtain ⟨h5_0, h5_1, h5_2, h5_3, h5_4, h5_5, h5_6, h5_7, h5_8, h5_9, h5_10, h5_11, h5_12, h5_13, h5_14, h5_15, h5_16, h5_17, h5_18, h5_19, h5_20, h5_21, h5_22, h5_23, h5_24, -⟩ := hp
 replace h5_0 : vs 0 = .agg #[.int .i64 lr, .int .i64 b1, .int .i64 b2, .int .i64 eps, .int .i64 wd, .bool ap] := h5_0
 replace h5_1 : vs 1 = .int .i64 (K : Int) := h5_1
 replace h5_2 : vs 2 = .bool true := h5_2
 replace h5_3 : vs 3 = .bool false := h5_3
 replace h5_4 : vs 4 = .bool false := h5_4
 replace h5_5 : vs 5 = .func (.func 20) #[] #[.pointer (some ⟨w.heap.size + 1, 0, none⟩)] := h5_5
 replace h5_6 : vs 6 = .pointer (some ⟨w.heap.size + 1 + 1, 0, none⟩) := h5_6
 replace h5_7 : vs 7 = .int .i64 p0 := h5_7
 replace h5_8 : vs 8 = .bool true := h5_8
 replace h5_9 : vs 9 = .bool false := h5_9
 replace h5_10 : vs 10 = .bool false := h5_10
 replace h5_11 : vs 11 = .bool false := h5_11
 replace h5_12 : vs 12 = .func (.func 20) #[] #[.pointer (some ⟨w.heap.size + 1, 0, none⟩)] := h5_12
 replace h5_13 : vs 13 = .pointer (some ⟨w.heap.size + 1 + 1, 1, none⟩) := h5_13
 replace h5_14 : vs 14 = .int .i64 p1 := h5_14
 replace h5_15 : vs 15 = .bool true := h5_15
 replace h5_16 : vs 16 = .bool false := h5_16
 replace h5_17 : vs 17 = .bool false := h5_17
 replace h5_18 : vs 18 = .bool false := h5_18
 replace h5_19 : vs 19 = .pointer (some ⟨w.heap.size + 1 + 1 + 1, 2, none⟩) := h5_19
 replace h5_20 : vs 20 = .slice a2 n2 c2 := h5_20
 replace h5_21 : vs 21 = .func (.func 19) #[] #[] := h5_21
 replace h5_22 : vs 22 = .bool false := h5_22
 replace h5_23 : vs 23 = .bool false := h5_23
 replace h5_24 : vs 24 = .bool false := h5_24
 simp only [h5_0, h5_1, h5_2, h5_3, h5_4, h5_5, h5_6, h5_7, h5_8, h5_9, h5_10, h5_11, h5_12, h5_13, h5_14, h5_15, h5_16, h5_17, h5_18, h5_19, h5_20, h5_21, h5_22, h5_23, h5_24]
 clear h5_0 h5_1 h5_2 h5_3 h5_4 h5_5 h5_6 h5_7 h5_8 h5_9 h5_10 h5_11 h5_12 h5_13 h5_14 h5_15 h5_16 h5_17 h5_18 h5_19 h5_20 h5_21 h5_22 h5_23 h5_24
 obtain ⟨kp4_0, kp4_1, kp4_2, kp4_3, kp4_4, kp4_5⟩ := p4.c6
 have kp5_0 := p5.cell 0 (v := .int .i64 (K : Int)) rfl
 obtain ⟨kp6_0, kp6_1⟩ := p6.c2
 obtain ⟨kp7_0, kp7_1, kp7_2, kp7_3⟩ := p7.c4
 obtain ⟨kp8_0, kp8_1, kp8_2, kp8_3⟩ := p8.c4
 go_upto_region 6 with (fail)
 clear kp4_0 kp4_1 kp4_2 kp4_3 kp4_4 kp4_5 kp5_0 kp6_0 kp6_1 kp7_0 kp7_1 kp7_2 kp7_3 kp8_0 kp8_1 kp8_2 kp8_3
 by_cases e0 : n1 = n0
 ·have NE0 : Hid (((n1 : Int) != (n0 : Int)) = false) := Lib.hid (by rw [bne_eq_false_iff_eq]; omega)
  have D0 := Lib.hid e0
  clear e0
  by_cases e1 : n2 = n0
  ·have NE1 : Hid (((n2 : Int) != (n0 : Int)) = false) := Lib.hid (by rw [bne_eq_false_iff_eq]; omega)
   have D1 := Lib.hid e1
   clear e1
   by_cases e2 : n3 = n0
   ·have NE2 : Hid (((n3 : Int) != (n0 : Int)) = false) := Lib.hid (by rw [bne_eq_false_iff_eq]; omega)
    have D2 := Lib.hid e2
    clear e2
    exact absurd hN (by have := D0.out; have := D1.out; have := D2.out; omega)
   ·have NE2 : Hid (((n3 : Int) != (n0 : Int)) = true) := Lib.hid (bne_iff_ne.2 (by omega))
    clear e2 hN; have szw6 := Ext.size E0
    refine region_gs [.one fun v _ => v = .pointer (some ⟨w.heap.size + 1 + 1 + 1, 1, none⟩),
      .one fun v _ => v = .slice a1 n1 c1,
      .one fun v _ => v = .int .i64 (n1 : Int),
      .one fun v _ => v = .int .i64 (n0 : Int),
      .one fun v _ => v = .bool false,
      .one fun v _ => v = .bool false,
      .one fun v _ => v = .pointer (some ⟨w.heap.size + 1 + 1 + 1, 2, none⟩),
      .one fun v _ => v = .slice a2 n2 c2,
      .one fun v _ => v = .int .i64 (n2 : Int),
      .one fun v _ => v = .int .i64 (n0 : Int),
      .one fun v _ => v = .bool false,
      .one fun v _ => v = .bool false,
      .one fun v _ => v = .bool false,
      .one fun v _ => v = .pointer (some ⟨w.heap.size + 1 + 1 + 1, 3, none⟩),
      .one fun v _ => v = .slice a3 n3 c3,
      .one fun v _ => v = .int .i64 (n3 : Int),
      .one fun v _ => v = .int .i64 (n0 : Int),
      .one fun v _ => v = .bool true,
      .one fun v _ => v = .bool true,
      .one fun v _ => v = .bool true]
     (fun W => Ext w W ∧ Iw 0 w.heap.size W a2 n2 c2 (lv) ∧ BxA W w.heap.size 23 #[.int .i64 lr, .int .i64 b1, .int .i64 b2, .int .i64 eps, .int .i64 wd, .bool ap] ∧ BxA W (w.heap.size + 1) 3 #[.int .i64 (K : Int)] ∧ Bx2 W (w.heap.size + 1 + 1) 24 (.int .i64 p0) (.int .i64 p1) ∧ BxA W (w.heap.size + 1 + 1 + 1) 27 #[.slice a0 n0 c0, .slice a1 n1 c1, .slice a2 n2 c2, .slice a3 n3 c3] ∧ BxA W (w.heap.size + 1 + 1 + 1 + 1) 27 #[.slice none 0 0, .slice none 0 0, .slice none 0 0, .slice none 0 0] ∧ W5.heap.size ≤ W.heap.size) ⟨Good.is _, Good.is _, Good.is _, Good.is _, Good.is _, Good.is _, Good.is _, Good.is _, Good.is _, Good.is _, Good.is _, Good.is _, Good.is _, Good.is _, Good.is _, Good.is _, Good.is _, Good.is _, Good.is _, Good.is _, trivial⟩
     ⟨E0, hiv, p4, p5, p6, p7, p8, Nat.le_refl _⟩ (A := ?A6) ?hA6 ?howe6 ?hfin6
    case hA6 =>
     intro vs
     simp only [putAll, Act.put, sA, sZ, sS, Nat.zero_add, Nat.reduceAdd]
     exact rfl
    case howe6 =>
     clear E0 hiv p4 p5 p6 p7 p8
     intro hf
     refine ⟨oE 0 [] hf rfl ?_, oE 1 [0] hf rfl ?_, oE 2 [1] hf rfl ?_, oE 3 [] hf rfl ?_, oE 4 [2, 3] hf rfl ?_, oE 5 [4] hf rfl ?_, oE 6 [5] hf rfl ?_, oE 7 [5, 6] hf rfl ?_, oE 8 [5, 7] hf rfl ?_, oE 9 [5] hf rfl ?_, oE 10 [5, 8, 9] hf rfl ?_, oE 11 [5, 10] hf rfl ?_, oE 12 [11] hf rfl ?_, oE 13 [12] hf rfl ?_, oE 14 [12, 13] hf rfl ?_, oE 15 [12, 14] hf rfl ?_, oE 16 [12] hf rfl ?_, oE 17 [12, 15, 16] hf rfl ?_, oE 18 [12, 17] hf rfl ?_, oE 19 [18] hf rfl ?_, trivial⟩
     all_goals intro vs W hS hp hx KO hKO
     all_goals simp only [Act.put, sA, sZ, sS] at hKO
     ·go_simp; exact hKO _ W (.refl W) rfl
     ·have e0 := isOf hp.1; simp only [e0] at hKO; have fc1 := BxA.cell (hS.2.2.2.2.2.1) 1 (v := .slice a1 n1 c1) rfl; go_simp; exact hKO _ W (.refl W) rfl
     ·have e1 := isOf hp.1; simp only [e1] at hKO; go_simp; exact hKO _ W (.refl W) rfl
     ·go_simp; exact hKO _ W (.refl W) rfl
     ·have e2 := isOf hp.1; have e3 := isOf hp.2.1; simp only [e2, e3] at hKO; go_simp; exact hKO _ W (Ext.refl W) (by first | rfl | exact congrArg Value.bool NE0.out)
     ·have e4 := isOf hp.1; simp only [e4] at hKO; go_simp; exact hKO _ W (.refl W) rfl
     ·have e5 := isOf hp.1; simp only [e5] at hKO; go_simp; exact hKO _ W (.refl W) rfl
     ·have e5 := isOf hp.1; have e6 := isOf hp.2.1; simp only [e5, e6] at hKO; have fc2 := BxA.cell (hS.2.2.2.2.2.1) 2 (v := .slice a2 n2 c2) rfl; go_simp; exact hKO _ W (.refl W) rfl
     ·have e5 := isOf hp.1; have e7 := isOf hp.2.1; simp only [e5, e7] at hKO; go_simp; exact hKO _ W (.refl W) rfl
     ·have e5 := isOf hp.1; simp only [e5] at hKO; go_simp; exact hKO _ W (.refl W) rfl
     ·have e5 := isOf hp.1; have e8 := isOf hp.2.1; have e9 := isOf hp.2.2.1; simp only [e5, e8, e9] at hKO; go_simp; exact hKO _ W (Ext.refl W) (by first | rfl | exact congrArg Value.bool NE1.out)
     ·have e5 := isOf hp.1; have e10 := isOf hp.2.1; simp only [e5, e10] at hKO; go_simp; exact hKO _ W (.refl W) rfl
     ·have e11 := isOf hp.1; simp only [e11] at hKO; go_simp; exact hKO _ W (.refl W) rfl
     ·have e12 := isOf hp.1; simp only [e12] at hKO; go_simp; exact hKO _ W (.refl W) rfl
     ·have e12 := isOf hp.1; have e13 := isOf hp.2.1; simp only [e12, e13] at hKO; have fc3 := BxA.cell (hS.2.2.2.2.2.1) 3 (v := .slice a3 n3 c3) rfl; go_simp; exact hKO _ W (.refl W) rfl
     ·have e12 := isOf hp.1; have e14 := isOf hp.2.1; simp only [e12, e14] at hKO; go_simp; exact hKO _ W (.refl W) rfl
     ·have e12 := isOf hp.1; simp only [e12] at hKO; go_simp; exact hKO _ W (.refl W) rfl
     ·have e12 := isOf hp.1; have e15 := isOf hp.2.1; have e16 := isOf hp.2.2.1; simp only [e12, e15, e16] at hKO; go_simp; exact hKO _ W (Ext.refl W) (by first | rfl | exact congrArg Value.bool NE2.out)
     ·have e12 := isOf hp.1; have e17 := isOf hp.2.1; simp only [e12, e17] at hKO; go_simp; exact hKO _ W (.refl W) rfl
     ·have e18 := isOf hp.1; simp only [e18] at hKO; go_simp; exact hKO _ W (.refl W) rfl
    intro vs W6 hS hp
    clear szw6 E0 hiv p4 p5 p6 p7 p8
    obtain ⟨E0, hiv, p4, p5, p6, p7, p8, sz6⟩ := hS
    obtain ⟨h6_0, h6_1, h6_2, h6_3, h6_4, h6_5, h6_6, h6_7, h6_8, h6_9, h6_10, h6_11, h6_12, h6_13, h6_14, h6_15, h6_16, h6_17, h6_18, h6_19, -⟩ := hp
    replace h6_0 : vs 0 = .pointer (some ⟨w.heap.size + 1 + 1 + 1, 1, none⟩) := h6_0
    replace h6_1 : vs 1 = .slice a1 n1 c1 := h6_1
    replace h6_2 : vs 2 = .int .i64 (n1 : Int) := h6_2
    replace h6_3 : vs 3 = .int .i64 (n0 : Int) := h6_3
    replace h6_4 : vs 4 = .bool false := h6_4
    replace h6_5 : vs 5 = .bool false := h6_5
    replace h6_6 : vs 6 = .pointer (some ⟨w.heap.size + 1 + 1 + 1, 2, none⟩) := h6_6
    replace h6_7 : vs 7 = .slice a2 n2 c2 := h6_7
    replace h6_8 : vs 8 = .int .i64 (n2 : Int) := h6_8
    replace h6_9 : vs 9 = .int .i64 (n0 : Int) := h6_9
    replace h6_10 : vs 10 = .bool false := h6_10
    replace h6_11 : vs 11 = .bool false := h6_11
    replace h6_12 : vs 12 = .bool false := h6_12
    replace h6_13 : vs 13 = .pointer (some ⟨w.heap.size + 1 + 1 + 1, 3, none⟩) := h6_13
    replace h6_14 : vs 14 = .slice a3 n3 c3 := h6_14
    replace h6_15 : vs 15 = .int .i64 (n3 : Int) := h6_15
    replace h6_16 : vs 16 = .int .i64 (n0 : Int) := h6_16
    replace h6_17 : vs 17 = .bool true := h6_17
    replace h6_18 : vs 18 = .bool true := h6_18
    replace h6_19 : vs 19 = .bool true := h6_19
    simp only [h6_0, h6_1, h6_2, h6_3, h6_4, h6_5, h6_6, h6_7, h6_8, h6_9, h6_10, h6_11, h6_12, h6_13, h6_14, h6_15, h6_16, h6_17, h6_18, h6_19]
    clear h6_0 h6_1 h6_2 h6_3 h6_4 h6_5 h6_6 h6_7 h6_8 h6_9 h6_10 h6_11 h6_12 h6_13 h6_14 h6_15 h6_16 h6_17 h6_18 h6_19
    have z8 : ∀ i, W6.frozen? ⟨w.heap.size + 1 + 1 + 1 + 1, i, none⟩ = false := fun i => by simp [World.frozen?, show W6.heap[w.heap.size + 1 + 1 + 1 + 1]? = _ from p8]
    have z80 := z8 0
    have z81 := z8 1
    have z82 := z8 2
    have z83 := z8 3
    clear z8
    obtain ⟨kp4_0, kp4_1, kp4_2, kp4_3, kp4_4, kp4_5⟩ := p4.c6
    have kp5_0 := p5.cell 0 (v := .int .i64 (K : Int)) rfl
    obtain ⟨kp6_0, kp6_1⟩ := p6.c2
    obtain ⟨kp7_0, kp7_1, kp7_2, kp7_3⟩ := p7.c4
    obtain ⟨kp8_0, kp8_1, kp8_2, kp8_3⟩ := p8.c4
    go_wp2; clear kp4_0 kp4_1 kp4_2 kp4_3 kp4_4 kp4_5 kp5_0 kp6_0 kp6_1 kp7_0 kp7_1 kp7_2 kp7_3 kp8_0 kp8_1 kp8_2 kp8_3
    obtain ⟨W2, hW2, hw, hq⟩ := (Form4.of p8).put none 0 0 none 0 0 none 0 0 none 0 0
    rw [← hW2]
    have k80 := hq.cell 0 (v := .slice none 0 0) rfl
    have k81 := hq.cell 1 (v := .slice none 0 0) rfl
    have k82 := hq.cell 2 (v := .slice none 0 0) rfl
    have k83 := hq.cell 3 (v := .slice none 0 0) rfl
    exact bodyPost_ret (v := .tuple #[.agg #[.slice none 0 0, .slice none 0 0, .slice none 0 0, .slice none 0 0], .int .i64 5]) (by simp [results, Tryz.results7, go_sem, k80, k81, k82, k83]) rfl ⟨rfl, Ext.wr E0 hw (by omega)⟩
  ·have NE1 : Hid (((n2 : Int) != (n0 : Int)) = true) := Lib.hid (bne_iff_ne.2 (by omega))
   clear e1 hN; have szw7 := Ext.size E0
   refine region_gs [.one fun v _ => v = .pointer (some ⟨w.heap.size + 1 + 1 + 1, 1, none⟩),
     .one fun v _ => v = .slice a1 n1 c1,
     .one fun v _ => v = .int .i64 (n1 : Int),
     .one fun v _ => v = .int .i64 (n0 : Int),
     .one fun v _ => v = .bool false,
     .one fun v _ => v = .bool false,
     .one fun v _ => v = .pointer (some ⟨w.heap.size + 1 + 1 + 1, 2, none⟩),
     .one fun v _ => v = .slice a2 n2 c2,
     .one fun v _ => v = .int .i64 (n2 : Int),
     .one fun v _ => v = .int .i64 (n0 : Int),
     .one fun v _ => v = .bool true,
     .one fun v _ => v = .bool true,
     .one fun v _ => v = .bool true,
     .one fun v _ => v = undef,
     .one fun v _ => v = undef,
     .one fun v _ => v = undef,
     .one fun v _ => v = undef,
     .one fun v _ => v = undef,
     .one fun v _ => v = .bool true,
     .one fun v _ => v = .bool true]
    (fun W => Ext w W ∧ Iw 0 w.heap.size W a2 n2 c2 (lv) ∧ BxA W w.heap.size 23 #[.int .i64 lr, .int .i64 b1, .int .i64 b2, .int .i64 eps, .int .i64 wd, .bool ap] ∧ BxA W (w.heap.size + 1) 3 #[.int .i64 (K : Int)] ∧ Bx2 W (w.heap.size + 1 + 1) 24 (.int .i64 p0) (.int .i64 p1) ∧ BxA W (w.heap.size + 1 + 1 + 1) 27 #[.slice a0 n0 c0, .slice a1 n1 c1, .slice a2 n2 c2, .slice a3 n3 c3] ∧ BxA W (w.heap.size + 1 + 1 + 1 + 1) 27 #[.slice none 0 0, .slice none 0 0, .slice none 0 0, .slice none 0 0] ∧ W5.heap.size ≤ W.heap.size) ⟨Good.is _, Good.is _, Good.is _, Good.is _, Good.is _, Good.is _, Good.is _, Good.is _, Good.is _, Good.is _, Good.is _, Good.is _, Good.is _, Good.is _, Good.is _, Good.is _, Good.is _, Good.is _, Good.is _, Good.is _, trivial⟩
    ⟨E0, hiv, p4, p5, p6, p7, p8, Nat.le_refl _⟩ (A := ?A7) ?hA7 ?howe7 ?hfin7
   case hA7 =>
    intro vs
    simp only [putAll, Act.put, sA, sZ, sS, Nat.zero_add, Nat.reduceAdd]
    exact rfl
   case howe7 =>
    clear E0 hiv p4 p5 p6 p7 p8
    intro hf
    refine ⟨oE 0 [] hf rfl ?_, oE 1 [0] hf rfl ?_, oE 2 [1] hf rfl ?_, oE 3 [] hf rfl ?_, oE 4 [2, 3] hf rfl ?_, oE 5 [4] hf rfl ?_, oE 6 [5] hf rfl ?_, oE 7 [5, 6] hf rfl ?_, oE 8 [5, 7] hf rfl ?_, oE 9 [5] hf rfl ?_, oE 10 [5, 8, 9] hf rfl ?_, oE 11 [5, 10] hf rfl ?_, oE 12 [11] hf rfl ?_, oE 13 [12] hf rfl ?_, oE 14 [12] hf rfl ?_, oE 15 [12] hf rfl ?_, oE 16 [12] hf rfl ?_, oE 17 [12] hf rfl ?_, oE 18 [12, 17] hf rfl ?_, oE 19 [18] hf rfl ?_, trivial⟩
    all_goals intro vs W hS hp hx KO hKO
    all_goals simp only [Act.put, sA, sZ, sS] at hKO
    ·go_simp; exact hKO _ W (.refl W) rfl
    ·have e0 := isOf hp.1; simp only [e0] at hKO; have fc1 := BxA.cell (hS.2.2.2.2.2.1) 1 (v := .slice a1 n1 c1) rfl; go_simp; exact hKO _ W (.refl W) rfl
    ·have e1 := isOf hp.1; simp only [e1] at hKO; go_simp; exact hKO _ W (.refl W) rfl
    ·go_simp; exact hKO _ W (.refl W) rfl
    ·have e2 := isOf hp.1; have e3 := isOf hp.2.1; simp only [e2, e3] at hKO; go_simp; exact hKO _ W (Ext.refl W) (by first | rfl | exact congrArg Value.bool NE0.out)
    ·have e4 := isOf hp.1; simp only [e4] at hKO; go_simp; exact hKO _ W (.refl W) rfl
    ·have e5 := isOf hp.1; simp only [e5] at hKO; go_simp; exact hKO _ W (.refl W) rfl
    ·have e5 := isOf hp.1; have e6 := isOf hp.2.1; simp only [e5, e6] at hKO; have fc2 := BxA.cell (hS.2.2.2.2.2.1) 2 (v := .slice a2 n2 c2) rfl; go_simp; exact hKO _ W (.refl W) rfl
    ·have e5 := isOf hp.1; have e7 := isOf hp.2.1; simp only [e5, e7] at hKO; go_simp; exact hKO _ W (.refl W) rfl
    ·have e5 := isOf hp.1; simp only [e5] at hKO; go_simp; exact hKO _ W (.refl W) rfl
    ·have e5 := isOf hp.1; have e8 := isOf hp.2.1; have e9 := isOf hp.2.2.1; simp only [e5, e8, e9] at hKO; go_simp; exact hKO _ W (Ext.refl W) (by first | rfl | exact congrArg Value.bool NE1.out)
    ·have e5 := isOf hp.1; have e10 := isOf hp.2.1; simp only [e5, e10] at hKO; go_simp; exact hKO _ W (.refl W) rfl
    ·have e11 := isOf hp.1; simp only [e11] at hKO; go_simp; exact hKO _ W (.refl W) rfl
    ·have e12 := isOf hp.1; simp only [e12] at hKO; go_simp; exact hKO _ W (.refl W) rfl
    ·have e12 := isOf hp.1; simp only [e12] at hKO; go_simp; exact hKO _ W (.refl W) rfl
    ·have e12 := isOf hp.1; simp only [e12] at hKO; go_simp; exact hKO _ W (.refl W) rfl
    ·have e12 := isOf hp.1; simp only [e12] at hKO; go_simp; exact hKO _ W (.refl W) rfl
    ·have e12 := isOf hp.1; simp only [e12] at hKO; go_simp; exact hKO _ W (.refl W) rfl
    ·have e12 := isOf hp.1; have e17 := isOf hp.2.1; simp only [e12, e17] at hKO; go_simp; exact hKO _ W (.refl W) rfl
    ·have e18 := isOf hp.1; simp only [e18] at hKO; go_simp; exact hKO _ W (.refl W) rfl
   intro vs W7 hS hp
   clear szw7 E0 hiv p4 p5 p6 p7 p8
   obtain ⟨E0, hiv, p4, p5, p6, p7, p8, sz7⟩ := hS
   obtain ⟨h7_0, h7_1, h7_2, h7_3, h7_4, h7_5, h7_6, h7_7, h7_8, h7_9, h7_10, h7_11, h7_12, h7_13, h7_14, h7_15, h7_16, h7_17, h7_18, h7_19, -⟩ := hp
   replace h7_0 : vs 0 = .pointer (some ⟨w.heap.size + 1 + 1 + 1, 1, none⟩) := h7_0
   replace h7_1 : vs 1 = .slice a1 n1 c1 := h7_1
   replace h7_2 : vs 2 = .int .i64 (n1 : Int) := h7_2
   replace h7_3 : vs 3 = .int .i64 (n0 : Int) := h7_3
   replace h7_4 : vs 4 = .bool false := h7_4
   replace h7_5 : vs 5 = .bool false := h7_5
   replace h7_6 : vs 6 = .pointer (some ⟨w.heap.size + 1 + 1 + 1, 2, none⟩) := h7_6
   replace h7_7 : vs 7 = .slice a2 n2 c2 := h7_7
   replace h7_8 : vs 8 = .int .i64 (n2 : Int) := h7_8
   replace h7_9 : vs 9 = .int .i64 (n0 : Int) := h7_9
   replace h7_10 : vs 10 = .bool true := h7_10
   replace h7_11 : vs 11 = .bool true := h7_11
   replace h7_12 : vs 12 = .bool true := h7_12
   replace h7_13 : vs 13 = undef := h7_13
   replace h7_14 : vs 14 = undef := h7_14
   replace h7_15 : vs 15 = undef := h7_15
   replace h7_16 : vs 16 = undef := h7_16
   replace h7_17 : vs 17 = undef := h7_17
   replace h7_18 : vs 18 = .bool true := h7_18
   replace h7_19 : vs 19 = .bool true := h7_19
   simp only [h7_0, h7_1, h7_2, h7_3, h7_4, h7_5, h7_6, h7_7, h7_8, h7_9, h7_10, h7_11, h7_12, h7_13, h7_14, h7_15, h7_16, h7_17, h7_18, h7_19]
   clear h7_0 h7_1 h7_2 h7_3 h7_4 h7_5 h7_6 h7_7 h7_8 h7_9 h7_10 h7_11 h7_12 h7_13 h7_14 h7_15 h7_16 h7_17 h7_18 h7_19
   have z8 : ∀ i, W7.frozen? ⟨w.heap.size + 1 + 1 + 1 + 1, i, none⟩ = false := fun i => by simp [World.frozen?, show W7.heap[w.heap.size + 1 + 1 + 1 + 1]? = _ from p8]
   have z80 := z8 0
   have z81 := z8 1
   have z82 := z8 2
   have z83 := z8 3
   clear z8
   obtain ⟨kp4_0, kp4_1, kp4_2, kp4_3, kp4_4, kp4_5⟩ := p4.c6
   have kp5_0 := p5.cell 0 (v := .int .i64 (K : Int)) rfl
   obtain ⟨kp6_0, kp6_1⟩ := p6.c2
   obtain ⟨kp7_0, kp7_1, kp7_2, kp7_3⟩ := p7.c4
   obtain ⟨kp8_0, kp8_1, kp8_2, kp8_3⟩ := p8.c4
   go_wp2; clear kp4_0 kp4_1 kp4_2 kp4_3 kp4_4 kp4_5 kp5_0 kp6_0 kp6_1 kp7_0 kp7_1 kp7_2 kp7_3 kp8_0 kp8_1 kp8_2 kp8_3
   obtain ⟨W2, hW2, hw, hq⟩ := (Form4.of p8).put none 0 0 none 0 0 none 0 0 none 0 0
   rw [← hW2]
   have k80 := hq.cell 0 (v := .slice none 0 0) rfl
   have k81 := hq.cell 1 (v := .slice none 0 0) rfl
   have k82 := hq.cell 2 (v := .slice none 0 0) rfl
   have k83 := hq.cell 3 (v := .slice none 0 0) rfl
   exact bodyPost_ret (v := .tuple #[.agg #[.slice none 0 0, .slice none 0 0, .slice none 0 0, .slice none 0 0], .int .i64 5]) (by simp [results, Tryz.results7, go_sem, k80, k81, k82, k83]) rfl ⟨rfl, Ext.wr E0 hw (by omega)⟩
 ·have NE0 : Hid (((n1 : Int) != (n0 : Int)) = true) := Lib.hid (bne_iff_ne.2 (by omega))
  clear e0 hN; have szw8 := Ext.size E0
  refine region_gs [.one fun v _ => v = .pointer (some ⟨w.heap.size + 1 + 1 + 1, 1, none⟩),
    .one fun v _ => v = .slice a1 n1 c1,
    .one fun v _ => v = .int .i64 (n1 : Int),
    .one fun v _ => v = .int .i64 (n0 : Int),
    .one fun v _ => v = .bool true,
    .one fun v _ => v = .bool true,
    .one fun v _ => v = undef,
    .one fun v _ => v = undef,
    .one fun v _ => v = undef,
    .one fun v _ => v = undef,
    .one fun v _ => v = undef,
    .one fun v _ => v = .bool true,
    .one fun v _ => v = .bool true,
    .one fun v _ => v = undef,
    .one fun v _ => v = undef,
    .one fun v _ => v = undef,
    .one fun v _ => v = undef,
    .one fun v _ => v = undef,
    .one fun v _ => v = .bool true,
    .one fun v _ => v = .bool true]
   (fun W => Ext w W ∧ Iw 0 w.heap.size W a2 n2 c2 (lv) ∧ BxA W w.heap.size 23 #[.int .i64 lr, .int .i64 b1, .int .i64 b2, .int .i64 eps, .int .i64 wd, .bool ap] ∧ BxA W (w.heap.size + 1) 3 #[.int .i64 (K : Int)] ∧ Bx2 W (w.heap.size + 1 + 1) 24 (.int .i64 p0) (.int .i64 p1) ∧ BxA W (w.heap.size + 1 + 1 + 1) 27 #[.slice a0 n0 c0, .slice a1 n1 c1, .slice a2 n2 c2, .slice a3 n3 c3] ∧ BxA W (w.heap.size + 1 + 1 + 1 + 1) 27 #[.slice none 0 0, .slice none 0 0, .slice none 0 0, .slice none 0 0] ∧ W5.heap.size ≤ W.heap.size) ⟨Good.is _, Good.is _, Good.is _, Good.is _, Good.is _, Good.is _, Good.is _, Good.is _, Good.is _, Good.is _, Good.is _, Good.is _, Good.is _, Good.is _, Good.is _, Good.is _, Good.is _, Good.is _, Good.is _, Good.is _, trivial⟩
   ⟨E0, hiv, p4, p5, p6, p7, p8, Nat.le_refl _⟩ (A := ?A8) ?hA8 ?howe8 ?hfin8
  case hA8 =>
   intro vs
   simp only [putAll, Act.put, sA, sZ, sS, Nat.zero_add, Nat.reduceAdd]
   exact rfl
  case howe8 =>
   clear E0 hiv p4 p5 p6 p7 p8
   intro hf
   refine ⟨oE 0 [] hf rfl ?_, oE 1 [0] hf rfl ?_, oE 2 [1] hf rfl ?_, oE 3 [] hf rfl ?_, oE 4 [2, 3] hf rfl ?_, oE 5 [4] hf rfl ?_, oE 6 [5] hf rfl ?_, oE 7 [5] hf rfl ?_, oE 8 [5] hf rfl ?_, oE 9 [5] hf rfl ?_, oE 10 [5] hf rfl ?_, oE 11 [5, 10] hf rfl ?_, oE 12 [11] hf rfl ?_, oE 13 [12] hf rfl ?_, oE 14 [12] hf rfl ?_, oE 15 [12] hf rfl ?_, oE 16 [12] hf rfl ?_, oE 17 [12] hf rfl ?_, oE 18 [12, 17] hf rfl ?_, oE 19 [18] hf rfl ?_, trivial⟩
   all_goals intro vs W hS hp hx KO hKO
   all_goals simp only [Act.put, sA, sZ, sS] at hKO
   ·go_simp; exact hKO _ W (.refl W) rfl
   ·have e0 := isOf hp.1; simp only [e0] at hKO; have fc1 := BxA.cell (hS.2.2.2.2.2.1) 1 (v := .slice a1 n1 c1) rfl; go_simp; exact hKO _ W (.refl W) rfl
   ·have e1 := isOf hp.1; simp only [e1] at hKO; go_simp; exact hKO _ W (.refl W) rfl
   ·go_simp; exact hKO _ W (.refl W) rfl
   ·have e2 := isOf hp.1; have e3 := isOf hp.2.1; simp only [e2, e3] at hKO; go_simp; exact hKO _ W (Ext.refl W) (by first | rfl | exact congrArg Value.bool NE0.out)
   ·have e4 := isOf hp.1; simp only [e4] at hKO; go_simp; exact hKO _ W (.refl W) rfl
   ·have e5 := isOf hp.1; simp only [e5] at hKO; go_simp; exact hKO _ W (.refl W) rfl
   ·have e5 := isOf hp.1; simp only [e5] at hKO; go_simp; exact hKO _ W (.refl W) rfl
   ·have e5 := isOf hp.1; simp only [e5] at hKO; go_simp; exact hKO _ W (.refl W) rfl
   ·have e5 := isOf hp.1; simp only [e5] at hKO; go_simp; exact hKO _ W (.refl W) rfl
   ·have e5 := isOf hp.1; simp only [e5] at hKO; go_simp; exact hKO _ W (.refl W) rfl
   ·have e5 := isOf hp.1; have e10 := isOf hp.2.1; simp only [e5, e10] at hKO; go_simp; exact hKO _ W (.refl W) rfl
   ·have e11 := isOf hp.1; simp only [e11] at hKO; go_simp; exact hKO _ W (.refl W) rfl
   ·have e12 := isOf hp.1; simp only [e12] at hKO; go_simp; exact hKO _ W (.refl W) rfl
   ·have e12 := isOf hp.1; simp only [e12] at hKO; go_simp; exact hKO _ W (.refl W) rfl
   ·have e12 := isOf hp.1; simp only [e12] at hKO; go_simp; exact hKO _ W (.refl W) rfl
   ·have e12 := isOf hp.1; simp only [e12] at hKO; go_simp; exact hKO _ W (.refl W) rfl
   ·have e12 := isOf hp.1; simp only [e12] at hKO; go_simp; exact hKO _ W (.refl W) rfl
   ·have e12 := isOf hp.1; have e17 := isOf hp.2.1; simp only [e12, e17] at hKO; go_simp; exact hKO _ W (.refl W) rfl
   ·have e18 := isOf hp.1; simp only [e18] at hKO; go_simp; exact hKO _ W (.refl W) rfl
  intro vs W8 hS hp
  clear szw8 E0 hiv p4 p5 p6 p7 p8
  obtain ⟨E0, hiv, p4, p5, p6, p7, p8, sz8⟩ := hS
  obtain ⟨h8_0, h8_1, h8_2, h8_3, h8_4, h8_5, h8_6, h8_7, h8_8, h8_9, h8_10, h8_11, h8_12, h8_13, h8_14, h8_15, h8_16, h8_17, h8_18, h8_19, -⟩ := hp
  replace h8_0 : vs 0 = .pointer (some ⟨w.heap.size + 1 + 1 + 1, 1, none⟩) := h8_0
  replace h8_1 : vs 1 = .slice a1 n1 c1 := h8_1
  replace h8_2 : vs 2 = .int .i64 (n1 : Int) := h8_2
  replace h8_3 : vs 3 = .int .i64 (n0 : Int) := h8_3
  replace h8_4 : vs 4 = .bool true := h8_4
  replace h8_5 : vs 5 = .bool true := h8_5
  replace h8_6 : vs 6 = undef := h8_6
  replace h8_7 : vs 7 = undef := h8_7
  replace h8_8 : vs 8 = undef := h8_8
  replace h8_9 : vs 9 = undef := h8_9
  replace h8_10 : vs 10 = undef := h8_10
  replace h8_11 : vs 11 = .bool true := h8_11
  replace h8_12 : vs 12 = .bool true := h8_12
  replace h8_13 : vs 13 = undef := h8_13
  replace h8_14 : vs 14 = undef := h8_14
  replace h8_15 : vs 15 = undef := h8_15
  replace h8_16 : vs 16 = undef := h8_16
  replace h8_17 : vs 17 = undef := h8_17
  replace h8_18 : vs 18 = .bool true := h8_18
  replace h8_19 : vs 19 = .bool true := h8_19
  simp only [h8_0, h8_1, h8_2, h8_3, h8_4, h8_5, h8_6, h8_7, h8_8, h8_9, h8_10, h8_11, h8_12, h8_13, h8_14, h8_15, h8_16, h8_17, h8_18, h8_19]
  clear h8_0 h8_1 h8_2 h8_3 h8_4 h8_5 h8_6 h8_7 h8_8 h8_9 h8_10 h8_11 h8_12 h8_13 h8_14 h8_15 h8_16 h8_17 h8_18 h8_19
  have z8 : ∀ i, W8.frozen? ⟨w.heap.size + 1 + 1 + 1 + 1, i, none⟩ = false := fun i => by simp [World.frozen?, show W8.heap[w.heap.size + 1 + 1 + 1 + 1]? = _ from p8]
  have z80 := z8 0
  have z81 := z8 1
  have z82 := z8 2
  have z83 := z8 3
  clear z8
  obtain ⟨kp4_0, kp4_1, kp4_2, kp4_3, kp4_4, kp4_5⟩ := p4.c6
  have kp5_0 := p5.cell 0 (v := .int .i64 (K : Int)) rfl
  obtain ⟨kp6_0, kp6_1⟩ := p6.c2
  obtain ⟨kp7_0, kp7_1, kp7_2, kp7_3⟩ := p7.c4
  obtain ⟨kp8_0, kp8_1, kp8_2, kp8_3⟩ := p8.c4
  go_wp2; clear kp4_0 kp4_1 kp4_2 kp4_3 kp4_4 kp4_5 kp5_0 kp6_0 kp6_1 kp7_0 kp7_1 kp7_2 kp7_3 kp8_0 kp8_1 kp8_2 kp8_3
  obtain ⟨W2, hW2, hw, hq⟩ := (Form4.of p8).put none 0 0 none 0 0 none 0 0 none 0 0
  rw [← hW2]
  have k80 := hq.cell 0 (v := .slice none 0 0) rfl
  have k81 := hq.cell 1 (v := .slice none 0 0) rfl
  have k82 := hq.cell 2 (v := .slice none 0 0) rfl
  have k83 := hq.cell 3 (v := .slice none 0 0) rfl
  exact bodyPost_ret (v := .tuple #[.agg #[.slice none 0 0, .slice none 0 0, .slice none 0 0, .slice none 0 0], .int .i64 5]) (by simp [results, Tryz.results7, go_sem, k80, k81, k82, k83]) rfl ⟨rfl, Ext.wr E0 hw (by omega)⟩

set_option maxRecDepth 100000 in
set_option maxHeartbeats 8000000 in
theorem Tryz.adamStepGo (lr b1 b2 eps wd p0 p1 : Int) (ap : Bool) (K : Nat) {n : Nat} {a0 : Option Addr} {c0 : Nat}  {a1 : Option Addr} {c1 : Nat}  {a2 : Option Addr} {c2 : Nat}  {a3 : Option Addr} {c3 : Nat} {lw lm lv lg : List Int} (w : World) (hR : rightA ⟨lr, b1, b2, eps, wd, ap⟩ (K : Int) = true) (h0 : mayB K p0 = true) (h1 : mayB K p1 = true) (h2 : negB lv = false) (hn : n ≤ 40) (q1 : I64 lr) (q2 : I64 eps) (q3 : I64 wd) (hi0 : Iw 0 w.heap.size w a0 n c0 lw) (hi1 : Iw 0 w.heap.size w a1 n c1 lm) (hiv : Iw 0 w.heap.size w a2 n c2 lv) (hi3 : Iw 0 w.heap.size w a3 n c3 lg) :
  Calls Tryz.prog 7 #[.agg #[.int .i64 lr, .int .i64 b1, .int .i64 b2, .int .i64 eps, .int .i64 wd, .bool ap], .int .i64 (K : Int), .agg #[.int .i64 p0, .int .i64 p1], .agg #[.slice a0 n c0, .slice a1 n c1, .slice a2 n c2, .slice a3 n c3]] w fun e w' => Ext w w' ∧ (((∀ i, i < n → (fun i : Nat => placeO K ⟨lr, b1, b2, eps, wd, ap⟩ p0 p1 (atL lw i) (atL lm i) (atL lv i) (atL lg i)) i ≠ none) ∧ ∃ v, e = .returned (.tuple #[v, .int .i64 0]) ∧ RowsAt w w' v n (fun i => p1of ((fun i : Nat => placeO K ⟨lr, b1, b2, eps, wd, ap⟩ p0 p1 (atL lw i) (atL lm i) (atL lv i) (atL lg i)) i)) (fun i => p2of ((fun i : Nat => placeO K ⟨lr, b1, b2, eps, wd, ap⟩ p0 p1 (atL lw i) (atL lm i) (atL lv i) (atL lg i)) i)) (fun i => p3of ((fun i : Nat => placeO K ⟨lr, b1, b2, eps, wd, ap⟩ p0 p1 (atL lw i) (atL lm i) (atL lv i) (atL lg i)) i))) ∨
   ((∃ i, i < n ∧ (fun i : Nat => placeO K ⟨lr, b1, b2, eps, wd, ap⟩ p0 p1 (atL lw i) (atL lm i) (atL lv i) (atL lg i)) i = none) ∧ e = .returned (.tuple #[.agg #[.slice none 0 0, .slice none 0 0, .slice none 0 0, .slice none 0 0], .int .i64 2]))) := by
 have HIN : Hid (∀ i, i < n → PlaceIn K ⟨lr, b1, b2, eps, wd, ap⟩ p0 p1 (atL lw i) (atL lm i) (atL lv i) (atL lg i)) := Lib.hid (fun i hi => placeIn hR q1 q2 q3 h0 h1 (hi0.i64 hi) (hi1.i64 hi) (negB_at h2 (by rw [hiv.len]; exact hi)) (hiv.i64 hi) (hi3.i64 hi))
 have HNN := Lib.hid hn
 have HR := Lib.hid hR
 have HK : Hid (K ≤ 40) := Lib.hid (by have := rightA_iff.1 hR; omega)
 have H0 := Lib.hid h0
 have H1 := Lib.hid h1
 have H2 := Lib.hid h2
 clear hR h0 h1 h2
 obtain ⟨pl, hpl⟩ : ∃ pl : Nat → Option (Int × Int × Int), pl = (fun i : Nat => placeO K ⟨lr, b1, b2, eps, wd, ap⟩ p0 p1 (atL lw i) (atL lm i) (atL lv i) (atL lg i)) := ⟨_, rfl⟩
 rw [← hpl]
 have HPL := Lib.hid hpl
 clear hpl q1 q2 q3 hn
 have hmf : ∀ (fn : Fn) (first cap : Array Value) (W : World), (Instr.makeFunc fn first cap).run Tryz.prog W = .ok (.func fn first cap) W := fun _ _ _ _ => rfl
 obtain ⟨W0, hW0⟩ : ∃ W0, W0 = (((((w.alloc (.cells #[.int .i64 lr, .int .i64 b1, .int .i64 b2, .int .i64 eps, .int .i64 wd, .bool ap] 23)).alloc (.cells #[.int .i64 (K : Int)] 3)).alloc (.cells #[.int .i64 p0, .int .i64 p1] 24)).alloc (.cells #[.slice a0 n c0, .slice a1 n c1, .slice a2 n c2, .slice a3 n c3] 27)).alloc (.cells #[.slice none 0 0, .slice none 0 0, .slice none 0 0, .slice none 0 0] 27)) := ⟨_, rfl⟩
 have E0 : Ext w W0 := by rw [hW0]; exact (((((Ext.alloc1 w (.cells #[.int .i64 lr, .int .i64 b1, .int .i64 b2, .int .i64 eps, .int .i64 wd, .bool ap] 23)).alloc (.cells #[.int .i64 (K : Int)] 3)).alloc (.cells #[.int .i64 p0, .int .i64 p1] 24)).alloc (.cells #[.slice a0 n c0, .slice a1 n c1, .slice a2 n c2, .slice a3 n c3] 27)).alloc (.cells #[.slice none 0 0, .slice none 0 0, .slice none 0 0, .slice none 0 0] 27))
 replace hi0 : Iw 0 w.heap.size W0 a0 n c0 (lw) := hi0.ext E0
 replace hi1 : Iw 0 w.heap.size W0 a1 n c1 (lm) := hi1.ext E0
 replace hiv : Iw 0 w.heap.size W0 a2 n c2 (lv) := hiv.ext E0
 replace hi3 : Iw 0 w.heap.size W0 a3 n c3 (lg) := hi3.ext E0
 have p4 : BxA W0 w.heap.size 23 #[.int .i64 lr, .int .i64 b1, .int .i64 b2, .int .i64 eps, .int .i64 wd, .bool ap] := by rw [hW0]; exact (BxA.new w 23 #[.int .i64 lr, .int .i64 b1, .int .i64 b2, .int .i64 eps, .int .i64 wd, .bool ap]).ext ((((Ext.alloc1 (w.alloc (.cells #[.int .i64 lr, .int .i64 b1, .int .i64 b2, .int .i64 eps, .int .i64 wd, .bool ap] 23)) (.cells #[.int .i64 (K : Int)] 3)).alloc (.cells #[.int .i64 p0, .int .i64 p1] 24)).alloc (.cells #[.slice a0 n c0, .slice a1 n c1, .slice a2 n c2, .slice a3 n c3] 27)).alloc (.cells #[.slice none 0 0, .slice none 0 0, .slice none 0 0, .slice none 0 0] 27))
 have p5 : BxA W0 (w.heap.size + 1) 3 #[.int .i64 (K : Int)] := by rw [hW0]; simpa using (BxA.new (w.alloc (.cells #[.int .i64 lr, .int .i64 b1, .int .i64 b2, .int .i64 eps, .int .i64 wd, .bool ap] 23)) 3 #[.int .i64 (K : Int)]).ext (((Ext.alloc1 ((w.alloc (.cells #[.int .i64 lr, .int .i64 b1, .int .i64 b2, .int .i64 eps, .int .i64 wd, .bool ap] 23)).alloc (.cells #[.int .i64 (K : Int)] 3)) (.cells #[.int .i64 p0, .int .i64 p1] 24)).alloc (.cells #[.slice a0 n c0, .slice a1 n c1, .slice a2 n c2, .slice a3 n c3] 27)).alloc (.cells #[.slice none 0 0, .slice none 0 0, .slice none 0 0, .slice none 0 0] 27))
 have p6 : Bx2 W0 (w.heap.size + 1 + 1) 24 (.int .i64 p0) (.int .i64 p1) := by rw [hW0]; simpa using (Bx2.new ((w.alloc (.cells #[.int .i64 lr, .int .i64 b1, .int .i64 b2, .int .i64 eps, .int .i64 wd, .bool ap] 23)).alloc (.cells #[.int .i64 (K : Int)] 3)) 24 (.int .i64 p0) (.int .i64 p1)).ext ((Ext.alloc1 (((w.alloc (.cells #[.int .i64 lr, .int .i64 b1, .int .i64 b2, .int .i64 eps, .int .i64 wd, .bool ap] 23)).alloc (.cells #[.int .i64 (K : Int)] 3)).alloc (.cells #[.int .i64 p0, .int .i64 p1] 24)) (.cells #[.slice a0 n c0, .slice a1 n c1, .slice a2 n c2, .slice a3 n c3] 27)).alloc (.cells #[.slice none 0 0, .slice none 0 0, .slice none 0 0, .slice none 0 0] 27))
 have p7 : BxA W0 (w.heap.size + 1 + 1 + 1) 27 #[.slice a0 n c0, .slice a1 n c1, .slice a2 n c2, .slice a3 n c3] := by rw [hW0]; simpa using (BxA.new (((w.alloc (.cells #[.int .i64 lr, .int .i64 b1, .int .i64 b2, .int .i64 eps, .int .i64 wd, .bool ap] 23)).alloc (.cells #[.int .i64 (K : Int)] 3)).alloc (.cells #[.int .i64 p0, .int .i64 p1] 24)) 27 #[.slice a0 n c0, .slice a1 n c1, .slice a2 n c2, .slice a3 n c3]).ext (Ext.alloc1 ((((w.alloc (.cells #[.int .i64 lr, .int .i64 b1, .int .i64 b2, .int .i64 eps, .int .i64 wd, .bool ap] 23)).alloc (.cells #[.int .i64 (K : Int)] 3)).alloc (.cells #[.int .i64 p0, .int .i64 p1] 24)).alloc (.cells #[.slice a0 n c0, .slice a1 n c1, .slice a2 n c2, .slice a3 n c3] 27)) (.cells #[.slice none 0 0, .slice none 0 0, .slice none 0 0, .slice none 0 0] 27))
 have p8 : BxA W0 (w.heap.size + 1 + 1 + 1 + 1) 27 #[.slice none 0 0, .slice none 0 0, .slice none 0 0, .slice none 0 0] := by rw [hW0]; simpa using (BxA.new ((((w.alloc (.cells #[.int .i64 lr, .int .i64 b1, .int .i64 b2, .int .i64 eps, .int .i64 wd, .bool ap] 23)).alloc (.cells #[.int .i64 (K : Int)] 3)).alloc (.cells #[.int .i64 p0, .int .i64 p1] 24)).alloc (.cells #[.slice a0 n c0, .slice a1 n c1, .slice a2 n c2, .slice a3 n c3] 27)) 27 #[.slice none 0 0, .slice none 0 0, .slice none 0 0, .slice none 0 0])
 go_enter Tryz.func7, Tryz.ntmps7
 obtain ⟨kp4_0, kp4_1, kp4_2, kp4_3, kp4_4, kp4_5⟩ := p4.c6
 have kp5_0 := p5.cell 0 (v := .int .i64 (K : Int)) rfl
 obtain ⟨kp6_0, kp6_1⟩ := p6.c2
 obtain ⟨kp7_0, kp7_1, kp7_2, kp7_3⟩ := p7.c4
 obtain ⟨kp8_0, kp8_1, kp8_2, kp8_3⟩ := p8.c4
 go_upto_region 4 with (fail)
 rw [← hW0]
 clear hW0; clear kp4_0 kp4_1 kp4_2 kp4_3 kp4_4 kp4_5 kp5_0 kp6_0 kp6_1 kp7_0 kp7_1 kp7_2 kp7_3 kp8_0 kp8_1 kp8_2 kp8_3; have ltp4 := p4.lt; have ltp5 := p5.lt; have ltp6 := p6.lt; have ltp7 := p7.lt; have ltp8 := p8.lt; have szw9 := Ext.size E0
 refine region_gs [.one fun v _ => v = .agg #[.int .i64 lr, .int .i64 b1, .int .i64 b2, .int .i64 eps, .int .i64 wd, .bool ap],
   .one fun v _ => v = .int .i64 (K : Int),
   .one fun v _ => v = .bool true,
   .one fun v _ => v = .bool false,
   .one fun v _ => v = .bool false,
   .one fun v _ => v = .func (.func 20) #[] #[.pointer (some ⟨w.heap.size + 1, 0, none⟩)],
   .one fun v _ => v = .pointer (some ⟨w.heap.size + 1 + 1, 0, none⟩),
   .one fun v _ => v = .int .i64 p0,
   .one fun v _ => v = .bool true,
   .one fun v _ => v = .bool false,
   .one fun v _ => v = .bool false,
   .one fun v _ => v = .bool false,
   .one fun v _ => v = .func (.func 20) #[] #[.pointer (some ⟨w.heap.size + 1, 0, none⟩)],
   .one fun v _ => v = .pointer (some ⟨w.heap.size + 1 + 1, 1, none⟩),
   .one fun v _ => v = .int .i64 p1,
   .one fun v _ => v = .bool true,
   .one fun v _ => v = .bool false,
   .one fun v _ => v = .bool false,
   .one fun v _ => v = .bool false,
   .one fun v _ => v = .pointer (some ⟨w.heap.size + 1 + 1 + 1, 2, none⟩),
   .one fun v _ => v = .slice a2 n c2,
   .one fun v _ => v = .func (.func 19) #[] #[],
   .one fun v _ => v = .bool false,
   .one fun v _ => v = .bool false,
   .one fun v _ => v = .bool false]
  (fun W => Ext w W ∧ Iw 0 w.heap.size W a0 n c0 (lw) ∧ Iw 0 w.heap.size W a1 n c1 (lm) ∧ Iw 0 w.heap.size W a2 n c2 (lv) ∧ Iw 0 w.heap.size W a3 n c3 (lg) ∧ BxA W w.heap.size 23 #[.int .i64 lr, .int .i64 b1, .int .i64 b2, .int .i64 eps, .int .i64 wd, .bool ap] ∧ BxA W (w.heap.size + 1) 3 #[.int .i64 (K : Int)] ∧ Bx2 W (w.heap.size + 1 + 1) 24 (.int .i64 p0) (.int .i64 p1) ∧ BxA W (w.heap.size + 1 + 1 + 1) 27 #[.slice a0 n c0, .slice a1 n c1, .slice a2 n c2, .slice a3 n c3] ∧ BxA W (w.heap.size + 1 + 1 + 1 + 1) 27 #[.slice none 0 0, .slice none 0 0, .slice none 0 0, .slice none 0 0] ∧ W0.heap.size ≤ W.heap.size) ⟨Good.is _, Good.is _, Good.is _, Good.is _, Good.is _, Good.is _, Good.is _, Good.is _, Good.is _, Good.is _, Good.is _, Good.is _, Good.is _, Good.is _, Good.is _, Good.is _, Good.is _, Good.is _, Good.is _, Good.is _, Good.is _, Good.is _, Good.is _, Good.is _, Good.is _, trivial⟩
  ⟨E0, hi0, hi1, hiv, hi3, p4, p5, p6, p7, p8, Nat.le_refl _⟩ (A := ?A9) ?hA9 ?howe9 ?hfin9
 case hA9 =>
  intro vs
  simp only [putAll, Act.put, sA, sZ, sS, Nat.zero_add, Nat.reduceAdd]
  exact rfl
 case howe9 =>
  clear E0 hi0 hi1 hiv hi3 p4 p5 p6 p7 p8
  intro hf
  refine ⟨oE 0 [] hf rfl ?_, oE 1 [] hf rfl ?_, oE 2 [0, 1] hf rfl ?_, oE 3 [2] hf rfl ?_, oE 4 [3] hf rfl ?_, oE 5 [4] hf rfl ?_, oE 6 [4] hf rfl ?_, oE 7 [4, 6] hf rfl ?_, oE 8 [4, 5, 7] hf rfl ?_, oE 9 [4, 8] hf rfl ?_, oE 10 [4, 9] hf rfl ?_, oE 11 [10] hf rfl ?_, oE 12 [11] hf rfl ?_, oE 13 [11] hf rfl ?_, oE 14 [11, 13] hf rfl ?_, oE 15 [11, 12, 14] hf rfl ?_, oE 16 [11, 15] hf rfl ?_, oE 17 [11, 16] hf rfl ?_, oE 18 [17] hf rfl ?_, oE 19 [18] hf rfl ?_, oE 20 [18, 19] hf rfl ?_, oE 21 [18] hf rfl ?_, oE 22 [18, 20, 21] hf rfl ?_, oE 23 [18, 22] hf rfl ?_, oE 24 [23] hf rfl ?_, trivial⟩
  all_goals intro vs W hS hp hx KO hKO
  all_goals simp only [Act.put, sA, sZ, sS] at hKO
  ·have fc0 := BxA.cell (hS.2.2.2.2.2.1) 0 (v := .int .i64 lr) rfl; have fc1 := BxA.cell (hS.2.2.2.2.2.1) 1 (v := .int .i64 b1) rfl; have fc2 := BxA.cell (hS.2.2.2.2.2.1) 2 (v := .int .i64 b2) rfl; have fc3 := BxA.cell (hS.2.2.2.2.2.1) 3 (v := .int .i64 eps) rfl; have fc4 := BxA.cell (hS.2.2.2.2.2.1) 4 (v := .int .i64 wd) rfl; have fc5 := BxA.cell (hS.2.2.2.2.2.1) 5 (v := .bool ap) rfl; go_simp; exact hKO _ W (.refl W) rfl
  ·have fc0 := BxA.cell (hS.2.2.2.2.2.2.1) 0 (v := .int .i64 (K : Int)) rfl; go_simp; exact hKO _ W (.refl W) rfl
  ·have e0 := isOf hp.1; have e1 := isOf hp.2.1; simp only [e0, e1] at hKO; go_simp
   refine (Tryz.adamRight lr b1 b2 eps wd (K : Int) ap _).mono ?_
   rintro e W1 ⟨rfl, hE⟩
   rw [HR.out]
   exact hKO _ W1 hE rfl
  ·have e2 := isOf hp.1; simp only [e2] at hKO; go_simp; exact hKO _ W (.refl W) rfl
  ·have e3 := isOf hp.1; simp only [e3] at hKO; go_simp; exact hKO _ W (.refl W) rfl
  ·have e4 := isOf hp.1; simp only [e4] at hKO; go_simp; exact hKO _ W (.refl W) rfl
  ·have e4 := isOf hp.1; simp only [e4] at hKO; go_simp; exact hKO _ W (.refl W) rfl
  ·have e4 := isOf hp.1; have e6 := isOf hp.2.1; simp only [e4, e6] at hKO; have fc0 := hS.2.2.2.2.2.2.2.1.cell0; go_simp; exact hKO _ W (.refl W) rfl
  ·have e4 := isOf hp.1; have e5 := isOf hp.2.1; have e7 := isOf hp.2.2.1; simp only [e4, e5, e7] at hKO; go_simp
   refine (Tryz.adamBehind K HK.out p0 hS.2.2.2.2.2.2.1).mono ?_
   rintro e W1 ⟨rfl, hE⟩
   rw [H0.out]
   exact hKO _ W1 hE rfl
  ·have e4 := isOf hp.1; have e8 := isOf hp.2.1; simp only [e4, e8] at hKO; go_simp; exact hKO _ W (.refl W) rfl
  ·have e4 := isOf hp.1; have e9 := isOf hp.2.1; simp only [e4, e9] at hKO; go_simp; exact hKO _ W (.refl W) rfl
  ·have e10 := isOf hp.1; simp only [e10] at hKO; go_simp; exact hKO _ W (.refl W) rfl
  ·have e11 := isOf hp.1; simp only [e11] at hKO; go_simp; exact hKO _ W (.refl W) rfl
  ·have e11 := isOf hp.1; simp only [e11] at hKO; go_simp; exact hKO _ W (.refl W) rfl
  ·have e11 := isOf hp.1; have e13 := isOf hp.2.1; simp only [e11, e13] at hKO; have fc1 := hS.2.2.2.2.2.2.2.1.cell1; go_simp; exact hKO _ W (.refl W) rfl
  ·have e11 := isOf hp.1; have e12 := isOf hp.2.1; have e14 := isOf hp.2.2.1; simp only [e11, e12, e14] at hKO; go_simp
   refine (Tryz.adamBehind K HK.out p1 hS.2.2.2.2.2.2.1).mono ?_
   rintro e W1 ⟨rfl, hE⟩
   rw [H1.out]
   exact hKO _ W1 hE rfl
  ·have e11 := isOf hp.1; have e15 := isOf hp.2.1; simp only [e11, e15] at hKO; go_simp; exact hKO _ W (.refl W) rfl
  ·have e11 := isOf hp.1; have e16 := isOf hp.2.1; simp only [e11, e16] at hKO; go_simp; exact hKO _ W (.refl W) rfl
  ·have e17 := isOf hp.1; simp only [e17] at hKO; go_simp; exact hKO _ W (.refl W) rfl
  ·have e18 := isOf hp.1; simp only [e18] at hKO; go_simp; exact hKO _ W (.refl W) rfl
  ·have e18 := isOf hp.1; have e19 := isOf hp.2.1; simp only [e18, e19] at hKO; have fc2 := BxA.cell (hS.2.2.2.2.2.2.2.2.1) 2 (v := .slice a2 n c2) rfl; go_simp; exact hKO _ W (.refl W) rfl
  ·have e18 := isOf hp.1; simp only [e18] at hKO; go_simp; exact hKO _ W (.refl W) rfl
  ·have e18 := isOf hp.1; have e20 := isOf hp.2.1; have e21 := isOf hp.2.2.1; simp only [e18, e20, e21] at hKO; go_simp
   refine (Tryz.adamNeg hS.2.2.2.1).mono ?_
   rintro e W1 ⟨rfl, hE⟩
   rw [H2.out]
   exact hKO _ W1 hE rfl
  ·have e18 := isOf hp.1; have e22 := isOf hp.2.1; simp only [e18, e22] at hKO; go_simp; exact hKO _ W (.refl W) rfl
  ·have e23 := isOf hp.1; simp only [e23] at hKO; go_simp; exact hKO _ W (.refl W) rfl
 intro vs W9 hS hp
 clear szw9 E0 hi0 hi1 hiv hi3 p4 p5 p6 p7 p8
 obtain ⟨E0, hi0, hi1, hiv, hi3, p4, p5, p6, p7, p8, sz9⟩ := hS
 obtain ⟨h9_0, h9_1, h9_2, h9_3, h9_4, h9_5, h9_6, h9_7, h9_8, h9_9, h9_10, h9_11, h9_12, h9_13, h9_14, h9_15, h9_16, h9_17, h9_18, h9_19, h9_20, h9_21, h9_22, h9_23, h9_24, -⟩ := hp
 replace h9_0 : vs 0 = .agg #[.int .i64 lr, .int .i64 b1, .int .i64 b2, .int .i64 eps, .int .i64 wd, .bool ap] := h9_0
 replace h9_1 : vs 1 = .int .i64 (K : Int) := h9_1
 replace h9_2 : vs 2 = .bool true := h9_2
 replace h9_3 : vs 3 = .bool false := h9_3
 replace h9_4 : vs 4 = .bool false := h9_4
 replace h9_5 : vs 5 = .func (.func 20) #[] #[.pointer (some ⟨w.heap.size + 1, 0, none⟩)] := h9_5
 replace h9_6 : vs 6 = .pointer (some ⟨w.heap.size + 1 + 1, 0, none⟩) := h9_6
 replace h9_7 : vs 7 = .int .i64 p0 := h9_7
 replace h9_8 : vs 8 = .bool true := h9_8
 replace h9_9 : vs 9 = .bool false := h9_9
 replace h9_10 : vs 10 = .bool false := h9_10
 replace h9_11 : vs 11 = .bool false := h9_11
 replace h9_12 : vs 12 = .func (.func 20) #[] #[.pointer (some ⟨w.heap.size + 1, 0, none⟩)] := h9_12
 replace h9_13 : vs 13 = .pointer (some ⟨w.heap.size + 1 + 1, 1, none⟩) := h9_13
 replace h9_14 : vs 14 = .int .i64 p1 := h9_14
 replace h9_15 : vs 15 = .bool true := h9_15
 replace h9_16 : vs 16 = .bool false := h9_16
 replace h9_17 : vs 17 = .bool false := h9_17
 replace h9_18 : vs 18 = .bool false := h9_18
 replace h9_19 : vs 19 = .pointer (some ⟨w.heap.size + 1 + 1 + 1, 2, none⟩) := h9_19
 replace h9_20 : vs 20 = .slice a2 n c2 := h9_20
 replace h9_21 : vs 21 = .func (.func 19) #[] #[] := h9_21
 replace h9_22 : vs 22 = .bool false := h9_22
 replace h9_23 : vs 23 = .bool false := h9_23
 replace h9_24 : vs 24 = .bool false := h9_24
 simp only [h9_0, h9_1, h9_2, h9_3, h9_4, h9_5, h9_6, h9_7, h9_8, h9_9, h9_10, h9_11, h9_12, h9_13, h9_14, h9_15, h9_16, h9_17, h9_18, h9_19, h9_20, h9_21, h9_22, h9_23, h9_24]
 clear h9_0 h9_1 h9_2 h9_3 h9_4 h9_5 h9_6 h9_7 h9_8 h9_9 h9_10 h9_11 h9_12 h9_13 h9_14 h9_15 h9_16 h9_17 h9_18 h9_19 h9_20 h9_21 h9_22 h9_23 h9_24
 obtain ⟨kp4_0, kp4_1, kp4_2, kp4_3, kp4_4, kp4_5⟩ := p4.c6
 have kp5_0 := p5.cell 0 (v := .int .i64 (K : Int)) rfl
 obtain ⟨kp6_0, kp6_1⟩ := p6.c2
 obtain ⟨kp7_0, kp7_1, kp7_2, kp7_3⟩ := p7.c4
 obtain ⟨kp8_0, kp8_1, kp8_2, kp8_3⟩ := p8.c4
 go_upto_region 6 with (fail)
 clear kp4_0 kp4_1 kp4_2 kp4_3 kp4_4 kp4_5 kp5_0 kp6_0 kp6_1 kp7_0 kp7_1 kp7_2 kp7_3 kp8_0 kp8_1 kp8_2 kp8_3; have szw10 := Ext.size E0
 refine region_gs [.one fun v _ => v = .pointer (some ⟨w.heap.size + 1 + 1 + 1, 1, none⟩),
   .one fun v _ => v = .slice a1 n c1,
   .one fun v _ => v = .int .i64 (n : Int),
   .one fun v _ => v = .int .i64 (n : Int),
   .one fun v _ => v = .bool false,
   .one fun v _ => v = .bool false,
   .one fun v _ => v = .pointer (some ⟨w.heap.size + 1 + 1 + 1, 2, none⟩),
   .one fun v _ => v = .slice a2 n c2,
   .one fun v _ => v = .int .i64 (n : Int),
   .one fun v _ => v = .int .i64 (n : Int),
   .one fun v _ => v = .bool false,
   .one fun v _ => v = .bool false,
   .one fun v _ => v = .bool false,
   .one fun v _ => v = .pointer (some ⟨w.heap.size + 1 + 1 + 1, 3, none⟩),
   .one fun v _ => v = .slice a3 n c3,
   .one fun v _ => v = .int .i64 (n : Int),
   .one fun v _ => v = .int .i64 (n : Int),
   .one fun v _ => v = .bool false,
   .one fun v _ => v = .bool false,
   .one fun v _ => v = .bool false]
  (fun W => Ext w W ∧ Iw 0 w.heap.size W a0 n c0 (lw) ∧ Iw 0 w.heap.size W a1 n c1 (lm) ∧ Iw 0 w.heap.size W a2 n c2 (lv) ∧ Iw 0 w.heap.size W a3 n c3 (lg) ∧ BxA W w.heap.size 23 #[.int .i64 lr, .int .i64 b1, .int .i64 b2, .int .i64 eps, .int .i64 wd, .bool ap] ∧ BxA W (w.heap.size + 1) 3 #[.int .i64 (K : Int)] ∧ Bx2 W (w.heap.size + 1 + 1) 24 (.int .i64 p0) (.int .i64 p1) ∧ BxA W (w.heap.size + 1 + 1 + 1) 27 #[.slice a0 n c0, .slice a1 n c1, .slice a2 n c2, .slice a3 n c3] ∧ BxA W (w.heap.size + 1 + 1 + 1 + 1) 27 #[.slice none 0 0, .slice none 0 0, .slice none 0 0, .slice none 0 0] ∧ W9.heap.size ≤ W.heap.size) ⟨Good.is _, Good.is _, Good.is _, Good.is _, Good.is _, Good.is _, Good.is _, Good.is _, Good.is _, Good.is _, Good.is _, Good.is _, Good.is _, Good.is _, Good.is _, Good.is _, Good.is _, Good.is _, Good.is _, Good.is _, trivial⟩
  ⟨E0, hi0, hi1, hiv, hi3, p4, p5, p6, p7, p8, Nat.le_refl _⟩ (A := ?A10) ?hA10 ?howe10 ?hfin10
 case hA10 =>
  intro vs
  simp only [putAll, Act.put, sA, sZ, sS, Nat.zero_add, Nat.reduceAdd]
  exact rfl
 case howe10 =>
  clear E0 hi0 hi1 hiv hi3 p4 p5 p6 p7 p8
  intro hf
  refine ⟨oE 0 [] hf rfl ?_, oE 1 [0] hf rfl ?_, oE 2 [1] hf rfl ?_, oE 3 [] hf rfl ?_, oE 4 [2, 3] hf rfl ?_, oE 5 [4] hf rfl ?_, oE 6 [5] hf rfl ?_, oE 7 [5, 6] hf rfl ?_, oE 8 [5, 7] hf rfl ?_, oE 9 [5] hf rfl ?_, oE 10 [5, 8, 9] hf rfl ?_, oE 11 [5, 10] hf rfl ?_, oE 12 [11] hf rfl ?_, oE 13 [12] hf rfl ?_, oE 14 [12, 13] hf rfl ?_, oE 15 [12, 14] hf rfl ?_, oE 16 [12] hf rfl ?_, oE 17 [12, 15, 16] hf rfl ?_, oE 18 [12, 17] hf rfl ?_, oE 19 [18] hf rfl ?_, trivial⟩
  all_goals intro vs W hS hp hx KO hKO
  all_goals simp only [Act.put, sA, sZ, sS] at hKO
  ·go_simp; exact hKO _ W (.refl W) rfl
  ·have e0 := isOf hp.1; simp only [e0] at hKO; have fc1 := BxA.cell (hS.2.2.2.2.2.2.2.2.1) 1 (v := .slice a1 n c1) rfl; go_simp; exact hKO _ W (.refl W) rfl
  ·have e1 := isOf hp.1; simp only [e1] at hKO; go_simp; exact hKO _ W (.refl W) rfl
  ·go_simp; exact hKO _ W (.refl W) rfl
  ·have e2 := isOf hp.1; have e3 := isOf hp.2.1; simp only [e2, e3] at hKO; go_simp; exact hKO _ W (Ext.refl W) (by first | rfl | exact congrArg Value.bool (by simp))
  ·have e4 := isOf hp.1; simp only [e4] at hKO; go_simp; exact hKO _ W (.refl W) rfl
  ·have e5 := isOf hp.1; simp only [e5] at hKO; go_simp; exact hKO _ W (.refl W) rfl
  ·have e5 := isOf hp.1; have e6 := isOf hp.2.1; simp only [e5, e6] at hKO; have fc2 := BxA.cell (hS.2.2.2.2.2.2.2.2.1) 2 (v := .slice a2 n c2) rfl; go_simp; exact hKO _ W (.refl W) rfl
  ·have e5 := isOf hp.1; have e7 := isOf hp.2.1; simp only [e5, e7] at hKO; go_simp; exact hKO _ W (.refl W) rfl
  ·have e5 := isOf hp.1; simp only [e5] at hKO; go_simp; exact hKO _ W (.refl W) rfl
  ·have e5 := isOf hp.1; have e8 := isOf hp.2.1; have e9 := isOf hp.2.2.1; simp only [e5, e8, e9] at hKO; go_simp; exact hKO _ W (Ext.refl W) (by first | rfl | exact congrArg Value.bool (by simp))
  ·have e5 := isOf hp.1; have e10 := isOf hp.2.1; simp only [e5, e10] at hKO; go_simp; exact hKO _ W (.refl W) rfl
  ·have e11 := isOf hp.1; simp only [e11] at hKO; go_simp; exact hKO _ W (.refl W) rfl
  ·have e12 := isOf hp.1; simp only [e12] at hKO; go_simp; exact hKO _ W (.refl W) rfl
  ·have e12 := isOf hp.1; have e13 := isOf hp.2.1; simp only [e12, e13] at hKO; have fc3 := BxA.cell (hS.2.2.2.2.2.2.2.2.1) 3 (v := .slice a3 n c3) rfl; go_simp; exact hKO _ W (.refl W) rfl
  ·have e12 := isOf hp.1; have e14 := isOf hp.2.1; simp only [e12, e14] at hKO; go_simp; exact hKO _ W (.refl W) rfl
  ·have e12 := isOf hp.1; simp only [e12] at hKO; go_simp; exact hKO _ W (.refl W) rfl
  ·have e12 := isOf hp.1; have e15 := isOf hp.2.1; have e16 := isOf hp.2.2.1; simp only [e12, e15, e16] at hKO; go_simp; exact hKO _ W (Ext.refl W) (by first | rfl | exact congrArg Value.bool (by simp))
  ·have e12 := isOf hp.1; have e17 := isOf hp.2.1; simp only [e12, e17] at hKO; go_simp; exact hKO _ W (.refl W) rfl
  ·have e18 := isOf hp.1; simp only [e18] at hKO; go_simp; exact hKO _ W (.refl W) rfl
 intro vs W10 hS hp
 clear szw10 E0 hi0 hi1 hiv hi3 p4 p5 p6 p7 p8
 obtain ⟨E0, hi0, hi1, hiv, hi3, p4, p5, p6, p7, p8, sz10⟩ := hS
 obtain ⟨h10_0, h10_1, h10_2, h10_3, h10_4, h10_5, h10_6, h10_7, h10_8, h10_9, h10_10, h10_11, h10_12, h10_13, h10_14, h10_15, h10_16, h10_17, h10_18, h10_19, -⟩ := hp
 replace h10_0 : vs 0 = .pointer (some ⟨w.heap.size + 1 + 1 + 1, 1, none⟩) := h10_0
 replace h10_1 : vs 1 = .slice a1 n c1 := h10_1
 replace h10_2 : vs 2 = .int .i64 (n : Int) := h10_2
 replace h10_3 : vs 3 = .int .i64 (n : Int) := h10_3
 replace h10_4 : vs 4 = .bool false := h10_4
 replace h10_5 : vs 5 = .bool false := h10_5
 replace h10_6 : vs 6 = .pointer (some ⟨w.heap.size + 1 + 1 + 1, 2, none⟩) := h10_6
 replace h10_7 : vs 7 = .slice a2 n c2 := h10_7
 replace h10_8 : vs 8 = .int .i64 (n : Int) := h10_8
 replace h10_9 : vs 9 = .int .i64 (n : Int) := h10_9
 replace h10_10 : vs 10 = .bool false := h10_10
 replace h10_11 : vs 11 = .bool false := h10_11
 replace h10_12 : vs 12 = .bool false := h10_12
 replace h10_13 : vs 13 = .pointer (some ⟨w.heap.size + 1 + 1 + 1, 3, none⟩) := h10_13
 replace h10_14 : vs 14 = .slice a3 n c3 := h10_14
 replace h10_15 : vs 15 = .int .i64 (n : Int) := h10_15
 replace h10_16 : vs 16 = .int .i64 (n : Int) := h10_16
 replace h10_17 : vs 17 = .bool false := h10_17
 replace h10_18 : vs 18 = .bool false := h10_18
 replace h10_19 : vs 19 = .bool false := h10_19
 simp only [h10_0, h10_1, h10_2, h10_3, h10_4, h10_5, h10_6, h10_7, h10_8, h10_9, h10_10, h10_11, h10_12, h10_13, h10_14, h10_15, h10_16, h10_17, h10_18, h10_19]
 clear h10_0 h10_1 h10_2 h10_3 h10_4 h10_5 h10_6 h10_7 h10_8 h10_9 h10_10 h10_11 h10_12 h10_13 h10_14 h10_15 h10_16 h10_17 h10_18 h10_19
 obtain ⟨kp4_0, kp4_1, kp4_2, kp4_3, kp4_4, kp4_5⟩ := p4.c6
 have kp5_0 := p5.cell 0 (v := .int .i64 (K : Int)) rfl
 obtain ⟨kp6_0, kp6_1⟩ := p6.c2
 obtain ⟨kp7_0, kp7_1, kp7_2, kp7_3⟩ := p7.c4
 obtain ⟨kp8_0, kp8_1, kp8_2, kp8_3⟩ := p8.c4
 go_wp2_with fail
 clear kp4_0 kp4_1 kp4_2 kp4_3 kp4_4 kp4_5 kp5_0 kp6_0 kp6_1 kp7_0 kp7_1 kp7_2 kp7_3 kp8_0 kp8_1 kp8_2 kp8_3
 have szc := Ext.size E0
 refine (Tryz.adamPlaces _ HNN.out (hi0.mono (Nat.le_refl _) szc) (hi1.mono (Nat.le_refl _) szc) (hiv.mono (Nat.le_refl _) szc) (hi3.mono (Nat.le_refl _) szc) HIN.out).mono ?_
 rintro e Wp ⟨hE, hR | hR⟩
 ·obtain ⟨hall, g1, g2, g3, rfl, i1, i2, i3⟩ := hR
  rw [← HPL.out] at hall i1 i2 i3
  have HALL := Lib.hid hall
  clear hall
  have lt8c := BxA.lt p8
  replace E0 := (Ext.trans E0 hE); replace hi0 := (hi0.ext hE); replace hi1 := (hi1.ext hE); replace hiv := (hiv.ext hE); replace hi3 := (hi3.ext hE); replace p4 := (p4.ext hE); replace p5 := (p5.ext hE); replace p6 := (p6.ext hE); replace p7 := (p7.ext hE); replace p8 := (p8.ext hE)
  have szp := Ext.size hE
  clear hE
  have z8 : ∀ i, Wp.frozen? ⟨w.heap.size + 1 + 1 + 1 + 1, i, none⟩ = false := fun i => by simp [World.frozen?, show Wp.heap[w.heap.size + 1 + 1 + 1 + 1]? = _ from p8]
  have z80 := z8 0
  have z81 := z8 1
  have z82 := z8 2
  have z83 := z8 3
  clear z8
  simp only [Three.val]
  obtain ⟨kp4_0, kp4_1, kp4_2, kp4_3, kp4_4, kp4_5⟩ := p4.c6
  have kp5_0 := p5.cell 0 (v := .int .i64 (K : Int)) rfl
  obtain ⟨kp6_0, kp6_1⟩ := p6.c2
  obtain ⟨kp7_0, kp7_1, kp7_2, kp7_3⟩ := p7.c4
  obtain ⟨kp8_0, kp8_1, kp8_2, kp8_3⟩ := p8.c4
  go_wp2; clear kp4_0 kp4_1 kp4_2 kp4_3 kp4_4 kp4_5 kp5_0 kp6_0 kp6_1 kp7_0 kp7_1 kp7_2 kp7_3 kp8_0 kp8_1 kp8_2 kp8_3
  obtain ⟨W2, hW2, hw, hq⟩ := (Form4.of p8).put (some ⟨g1, 0, none⟩) n n (some ⟨g2, 0, none⟩) n n (some ⟨g3, 0, none⟩) n n none 0 0
  rw [← hW2]
  have szw := hw.apart.size
  have k80 := hq.cell 0 (v := .slice (some ⟨g1, 0, none⟩) n n) rfl
  have k81 := hq.cell 1 (v := .slice (some ⟨g2, 0, none⟩) n n) rfl
  have k82 := hq.cell 2 (v := .slice (some ⟨g3, 0, none⟩) n n) rfl
  have k83 := hq.cell 3 (v := .slice none 0 0) rfl
  exact bodyPost_ret (v := .tuple #[.agg #[.slice (some ⟨g1, 0, none⟩) n n, .slice (some ⟨g2, 0, none⟩) n n, .slice (some ⟨g3, 0, none⟩) n n, .slice none 0 0], .int .i64 0]) (by simp [results, Tryz.results7, go_sem, k80, k81, k82, k83]) rfl ⟨Ext.wr E0 hw (by omega), .inl ⟨HALL.out, _, rfl, g1, g2, g3, rfl, (i1.wr hw (by omega)).mono (by omega) szw, (i2.wr hw (by omega)).mono (by omega) szw, (i3.wr hw (by omega)).mono (by omega) szw⟩⟩
 ·obtain ⟨hall, rfl⟩ := hR
  rw [← HPL.out] at hall
  have HALL := Lib.hid hall
  clear hall
  have lt8c := BxA.lt p8
  replace E0 := (Ext.trans E0 hE); replace hi0 := (hi0.ext hE); replace hi1 := (hi1.ext hE); replace hiv := (hiv.ext hE); replace hi3 := (hi3.ext hE); replace p4 := (p4.ext hE); replace p5 := (p5.ext hE); replace p6 := (p6.ext hE); replace p7 := (p7.ext hE); replace p8 := (p8.ext hE)
  have szp := Ext.size hE
  clear hE
  have z8 : ∀ i, Wp.frozen? ⟨w.heap.size + 1 + 1 + 1 + 1, i, none⟩ = false := fun i => by simp [World.frozen?, show Wp.heap[w.heap.size + 1 + 1 + 1 + 1]? = _ from p8]
  have z80 := z8 0
  have z81 := z8 1
  have z82 := z8 2
  have z83 := z8 3
  clear z8
  obtain ⟨kp4_0, kp4_1, kp4_2, kp4_3, kp4_4, kp4_5⟩ := p4.c6
  have kp5_0 := p5.cell 0 (v := .int .i64 (K : Int)) rfl
  obtain ⟨kp6_0, kp6_1⟩ := p6.c2
  obtain ⟨kp7_0, kp7_1, kp7_2, kp7_3⟩ := p7.c4
  obtain ⟨kp8_0, kp8_1, kp8_2, kp8_3⟩ := p8.c4
  go_wp2; clear kp4_0 kp4_1 kp4_2 kp4_3 kp4_4 kp4_5 kp5_0 kp6_0 kp6_1 kp7_0 kp7_1 kp7_2 kp7_3 kp8_0 kp8_1 kp8_2 kp8_3
  obtain ⟨W2, hW2, hw, hq⟩ := (Form4.of p8).put none 0 0 none 0 0 none 0 0 none 0 0
  rw [← hW2]
  have szw := hw.apart.size
  have k80 := hq.cell 0 (v := .slice none 0 0) rfl
  have k81 := hq.cell 1 (v := .slice none 0 0) rfl
  have k82 := hq.cell 2 (v := .slice none 0 0) rfl
  have k83 := hq.cell 3 (v := .slice none 0 0) rfl
  exact bodyPost_ret (v := .tuple #[.agg #[.slice none 0 0, .slice none 0 0, .slice none 0 0, .slice none 0 0], .int .i64 2]) (by simp [results, Tryz.results7, go_sem, k80, k81, k82, k83]) rfl ⟨Ext.wr E0 hw (by omega), .inr ⟨HALL.out, rfl⟩⟩


end Go.Rt
