/-
  The laws of chapter 18 (Adam): Apart: its walk.
-/
import Derived.Test.YtgnmaeolgfijpaaLaw18q
import Derived.Test.YtgnmaeolgfijpaaInv5
import Derived.Test.YtgnmaeolgfijpaaAdamH
namespace Go.Rt
open Go Go.RowKit Go.Proofs

set_option maxRecDepth 100000 in
set_option maxHeartbeats 8000000 in
theorem Try.lawPart {n0 n1 n2 n3 : Nat} {a0 a1 a2 a3 : Option Addr} {c0 c1 c2 c3 i j : Nat} (x y : Int) (hx : x = (i : Int)) (hy : y = (j : Int)) (hij : i ≤ j) (h0 : j ≤ c0) (h1 : j ≤ c1) (h2 : j ≤ c2) (h3 : j ≤ c3) (w : World) :
    Calls Try.prog 15 #[.agg #[.slice a0 n0 c0, .slice a1 n1 c1, .slice a2 n2 c2, .slice a3 n3 c3], .int .i64 x, .int .i64 y] w fun e w' => e = .returned (.agg #[.slice (cutA a0 c0 i) (j - i) (c0 - i), .slice (cutA a1 c1 i) (j - i) (c1 - i), .slice (cutA a2 c2 i) (j - i) (c2 - i), .slice (cutA a3 c3 i) (j - i) (c3 - i)]) ∧ Ext w w' := by
  subst hx hy
  have HC := Lib.hid (And.intro hij (And.intro h0 (And.intro h1 (And.intro h2 h3))))
  clear hij h0 h1 h2 h3
  obtain ⟨W0, hW0⟩ : ∃ W0, W0 = ((w.alloc (.cells #[.slice a0 n0 c0, .slice a1 n1 c1, .slice a2 n2 c2, .slice a3 n3 c3] 27)).alloc (.cells #[.slice none 0 0, .slice none 0 0, .slice none 0 0, .slice none 0 0] 27)) := ⟨_, rfl⟩
  have E0 : Ext w W0 := by rw [hW0]; exact ((Ext.alloc1 w (.cells #[.slice a0 n0 c0, .slice a1 n1 c1, .slice a2 n2 c2, .slice a3 n3 c3] 27)).alloc (.cells #[.slice none 0 0, .slice none 0 0, .slice none 0 0, .slice none 0 0] 27))
  have p3 : BxA W0 w.heap.size 27 #[.slice a0 n0 c0, .slice a1 n1 c1, .slice a2 n2 c2, .slice a3 n3 c3] := by rw [hW0]; exact (BxA.new w 27 #[.slice a0 n0 c0, .slice a1 n1 c1, .slice a2 n2 c2, .slice a3 n3 c3]).ext (Ext.alloc1 (w.alloc (.cells #[.slice a0 n0 c0, .slice a1 n1 c1, .slice a2 n2 c2, .slice a3 n3 c3] 27)) (.cells #[.slice none 0 0, .slice none 0 0, .slice none 0 0, .slice none 0 0] 27))
  have p6 : BxA W0 (w.heap.size + 1) 27 #[.slice none 0 0, .slice none 0 0, .slice none 0 0, .slice none 0 0] := by rw [hW0]; simpa using (BxA.new (w.alloc (.cells #[.slice a0 n0 c0, .slice a1 n1 c1, .slice a2 n2 c2, .slice a3 n3 c3] 27)) 27 #[.slice none 0 0, .slice none 0 0, .slice none 0 0, .slice none 0 0])
  go_enter Try.func15, Try.ntmps15
  obtain ⟨kp3_0, kp3_1, kp3_2, kp3_3⟩ := p3.c4
  obtain ⟨kp6_0, kp6_1, kp6_2, kp6_3⟩ := p6.c4
  go_upto_region 1 with (fail)
  rw [← hW0]
  clear hW0
  clear kp3_0 kp3_1 kp3_2 kp3_3 kp6_0 kp6_1 kp6_2 kp6_3
  have fop6 : Form W0 (w.heap.size + 1) 27 4 := ⟨_, p6, (noU4 _ _ _ _ _ _ _ _ _ _ _ _), rfl⟩
  clear p6
  have HO1_p6 := Lib.hid fop6.lt
  have sHO1_p6 := HO1_p6.out
  have ltp3 := p3.lt
  have szw1 := Ext.size E0
  refine region_go2 [.one fun v _ => v = .pointer (some ⟨w.heap.size, 0, none⟩),
      .one fun v _ => v = .slice a0 n0 c0,
      .one fun v _ => v = .int .i64 (i : Int),
      .one fun v _ => v = .int .i64 (j : Int),
      .one fun v _ => v = .slice (cutA a0 c0 i) (j - i) (c0 - i),
      .one fun v _ => v = .pointer (some ⟨w.heap.size, 1, none⟩),
      .one fun v _ => v = .slice a1 n1 c1,
      .one fun v _ => v = .int .i64 (i : Int),
      .one fun v _ => v = .int .i64 (j : Int),
      .one fun v _ => v = .slice (cutA a1 c1 i) (j - i) (c1 - i),
      .one fun v _ => v = .pointer (some ⟨w.heap.size, 2, none⟩),
      .one fun v _ => v = .slice a2 n2 c2,
      .one fun v _ => v = .int .i64 (i : Int),
      .one fun v _ => v = .int .i64 (j : Int),
      .one fun v _ => v = .slice (cutA a2 c2 i) (j - i) (c2 - i),
      .one fun v _ => v = .pointer (some ⟨w.heap.size, 3, none⟩),
      .one fun v _ => v = .slice a3 n3 c3,
      .one fun v _ => v = .int .i64 (i : Int),
      .one fun v _ => v = .int .i64 (j : Int),
      .one fun v _ => v = .slice (cutA a3 c3 i) (j - i) (c3 - i),
      .one fun v _ => v = .agg #[.slice (cutA a0 c0 i) (j - i) (c0 - i), .slice (cutA a1 c1 i) (j - i) (c1 - i), .slice (cutA a2 c2 i) (j - i) (c2 - i), .slice (cutA a3 c3 i) (j - i) (c3 - i)],
      .own fun W => BxA W (w.heap.size + 1) 27 #[.slice (cutA a0 c0 i) (j - i) (c0 - i), .slice (cutA a1 c1 i) (j - i) (c1 - i), .slice (cutA a2 c2 i) (j - i) (c2 - i), .slice (cutA a3 c3 i) (j - i) (c3 - i)]]
    (fun W => Ext w W ∧ BxA W w.heap.size 27 #[.slice a0 n0 c0, .slice a1 n1 c1, .slice a2 n2 c2, .slice a3 n3 c3] ∧ Form W (w.heap.size + 1) 27 4 ∧ W0.heap.size ≤ W.heap.size) W0.heap.size [] [Tag.any, Tag.any, Tag.any, Tag.any, Tag.any, Tag.any, Tag.any, Tag.any, Tag.any, Tag.any, Tag.any, Tag.any, Tag.any, Tag.any, Tag.any, Tag.any, Tag.any, Tag.any, Tag.any, Tag.any, Tag.any, Tag.old (w.heap.size + 1)] ⟨Good.is _, Good.is _, Good.is _, Good.is _, Good.is _, Good.is _, Good.is _, Good.is _, Good.is _, Good.is _, Good.is _, Good.is _, Good.is _, Good.is _, Good.is _, Good.is _, Good.is _, Good.is _, Good.is _, Good.is _, Good.is _, tag_bxA, trivial⟩ (fun g0 hg => by simp at hg; omega)
    (fun W W1 hS hE => ⟨(Ext.trans hS.1 hE), (hS.2.1.ext hE), (hS.2.2.1.ext hE), (Nat.le_trans hS.2.2.2 (Ext.size hE))⟩) ⟨E0, p3, fop6, Nat.le_refl _⟩ (fun m hm => by simp at hm) (by kernel_rfl) (by kernel_rfl) (by kernel_rfl) (by kernel_rfl) (A := ?A1) ?hA1 ?howe1 ?hfin1
  case hA1 =>
    intro vs
    simp only [putAll, Act.put, List.setIfInBounds_toArray, List.set_cons_zero, List.set_cons_succ, Nat.zero_add, Nat.reduceAdd]
    exact rfl
  case howe1 =>
    clear E0 p3 fop6
    intro hf
    refine ⟨owesM 0 [] hf rfl rfl (by kernel_rfl) ?_, owesM 1 [0] hf rfl rfl (by kernel_rfl) ?_, owesM 2 [] hf rfl rfl (by kernel_rfl) ?_, owesM 3 [] hf rfl rfl (by kernel_rfl) ?_, owesM 4 [1, 2, 3] hf rfl rfl (by kernel_rfl) ?_, owesM 5 [] hf rfl rfl (by kernel_rfl) ?_, owesM 6 [5] hf rfl rfl (by kernel_rfl) ?_, owesM 7 [] hf rfl rfl (by kernel_rfl) ?_, owesM 8 [] hf rfl rfl (by kernel_rfl) ?_, owesM 9 [6, 7, 8] hf rfl rfl (by kernel_rfl) ?_, owesM 10 [] hf rfl rfl (by kernel_rfl) ?_, owesM 11 [10] hf rfl rfl (by kernel_rfl) ?_, owesM 12 [] hf rfl rfl (by kernel_rfl) ?_, owesM 13 [] hf rfl rfl (by kernel_rfl) ?_, owesM 14 [11, 12, 13] hf rfl rfl (by kernel_rfl) ?_, owesM 15 [] hf rfl rfl (by kernel_rfl) ?_, owesM 16 [15] hf rfl rfl (by kernel_rfl) ?_, owesM 17 [] hf rfl rfl (by kernel_rfl) ?_, owesM 18 [] hf rfl rfl (by kernel_rfl) ?_, owesM 19 [16, 17, 18] hf rfl rfl (by kernel_rfl) ?_, owesM 20 [4, 9, 14, 19] hf rfl rfl (by kernel_rfl) ?_, owesO 21 (w.heap.size + 1) [20] hf rfl (by omega) ⟨.inr trivial, .inr trivial, .inr trivial, .inr trivial, .inr trivial, .inr trivial, .inr trivial, .inr trivial, .inr trivial, .inr trivial, .inr trivial, .inr trivial, .inr trivial, .inr trivial, .inr trivial, .inr trivial, .inr trivial, .inr trivial, .inr trivial, .inr trivial, .inr trivial, .inl rfl, trivial⟩ rfl (by kernel_rfl) ?_, trivial⟩
    all_goals intro vs W hS hp hx KO hKO
    all_goals simp only [Act.put, List.setIfInBounds_toArray, List.set_cons_zero, List.set_cons_succ] at hKO
    · go_simp
      exact hKO _ W (Ext.refl W) rfl
    · have e0 := isOf hp.1
      simp only [e0] at hKO
      have fc0 := BxA.cell (hS.2.1) 0 (v := .slice a0 n0 c0) rfl
      go_simp
      exact hKO _ W (Ext.refl W) rfl
    · go_simp
      exact hKO _ W (Ext.refl W) rfl
    · go_simp
      exact hKO _ W (Ext.refl W) rfl
    · have e1 := isOf hp.1
      have e2 := isOf hp.2.1
      have e3 := isOf hp.2.2.1
      simp only [e1, e2, e3] at hKO
      have hc := HC.out
      have k0 : (0 : Int) ≤ (i : Int) := by omega
      have k1 : (i : Int) ≤ (j : Int) := by omega
      have k2 : (j : Int) ≤ (c0 : Int) := by omega
      go_simp
      exact hKO _ W (Ext.refl W) rfl
    · go_simp
      exact hKO _ W (Ext.refl W) rfl
    · have e5 := isOf hp.1
      simp only [e5] at hKO
      have fc1 := BxA.cell (hS.2.1) 1 (v := .slice a1 n1 c1) rfl
      go_simp
      exact hKO _ W (Ext.refl W) rfl
    · go_simp
      exact hKO _ W (Ext.refl W) rfl
    · go_simp
      exact hKO _ W (Ext.refl W) rfl
    · have e6 := isOf hp.1
      have e7 := isOf hp.2.1
      have e8 := isOf hp.2.2.1
      simp only [e6, e7, e8] at hKO
      have hc := HC.out
      have k0 : (0 : Int) ≤ (i : Int) := by omega
      have k1 : (i : Int) ≤ (j : Int) := by omega
      have k2 : (j : Int) ≤ (c1 : Int) := by omega
      go_simp
      exact hKO _ W (Ext.refl W) rfl
    · go_simp
      exact hKO _ W (Ext.refl W) rfl
    · have e10 := isOf hp.1
      simp only [e10] at hKO
      have fc2 := BxA.cell (hS.2.1) 2 (v := .slice a2 n2 c2) rfl
      go_simp
      exact hKO _ W (Ext.refl W) rfl
    · go_simp
      exact hKO _ W (Ext.refl W) rfl
    · go_simp
      exact hKO _ W (Ext.refl W) rfl
    · have e11 := isOf hp.1
      have e12 := isOf hp.2.1
      have e13 := isOf hp.2.2.1
      simp only [e11, e12, e13] at hKO
      have hc := HC.out
      have k0 : (0 : Int) ≤ (i : Int) := by omega
      have k1 : (i : Int) ≤ (j : Int) := by omega
      have k2 : (j : Int) ≤ (c2 : Int) := by omega
      go_simp
      exact hKO _ W (Ext.refl W) rfl
    · go_simp
      exact hKO _ W (Ext.refl W) rfl
    · have e15 := isOf hp.1
      simp only [e15] at hKO
      have fc3 := BxA.cell (hS.2.1) 3 (v := .slice a3 n3 c3) rfl
      go_simp
      exact hKO _ W (Ext.refl W) rfl
    · go_simp
      exact hKO _ W (Ext.refl W) rfl
    · go_simp
      exact hKO _ W (Ext.refl W) rfl
    · have e16 := isOf hp.1
      have e17 := isOf hp.2.1
      have e18 := isOf hp.2.2.1
      simp only [e16, e17, e18] at hKO
      have hc := HC.out
      have k0 : (0 : Int) ≤ (i : Int) := by omega
      have k1 : (i : Int) ≤ (j : Int) := by omega
      have k2 : (j : Int) ≤ (c3 : Int) := by omega
      go_simp
      exact hKO _ W (Ext.refl W) rfl
    · have e4 := isOf hp.1
      have e9 := isOf hp.2.1
      have e14 := isOf hp.2.2.1
      have e19 := isOf hp.2.2.2.1
      simp only [e4, e9, e14, e19] at hKO
      go_simp
      exact hKO _ W (Ext.refl W) rfl
    · have e20 := isOf hp.1
      simp only [e20] at hKO
      have hfo := hS.2.2.1
      obtain ⟨x0, x1, x2, x3, c0, c1, c2, c3, hfz, W2, hW2, hw, hq⟩ := hfo.put4 (.slice (cutA a0 c0 i) (j - i) (c0 - i)) (.slice (cutA a1 c1 i) (j - i) (c1 - i)) (.slice (cutA a2 c2 i) (j - i) (c2 - i)) (.slice (cutA a3 c3 i) (j - i) (c3 - i)) (noU4 _ _ _ _ _ _ _ _ _ _ _ _)
      have z0 := hfz 0
      have z1 := hfz 1
      have z2 := hfz 2
      have z3 := hfz 3
      clear hfo
      go_simp
      rw [← hW2]
      exact hKO _ hw ⟨(Ext.wr hS.1 hw (by omega)), (hS.2.1.wr hw (by omega)), (hS.2.2.1.wr hw), (Nat.le_trans hS.2.2.2 hw.apart.size)⟩ hq
  intro vs W1 hS hM hp
  clear szw1 E0 p3 fop6
  obtain ⟨E0, p3, fop6, sz1⟩ := hS
  obtain ⟨h1_0, h1_1, h1_2, h1_3, h1_4, h1_5, h1_6, h1_7, h1_8, h1_9, h1_10, h1_11, h1_12, h1_13, h1_14, h1_15, h1_16, h1_17, h1_18, h1_19, h1_20, h1_21, -⟩ := hp
  have hh := h1_21
  have p6 : BxA W1 (w.heap.size + 1) 27 #[.slice (cutA a0 c0 i) (j - i) (c0 - i), .slice (cutA a1 c1 i) (j - i) (c1 - i), .slice (cutA a2 c2 i) (j - i) (c2 - i), .slice (cutA a3 c3 i) (j - i) (c3 - i)] := hh
  clear fop6
  replace h1_0 : vs 0 = .pointer (some ⟨w.heap.size, 0, none⟩) := h1_0
  replace h1_1 : vs 1 = .slice a0 n0 c0 := h1_1
  replace h1_2 : vs 2 = .int .i64 (i : Int) := h1_2
  replace h1_3 : vs 3 = .int .i64 (j : Int) := h1_3
  replace h1_4 : vs 4 = .slice (cutA a0 c0 i) (j - i) (c0 - i) := h1_4
  replace h1_5 : vs 5 = .pointer (some ⟨w.heap.size, 1, none⟩) := h1_5
  replace h1_6 : vs 6 = .slice a1 n1 c1 := h1_6
  replace h1_7 : vs 7 = .int .i64 (i : Int) := h1_7
  replace h1_8 : vs 8 = .int .i64 (j : Int) := h1_8
  replace h1_9 : vs 9 = .slice (cutA a1 c1 i) (j - i) (c1 - i) := h1_9
  replace h1_10 : vs 10 = .pointer (some ⟨w.heap.size, 2, none⟩) := h1_10
  replace h1_11 : vs 11 = .slice a2 n2 c2 := h1_11
  replace h1_12 : vs 12 = .int .i64 (i : Int) := h1_12
  replace h1_13 : vs 13 = .int .i64 (j : Int) := h1_13
  replace h1_14 : vs 14 = .slice (cutA a2 c2 i) (j - i) (c2 - i) := h1_14
  replace h1_15 : vs 15 = .pointer (some ⟨w.heap.size, 3, none⟩) := h1_15
  replace h1_16 : vs 16 = .slice a3 n3 c3 := h1_16
  replace h1_17 : vs 17 = .int .i64 (i : Int) := h1_17
  replace h1_18 : vs 18 = .int .i64 (j : Int) := h1_18
  replace h1_19 : vs 19 = .slice (cutA a3 c3 i) (j - i) (c3 - i) := h1_19
  replace h1_20 : vs 20 = .agg #[.slice (cutA a0 c0 i) (j - i) (c0 - i), .slice (cutA a1 c1 i) (j - i) (c1 - i), .slice (cutA a2 c2 i) (j - i) (c2 - i), .slice (cutA a3 c3 i) (j - i) (c3 - i)] := h1_20
  clear hM
  simp only [h1_0, h1_1, h1_2, h1_3, h1_4, h1_5, h1_6, h1_7, h1_8, h1_9, h1_10, h1_11, h1_12, h1_13, h1_14, h1_15, h1_16, h1_17, h1_18, h1_19, h1_20]
  clear h1_0 h1_1 h1_2 h1_3 h1_4 h1_5 h1_6 h1_7 h1_8 h1_9 h1_10 h1_11 h1_12 h1_13 h1_14 h1_15 h1_16 h1_17 h1_18 h1_19 h1_20 h1_21
  clear sHO1_p6
  obtain ⟨kp3_0, kp3_1, kp3_2, kp3_3⟩ := p3.c4
  obtain ⟨kp6_0, kp6_1, kp6_2, kp6_3⟩ := p6.c4
  go_wp2
  exact bodyPost_ret (v := .agg #[.slice (cutA a0 c0 i) (j - i) (c0 - i), .slice (cutA a1 c1 i) (j - i) (c1 - i), .slice (cutA a2 c2 i) (j - i) (c2 - i), .slice (cutA a3 c3 i) (j - i) (c3 - i)]) (by simp [results, Try.results15, go_sem, kp6_0, kp6_1, kp6_2, kp6_3]) rfl ⟨rfl, E0⟩

set_option maxRecDepth 100000 in
set_option maxHeartbeats 64000000 in
theorem Try.lawAdamApart (lr b1 b2 eps wd pw0 pw1 f : Int) (ap : Bool) {n0 n1 n2 n3 : Nat} {a0 a1 a2 a3 : Option Addr} {c0 c1 c2 c3 : Nat} {lw lm lv lg : List Int} (at0 : Int) (w : World) (hs : n0 + n1 + n2 + n3 ≤ 9223372036854775807) (q1 : I64 lr) (q2 : I64 eps) (q3 : I64 wd) (hi0 : Iw 0 w.heap.size w a0 n0 c0 lw) (hi1 : Iw 0 w.heap.size w a1 n1 c1 lm) (hi2 : Iw 0 w.heap.size w a2 n2 c2 lv) (hi3 : Iw 0 w.heap.size w a3 n3 c3 lg) (hat : 0 ≤ at0 ∧ at0 < 256) :
    Calls Try.prog 5 #[.agg #[.int .i64 lr, .int .i64 b1, .int .i64 b2, .int .i64 eps, .int .i64 wd, .bool ap, .int .i64 f, .int .i64 pw0, .int .i64 pw1, .slice a0 n0 c0, .slice a1 n1 c1, .slice a2 n2 c2, .slice a3 n3 c3], .int .u8 at0] w fun e w' => e = .returned (.bool true) ∧ Ext w w' := by
  obtain ⟨j, rfl⟩ := Int.eq_ofNat_of_zero_le hat.1
  have hj8 : j < 256 := by omega
  have HQ := Lib.hid (And.intro (And.intro q1 q2) q3)
  have HSM := Lib.hid hs
  have HL := Lib.hid (And.intro hi0.len (And.intro hi1.len (And.intro hi2.len hi3.len)))
  have HJ := Lib.hid hj8
  clear q1 q2 q3 hs hat hj8
  obtain ⟨W0, hW0⟩ : ∃ W0, W0 = (w.alloc (.cells #[.int .i64 lr, .int .i64 b1, .int .i64 b2, .int .i64 eps, .int .i64 wd, .bool ap, .int .i64 f, .int .i64 pw0, .int .i64 pw1, .slice a0 n0 c0, .slice a1 n1 c1, .slice a2 n2 c2, .slice a3 n3 c3] 45)) := ⟨_, rfl⟩
  have E0 : Ext w W0 := by rw [hW0]; exact (Ext.alloc1 w (.cells #[.int .i64 lr, .int .i64 b1, .int .i64 b2, .int .i64 eps, .int .i64 wd, .bool ap, .int .i64 f, .int .i64 pw0, .int .i64 pw1, .slice a0 n0 c0, .slice a1 n1 c1, .slice a2 n2 c2, .slice a3 n3 c3] 45))
  replace hi0 : Iw 0 w.heap.size W0 a0 n0 c0 (lw) := hi0.ext E0
  replace hi1 : Iw 0 w.heap.size W0 a1 n1 c1 (lm) := hi1.ext E0
  replace hi2 : Iw 0 w.heap.size W0 a2 n2 c2 (lv) := hi2.ext E0
  replace hi3 : Iw 0 w.heap.size W0 a3 n3 c3 (lg) := hi3.ext E0
  have p2 : BxA W0 w.heap.size 45 #[.int .i64 lr, .int .i64 b1, .int .i64 b2, .int .i64 eps, .int .i64 wd, .bool ap, .int .i64 f, .int .i64 pw0, .int .i64 pw1, .slice a0 n0 c0, .slice a1 n1 c1, .slice a2 n2 c2, .slice a3 n3 c3] := by rw [hW0]; exact (BxA.new w 45 #[.int .i64 lr, .int .i64 b1, .int .i64 b2, .int .i64 eps, .int .i64 wd, .bool ap, .int .i64 f, .int .i64 pw0, .int .i64 pw1, .slice a0 n0 c0, .slice a1 n1 c1, .slice a2 n2 c2, .slice a3 n3 c3])
  go_enter Try.func5, Try.ntmps5
  obtain ⟨kp2_0, kp2_1, kp2_2, kp2_3, kp2_4, kp2_5, kp2_6, kp2_7, kp2_8, kp2_9, kp2_10, kp2_11, kp2_12⟩ := p2.cells13
  go_upto_region 1 with (fail)
  rw [← hW0]
  clear hW0
  clear kp2_0 kp2_1 kp2_2 kp2_3 kp2_4 kp2_5 kp2_6 kp2_7 kp2_8 kp2_9 kp2_10 kp2_11 kp2_12
  obtain ⟨kp2_0, kp2_1, kp2_2, kp2_3, kp2_4, kp2_5, kp2_6, kp2_7, kp2_8, kp2_9, kp2_10, kp2_11, kp2_12⟩ := p2.cells13
  go_upto_region 2 with (fail)
  clear kp2_0 kp2_1 kp2_2 kp2_3 kp2_4 kp2_5 kp2_6 kp2_7 kp2_8 kp2_9 kp2_10 kp2_11 kp2_12
  have p5 := BxA.new W0 27 #[.slice a0 n0 c0, .slice a1 n1 c1, .slice a2 n2 c2, .slice a3 n3 c3]
  have hE := Ext.alloc1 W0 (.cells #[.slice a0 n0 c0, .slice a1 n1 c1, .slice a2 n2 c2, .slice a3 n3 c3] 27)
  have lt0 := Ext.size E0
  have ltp2 := p2.lt
  obtain ⟨U5, hU5⟩ : ∃ U5, U5 = W0.alloc (.cells #[.slice a0 n0 c0, .slice a1 n1 c1, .slice a2 n2 c2, .slice a3 n3 c3] 27) := ⟨_, rfl⟩
  rw [← hU5] at p5 hE ⊢
  clear hU5
  replace E0 := (Ext.trans E0 hE)
  replace hi0 := (hi0.ext hE)
  replace hi1 := (hi1.ext hE)
  replace hi2 := (hi2.ext hE)
  replace hi3 := (hi3.ext hE)
  replace p2 := (p2.ext hE)
  clear hE
  obtain ⟨g5, hg5⟩ : ∃ g, g = W0.heap.size := ⟨_, rfl⟩
  rw [← hg5] at p5 lt0 ltp2 ⊢
  clear hg5
  have HS5 := Lib.hid (And.intro lt0 ltp2)
  clear lt0 ltp2
  have hj1 : (0 : Int) ≤ (j : Int) ∧ (j : Int) < 256 := by have := HJ.out; omega
  obtain ⟨kp2_0, kp2_1, kp2_2, kp2_3, kp2_4, kp2_5, kp2_6, kp2_7, kp2_8, kp2_9, kp2_10, kp2_11, kp2_12⟩ := p2.cells13
  obtain ⟨kp5_0, kp5_1, kp5_2, kp5_3⟩ := p5.c4
  go_wp2_with fail
  clear kp2_0 kp2_1 kp2_2 kp2_3 kp2_4 kp2_5 kp2_6 kp2_7 kp2_8 kp2_9 kp2_10 kp2_11 kp2_12 kp5_0 kp5_1 kp5_2 kp5_3
  refine (Try.refFew17 a0 n0 c0 a1 n1 c1 a2 n2 c2 a3 n3 c3 32 _ HSM.out).mono ?_
  rintro e Wc ⟨rfl, hE⟩
  replace E0 := (Ext.trans E0 hE)
  replace hi0 := (hi0.ext hE)
  replace hi1 := (hi1.ext hE)
  replace hi2 := (hi2.ext hE)
  replace hi3 := (hi3.ext hE)
  replace p2 := (p2.ext hE)
  replace p5 := (p5.ext hE)
  clear hE
  by_cases hf : n0 + n1 + n2 + n3 ≤ 32
  · rw [decide_eq_true hf]
    by_cases e1 : n0 = n1
    · subst e1
      by_cases e2 : n0 = n2
      · subst e2
        by_cases e3 : n0 = n3
        · subst e3
          by_cases ej : j ≤ n0
          · have ej2 : ¬ (n0 : Int) < (j : Int) := by omega
            have ej4 : ¬ n0 < j := by omega
            have hc0 := hi0.cap
            have hc1 := hi1.cap
            have hc2 := hi2.cap
            have hc3 := hi3.cap
            have HC : Hid (j ≤ n0 ∧ n0 ≤ 8 ∧ n0 ≤ c0 ∧ n0 ≤ c1 ∧ n0 ≤ c2 ∧ n0 ≤ c3) := Lib.hid (by omega)
            clear hc0 hc1 hc2 hc3 hf ej
            obtain ⟨E1, hE1⟩ : ∃ E, stepE ⟨lr, b1, b2, eps, wd, ap⟩ f pw0 pw1 (cutL lw 0 j) (cutL lm 0 j) (cutL lv 0 j) (cutL lg 0 j) = E := ⟨_, rfl⟩
            obtain ⟨xw1, hxw1⟩ : ∃ x, stepL p1of ⟨lr, b1, b2, eps, wd, ap⟩ f pw0 pw1 (cutL lw 0 j) (cutL lm 0 j) (cutL lv 0 j) (cutL lg 0 j) = x := ⟨_, rfl⟩
            obtain ⟨xm1, hxm1⟩ : ∃ x, stepL p2of ⟨lr, b1, b2, eps, wd, ap⟩ f pw0 pw1 (cutL lw 0 j) (cutL lm 0 j) (cutL lv 0 j) (cutL lg 0 j) = x := ⟨_, rfl⟩
            obtain ⟨xv1, hxv1⟩ : ∃ x, stepL p3of ⟨lr, b1, b2, eps, wd, ap⟩ f pw0 pw1 (cutL lw 0 j) (cutL lm 0 j) (cutL lv 0 j) (cutL lg 0 j) = x := ⟨_, rfl⟩
            have HST1 := Lib.hid (And.intro hE1 (And.intro hxw1 (And.intro hxm1 hxv1)))
            obtain ⟨E2, hE2⟩ : ∃ E, stepE ⟨lr, b1, b2, eps, wd, ap⟩ f pw0 pw1 (cutL lw j n0) (cutL lm j n0) (cutL lv j n0) (cutL lg j n0) = E := ⟨_, rfl⟩
            obtain ⟨xw2, hxw2⟩ : ∃ x, stepL p1of ⟨lr, b1, b2, eps, wd, ap⟩ f pw0 pw1 (cutL lw j n0) (cutL lm j n0) (cutL lv j n0) (cutL lg j n0) = x := ⟨_, rfl⟩
            obtain ⟨xm2, hxm2⟩ : ∃ x, stepL p2of ⟨lr, b1, b2, eps, wd, ap⟩ f pw0 pw1 (cutL lw j n0) (cutL lm j n0) (cutL lv j n0) (cutL lg j n0) = x := ⟨_, rfl⟩
            obtain ⟨xv2, hxv2⟩ : ∃ x, stepL p3of ⟨lr, b1, b2, eps, wd, ap⟩ f pw0 pw1 (cutL lw j n0) (cutL lm j n0) (cutL lv j n0) (cutL lg j n0) = x := ⟨_, rfl⟩
            have HST2 := Lib.hid (And.intro hE2 (And.intro hxw2 (And.intro hxm2 hxv2)))
            obtain ⟨E3, hE3⟩ : ∃ E, stepE ⟨lr, b1, b2, eps, wd, ap⟩ f pw0 pw1 lw lm lv lg = E := ⟨_, rfl⟩
            obtain ⟨xw3, hxw3⟩ : ∃ x, stepL p1of ⟨lr, b1, b2, eps, wd, ap⟩ f pw0 pw1 lw lm lv lg = x := ⟨_, rfl⟩
            obtain ⟨xm3, hxm3⟩ : ∃ x, stepL p2of ⟨lr, b1, b2, eps, wd, ap⟩ f pw0 pw1 lw lm lv lg = x := ⟨_, rfl⟩
            obtain ⟨xv3, hxv3⟩ : ∃ x, stepL p3of ⟨lr, b1, b2, eps, wd, ap⟩ f pw0 pw1 lw lm lv lg = x := ⟨_, rfl⟩
            have HST3 := Lib.hid (And.intro hE3 (And.intro hxw3 (And.intro hxm3 hxv3)))
            have HMM : Hid (xw1.length ≤ 40 ∧ xw2.length ≤ 40) := Lib.hid (by
              have hl := HL.out.1
              have hcc := HC.out
              have h1 := cutL_len (l := lw) (i := 0) (j := j) (by omega)
              have h2 := cutL_len (l := lw) (i := j) (j := n0) (by omega)
              have h3 := stepL_le (q := p1of) (A := ⟨lr, b1, b2, eps, wd, ap⟩) (f := f) (p0 := pw0) (p1 := pw1) (lw := cutL lw 0 j) (lm := cutL lm 0 j) (lv := cutL lv 0 j) (lg := cutL lg 0 j)
              have h4 := stepL_le (q := p1of) (A := ⟨lr, b1, b2, eps, wd, ap⟩) (f := f) (p0 := pw0) (p1 := pw1) (lw := cutL lw j n0) (lm := cutL lm j n0) (lv := cutL lv j n0) (lg := cutL lg j n0)
              rw [hxw1] at h3
              rw [hxw2] at h4
              omega)
            have HD : Hid ((E1 = 0 → E2 = 0 → E3 = 0 ∧ xw3 = xw1 ++ xw2 ∧ xm3 = xm1 ++ xm2 ∧ xv3 = xv1 ++ xv2) ∧ (E3 = 0 → E1 = 0 ∧ E2 = 0)) := Lib.hid (by
              subst hE1 hE2 hE3 hxw1 hxw2 hxw3 hxm1 hxm2 hxm3 hxv1 hxv2 hxv3
              have hl := HL.out
              refine ⟨fun k1 k2 => ?_, fun k3 => apart_no hl.1 HC.out.1 k3⟩
              have h := apart_yes hl.1 hl.2.1 hl.2.2.1 hl.2.2.2 HC.out.1 k1 k2
              exact ⟨h.1, h.2 _, h.2 _, h.2 _⟩)
            clear hE1 hxw1 hxm1 hxv1 hE2 hxw2 hxm2 hxv2 hE3 hxw3 hxm3 hxv3
            obtain ⟨kp2_0, kp2_1, kp2_2, kp2_3, kp2_4, kp2_5, kp2_6, kp2_7, kp2_8, kp2_9, kp2_10, kp2_11, kp2_12⟩ := p2.cells13
            obtain ⟨kp5_0, kp5_1, kp5_2, kp5_3⟩ := p5.c4
            go_upto_region 6 with (fail)
            clear kp2_0 kp2_1 kp2_2 kp2_3 kp2_4 kp2_5 kp2_6 kp2_7 kp2_8 kp2_9 kp2_10 kp2_11 kp2_12 kp5_0 kp5_1 kp5_2 kp5_3
            have sHS5 := HS5.out
            have ltp2 := p2.lt
            have ltp5 := p5.lt
            have szw2 := Ext.size E0
            refine region_go4 [.one fun v _ => v = .pointer (some ⟨w.heap.size, 0, none⟩),
                .one fun v _ => v = .agg #[.int .i64 lr, .int .i64 b1, .int .i64 b2, .int .i64 eps, .int .i64 wd, .bool ap],
                .one fun v _ => v = .pointer (some ⟨w.heap.size, 6, none⟩),
                .one fun v _ => v = .int .i64 f,
                .one fun v _ => v = .pointer (some ⟨w.heap.size, 7, none⟩),
                .one fun v _ => v = .agg #[.int .i64 pw0, .int .i64 pw1],
                .one fun v _ => v = .agg #[.slice a0 n0 c0, .slice a1 n0 c1, .slice a2 n0 c2, .slice a3 n0 c3],
                .one fun v _ => v = .int .i64 (j : Int),
                .one fun v _ => v = .agg #[.slice (cutA a0 c0 0) (j - 0) (c0 - 0), .slice (cutA a1 c1 0) (j - 0) (c1 - 0), .slice (cutA a2 c2 0) (j - 0) (c2 - 0), .slice (cutA a3 c3 0) (j - 0) (c3 - 0)],
                .one fun v W => StepAt Wc.heap.size W v E1 xw1 xm1 xv1,
                .two 9 fun p v _ => v = p ∧ ∃ (x1 x2 x3 : Option Addr) (m : Nat), p = .tuple #[.agg #[.slice x1 m m, .slice x2 m m, .slice x3 m m, .slice none 0 0], .int .i64 E1],
                .two 10 fun p v _ => ∃ (x1 x2 x3 : Option Addr) (m : Nat), p = .tuple #[.agg #[.slice x1 m m, .slice x2 m m, .slice x3 m m, .slice none 0 0], .int .i64 E1] ∧ v = .agg #[.slice x1 m m, .slice x2 m m, .slice x3 m m, .slice none 0 0],
                .one fun v _ => v = .int .i64 E1,
                .one fun v W => ∃ g, v = .pointer (some ⟨g, 0, none⟩) ∧ Wc.heap.size ≤ g ∧ Form W g 27 4,
                .three 13 11 fun p v _ W => NewS Wc.heap.size 27 p v W,
                .one fun v _ => v = .int .i64 E1]
              (fun W => Ext w W ∧ Iw 0 w.heap.size W a0 n0 c0 (lw) ∧ Iw 0 w.heap.size W a1 n0 c1 (lm) ∧ Iw 0 w.heap.size W a2 n0 c2 (lv) ∧ Iw 0 w.heap.size W a3 n0 c3 (lg) ∧ BxA W w.heap.size 45 #[.int .i64 lr, .int .i64 b1, .int .i64 b2, .int .i64 eps, .int .i64 wd, .bool ap, .int .i64 f, .int .i64 pw0, .int .i64 pw1, .slice a0 n0 c0, .slice a1 n0 c1, .slice a2 n0 c2, .slice a3 n0 c3] ∧ BxA W g5 27 #[.slice a0 n0 c0, .slice a1 n0 c1, .slice a2 n0 c2, .slice a3 n0 c3] ∧ Wc.heap.size ≤ W.heap.size) Wc.heap.size [(9, 1), (13, 2)] [Tag4.any, Tag4.any, Tag4.any, Tag4.any, Tag4.any, Tag4.any, Tag4.any, Tag4.any, Tag4.any, Tag4.on 9, Tag4.any, Tag4.any, Tag4.any, Tag4.any, Tag4.on 13, Tag4.any] ⟨tag4_good (Good.is _), tag4_good (Good.is _), tag4_good (Good.is _), tag4_good (Good.is _), tag4_good (Good.is _), tag4_good (Good.is _), tag4_good (Good.is _), tag4_good (Good.is _), tag4_good (Good.is _), tag_stepAt, tag4_two, tag4_two, tag4_good (Good.is _), tag4_good (Good.box _ _ _), tag_newS, tag4_good (Good.is _), trivial⟩
              (fun W W1 hS hE => ⟨(Ext.trans hS.1 hE), (hS.2.1.ext hE), (hS.2.2.1.ext hE), (hS.2.2.2.1.ext hE), (hS.2.2.2.2.1.ext hE), (hS.2.2.2.2.2.1.ext hE), (hS.2.2.2.2.2.2.1.ext hE), (Nat.le_trans hS.2.2.2.2.2.2.2 (Ext.size hE))⟩) (fun W W1 g hS hw hg => ⟨(Ext.wr hS.1 hw (by omega)), (hS.2.1.wr hw (by omega)), (hS.2.2.1.wr hw (by omega)), (hS.2.2.2.1.wr hw (by omega)), (hS.2.2.2.2.1.wr hw (by omega)), (hS.2.2.2.2.2.1.wr hw (by omega)), (hS.2.2.2.2.2.2.1.wr hw (by omega)), (Nat.le_trans hS.2.2.2.2.2.2.2 hw.apart.size)⟩) ⟨E0, hi0, hi1, hi2, hi3, p2, p5, Nat.le_refl _⟩ (fun m hm => by simp at hm; rcases hm with rfl | rfl <;> rfl) (by kernel_rfl) (by kernel_rfl) (by kernel_rfl) (by kernel_rfl) (A := ?A2) ?hA2 ?howe2 ?hfin2
            case hA2 =>
              intro vs
              simp only [putAll, Act.put, List.setIfInBounds_toArray, List.set_cons_zero, List.set_cons_succ, Nat.zero_add, Nat.reduceAdd]
              exact rfl
            case howe2 =>
              clear E0 hi0 hi1 hi2 hi3 p2 p5
              intro hf
              refine ⟨owes4E 0 [] hf rfl rfl (by kernel_rfl) ?_, owes4E 1 [0] hf rfl rfl (by kernel_rfl) ?_, owes4E 2 [] hf rfl rfl (by kernel_rfl) ?_, owes4E 3 [2] hf rfl rfl (by kernel_rfl) ?_, owes4E 4 [] hf rfl rfl (by kernel_rfl) ?_, owes4E 5 [4] hf rfl rfl (by kernel_rfl) ?_, owes4E 6 [] hf rfl rfl (by kernel_rfl) ?_, owes4E 7 [] hf rfl rfl (by kernel_rfl) ?_, owes4E 8 [6, 7] hf rfl rfl (by kernel_rfl) ?_, owes4N 9 [1, 3, 5, 8] hf rfl (by kernel_rfl) ?_, owes4E 10 [9] hf rfl rfl (by kernel_rfl) ?_, owes4E 11 [10] hf rfl rfl (by kernel_rfl) ?_, owes4E 12 [10] hf rfl rfl (by kernel_rfl) ?_, owes4N 13 [] hf rfl (by kernel_rfl) ?_, owes4P 14 13 [13, 11] hf rfl rfl (by kernel_rfl) rfl (by kernel_rfl) ?_, owes4E 15 [12] hf rfl rfl (by kernel_rfl) ?_, trivial⟩
              all_goals intro vs W hS hp hx KO hKO
              all_goals simp only [Act.put, List.setIfInBounds_toArray, List.set_cons_zero, List.set_cons_succ] at hKO
              · go_simp
                exact hKO _ W (Ext.refl W) rfl
              · have e0 := isOf hp.1
                simp only [e0] at hKO
                have fc0 := BxA.cell (hS.2.2.2.2.2.1) 0 (v := .int .i64 lr) rfl
                have fc1 := BxA.cell (hS.2.2.2.2.2.1) 1 (v := .int .i64 b1) rfl
                have fc2 := BxA.cell (hS.2.2.2.2.2.1) 2 (v := .int .i64 b2) rfl
                have fc3 := BxA.cell (hS.2.2.2.2.2.1) 3 (v := .int .i64 eps) rfl
                have fc4 := BxA.cell (hS.2.2.2.2.2.1) 4 (v := .int .i64 wd) rfl
                have fc5 := BxA.cell (hS.2.2.2.2.2.1) 5 (v := .bool ap) rfl
                go_simp
                exact hKO _ W (Ext.refl W) rfl
              · go_simp
                exact hKO _ W (Ext.refl W) rfl
              · have e2 := isOf hp.1
                simp only [e2] at hKO
                have fc6 := BxA.cell (hS.2.2.2.2.2.1) 6 (v := .int .i64 f) rfl
                go_simp
                exact hKO _ W (Ext.refl W) rfl
              · go_simp
                exact hKO _ W (Ext.refl W) rfl
              · have e4 := isOf hp.1
                simp only [e4] at hKO
                have fc7 := BxA.cell (hS.2.2.2.2.2.1) 7 (v := .int .i64 pw0) rfl
                have fc8 := BxA.cell (hS.2.2.2.2.2.1) 8 (v := .int .i64 pw1) rfl
                go_simp
                exact hKO _ W (Ext.refl W) rfl
              · have fc0 := BxA.cell (hS.2.2.2.2.2.2.1) 0 (v := .slice a0 n0 c0) rfl
                have fc1 := BxA.cell (hS.2.2.2.2.2.2.1) 1 (v := .slice a1 n0 c1) rfl
                have fc2 := BxA.cell (hS.2.2.2.2.2.2.1) 2 (v := .slice a2 n0 c2) rfl
                have fc3 := BxA.cell (hS.2.2.2.2.2.2.1) 3 (v := .slice a3 n0 c3) rfl
                go_simp
                exact hKO _ W (Ext.refl W) rfl
              · go_simp
                exact hKO _ W (Ext.refl W) rfl
              · have e6 := isOf hp.1
                have e7 := isOf hp.2.1
                simp only [e6, e7] at hKO
                go_simp
                refine (Try.lawPart (i := 0) (j := j) 0 (j : Int) rfl rfl (Nat.zero_le _) (by have := HC.out; omega) (by have := HC.out; omega) (by have := HC.out; omega) (by have := HC.out; omega) _).mono ?_
                rintro e W1 ⟨rfl, hE⟩
                exact hKO _ W1 hE rfl
              · have e1 := isOf hp.1
                have e3 := isOf hp.2.1
                have e5 := isOf hp.2.2.1
                have e8 := isOf hp.2.2.2.1
                simp only [e1, e3, e5, e8] at hKO
                have hsz := hS.2.2.2.2.2.2.2
                have hcc := HC.out
                go_simp
                refine (Try.adamStepIs lr b1 b2 eps wd pw0 pw1 ap f _ HST1.out (by omega) HQ.out.1.1 HQ.out.1.2 HQ.out.2 ((hS.2.1.cut (Nat.zero_le _) hcc.1).mono (Nat.le_refl _) (Ext.size hS.1)) ((hS.2.2.1.cut (Nat.zero_le _) hcc.1).mono (Nat.le_refl _) (Ext.size hS.1)) ((hS.2.2.2.1.cut (Nat.zero_le _) hcc.1).mono (Nat.le_refl _) (Ext.size hS.1)) ((hS.2.2.2.2.1.cut (Nat.zero_le _) hcc.1).mono (Nat.le_refl _) (Ext.size hS.1))).mono ?_
                rintro e W1 ⟨⟨v, rfl, hst⟩, hE⟩
                exact hKO v W1 hE (fun g hg => hst.fresh hg) (hst.low hsz)
              · have q9 := hp.1
                go_simp
                exact hKO _ W (Ext.refl W) ⟨rfl, q9.shape⟩
              · have q10 := hp.1
                obtain ⟨em, x1, x2, x3, m, ep⟩ := q10
                have e10 : vs 10 = .tuple #[.agg #[.slice x1 m m, .slice x2 m m, .slice x3 m m, .slice none 0 0], .int .i64 E1] := Eq.trans em ep
                clear em ep
                simp only [e10] at hKO
                go_simp
                exact hKO _ W (Ext.refl W) ⟨x1, x2, x3, m, e10, rfl⟩
              · have q10 := hp.1
                obtain ⟨em, x1, x2, x3, m, ep⟩ := q10
                have e10 : vs 10 = .tuple #[.agg #[.slice x1 m m, .slice x2 m m, .slice x3 m m, .slice none 0 0], .int .i64 E1] := Eq.trans em ep
                clear em ep
                simp only [e10] at hKO
                go_simp
                exact hKO _ W (Ext.refl W) rfl
              · have hn := BxA.new W 27 #[.slice none 0 0, .slice none 0 0, .slice none 0 0, .slice none 0 0]
                have hsz := hS.2.2.2.2.2.2.2
                have hlt := hn.lt
                go_simp
                exact hKO _ _ (Ext.alloc1 W _) (fun g hg => by have hq : W.heap.size = g := hg; exact ⟨by omega, by omega⟩) ⟨_, rfl, hsz, ⟨_, hn, (noU4 none 0 0 none 0 0 none 0 0 none 0 0), rfl⟩⟩
              · have q13 := hp.1
                have q11 := hp.2.1
                obtain ⟨g, ev, hg, hfo⟩ := q13
                replace ev : vs 13 = _ := ev
                obtain ⟨x1, x2, x3, m, -, eu⟩ := q11
                replace eu : vs 11 = _ := eu
                obtain ⟨y0, y1, y2, y3, c0_, c1_, c2_, c3_, hfz, W2, hW2, hw, hq⟩ := hfo.put4 (.slice x1 m m) (.slice x2 m m) (.slice x3 m m) (.slice none 0 0) (noU4 _ _ _ _ _ _ _ _ _ _ _ _)
                have z0 := hfz 0
                have z1 := hfz 1
                have z2 := hfz 2
                have z3 := hfz 3
                simp only [ev, eu] at hKO
                go_simp
                rw [← hW2]
                exact hKO _ g rfl hg hw ⟨g, x1, x2, x3, m, eu, ev, hg, hq⟩
              · have e12 := isOf hp.1
                simp only [e12] at hKO
                go_simp
                exact hKO _ W (Ext.refl W) rfl
            intro vs W2 hS hp
            clear szw2 E0 hi0 hi1 hi2 hi3 p2 p5
            obtain ⟨E0, hi0, hi1, hi2, hi3, p2, p5, sz2⟩ := hS
            obtain ⟨h2_0, h2_1, h2_2, h2_3, h2_4, h2_5, h2_6, h2_7, h2_8, h2_9, h2_10, h2_11, h2_12, h2_13, h2_14, h2_15, -⟩ := hp
            have st1 := h2_9
            have mv1 := h2_10
            have ex1 := h2_11
            skip
            obtain ⟨x11, x12, x13, m1, es1, i11, i12, i13⟩ := st1
            obtain ⟨em1, -⟩ := mv1
            obtain ⟨z1, z2, z3, mz, ez1, ez2⟩ := ex1
            have nb1 := h2_14
            obtain ⟨g8, y1, y2, y3, my, ey1, ev8, hg8, p8⟩ := nb1
            obtain ⟨rfl, rfl, rfl, rfl⟩ := step_inj (Eq.trans (Eq.symm ez1) (Eq.trans em1 es1))
            obtain ⟨rfl, rfl, rfl, rfl⟩ := agg_inj (Eq.trans (Eq.symm ey1) ez2)
            replace ev8 : vs 13 = _ := ev8
            clear es1 em1 ez1 ez2 ey1
            obtain ⟨hx1, hhx⟩ : ∃ n, n = W2.heap.size := ⟨_, rfl⟩
            rw [← hhx] at i11 i12 i13
            have sz1 := Nat.le_of_eq hhx
            clear hhx
            replace h2_0 : vs 0 = .pointer (some ⟨w.heap.size, 0, none⟩) := h2_0
            replace h2_1 : vs 1 = .agg #[.int .i64 lr, .int .i64 b1, .int .i64 b2, .int .i64 eps, .int .i64 wd, .bool ap] := h2_1
            replace h2_2 : vs 2 = .pointer (some ⟨w.heap.size, 6, none⟩) := h2_2
            replace h2_3 : vs 3 = .int .i64 f := h2_3
            replace h2_4 : vs 4 = .pointer (some ⟨w.heap.size, 7, none⟩) := h2_4
            replace h2_5 : vs 5 = .agg #[.int .i64 pw0, .int .i64 pw1] := h2_5
            replace h2_6 : vs 6 = .agg #[.slice a0 n0 c0, .slice a1 n0 c1, .slice a2 n0 c2, .slice a3 n0 c3] := h2_6
            replace h2_7 : vs 7 = .int .i64 (j : Int) := h2_7
            replace h2_8 : vs 8 = .agg #[.slice (cutA a0 c0 0) (j - 0) (c0 - 0), .slice (cutA a1 c1 0) (j - 0) (c1 - 0), .slice (cutA a2 c2 0) (j - 0) (c2 - 0), .slice (cutA a3 c3 0) (j - 0) (c3 - 0)] := h2_8
            replace h2_12 : vs 12 = .int .i64 E1 := h2_12
            replace h2_15 : vs 15 = .int .i64 E1 := h2_15
            simp only [ev8, h2_0, h2_1, h2_2, h2_3, h2_4, h2_5, h2_6, h2_7, h2_8, h2_12, h2_15]
            clear ev8 h2_0 h2_1 h2_2 h2_3 h2_4 h2_5 h2_6 h2_7 h2_8 h2_12 h2_15 h2_9 h2_10 h2_11 h2_13 h2_14
            clear sHS5
            have HG8 := Lib.hid hg8
            clear hg8
            obtain ⟨kp2_0, kp2_1, kp2_2, kp2_3, kp2_4, kp2_5, kp2_6, kp2_7, kp2_8, kp2_9, kp2_10, kp2_11, kp2_12⟩ := p2.cells13
            obtain ⟨kp5_0, kp5_1, kp5_2, kp5_3⟩ := p5.c4
            obtain ⟨kp8_0, kp8_1, kp8_2, kp8_3⟩ := p8.c4
            go_upto_region 7 with (fail)
            clear kp2_0 kp2_1 kp2_2 kp2_3 kp2_4 kp2_5 kp2_6 kp2_7 kp2_8 kp2_9 kp2_10 kp2_11 kp2_12 kp5_0 kp5_1 kp5_2 kp5_3 kp8_0 kp8_1 kp8_2 kp8_3
            have sHS5 := HS5.out
            have sHG8 := HG8.out
            have ltp8 := p8.lt
            have ltsz1 := sz1
            have szw3 := Ext.size E0
            refine region_go4 [.one fun v _ => v = .pointer (some ⟨w.heap.size, 0, none⟩),
                .one fun v _ => v = .agg #[.int .i64 lr, .int .i64 b1, .int .i64 b2, .int .i64 eps, .int .i64 wd, .bool ap],
                .one fun v _ => v = .pointer (some ⟨w.heap.size, 6, none⟩),
                .one fun v _ => v = .int .i64 f,
                .one fun v _ => v = .pointer (some ⟨w.heap.size, 7, none⟩),
                .one fun v _ => v = .agg #[.int .i64 pw0, .int .i64 pw1],
                .one fun v _ => v = .agg #[.slice a0 n0 c0, .slice a1 n0 c1, .slice a2 n0 c2, .slice a3 n0 c3],
                .one fun v _ => v = .int .i64 (j : Int),
                .one fun v _ => v = .int .i64 (n0 : Int),
                .one fun v _ => v = .agg #[.slice (cutA a0 c0 j) (n0 - j) (c0 - j), .slice (cutA a1 c1 j) (n0 - j) (c1 - j), .slice (cutA a2 c2 j) (n0 - j) (c2 - j), .slice (cutA a3 c3 j) (n0 - j) (c3 - j)],
                .one fun v W => StepAt W2.heap.size W v E2 xw2 xm2 xv2,
                .two 10 fun p v _ => v = p ∧ ∃ (x1 x2 x3 : Option Addr) (m : Nat), p = .tuple #[.agg #[.slice x1 m m, .slice x2 m m, .slice x3 m m, .slice none 0 0], .int .i64 E2],
                .two 11 fun p v _ => ∃ (x1 x2 x3 : Option Addr) (m : Nat), p = .tuple #[.agg #[.slice x1 m m, .slice x2 m m, .slice x3 m m, .slice none 0 0], .int .i64 E2] ∧ v = .agg #[.slice x1 m m, .slice x2 m m, .slice x3 m m, .slice none 0 0],
                .one fun v _ => v = .int .i64 E2,
                .one fun v W => ∃ g, v = .pointer (some ⟨g, 0, none⟩) ∧ W2.heap.size ≤ g ∧ Form W g 27 4,
                .three 14 12 fun p v _ W => NewS W2.heap.size 27 p v W,
                .one fun v _ => v = .int .i64 E2]
              (fun W => Ext w W ∧ Iw 0 w.heap.size W a0 n0 c0 (lw) ∧ Iw 0 w.heap.size W a1 n0 c1 (lm) ∧ Iw 0 w.heap.size W a2 n0 c2 (lv) ∧ Iw 0 w.heap.size W a3 n0 c3 (lg) ∧ BxA W w.heap.size 45 #[.int .i64 lr, .int .i64 b1, .int .i64 b2, .int .i64 eps, .int .i64 wd, .bool ap, .int .i64 f, .int .i64 pw0, .int .i64 pw1, .slice a0 n0 c0, .slice a1 n0 c1, .slice a2 n0 c2, .slice a3 n0 c3] ∧ BxA W g5 27 #[.slice a0 n0 c0, .slice a1 n0 c1, .slice a2 n0 c2, .slice a3 n0 c3] ∧ BxA W g8 27 #[.slice x11 m1 m1, .slice x12 m1 m1, .slice x13 m1 m1, .slice none 0 0] ∧ Iw Wc.heap.size hx1 W x11 m1 m1 (xw1) ∧ Iw Wc.heap.size hx1 W x12 m1 m1 (xm1) ∧ Iw Wc.heap.size hx1 W x13 m1 m1 (xv1) ∧ hx1 ≤ W.heap.size ∧ W2.heap.size ≤ W.heap.size) W2.heap.size [(10, 1), (14, 2)] [Tag4.any, Tag4.any, Tag4.any, Tag4.any, Tag4.any, Tag4.any, Tag4.any, Tag4.any, Tag4.any, Tag4.any, Tag4.on 10, Tag4.any, Tag4.any, Tag4.any, Tag4.any, Tag4.on 14, Tag4.any] ⟨tag4_good (Good.is _), tag4_good (Good.is _), tag4_good (Good.is _), tag4_good (Good.is _), tag4_good (Good.is _), tag4_good (Good.is _), tag4_good (Good.is _), tag4_good (Good.is _), tag4_good (Good.is _), tag4_good (Good.is _), tag_stepAt, tag4_two, tag4_two, tag4_good (Good.is _), tag4_good (Good.box _ _ _), tag_newS, tag4_good (Good.is _), trivial⟩
              (fun W W1 hS hE => ⟨(Ext.trans hS.1 hE), (hS.2.1.ext hE), (hS.2.2.1.ext hE), (hS.2.2.2.1.ext hE), (hS.2.2.2.2.1.ext hE), (hS.2.2.2.2.2.1.ext hE), (hS.2.2.2.2.2.2.1.ext hE), (hS.2.2.2.2.2.2.2.1.ext hE), (hS.2.2.2.2.2.2.2.2.1.ext hE), (hS.2.2.2.2.2.2.2.2.2.1.ext hE), (hS.2.2.2.2.2.2.2.2.2.2.1.ext hE), (Nat.le_trans hS.2.2.2.2.2.2.2.2.2.2.2.1 (Ext.size hE)), (Nat.le_trans hS.2.2.2.2.2.2.2.2.2.2.2.2 (Ext.size hE))⟩) (fun W W1 g hS hw hg => ⟨(Ext.wr hS.1 hw (by omega)), (hS.2.1.wr hw (by omega)), (hS.2.2.1.wr hw (by omega)), (hS.2.2.2.1.wr hw (by omega)), (hS.2.2.2.2.1.wr hw (by omega)), (hS.2.2.2.2.2.1.wr hw (by omega)), (hS.2.2.2.2.2.2.1.wr hw (by omega)), (hS.2.2.2.2.2.2.2.1.wr hw (by omega)), (hS.2.2.2.2.2.2.2.2.1.wr hw (by omega)), (hS.2.2.2.2.2.2.2.2.2.1.wr hw (by omega)), (hS.2.2.2.2.2.2.2.2.2.2.1.wr hw (by omega)), (Nat.le_trans hS.2.2.2.2.2.2.2.2.2.2.2.1 hw.apart.size), (Nat.le_trans hS.2.2.2.2.2.2.2.2.2.2.2.2 hw.apart.size)⟩) ⟨E0, hi0, hi1, hi2, hi3, p2, p5, p8, i11, i12, i13, sz1, Nat.le_refl _⟩ (fun m hm => by simp at hm; rcases hm with rfl | rfl <;> rfl) (by kernel_rfl) (by kernel_rfl) (by kernel_rfl) (by kernel_rfl) (A := ?A3) ?hA3 ?howe3 ?hfin3
            case hA3 =>
              intro vs
              simp only [putAll, Act.put, List.setIfInBounds_toArray, List.set_cons_zero, List.set_cons_succ, Nat.zero_add, Nat.reduceAdd]
              exact rfl
            case howe3 =>
              clear E0 hi0 hi1 hi2 hi3 p2 p5 p8 i11 i12 i13 sz1
              intro hf
              refine ⟨owes4E 0 [] hf rfl rfl (by kernel_rfl) ?_, owes4E 1 [0] hf rfl rfl (by kernel_rfl) ?_, owes4E 2 [] hf rfl rfl (by kernel_rfl) ?_, owes4E 3 [2] hf rfl rfl (by kernel_rfl) ?_, owes4E 4 [] hf rfl rfl (by kernel_rfl) ?_, owes4E 5 [4] hf rfl rfl (by kernel_rfl) ?_, owes4E 6 [] hf rfl rfl (by kernel_rfl) ?_, owes4E 7 [] hf rfl rfl (by kernel_rfl) ?_, owes4E 8 [] hf rfl rfl (by kernel_rfl) ?_, owes4E 9 [6, 7, 8] hf rfl rfl (by kernel_rfl) ?_, owes4N 10 [1, 3, 5, 9] hf rfl (by kernel_rfl) ?_, owes4E 11 [10] hf rfl rfl (by kernel_rfl) ?_, owes4E 12 [11] hf rfl rfl (by kernel_rfl) ?_, owes4E 13 [11] hf rfl rfl (by kernel_rfl) ?_, owes4N 14 [] hf rfl (by kernel_rfl) ?_, owes4P 15 14 [14, 12] hf rfl rfl (by kernel_rfl) rfl (by kernel_rfl) ?_, owes4E 16 [13] hf rfl rfl (by kernel_rfl) ?_, trivial⟩
              all_goals intro vs W hS hp hx KO hKO
              all_goals simp only [Act.put, List.setIfInBounds_toArray, List.set_cons_zero, List.set_cons_succ] at hKO
              · go_simp
                exact hKO _ W (Ext.refl W) rfl
              · have e0 := isOf hp.1
                simp only [e0] at hKO
                have fc0 := BxA.cell (hS.2.2.2.2.2.1) 0 (v := .int .i64 lr) rfl
                have fc1 := BxA.cell (hS.2.2.2.2.2.1) 1 (v := .int .i64 b1) rfl
                have fc2 := BxA.cell (hS.2.2.2.2.2.1) 2 (v := .int .i64 b2) rfl
                have fc3 := BxA.cell (hS.2.2.2.2.2.1) 3 (v := .int .i64 eps) rfl
                have fc4 := BxA.cell (hS.2.2.2.2.2.1) 4 (v := .int .i64 wd) rfl
                have fc5 := BxA.cell (hS.2.2.2.2.2.1) 5 (v := .bool ap) rfl
                go_simp
                exact hKO _ W (Ext.refl W) rfl
              · go_simp
                exact hKO _ W (Ext.refl W) rfl
              · have e2 := isOf hp.1
                simp only [e2] at hKO
                have fc6 := BxA.cell (hS.2.2.2.2.2.1) 6 (v := .int .i64 f) rfl
                go_simp
                exact hKO _ W (Ext.refl W) rfl
              · go_simp
                exact hKO _ W (Ext.refl W) rfl
              · have e4 := isOf hp.1
                simp only [e4] at hKO
                have fc7 := BxA.cell (hS.2.2.2.2.2.1) 7 (v := .int .i64 pw0) rfl
                have fc8 := BxA.cell (hS.2.2.2.2.2.1) 8 (v := .int .i64 pw1) rfl
                go_simp
                exact hKO _ W (Ext.refl W) rfl
              · have fc0 := BxA.cell (hS.2.2.2.2.2.2.1) 0 (v := .slice a0 n0 c0) rfl
                have fc1 := BxA.cell (hS.2.2.2.2.2.2.1) 1 (v := .slice a1 n0 c1) rfl
                have fc2 := BxA.cell (hS.2.2.2.2.2.2.1) 2 (v := .slice a2 n0 c2) rfl
                have fc3 := BxA.cell (hS.2.2.2.2.2.2.1) 3 (v := .slice a3 n0 c3) rfl
                go_simp
                exact hKO _ W (Ext.refl W) rfl
              · go_simp
                exact hKO _ W (Ext.refl W) rfl
              · go_simp
                exact hKO _ W (Ext.refl W) rfl
              · have e6 := isOf hp.1
                have e7 := isOf hp.2.1
                have e8 := isOf hp.2.2.1
                simp only [e6, e7, e8] at hKO
                go_simp
                refine (Try.lawPart (i := j) (j := n0) (j : Int) (n0 : Int) rfl rfl HC.out.1 (by have := HC.out; omega) (by have := HC.out; omega) (by have := HC.out; omega) (by have := HC.out; omega) _).mono ?_
                rintro e W1 ⟨rfl, hE⟩
                exact hKO _ W1 hE rfl
              · have e1 := isOf hp.1
                have e3 := isOf hp.2.1
                have e5 := isOf hp.2.2.1
                have e9 := isOf hp.2.2.2.1
                simp only [e1, e3, e5, e9] at hKO
                have hsz := hS.2.2.2.2.2.2.2.2.2.2.2.2
                have hcc := HC.out
                go_simp
                refine (Try.adamStepIs lr b1 b2 eps wd pw0 pw1 ap f _ HST2.out (by omega) HQ.out.1.1 HQ.out.1.2 HQ.out.2 ((hS.2.1.cut hcc.1 (Nat.le_refl _)).mono (Nat.le_refl _) (Ext.size hS.1)) ((hS.2.2.1.cut hcc.1 (Nat.le_refl _)).mono (Nat.le_refl _) (Ext.size hS.1)) ((hS.2.2.2.1.cut hcc.1 (Nat.le_refl _)).mono (Nat.le_refl _) (Ext.size hS.1)) ((hS.2.2.2.2.1.cut hcc.1 (Nat.le_refl _)).mono (Nat.le_refl _) (Ext.size hS.1))).mono ?_
                rintro e W1 ⟨⟨v, rfl, hst⟩, hE⟩
                exact hKO v W1 hE (fun g hg => hst.fresh hg) (hst.low hsz)
              · have q10 := hp.1
                go_simp
                exact hKO _ W (Ext.refl W) ⟨rfl, q10.shape⟩
              · have q11 := hp.1
                obtain ⟨em, x1, x2, x3, m, ep⟩ := q11
                have e11 : vs 11 = .tuple #[.agg #[.slice x1 m m, .slice x2 m m, .slice x3 m m, .slice none 0 0], .int .i64 E2] := Eq.trans em ep
                clear em ep
                simp only [e11] at hKO
                go_simp
                exact hKO _ W (Ext.refl W) ⟨x1, x2, x3, m, e11, rfl⟩
              · have q11 := hp.1
                obtain ⟨em, x1, x2, x3, m, ep⟩ := q11
                have e11 : vs 11 = .tuple #[.agg #[.slice x1 m m, .slice x2 m m, .slice x3 m m, .slice none 0 0], .int .i64 E2] := Eq.trans em ep
                clear em ep
                simp only [e11] at hKO
                go_simp
                exact hKO _ W (Ext.refl W) rfl
              · have hn := BxA.new W 27 #[.slice none 0 0, .slice none 0 0, .slice none 0 0, .slice none 0 0]
                have hsz := hS.2.2.2.2.2.2.2.2.2.2.2.2
                have hlt := hn.lt
                go_simp
                exact hKO _ _ (Ext.alloc1 W _) (fun g hg => by have hq : W.heap.size = g := hg; exact ⟨by omega, by omega⟩) ⟨_, rfl, hsz, ⟨_, hn, (noU4 none 0 0 none 0 0 none 0 0 none 0 0), rfl⟩⟩
              · have q14 := hp.1
                have q12 := hp.2.1
                obtain ⟨g, ev, hg, hfo⟩ := q14
                replace ev : vs 14 = _ := ev
                obtain ⟨x1, x2, x3, m, -, eu⟩ := q12
                replace eu : vs 12 = _ := eu
                obtain ⟨y0, y1, y2, y3, c0_, c1_, c2_, c3_, hfz, W2, hW2, hw, hq⟩ := hfo.put4 (.slice x1 m m) (.slice x2 m m) (.slice x3 m m) (.slice none 0 0) (noU4 _ _ _ _ _ _ _ _ _ _ _ _)
                have z0 := hfz 0
                have z1 := hfz 1
                have z2 := hfz 2
                have z3 := hfz 3
                simp only [ev, eu] at hKO
                go_simp
                rw [← hW2]
                exact hKO _ g rfl hg hw ⟨g, x1, x2, x3, m, eu, ev, hg, hq⟩
              · have e13 := isOf hp.1
                simp only [e13] at hKO
                go_simp
                exact hKO _ W (Ext.refl W) rfl
            intro vs W3 hS hp
            clear ltsz1 szw3 E0 hi0 hi1 hi2 hi3 p2 p5 p8 i11 i12 i13 sz1
            obtain ⟨E0, hi0, hi1, hi2, hi3, p2, p5, p8, i11, i12, i13, sz1, sz3⟩ := hS
            obtain ⟨h3_0, h3_1, h3_2, h3_3, h3_4, h3_5, h3_6, h3_7, h3_8, h3_9, h3_10, h3_11, h3_12, h3_13, h3_14, h3_15, h3_16, -⟩ := hp
            have st2 := h3_10
            have mv2 := h3_11
            have ex2 := h3_12
            skip
            obtain ⟨x21, x22, x23, m2, es2, i21, i22, i23⟩ := st2
            obtain ⟨em2, -⟩ := mv2
            obtain ⟨z1, z2, z3, mz, ez1, ez2⟩ := ex2
            have nb2 := h3_15
            obtain ⟨g10, y1, y2, y3, my, ey1, ev10, hg10, p10⟩ := nb2
            obtain ⟨rfl, rfl, rfl, rfl⟩ := step_inj (Eq.trans (Eq.symm ez1) (Eq.trans em2 es2))
            obtain ⟨rfl, rfl, rfl, rfl⟩ := agg_inj (Eq.trans (Eq.symm ey1) ez2)
            replace ev10 : vs 14 = _ := ev10
            clear es2 em2 ez1 ez2 ey1
            obtain ⟨hx2, hhx⟩ : ∃ n, n = W3.heap.size := ⟨_, rfl⟩
            rw [← hhx] at i21 i22 i23
            have sz2 := Nat.le_of_eq hhx
            clear hhx
            replace h3_0 : vs 0 = .pointer (some ⟨w.heap.size, 0, none⟩) := h3_0
            replace h3_1 : vs 1 = .agg #[.int .i64 lr, .int .i64 b1, .int .i64 b2, .int .i64 eps, .int .i64 wd, .bool ap] := h3_1
            replace h3_2 : vs 2 = .pointer (some ⟨w.heap.size, 6, none⟩) := h3_2
            replace h3_3 : vs 3 = .int .i64 f := h3_3
            replace h3_4 : vs 4 = .pointer (some ⟨w.heap.size, 7, none⟩) := h3_4
            replace h3_5 : vs 5 = .agg #[.int .i64 pw0, .int .i64 pw1] := h3_5
            replace h3_6 : vs 6 = .agg #[.slice a0 n0 c0, .slice a1 n0 c1, .slice a2 n0 c2, .slice a3 n0 c3] := h3_6
            replace h3_7 : vs 7 = .int .i64 (j : Int) := h3_7
            replace h3_8 : vs 8 = .int .i64 (n0 : Int) := h3_8
            replace h3_9 : vs 9 = .agg #[.slice (cutA a0 c0 j) (n0 - j) (c0 - j), .slice (cutA a1 c1 j) (n0 - j) (c1 - j), .slice (cutA a2 c2 j) (n0 - j) (c2 - j), .slice (cutA a3 c3 j) (n0 - j) (c3 - j)] := h3_9
            replace h3_13 : vs 13 = .int .i64 E2 := h3_13
            replace h3_16 : vs 16 = .int .i64 E2 := h3_16
            simp only [ev10, h3_0, h3_1, h3_2, h3_3, h3_4, h3_5, h3_6, h3_7, h3_8, h3_9, h3_13, h3_16]
            clear ev10 h3_0 h3_1 h3_2 h3_3 h3_4 h3_5 h3_6 h3_7 h3_8 h3_9 h3_13 h3_16 h3_10 h3_11 h3_12 h3_14 h3_15
            clear sHS5 sHG8
            have HG10 := Lib.hid hg10
            clear hg10
            have HN : Hid (n0 ≤ 40) := Lib.hid (by have := HC.out; omega)
            obtain ⟨kp2_0, kp2_1, kp2_2, kp2_3, kp2_4, kp2_5, kp2_6, kp2_7, kp2_8, kp2_9, kp2_10, kp2_11, kp2_12⟩ := p2.cells13
            obtain ⟨kp5_0, kp5_1, kp5_2, kp5_3⟩ := p5.c4
            obtain ⟨kp8_0, kp8_1, kp8_2, kp8_3⟩ := p8.c4
            obtain ⟨kp10_0, kp10_1, kp10_2, kp10_3⟩ := p10.c4
            go_wp2_with fail
            clear kp2_0 kp2_1 kp2_2 kp2_3 kp2_4 kp2_5 kp2_6 kp2_7 kp2_8 kp2_9 kp2_10 kp2_11 kp2_12 kp5_0 kp5_1 kp5_2 kp5_3 kp8_0 kp8_1 kp8_2 kp8_3 kp10_0 kp10_1 kp10_2 kp10_3
            have szc := Ext.size E0
            refine (Try.adamStepIs lr b1 b2 eps wd pw0 pw1 ap f _ HST3.out HN.out HQ.out.1.1 HQ.out.1.2 HQ.out.2 (hi0.mono (Nat.zero_le _) szc) (hi1.mono (Nat.zero_le _) szc) (hi2.mono (Nat.zero_le _) szc) (hi3.mono (Nat.zero_le _) szc)).mono ?_
            rintro e S3 ⟨⟨v, rfl, x31, x32, x33, m3, rfl, i31, i32, i33⟩, hE⟩
            clear szc
            replace E0 := (Ext.trans E0 hE)
            replace hi0 := (hi0.ext hE)
            replace hi1 := (hi1.ext hE)
            replace hi2 := (hi2.ext hE)
            replace hi3 := (hi3.ext hE)
            replace p2 := (p2.ext hE)
            replace p5 := (p5.ext hE)
            replace p8 := (p8.ext hE)
            replace i11 := (i11.ext hE)
            replace i12 := (i12.ext hE)
            replace i13 := (i13.ext hE)
            replace sz1 := (Nat.le_trans sz1 (Ext.size hE))
            replace p10 := (p10.ext hE)
            replace i21 := (i21.ext hE)
            replace i22 := (i22.ext hE)
            replace i23 := (i23.ext hE)
            replace sz2 := (Nat.le_trans sz2 (Ext.size hE))
            clear hE
            obtain ⟨hx3, hhx⟩ : ∃ n, n = S3.heap.size := ⟨_, rfl⟩
            rw [← hhx] at i31 i32 i33
            have sz3 := Nat.le_of_eq hhx
            clear hhx
            obtain ⟨kp2_0, kp2_1, kp2_2, kp2_3, kp2_4, kp2_5, kp2_6, kp2_7, kp2_8, kp2_9, kp2_10, kp2_11, kp2_12⟩ := p2.cells13
            obtain ⟨kp5_0, kp5_1, kp5_2, kp5_3⟩ := p5.c4
            obtain ⟨kp8_0, kp8_1, kp8_2, kp8_3⟩ := p8.c4
            obtain ⟨kp10_0, kp10_1, kp10_2, kp10_3⟩ := p10.c4
            go_upto_region 9 with (fail)
            clear kp2_0 kp2_1 kp2_2 kp2_3 kp2_4 kp2_5 kp2_6 kp2_7 kp2_8 kp2_9 kp2_10 kp2_11 kp2_12 kp5_0 kp5_1 kp5_2 kp5_3 kp8_0 kp8_1 kp8_2 kp8_3 kp10_0 kp10_1 kp10_2 kp10_3
            have p12 := BxA.new S3 27 #[.slice x31 m3 m3, .slice x32 m3 m3, .slice x33 m3 m3, .slice none 0 0]
            have hE := Ext.alloc1 S3 (.cells #[.slice x31 m3 m3, .slice x32 m3 m3, .slice x33 m3 m3, .slice none 0 0] 27)
            have lt0 := Ext.size E0
            have ltp2 := p2.lt
            have ltp5 := p5.lt
            have ltp8 := p8.lt
            have ltsz1 := sz1
            have ltp10 := p10.lt
            have ltsz2 := sz2
            have ltsz3 := sz3
            obtain ⟨U12, hU12⟩ : ∃ U12, U12 = S3.alloc (.cells #[.slice x31 m3 m3, .slice x32 m3 m3, .slice x33 m3 m3, .slice none 0 0] 27) := ⟨_, rfl⟩
            rw [← hU12] at p12 hE ⊢
            clear hU12
            replace E0 := (Ext.trans E0 hE)
            replace hi0 := (hi0.ext hE)
            replace hi1 := (hi1.ext hE)
            replace hi2 := (hi2.ext hE)
            replace hi3 := (hi3.ext hE)
            replace p2 := (p2.ext hE)
            replace p5 := (p5.ext hE)
            replace p8 := (p8.ext hE)
            replace i11 := (i11.ext hE)
            replace i12 := (i12.ext hE)
            replace i13 := (i13.ext hE)
            replace sz1 := (Nat.le_trans sz1 (Ext.size hE))
            replace p10 := (p10.ext hE)
            replace i21 := (i21.ext hE)
            replace i22 := (i22.ext hE)
            replace i23 := (i23.ext hE)
            replace sz2 := (Nat.le_trans sz2 (Ext.size hE))
            replace i31 := (i31.ext hE)
            replace i32 := (i32.ext hE)
            replace i33 := (i33.ext hE)
            replace sz3 := (Nat.le_trans sz3 (Ext.size hE))
            clear hE
            obtain ⟨g12, hg12⟩ : ∃ g, g = S3.heap.size := ⟨_, rfl⟩
            rw [← hg12] at p12 lt0 ltp2 ltp5 ltp8 ltsz1 ltp10 ltsz2 ltsz3 ⊢
            clear hg12
            have HS12 := Lib.hid (And.intro lt0 (And.intro ltp2 (And.intro ltp5 (And.intro ltp8 (And.intro ltsz1 (And.intro ltp10 (And.intro ltsz2 ltsz3)))))))
            clear lt0 ltp2 ltp5 ltp8 ltsz1 ltp10 ltsz2 ltsz3
            by_cases k1 : E1 = 0
            · subst k1
              by_cases k2 : E2 = 0
              · subst k2
                obtain ⟨k3, HD1, HD2, HD3⟩ := HD.out.1 rfl rfl
                subst k3
                replace HD1 := Lib.hid HD1
                replace HD2 := Lib.hid HD2
                replace HD3 := Lib.hid HD3
                clear HD HST1 HST2 HST3
                have HI1 : Hid (∀ x ∈ xw1 ++ xw2, I64 x) := Lib.hid (fun x hx => (List.mem_append.1 hx).elim (i11.in64 x) (i21.in64 x))
                have HI2 : Hid (∀ x ∈ xm1 ++ xm2, I64 x) := Lib.hid (fun x hx => (List.mem_append.1 hx).elim (i12.in64 x) (i22.in64 x))
                have HI3 : Hid (∀ x ∈ xv1 ++ xv2, I64 x) := Lib.hid (fun x hx => (List.mem_append.1 hx).elim (i13.in64 x) (i23.in64 x))
                have HLN := Lib.hid (And.intro i11.len (And.intro i12.len i13.len))
                have HM : Hid (m1 ≤ 40 ∧ m2 ≤ 40) := Lib.hid (by have := HMM.out; have := HLN.out.1; have := i21.len; omega)
                obtain ⟨kp2_0, kp2_1, kp2_2, kp2_3, kp2_4, kp2_5, kp2_6, kp2_7, kp2_8, kp2_9, kp2_10, kp2_11, kp2_12⟩ := p2.cells13
                obtain ⟨kp5_0, kp5_1, kp5_2, kp5_3⟩ := p5.c4
                obtain ⟨kp8_0, kp8_1, kp8_2, kp8_3⟩ := p8.c4
                obtain ⟨kp10_0, kp10_1, kp10_2, kp10_3⟩ := p10.c4
                obtain ⟨kp12_0, kp12_1, kp12_2, kp12_3⟩ := p12.c4
                go_upto_region 11 with (fail)
                clear kp2_0 kp2_1 kp2_2 kp2_3 kp2_4 kp2_5 kp2_6 kp2_7 kp2_8 kp2_9 kp2_10 kp2_11 kp2_12 kp5_0 kp5_1 kp5_2 kp5_3 kp8_0 kp8_1 kp8_2 kp8_3 kp10_0 kp10_1 kp10_2 kp10_3 kp12_0 kp12_1 kp12_2 kp12_3
                have sHS5 := HS5.out
                have sHG8 := HG8.out
                have sHG10 := HG10.out
                have sHS12 := HS12.out
                have ltp10 := p10.lt
                have ltp12 := p12.lt
                have ltsz1 := sz1
                have ltsz2 := sz2
                have ltsz3 := sz3
                have szw4 := Ext.size E0
                refine region_go5 [.one fun v _ => v = .pointer (some ⟨g12, 0, none⟩),
                    .one fun v _ => v = .slice x31 m3 m3,
                    .one fun v W => NilJ U12.heap.size 2 v W,
                    .one fun v _ => v = .pointer (some ⟨g8, 0, none⟩),
                    .one fun v _ => v = .slice x11 m1 m1,
                    .one fun v W => OwnJ U12.heap.size 2 xw1 v W,
                    .one fun v _ => v = .pointer (some ⟨g10, 0, none⟩),
                    .one fun v _ => v = .slice x21 m2 m2,
                    .one fun v W => OwnJ U12.heap.size 2 (xw1 ++ xw2) v W,
                    .one fun v _ => v = .bool true,
                    .one fun v _ => v = .bool true,
                    .one fun v _ => v = .pointer (some ⟨g12, 1, none⟩),
                    .one fun v _ => v = .slice x32 m3 m3,
                    .one fun v W => NilJ U12.heap.size 2 v W,
                    .one fun v _ => v = .pointer (some ⟨g8, 1, none⟩),
                    .one fun v _ => v = .slice x12 m1 m1,
                    .one fun v W => OwnJ U12.heap.size 2 xm1 v W,
                    .one fun v _ => v = .pointer (some ⟨g10, 1, none⟩),
                    .one fun v _ => v = .slice x22 m2 m2,
                    .one fun v W => OwnJ U12.heap.size 2 (xm1 ++ xm2) v W,
                    .one fun v _ => v = .bool true,
                    .one fun v _ => v = .bool true,
                    .one fun v _ => v = .bool true]
                  (fun W => Ext w W ∧ Iw 0 w.heap.size W a0 n0 c0 (lw) ∧ Iw 0 w.heap.size W a1 n0 c1 (lm) ∧ Iw 0 w.heap.size W a2 n0 c2 (lv) ∧ Iw 0 w.heap.size W a3 n0 c3 (lg) ∧ BxA W w.heap.size 45 #[.int .i64 lr, .int .i64 b1, .int .i64 b2, .int .i64 eps, .int .i64 wd, .bool ap, .int .i64 f, .int .i64 pw0, .int .i64 pw1, .slice a0 n0 c0, .slice a1 n0 c1, .slice a2 n0 c2, .slice a3 n0 c3] ∧ BxA W g5 27 #[.slice a0 n0 c0, .slice a1 n0 c1, .slice a2 n0 c2, .slice a3 n0 c3] ∧ BxA W g8 27 #[.slice x11 m1 m1, .slice x12 m1 m1, .slice x13 m1 m1, .slice none 0 0] ∧ Iw Wc.heap.size hx1 W x11 m1 m1 (xw1) ∧ Iw Wc.heap.size hx1 W x12 m1 m1 (xm1) ∧ Iw Wc.heap.size hx1 W x13 m1 m1 (xv1) ∧ hx1 ≤ W.heap.size ∧ BxA W g10 27 #[.slice x21 m2 m2, .slice x22 m2 m2, .slice x23 m2 m2, .slice none 0 0] ∧ Iw W2.heap.size hx2 W x21 m2 m2 (xw2) ∧ Iw W2.heap.size hx2 W x22 m2 m2 (xm2) ∧ Iw W2.heap.size hx2 W x23 m2 m2 (xv2) ∧ hx2 ≤ W.heap.size ∧ Iw W3.heap.size hx3 W x31 m3 m3 (xw3) ∧ Iw W3.heap.size hx3 W x32 m3 m3 (xm3) ∧ Iw W3.heap.size hx3 W x33 m3 m3 (xv3) ∧ hx3 ≤ W.heap.size ∧ BxA W g12 27 #[.slice x31 m3 m3, .slice x32 m3 m3, .slice x33 m3 m3, .slice none 0 0] ∧ U12.heap.size ≤ W.heap.size) (fun _ => True) U12.heap.size (fun _ _ => False) 9999 [(2, 1), (5, 1), (8, 1), (13, 2), (16, 2), (19, 2)] [Tag4.any, Tag4.any, Tag4.any, Tag4.any, Tag4.any, Tag4.on 5, Tag4.any, Tag4.any, Tag4.on 8, Tag4.any, Tag4.any, Tag4.any, Tag4.any, Tag4.any, Tag4.any, Tag4.any, Tag4.on 16, Tag4.any, Tag4.any, Tag4.on 19, Tag4.any, Tag4.any, Tag4.any] ⟨tag4_good (Good.is _), tag4_good (Good.is _), tag_nilJ, tag4_good (Good.is _), tag4_good (Good.is _), tag_ownJ, tag4_good (Good.is _), tag4_good (Good.is _), tag_ownJ, tag4_good (Good.is _), tag4_good (Good.is _), tag4_good (Good.is _), tag4_good (Good.is _), tag_nilJ, tag4_good (Good.is _), tag4_good (Good.is _), tag_ownJ, tag4_good (Good.is _), tag4_good (Good.is _), tag_ownJ, tag4_good (Good.is _), tag4_good (Good.is _), tag4_good (Good.is _), trivial⟩
                  (fun W W1 hS hE => ⟨(Ext.trans hS.1 hE), (hS.2.1.ext hE), (hS.2.2.1.ext hE), (hS.2.2.2.1.ext hE), (hS.2.2.2.2.1.ext hE), (hS.2.2.2.2.2.1.ext hE), (hS.2.2.2.2.2.2.1.ext hE), (hS.2.2.2.2.2.2.2.1.ext hE), (hS.2.2.2.2.2.2.2.2.1.ext hE), (hS.2.2.2.2.2.2.2.2.2.1.ext hE), (hS.2.2.2.2.2.2.2.2.2.2.1.ext hE), (Nat.le_trans hS.2.2.2.2.2.2.2.2.2.2.2.1 (Ext.size hE)), (hS.2.2.2.2.2.2.2.2.2.2.2.2.1.ext hE), (hS.2.2.2.2.2.2.2.2.2.2.2.2.2.1.ext hE), (hS.2.2.2.2.2.2.2.2.2.2.2.2.2.2.1.ext hE), (hS.2.2.2.2.2.2.2.2.2.2.2.2.2.2.2.1.ext hE), (Nat.le_trans hS.2.2.2.2.2.2.2.2.2.2.2.2.2.2.2.2.1 (Ext.size hE)), (hS.2.2.2.2.2.2.2.2.2.2.2.2.2.2.2.2.2.1.ext hE), (hS.2.2.2.2.2.2.2.2.2.2.2.2.2.2.2.2.2.2.1.ext hE), (hS.2.2.2.2.2.2.2.2.2.2.2.2.2.2.2.2.2.2.2.1.ext hE), (Nat.le_trans hS.2.2.2.2.2.2.2.2.2.2.2.2.2.2.2.2.2.2.2.2.1 (Ext.size hE)), (hS.2.2.2.2.2.2.2.2.2.2.2.2.2.2.2.2.2.2.2.2.2.1.ext hE), (Nat.le_trans hS.2.2.2.2.2.2.2.2.2.2.2.2.2.2.2.2.2.2.2.2.2.2 (Ext.size hE))⟩) (fun _ _ h _ => h) (⟨fun _ _ h => h.elim, fun _ _ h => h.elim, fun _ _ _ h => h.elim, Nat.le_refl _⟩) ⟨E0, hi0, hi1, hi2, hi3, p2, p5, p8, i11, i12, i13, sz1, p10, i21, i22, i23, sz2, i31, i32, i33, sz3, p12, Nat.le_refl _⟩ trivial (by kernel_rfl) (by kernel_rfl) (by kernel_rfl) (by kernel_rfl) (A := ?A4) ?hA4 ?howe4 ?hfin4
                case hA4 =>
                  intro vs
                  simp only [putAll, Act.put, List.setIfInBounds_toArray, List.set_cons_zero, List.set_cons_succ, Nat.zero_add, Nat.reduceAdd]
                  exact rfl
                case howe4 =>
                  clear E0 hi0 hi1 hi2 hi3 p2 p5 p8 i11 i12 i13 sz1 p10 i21 i22 i23 sz2 i31 i32 i33 sz3 p12
                  intro hf
                  refine ⟨owes5E 0 [] hf rfl rfl rfl (by kernel_rfl) ?_, owes5E 1 [0] hf rfl rfl rfl (by kernel_rfl) ?_, owes5N 2 [] hf rfl rfl (by kernel_rfl) ?_, owes5E 3 [] hf rfl rfl rfl (by kernel_rfl) ?_, owes5E 4 [3] hf rfl rfl rfl (by kernel_rfl) ?_, owes5A 5 2 [8] [2, 4] hf (by kernel_rfl) rfl rfl rfl (by kernel_rfl) rfl (by kernel_rfl) ?_, owes5E 6 [] hf rfl rfl rfl (by kernel_rfl) ?_, owes5E 7 [6] hf rfl rfl rfl (by kernel_rfl) ?_, owes5A 8 5 [] [5, 7] hf (by kernel_rfl) rfl rfl rfl (by kernel_rfl) rfl (by kernel_rfl) ?_, owes5E 9 [1, 8] hf rfl rfl rfl (by kernel_rfl) ?_, owes5E 10 [9] hf rfl rfl rfl (by kernel_rfl) ?_, owes5E 11 [10] hf rfl rfl rfl (by kernel_rfl) ?_, owes5E 12 [10, 11] hf rfl rfl rfl (by kernel_rfl) ?_, owes5N 13 [10] hf rfl rfl (by kernel_rfl) ?_, owes5E 14 [10] hf rfl rfl rfl (by kernel_rfl) ?_, owes5E 15 [10, 14] hf rfl rfl rfl (by kernel_rfl) ?_, owes5A 16 13 [19] [13, 15, 10] hf (by kernel_rfl) rfl rfl rfl (by kernel_rfl) rfl (by kernel_rfl) ?_, owes5E 17 [10] hf rfl rfl rfl (by kernel_rfl) ?_, owes5E 18 [10, 17] hf rfl rfl rfl (by kernel_rfl) ?_, owes5A 19 16 [] [16, 18, 10] hf (by kernel_rfl) rfl rfl rfl (by kernel_rfl) rfl (by kernel_rfl) ?_, owes5E 20 [12, 19, 10] hf rfl rfl rfl (by kernel_rfl) ?_, owes5E 21 [10, 20] hf rfl rfl rfl (by kernel_rfl) ?_, owes5E 22 [21] hf rfl rfl rfl (by kernel_rfl) ?_, trivial⟩
                  all_goals intro vs W hS hp hx KO hKO
                  all_goals simp only [Act.put, List.setIfInBounds_toArray, List.set_cons_zero, List.set_cons_succ] at hKO
                  · go_simp
                    exact hKO _ W (Ext.refl W) rfl
                  · have e0 := isOf hp.1
                    simp only [e0] at hKO
                    have fc0 := BxA.cell (hS.2.2.2.2.2.2.2.2.2.2.2.2.2.2.2.2.2.2.2.2.2.1) 0 (v := .slice x31 m3 m3) rfl
                    go_simp
                    exact hKO _ W (Ext.refl W) rfl
                  · have hn := BxA.new W 2 #[]
                    have hsz := hS.2.2.2.2.2.2.2.2.2.2.2.2.2.2.2.2.2.2.2.2.2.2
                    have hlt := hn.lt
                    go_simp
                    exact hKO _ _ (Ext.alloc1 W _) (fun g hg => by have hq : W.heap.size = g := hg; exact ⟨by omega, by omega⟩) ⟨_, rfl, hsz, hn⟩
                  · go_simp
                    exact hKO _ W (Ext.refl W) rfl
                  · have e3 := isOf hp.1
                    simp only [e3] at hKO
                    have fc0 := BxA.cell (hS.2.2.2.2.2.2.2.1) 0 (v := .slice x11 m1 m1) rfl
                    go_simp
                    exact hKO _ W (Ext.refl W) rfl
                  · have q2 := hp.1
                    have e4 := isOf hp.2.1
                    simp only [e4] at hKO
                    have hsz := hS.2.2.2.2.2.2.2.2.2.2.2.2.2.2.2.2.2.2.2.2.2.2
                    have hcc := HM.out
                    refine step_append_j Try.underlying25 Try.infoI rfl _ _ rfl U12.heap.size (v := vs 2) rfl (by exact e4) (NilJ.own q2) hS.2.2.2.2.2.2.2.2.1 (by simp; omega) hsz ?_
                    intro v w1 hc ho
                    simp only [Act.put, List.setIfInBounds_toArray, List.set_cons_zero, List.set_cons_succ, e4]
                    refine hKO v w1 ?_ ?_ ho
                    · rcases hc with ⟨hE, -⟩ | ⟨g, h1, h2, hw, -, h5⟩
                      · exact .inl hE
                      · exact .inr ⟨g, h1, hw, ⟨(Ext.wr hS.1 hw (by omega)), (hS.2.1.wr hw (by omega)), (hS.2.2.1.wr hw (by omega)), (hS.2.2.2.1.wr hw (by omega)), (hS.2.2.2.2.1.wr hw (by omega)), (hS.2.2.2.2.2.1.wr hw (by omega)), (hS.2.2.2.2.2.2.1.wr hw (by omega)), (hS.2.2.2.2.2.2.2.1.wr hw (by omega)), (hS.2.2.2.2.2.2.2.2.1.wr hw (by omega)), (hS.2.2.2.2.2.2.2.2.2.1.wr hw (by omega)), (hS.2.2.2.2.2.2.2.2.2.2.1.wr hw (by omega)), (Nat.le_trans hS.2.2.2.2.2.2.2.2.2.2.2.1 hw.apart.size), (hS.2.2.2.2.2.2.2.2.2.2.2.2.1.wr hw (by omega)), (hS.2.2.2.2.2.2.2.2.2.2.2.2.2.1.wr hw (by omega)), (hS.2.2.2.2.2.2.2.2.2.2.2.2.2.2.1.wr hw (by omega)), (hS.2.2.2.2.2.2.2.2.2.2.2.2.2.2.2.1.wr hw (by omega)), (Nat.le_trans hS.2.2.2.2.2.2.2.2.2.2.2.2.2.2.2.2.1 hw.apart.size), (hS.2.2.2.2.2.2.2.2.2.2.2.2.2.2.2.2.2.1.wr hw (by omega)), (hS.2.2.2.2.2.2.2.2.2.2.2.2.2.2.2.2.2.2.1.wr hw (by omega)), (hS.2.2.2.2.2.2.2.2.2.2.2.2.2.2.2.2.2.2.2.1.wr hw (by omega)), (Nat.le_trans hS.2.2.2.2.2.2.2.2.2.2.2.2.2.2.2.2.2.2.2.2.1 hw.apart.size), (hS.2.2.2.2.2.2.2.2.2.2.2.2.2.2.2.2.2.2.2.2.2.1.wr hw (by omega)), (Nat.le_trans hS.2.2.2.2.2.2.2.2.2.2.2.2.2.2.2.2.2.2.2.2.2.2 hw.apart.size)⟩, (fun h => h), NilJ.wr q2 hw⟩
                    · intro g hg
                      rcases hc with ⟨-, h3⟩ | ⟨g2, h1, -, -, h4, h5⟩
                      · exact h3 g hg
                      · rw [h4 g hg]; exact ⟨h5.lt h1, .inr h1⟩
                  · go_simp
                    exact hKO _ W (Ext.refl W) rfl
                  · have e6 := isOf hp.1
                    simp only [e6] at hKO
                    have fc0 := BxA.cell (hS.2.2.2.2.2.2.2.2.2.2.2.2.1) 0 (v := .slice x21 m2 m2) rfl
                    go_simp
                    exact hKO _ W (Ext.refl W) rfl
                  · have q5 := hp.1
                    have e7 := isOf hp.2.1
                    simp only [e7] at hKO
                    have hsz := hS.2.2.2.2.2.2.2.2.2.2.2.2.2.2.2.2.2.2.2.2.2.2
                    have hcc := HM.out
                    refine step_append_j Try.underlying25 Try.infoI rfl _ _ rfl U12.heap.size (v := vs 5) rfl (by exact e7) q5 hS.2.2.2.2.2.2.2.2.2.2.2.2.2.1 (by rw [HLN.out.1]; omega) hsz ?_
                    intro v w1 hc ho
                    simp only [Act.put, List.setIfInBounds_toArray, List.set_cons_zero, List.set_cons_succ, e7]
                    refine hKO v w1 ?_ ?_ ho
                    · rcases hc with ⟨hE, -⟩ | ⟨g, h1, h2, hw, -, h5⟩
                      · exact .inl hE
                      · exact .inr ⟨g, h1, hw, ⟨(Ext.wr hS.1 hw (by omega)), (hS.2.1.wr hw (by omega)), (hS.2.2.1.wr hw (by omega)), (hS.2.2.2.1.wr hw (by omega)), (hS.2.2.2.2.1.wr hw (by omega)), (hS.2.2.2.2.2.1.wr hw (by omega)), (hS.2.2.2.2.2.2.1.wr hw (by omega)), (hS.2.2.2.2.2.2.2.1.wr hw (by omega)), (hS.2.2.2.2.2.2.2.2.1.wr hw (by omega)), (hS.2.2.2.2.2.2.2.2.2.1.wr hw (by omega)), (hS.2.2.2.2.2.2.2.2.2.2.1.wr hw (by omega)), (Nat.le_trans hS.2.2.2.2.2.2.2.2.2.2.2.1 hw.apart.size), (hS.2.2.2.2.2.2.2.2.2.2.2.2.1.wr hw (by omega)), (hS.2.2.2.2.2.2.2.2.2.2.2.2.2.1.wr hw (by omega)), (hS.2.2.2.2.2.2.2.2.2.2.2.2.2.2.1.wr hw (by omega)), (hS.2.2.2.2.2.2.2.2.2.2.2.2.2.2.2.1.wr hw (by omega)), (Nat.le_trans hS.2.2.2.2.2.2.2.2.2.2.2.2.2.2.2.2.1 hw.apart.size), (hS.2.2.2.2.2.2.2.2.2.2.2.2.2.2.2.2.2.1.wr hw (by omega)), (hS.2.2.2.2.2.2.2.2.2.2.2.2.2.2.2.2.2.2.1.wr hw (by omega)), (hS.2.2.2.2.2.2.2.2.2.2.2.2.2.2.2.2.2.2.2.1.wr hw (by omega)), (Nat.le_trans hS.2.2.2.2.2.2.2.2.2.2.2.2.2.2.2.2.2.2.2.2.1 hw.apart.size), (hS.2.2.2.2.2.2.2.2.2.2.2.2.2.2.2.2.2.2.2.2.2.1.wr hw (by omega)), (Nat.le_trans hS.2.2.2.2.2.2.2.2.2.2.2.2.2.2.2.2.2.2.2.2.2.2 hw.apart.size)⟩, (fun h => h), h5⟩
                    · intro g hg
                      rcases hc with ⟨-, h3⟩ | ⟨g2, h1, -, -, h4, h5⟩
                      · exact h3 g hg
                      · rw [h4 g hg]; exact ⟨h5.lt h1, .inr h1⟩
                  · have e1 := isOf hp.1
                    have q8 := hp.2.1
                    simp only [e1] at hKO
                    obtain ⟨a, c, ev, hw2⟩ := OwnJ.iw q8 HI1.out
                    obtain ⟨nn, hnn⟩ : ∃ n, n = (xw1 ++ xw2).length := ⟨_, rfl⟩
                    rw [← hnn] at ev hw2
                    clear hnn
                    replace ev : vs 8 = _ := ev
                    simp only [ev] at hKO
                    go_simp
                    refine (Try.refSame09 hS.2.2.2.2.2.2.2.2.2.2.2.2.2.2.2.2.2.1 hw2).mono ?_
                    rintro e W1 ⟨rfl, hE⟩
                    rw [decide_eq_true HD1.out]
                    exact hKO _ W1 hE rfl
                  · have e9 := isOf hp.1
                    simp only [e9] at hKO
                    go_simp
                    exact hKO _ W (Ext.refl W) rfl
                  · have e10 := isOf hp.1
                    simp only [e10] at hKO
                    go_simp
                    exact hKO _ W (Ext.refl W) rfl
                  · have e10 := isOf hp.1
                    have e11 := isOf hp.2.1
                    simp only [e10, e11] at hKO
                    have fc1 := BxA.cell (hS.2.2.2.2.2.2.2.2.2.2.2.2.2.2.2.2.2.2.2.2.2.1) 1 (v := .slice x32 m3 m3) rfl
                    go_simp
                    exact hKO _ W (Ext.refl W) rfl
                  · have e10 := isOf hp.1
                    simp only [e10] at hKO
                    have hn := BxA.new W 2 #[]
                    have hsz := hS.2.2.2.2.2.2.2.2.2.2.2.2.2.2.2.2.2.2.2.2.2.2
                    have hlt := hn.lt
                    go_simp
                    exact hKO _ _ (Ext.alloc1 W _) (fun g hg => by have hq : W.heap.size = g := hg; exact ⟨by omega, by omega⟩) ⟨_, rfl, hsz, hn⟩
                  · have e10 := isOf hp.1
                    simp only [e10] at hKO
                    go_simp
                    exact hKO _ W (Ext.refl W) rfl
                  · have e10 := isOf hp.1
                    have e14 := isOf hp.2.1
                    simp only [e10, e14] at hKO
                    have fc1 := BxA.cell (hS.2.2.2.2.2.2.2.1) 1 (v := .slice x12 m1 m1) rfl
                    go_simp
                    exact hKO _ W (Ext.refl W) rfl
                  · have q13 := hp.1
                    have e15 := isOf hp.2.1
                    have e10 := isOf hp.2.2.1
                    simp only [e15, e10] at hKO
                    have hsz := hS.2.2.2.2.2.2.2.2.2.2.2.2.2.2.2.2.2.2.2.2.2.2
                    have hcc := HM.out
                    refine step_append_j Try.underlying25 Try.infoI (by simp only [e10]; rfl) _ _ rfl U12.heap.size (v := vs 13) rfl (by exact e15) (NilJ.own q13) hS.2.2.2.2.2.2.2.2.2.1 (by simp; omega) hsz ?_
                    intro v w1 hc ho
                    simp only [Act.put, List.setIfInBounds_toArray, List.set_cons_zero, List.set_cons_succ, e15, e10]
                    refine hKO v w1 ?_ ?_ ho
                    · rcases hc with ⟨hE, -⟩ | ⟨g, h1, h2, hw, -, h5⟩
                      · exact .inl hE
                      · exact .inr ⟨g, h1, hw, ⟨(Ext.wr hS.1 hw (by omega)), (hS.2.1.wr hw (by omega)), (hS.2.2.1.wr hw (by omega)), (hS.2.2.2.1.wr hw (by omega)), (hS.2.2.2.2.1.wr hw (by omega)), (hS.2.2.2.2.2.1.wr hw (by omega)), (hS.2.2.2.2.2.2.1.wr hw (by omega)), (hS.2.2.2.2.2.2.2.1.wr hw (by omega)), (hS.2.2.2.2.2.2.2.2.1.wr hw (by omega)), (hS.2.2.2.2.2.2.2.2.2.1.wr hw (by omega)), (hS.2.2.2.2.2.2.2.2.2.2.1.wr hw (by omega)), (Nat.le_trans hS.2.2.2.2.2.2.2.2.2.2.2.1 hw.apart.size), (hS.2.2.2.2.2.2.2.2.2.2.2.2.1.wr hw (by omega)), (hS.2.2.2.2.2.2.2.2.2.2.2.2.2.1.wr hw (by omega)), (hS.2.2.2.2.2.2.2.2.2.2.2.2.2.2.1.wr hw (by omega)), (hS.2.2.2.2.2.2.2.2.2.2.2.2.2.2.2.1.wr hw (by omega)), (Nat.le_trans hS.2.2.2.2.2.2.2.2.2.2.2.2.2.2.2.2.1 hw.apart.size), (hS.2.2.2.2.2.2.2.2.2.2.2.2.2.2.2.2.2.1.wr hw (by omega)), (hS.2.2.2.2.2.2.2.2.2.2.2.2.2.2.2.2.2.2.1.wr hw (by omega)), (hS.2.2.2.2.2.2.2.2.2.2.2.2.2.2.2.2.2.2.2.1.wr hw (by omega)), (Nat.le_trans hS.2.2.2.2.2.2.2.2.2.2.2.2.2.2.2.2.2.2.2.2.1 hw.apart.size), (hS.2.2.2.2.2.2.2.2.2.2.2.2.2.2.2.2.2.2.2.2.2.1.wr hw (by omega)), (Nat.le_trans hS.2.2.2.2.2.2.2.2.2.2.2.2.2.2.2.2.2.2.2.2.2.2 hw.apart.size)⟩, (fun h => h), NilJ.wr q13 hw⟩
                    · intro g hg
                      rcases hc with ⟨-, h3⟩ | ⟨g2, h1, -, -, h4, h5⟩
                      · exact h3 g hg
                      · rw [h4 g hg]; exact ⟨h5.lt h1, .inr h1⟩
                  · have e10 := isOf hp.1
                    simp only [e10] at hKO
                    go_simp
                    exact hKO _ W (Ext.refl W) rfl
                  · have e10 := isOf hp.1
                    have e17 := isOf hp.2.1
                    simp only [e10, e17] at hKO
                    have fc1 := BxA.cell (hS.2.2.2.2.2.2.2.2.2.2.2.2.1) 1 (v := .slice x22 m2 m2) rfl
                    go_simp
                    exact hKO _ W (Ext.refl W) rfl
                  · have q16 := hp.1
                    have e18 := isOf hp.2.1
                    have e10 := isOf hp.2.2.1
                    simp only [e18, e10] at hKO
                    have hsz := hS.2.2.2.2.2.2.2.2.2.2.2.2.2.2.2.2.2.2.2.2.2.2
                    have hcc := HM.out
                    refine step_append_j Try.underlying25 Try.infoI (by simp only [e10]; rfl) _ _ rfl U12.heap.size (v := vs 16) rfl (by exact e18) q16 hS.2.2.2.2.2.2.2.2.2.2.2.2.2.2.1 (by rw [HLN.out.2.1]; omega) hsz ?_
                    intro v w1 hc ho
                    simp only [Act.put, List.setIfInBounds_toArray, List.set_cons_zero, List.set_cons_succ, e18, e10]
                    refine hKO v w1 ?_ ?_ ho
                    · rcases hc with ⟨hE, -⟩ | ⟨g, h1, h2, hw, -, h5⟩
                      · exact .inl hE
                      · exact .inr ⟨g, h1, hw, ⟨(Ext.wr hS.1 hw (by omega)), (hS.2.1.wr hw (by omega)), (hS.2.2.1.wr hw (by omega)), (hS.2.2.2.1.wr hw (by omega)), (hS.2.2.2.2.1.wr hw (by omega)), (hS.2.2.2.2.2.1.wr hw (by omega)), (hS.2.2.2.2.2.2.1.wr hw (by omega)), (hS.2.2.2.2.2.2.2.1.wr hw (by omega)), (hS.2.2.2.2.2.2.2.2.1.wr hw (by omega)), (hS.2.2.2.2.2.2.2.2.2.1.wr hw (by omega)), (hS.2.2.2.2.2.2.2.2.2.2.1.wr hw (by omega)), (Nat.le_trans hS.2.2.2.2.2.2.2.2.2.2.2.1 hw.apart.size), (hS.2.2.2.2.2.2.2.2.2.2.2.2.1.wr hw (by omega)), (hS.2.2.2.2.2.2.2.2.2.2.2.2.2.1.wr hw (by omega)), (hS.2.2.2.2.2.2.2.2.2.2.2.2.2.2.1.wr hw (by omega)), (hS.2.2.2.2.2.2.2.2.2.2.2.2.2.2.2.1.wr hw (by omega)), (Nat.le_trans hS.2.2.2.2.2.2.2.2.2.2.2.2.2.2.2.2.1 hw.apart.size), (hS.2.2.2.2.2.2.2.2.2.2.2.2.2.2.2.2.2.1.wr hw (by omega)), (hS.2.2.2.2.2.2.2.2.2.2.2.2.2.2.2.2.2.2.1.wr hw (by omega)), (hS.2.2.2.2.2.2.2.2.2.2.2.2.2.2.2.2.2.2.2.1.wr hw (by omega)), (Nat.le_trans hS.2.2.2.2.2.2.2.2.2.2.2.2.2.2.2.2.2.2.2.2.1 hw.apart.size), (hS.2.2.2.2.2.2.2.2.2.2.2.2.2.2.2.2.2.2.2.2.2.1.wr hw (by omega)), (Nat.le_trans hS.2.2.2.2.2.2.2.2.2.2.2.2.2.2.2.2.2.2.2.2.2.2 hw.apart.size)⟩, (fun h => h), h5⟩
                    · intro g hg
                      rcases hc with ⟨-, h3⟩ | ⟨g2, h1, -, -, h4, h5⟩
                      · exact h3 g hg
                      · rw [h4 g hg]; exact ⟨h5.lt h1, .inr h1⟩
                  · have e12 := isOf hp.1
                    have q19 := hp.2.1
                    have e10 := isOf hp.2.2.1
                    simp only [e12, e10] at hKO
                    obtain ⟨a, c, ev, hw2⟩ := OwnJ.iw q19 HI2.out
                    obtain ⟨nn, hnn⟩ : ∃ n, n = (xm1 ++ xm2).length := ⟨_, rfl⟩
                    rw [← hnn] at ev hw2
                    clear hnn
                    replace ev : vs 19 = _ := ev
                    simp only [ev] at hKO
                    go_simp
                    refine (Try.refSame09 hS.2.2.2.2.2.2.2.2.2.2.2.2.2.2.2.2.2.2.1 hw2).mono ?_
                    rintro e W1 ⟨rfl, hE⟩
                    rw [decide_eq_true HD2.out]
                    exact hKO _ W1 hE rfl
                  · have e10 := isOf hp.1
                    have e20 := isOf hp.2.1
                    simp only [e10, e20] at hKO
                    go_simp
                    exact hKO _ W (Ext.refl W) rfl
                  · have e21 := isOf hp.1
                    simp only [e21] at hKO
                    go_simp
                    exact hKO _ W (Ext.refl W) rfl
                intro vs W4 hS hG hp
                clear ltsz1 ltsz2 ltsz3 szw4 E0 hi0 hi1 hi2 hi3 p2 p5 p8 i11 i12 i13 sz1 p10 i21 i22 i23 sz2 i31 i32 i33 sz3 p12
                obtain ⟨E0, hi0, hi1, hi2, hi3, p2, p5, p8, i11, i12, i13, sz1, p10, i21, i22, i23, sz2, i31, i32, i33, sz3, p12, sz4⟩ := hS
                obtain ⟨h4_0, h4_1, h4_2, h4_3, h4_4, h4_5, h4_6, h4_7, h4_8, h4_9, h4_10, h4_11, h4_12, h4_13, h4_14, h4_15, h4_16, h4_17, h4_18, h4_19, h4_20, h4_21, h4_22, -⟩ := hp
                skip
                skip
                skip
                skip
                skip
                skip
                replace h4_0 : vs 0 = .pointer (some ⟨g12, 0, none⟩) := h4_0
                replace h4_1 : vs 1 = .slice x31 m3 m3 := h4_1
                replace h4_3 : vs 3 = .pointer (some ⟨g8, 0, none⟩) := h4_3
                replace h4_4 : vs 4 = .slice x11 m1 m1 := h4_4
                replace h4_6 : vs 6 = .pointer (some ⟨g10, 0, none⟩) := h4_6
                replace h4_7 : vs 7 = .slice x21 m2 m2 := h4_7
                replace h4_9 : vs 9 = .bool true := h4_9
                replace h4_10 : vs 10 = .bool true := h4_10
                replace h4_11 : vs 11 = .pointer (some ⟨g12, 1, none⟩) := h4_11
                replace h4_12 : vs 12 = .slice x32 m3 m3 := h4_12
                replace h4_14 : vs 14 = .pointer (some ⟨g8, 1, none⟩) := h4_14
                replace h4_15 : vs 15 = .slice x12 m1 m1 := h4_15
                replace h4_17 : vs 17 = .pointer (some ⟨g10, 1, none⟩) := h4_17
                replace h4_18 : vs 18 = .slice x22 m2 m2 := h4_18
                replace h4_20 : vs 20 = .bool true := h4_20
                replace h4_21 : vs 21 = .bool true := h4_21
                replace h4_22 : vs 22 = .bool true := h4_22
                simp only [h4_0, h4_1, h4_3, h4_4, h4_6, h4_7, h4_9, h4_10, h4_11, h4_12, h4_14, h4_15, h4_17, h4_18, h4_20, h4_21, h4_22]
                clear h4_0 h4_1 h4_3 h4_4 h4_6 h4_7 h4_9 h4_10 h4_11 h4_12 h4_14 h4_15 h4_17 h4_18 h4_20 h4_21 h4_22 h4_2 h4_5 h4_8 h4_13 h4_16 h4_19
                clear sHS5 sHG8 sHG10 sHS12
                obtain ⟨kp2_0, kp2_1, kp2_2, kp2_3, kp2_4, kp2_5, kp2_6, kp2_7, kp2_8, kp2_9, kp2_10, kp2_11, kp2_12⟩ := p2.cells13
                obtain ⟨kp5_0, kp5_1, kp5_2, kp5_3⟩ := p5.c4
                obtain ⟨kp8_0, kp8_1, kp8_2, kp8_3⟩ := p8.c4
                obtain ⟨kp10_0, kp10_1, kp10_2, kp10_3⟩ := p10.c4
                obtain ⟨kp12_0, kp12_1, kp12_2, kp12_3⟩ := p12.c4
                go_upto_region 12 with (fail)
                clear kp2_0 kp2_1 kp2_2 kp2_3 kp2_4 kp2_5 kp2_6 kp2_7 kp2_8 kp2_9 kp2_10 kp2_11 kp2_12 kp5_0 kp5_1 kp5_2 kp5_3 kp8_0 kp8_1 kp8_2 kp8_3 kp10_0 kp10_1 kp10_2 kp10_3 kp12_0 kp12_1 kp12_2 kp12_3
                have sHS5 := HS5.out
                have sHG8 := HG8.out
                have sHG10 := HG10.out
                have sHS12 := HS12.out
                have ltsz1 := sz1
                have ltsz2 := sz2
                have ltsz3 := sz3
                have szw5 := Ext.size E0
                refine region_go5 [.one fun v _ => v = .bool true,
                    .one fun v _ => v = .bool true,
                    .one fun v _ => v = .int .i64 0,
                    .one fun v _ => v = .bool true,
                    .one fun v _ => v = .bool true,
                    .one fun v _ => v = .bool true,
                    .one fun v _ => v = .bool true,
                    .one fun v _ => v = .bool true,
                    .one fun v _ => v = .bool true,
                    .one fun v _ => v = .pointer (some ⟨g12, 2, none⟩),
                    .one fun v _ => v = .slice x33 m3 m3,
                    .one fun v W => NilJ W4.heap.size 2 v W,
                    .one fun v _ => v = .pointer (some ⟨g8, 2, none⟩),
                    .one fun v _ => v = .slice x13 m1 m1,
                    .one fun v W => OwnJ W4.heap.size 2 xv1 v W,
                    .one fun v _ => v = .pointer (some ⟨g10, 2, none⟩),
                    .one fun v _ => v = .slice x23 m2 m2,
                    .one fun v W => OwnJ W4.heap.size 2 (xv1 ++ xv2) v W,
                    .one fun v _ => v = .bool true,
                    .one fun v _ => v = .bool true,
                    .one fun v _ => v = .bool true]
                  (fun W => Ext w W ∧ Iw 0 w.heap.size W a0 n0 c0 (lw) ∧ Iw 0 w.heap.size W a1 n0 c1 (lm) ∧ Iw 0 w.heap.size W a2 n0 c2 (lv) ∧ Iw 0 w.heap.size W a3 n0 c3 (lg) ∧ BxA W w.heap.size 45 #[.int .i64 lr, .int .i64 b1, .int .i64 b2, .int .i64 eps, .int .i64 wd, .bool ap, .int .i64 f, .int .i64 pw0, .int .i64 pw1, .slice a0 n0 c0, .slice a1 n0 c1, .slice a2 n0 c2, .slice a3 n0 c3] ∧ BxA W g5 27 #[.slice a0 n0 c0, .slice a1 n0 c1, .slice a2 n0 c2, .slice a3 n0 c3] ∧ BxA W g8 27 #[.slice x11 m1 m1, .slice x12 m1 m1, .slice x13 m1 m1, .slice none 0 0] ∧ Iw Wc.heap.size hx1 W x11 m1 m1 (xw1) ∧ Iw Wc.heap.size hx1 W x12 m1 m1 (xm1) ∧ Iw Wc.heap.size hx1 W x13 m1 m1 (xv1) ∧ hx1 ≤ W.heap.size ∧ BxA W g10 27 #[.slice x21 m2 m2, .slice x22 m2 m2, .slice x23 m2 m2, .slice none 0 0] ∧ Iw W2.heap.size hx2 W x21 m2 m2 (xw2) ∧ Iw W2.heap.size hx2 W x22 m2 m2 (xm2) ∧ Iw W2.heap.size hx2 W x23 m2 m2 (xv2) ∧ hx2 ≤ W.heap.size ∧ Iw W3.heap.size hx3 W x31 m3 m3 (xw3) ∧ Iw W3.heap.size hx3 W x32 m3 m3 (xm3) ∧ Iw W3.heap.size hx3 W x33 m3 m3 (xv3) ∧ hx3 ≤ W.heap.size ∧ BxA W g12 27 #[.slice x31 m3 m3, .slice x32 m3 m3, .slice x33 m3 m3, .slice none 0 0] ∧ W4.heap.size ≤ W.heap.size) (fun _ => True) W4.heap.size (fun _ _ => False) 9999 [(11, 1), (14, 1), (17, 1)] [Tag4.any, Tag4.any, Tag4.any, Tag4.any, Tag4.any, Tag4.any, Tag4.any, Tag4.any, Tag4.any, Tag4.any, Tag4.any, Tag4.any, Tag4.any, Tag4.any, Tag4.on 14, Tag4.any, Tag4.any, Tag4.on 17, Tag4.any, Tag4.any, Tag4.any] ⟨tag4_good (Good.is _), tag4_good (Good.is _), tag4_good (Good.is _), tag4_good (Good.is _), tag4_good (Good.is _), tag4_good (Good.is _), tag4_good (Good.is _), tag4_good (Good.is _), tag4_good (Good.is _), tag4_good (Good.is _), tag4_good (Good.is _), tag_nilJ, tag4_good (Good.is _), tag4_good (Good.is _), tag_ownJ, tag4_good (Good.is _), tag4_good (Good.is _), tag_ownJ, tag4_good (Good.is _), tag4_good (Good.is _), tag4_good (Good.is _), trivial⟩
                  (fun W W1 hS hE => ⟨(Ext.trans hS.1 hE), (hS.2.1.ext hE), (hS.2.2.1.ext hE), (hS.2.2.2.1.ext hE), (hS.2.2.2.2.1.ext hE), (hS.2.2.2.2.2.1.ext hE), (hS.2.2.2.2.2.2.1.ext hE), (hS.2.2.2.2.2.2.2.1.ext hE), (hS.2.2.2.2.2.2.2.2.1.ext hE), (hS.2.2.2.2.2.2.2.2.2.1.ext hE), (hS.2.2.2.2.2.2.2.2.2.2.1.ext hE), (Nat.le_trans hS.2.2.2.2.2.2.2.2.2.2.2.1 (Ext.size hE)), (hS.2.2.2.2.2.2.2.2.2.2.2.2.1.ext hE), (hS.2.2.2.2.2.2.2.2.2.2.2.2.2.1.ext hE), (hS.2.2.2.2.2.2.2.2.2.2.2.2.2.2.1.ext hE), (hS.2.2.2.2.2.2.2.2.2.2.2.2.2.2.2.1.ext hE), (Nat.le_trans hS.2.2.2.2.2.2.2.2.2.2.2.2.2.2.2.2.1 (Ext.size hE)), (hS.2.2.2.2.2.2.2.2.2.2.2.2.2.2.2.2.2.1.ext hE), (hS.2.2.2.2.2.2.2.2.2.2.2.2.2.2.2.2.2.2.1.ext hE), (hS.2.2.2.2.2.2.2.2.2.2.2.2.2.2.2.2.2.2.2.1.ext hE), (Nat.le_trans hS.2.2.2.2.2.2.2.2.2.2.2.2.2.2.2.2.2.2.2.2.1 (Ext.size hE)), (hS.2.2.2.2.2.2.2.2.2.2.2.2.2.2.2.2.2.2.2.2.2.1.ext hE), (Nat.le_trans hS.2.2.2.2.2.2.2.2.2.2.2.2.2.2.2.2.2.2.2.2.2.2 (Ext.size hE))⟩) (fun _ _ h _ => h) (⟨fun _ _ h => h.elim, fun _ _ h => h.elim, fun _ _ _ h => h.elim, Nat.le_refl _⟩) ⟨E0, hi0, hi1, hi2, hi3, p2, p5, p8, i11, i12, i13, sz1, p10, i21, i22, i23, sz2, i31, i32, i33, sz3, p12, Nat.le_refl _⟩ trivial (by kernel_rfl) (by kernel_rfl) (by kernel_rfl) (by kernel_rfl) (A := ?A5) ?hA5 ?howe5 ?hfin5
                case hA5 =>
                  intro vs
                  simp only [putAll, Act.put, List.setIfInBounds_toArray, List.set_cons_zero, List.set_cons_succ, Nat.zero_add, Nat.reduceAdd]
                  exact rfl
                case howe5 =>
                  clear E0 hi0 hi1 hi2 hi3 p2 p5 p8 i11 i12 i13 sz1 p10 i21 i22 i23 sz2 i31 i32 i33 sz3 p12
                  intro hf
                  refine ⟨owes5E 0 [] hf rfl rfl rfl (by kernel_rfl) ?_, owes5E 1 [0] hf rfl rfl rfl (by kernel_rfl) ?_, owes5E 2 [1] hf rfl rfl rfl (by kernel_rfl) ?_, owes5E 3 [1, 2] hf rfl rfl rfl (by kernel_rfl) ?_, owes5E 4 [1, 3] hf rfl rfl rfl (by kernel_rfl) ?_, owes5E 5 [4] hf rfl rfl rfl (by kernel_rfl) ?_, owes5E 6 [5] hf rfl rfl rfl (by kernel_rfl) ?_, owes5E 7 [5, 6] hf rfl rfl rfl (by kernel_rfl) ?_, owes5E 8 [7] hf rfl rfl rfl (by kernel_rfl) ?_, owes5E 9 [8] hf rfl rfl rfl (by kernel_rfl) ?_, owes5E 10 [8, 9] hf rfl rfl rfl (by kernel_rfl) ?_, owes5N 11 [8] hf rfl rfl (by kernel_rfl) ?_, owes5E 12 [8] hf rfl rfl rfl (by kernel_rfl) ?_, owes5E 13 [8, 12] hf rfl rfl rfl (by kernel_rfl) ?_, owes5A 14 11 [17] [11, 13, 8] hf (by kernel_rfl) rfl rfl rfl (by kernel_rfl) rfl (by kernel_rfl) ?_, owes5E 15 [8] hf rfl rfl rfl (by kernel_rfl) ?_, owes5E 16 [8, 15] hf rfl rfl rfl (by kernel_rfl) ?_, owes5A 17 14 [] [14, 16, 8] hf (by kernel_rfl) rfl rfl rfl (by kernel_rfl) rfl (by kernel_rfl) ?_, owes5E 18 [10, 17, 8] hf rfl rfl rfl (by kernel_rfl) ?_, owes5E 19 [8, 18] hf rfl rfl rfl (by kernel_rfl) ?_, owes5E 20 [19] hf rfl rfl rfl (by kernel_rfl) ?_, trivial⟩
                  all_goals intro vs W hS hp hx KO hKO
                  all_goals simp only [Act.put, List.setIfInBounds_toArray, List.set_cons_zero, List.set_cons_succ] at hKO
                  · go_simp
                    refine (Try.alive18 _).mono ?_
                    rintro e W1 ⟨rfl, hE⟩
                    exact hKO _ W1 hE rfl
                  · have e0 := isOf hp.1
                    simp only [e0] at hKO
                    go_simp
                    exact hKO _ W (Ext.refl W) rfl
                  · have e1 := isOf hp.1
                    simp only [e1] at hKO
                    go_simp
                    exact hKO _ W (Ext.refl W) rfl
                  · have e1 := isOf hp.1
                    have e2 := isOf hp.2.1
                    simp only [e1, e2] at hKO
                    go_simp
                    exact hKO _ W (Ext.refl W) rfl
                  · have e1 := isOf hp.1
                    have e3 := isOf hp.2.1
                    simp only [e1, e3] at hKO
                    go_simp
                    exact hKO _ W (Ext.refl W) rfl
                  · have e4 := isOf hp.1
                    simp only [e4] at hKO
                    go_simp
                    exact hKO _ W (Ext.refl W) rfl
                  · have e5 := isOf hp.1
                    simp only [e5] at hKO
                    go_simp
                    exact hKO _ W (Ext.refl W) rfl
                  · have e5 := isOf hp.1
                    have e6 := isOf hp.2.1
                    simp only [e5, e6] at hKO
                    go_simp
                    exact hKO _ W (Ext.refl W) rfl
                  · have e7 := isOf hp.1
                    simp only [e7] at hKO
                    go_simp
                    exact hKO _ W (Ext.refl W) rfl
                  · have e8 := isOf hp.1
                    simp only [e8] at hKO
                    go_simp
                    exact hKO _ W (Ext.refl W) rfl
                  · have e8 := isOf hp.1
                    have e9 := isOf hp.2.1
                    simp only [e8, e9] at hKO
                    have fc2 := BxA.cell (hS.2.2.2.2.2.2.2.2.2.2.2.2.2.2.2.2.2.2.2.2.2.1) 2 (v := .slice x33 m3 m3) rfl
                    go_simp
                    exact hKO _ W (Ext.refl W) rfl
                  · have e8 := isOf hp.1
                    simp only [e8] at hKO
                    have hn := BxA.new W 2 #[]
                    have hsz := hS.2.2.2.2.2.2.2.2.2.2.2.2.2.2.2.2.2.2.2.2.2.2
                    have hlt := hn.lt
                    go_simp
                    exact hKO _ _ (Ext.alloc1 W _) (fun g hg => by have hq : W.heap.size = g := hg; exact ⟨by omega, by omega⟩) ⟨_, rfl, hsz, hn⟩
                  · have e8 := isOf hp.1
                    simp only [e8] at hKO
                    go_simp
                    exact hKO _ W (Ext.refl W) rfl
                  · have e8 := isOf hp.1
                    have e12 := isOf hp.2.1
                    simp only [e8, e12] at hKO
                    have fc2 := BxA.cell (hS.2.2.2.2.2.2.2.1) 2 (v := .slice x13 m1 m1) rfl
                    go_simp
                    exact hKO _ W (Ext.refl W) rfl
                  · have q11 := hp.1
                    have e13 := isOf hp.2.1
                    have e8 := isOf hp.2.2.1
                    simp only [e13, e8] at hKO
                    have hsz := hS.2.2.2.2.2.2.2.2.2.2.2.2.2.2.2.2.2.2.2.2.2.2
                    have hcc := HM.out
                    refine step_append_j Try.underlying25 Try.infoI (by simp only [e8]; rfl) _ _ rfl W4.heap.size (v := vs 11) rfl (by exact e13) (NilJ.own q11) hS.2.2.2.2.2.2.2.2.2.2.1 (by simp; omega) hsz ?_
                    intro v w1 hc ho
                    simp only [Act.put, List.setIfInBounds_toArray, List.set_cons_zero, List.set_cons_succ, e13, e8]
                    refine hKO v w1 ?_ ?_ ho
                    · rcases hc with ⟨hE, -⟩ | ⟨g, h1, h2, hw, -, h5⟩
                      · exact .inl hE
                      · exact .inr ⟨g, h1, hw, ⟨(Ext.wr hS.1 hw (by omega)), (hS.2.1.wr hw (by omega)), (hS.2.2.1.wr hw (by omega)), (hS.2.2.2.1.wr hw (by omega)), (hS.2.2.2.2.1.wr hw (by omega)), (hS.2.2.2.2.2.1.wr hw (by omega)), (hS.2.2.2.2.2.2.1.wr hw (by omega)), (hS.2.2.2.2.2.2.2.1.wr hw (by omega)), (hS.2.2.2.2.2.2.2.2.1.wr hw (by omega)), (hS.2.2.2.2.2.2.2.2.2.1.wr hw (by omega)), (hS.2.2.2.2.2.2.2.2.2.2.1.wr hw (by omega)), (Nat.le_trans hS.2.2.2.2.2.2.2.2.2.2.2.1 hw.apart.size), (hS.2.2.2.2.2.2.2.2.2.2.2.2.1.wr hw (by omega)), (hS.2.2.2.2.2.2.2.2.2.2.2.2.2.1.wr hw (by omega)), (hS.2.2.2.2.2.2.2.2.2.2.2.2.2.2.1.wr hw (by omega)), (hS.2.2.2.2.2.2.2.2.2.2.2.2.2.2.2.1.wr hw (by omega)), (Nat.le_trans hS.2.2.2.2.2.2.2.2.2.2.2.2.2.2.2.2.1 hw.apart.size), (hS.2.2.2.2.2.2.2.2.2.2.2.2.2.2.2.2.2.1.wr hw (by omega)), (hS.2.2.2.2.2.2.2.2.2.2.2.2.2.2.2.2.2.2.1.wr hw (by omega)), (hS.2.2.2.2.2.2.2.2.2.2.2.2.2.2.2.2.2.2.2.1.wr hw (by omega)), (Nat.le_trans hS.2.2.2.2.2.2.2.2.2.2.2.2.2.2.2.2.2.2.2.2.1 hw.apart.size), (hS.2.2.2.2.2.2.2.2.2.2.2.2.2.2.2.2.2.2.2.2.2.1.wr hw (by omega)), (Nat.le_trans hS.2.2.2.2.2.2.2.2.2.2.2.2.2.2.2.2.2.2.2.2.2.2 hw.apart.size)⟩, (fun h => h), NilJ.wr q11 hw⟩
                    · intro g hg
                      rcases hc with ⟨-, h3⟩ | ⟨g2, h1, -, -, h4, h5⟩
                      · exact h3 g hg
                      · rw [h4 g hg]; exact ⟨h5.lt h1, .inr h1⟩
                  · have e8 := isOf hp.1
                    simp only [e8] at hKO
                    go_simp
                    exact hKO _ W (Ext.refl W) rfl
                  · have e8 := isOf hp.1
                    have e15 := isOf hp.2.1
                    simp only [e8, e15] at hKO
                    have fc2 := BxA.cell (hS.2.2.2.2.2.2.2.2.2.2.2.2.1) 2 (v := .slice x23 m2 m2) rfl
                    go_simp
                    exact hKO _ W (Ext.refl W) rfl
                  · have q14 := hp.1
                    have e16 := isOf hp.2.1
                    have e8 := isOf hp.2.2.1
                    simp only [e16, e8] at hKO
                    have hsz := hS.2.2.2.2.2.2.2.2.2.2.2.2.2.2.2.2.2.2.2.2.2.2
                    have hcc := HM.out
                    refine step_append_j Try.underlying25 Try.infoI (by simp only [e8]; rfl) _ _ rfl W4.heap.size (v := vs 14) rfl (by exact e16) q14 hS.2.2.2.2.2.2.2.2.2.2.2.2.2.2.2.1 (by rw [HLN.out.2.2]; omega) hsz ?_
                    intro v w1 hc ho
                    simp only [Act.put, List.setIfInBounds_toArray, List.set_cons_zero, List.set_cons_succ, e16, e8]
                    refine hKO v w1 ?_ ?_ ho
                    · rcases hc with ⟨hE, -⟩ | ⟨g, h1, h2, hw, -, h5⟩
                      · exact .inl hE
                      · exact .inr ⟨g, h1, hw, ⟨(Ext.wr hS.1 hw (by omega)), (hS.2.1.wr hw (by omega)), (hS.2.2.1.wr hw (by omega)), (hS.2.2.2.1.wr hw (by omega)), (hS.2.2.2.2.1.wr hw (by omega)), (hS.2.2.2.2.2.1.wr hw (by omega)), (hS.2.2.2.2.2.2.1.wr hw (by omega)), (hS.2.2.2.2.2.2.2.1.wr hw (by omega)), (hS.2.2.2.2.2.2.2.2.1.wr hw (by omega)), (hS.2.2.2.2.2.2.2.2.2.1.wr hw (by omega)), (hS.2.2.2.2.2.2.2.2.2.2.1.wr hw (by omega)), (Nat.le_trans hS.2.2.2.2.2.2.2.2.2.2.2.1 hw.apart.size), (hS.2.2.2.2.2.2.2.2.2.2.2.2.1.wr hw (by omega)), (hS.2.2.2.2.2.2.2.2.2.2.2.2.2.1.wr hw (by omega)), (hS.2.2.2.2.2.2.2.2.2.2.2.2.2.2.1.wr hw (by omega)), (hS.2.2.2.2.2.2.2.2.2.2.2.2.2.2.2.1.wr hw (by omega)), (Nat.le_trans hS.2.2.2.2.2.2.2.2.2.2.2.2.2.2.2.2.1 hw.apart.size), (hS.2.2.2.2.2.2.2.2.2.2.2.2.2.2.2.2.2.1.wr hw (by omega)), (hS.2.2.2.2.2.2.2.2.2.2.2.2.2.2.2.2.2.2.1.wr hw (by omega)), (hS.2.2.2.2.2.2.2.2.2.2.2.2.2.2.2.2.2.2.2.1.wr hw (by omega)), (Nat.le_trans hS.2.2.2.2.2.2.2.2.2.2.2.2.2.2.2.2.2.2.2.2.1 hw.apart.size), (hS.2.2.2.2.2.2.2.2.2.2.2.2.2.2.2.2.2.2.2.2.2.1.wr hw (by omega)), (Nat.le_trans hS.2.2.2.2.2.2.2.2.2.2.2.2.2.2.2.2.2.2.2.2.2.2 hw.apart.size)⟩, (fun h => h), h5⟩
                    · intro g hg
                      rcases hc with ⟨-, h3⟩ | ⟨g2, h1, -, -, h4, h5⟩
                      · exact h3 g hg
                      · rw [h4 g hg]; exact ⟨h5.lt h1, .inr h1⟩
                  · have e10 := isOf hp.1
                    have q17 := hp.2.1
                    have e8 := isOf hp.2.2.1
                    simp only [e10, e8] at hKO
                    obtain ⟨a, c, ev, hw2⟩ := OwnJ.iw q17 HI3.out
                    obtain ⟨nn, hnn⟩ : ∃ n, n = (xv1 ++ xv2).length := ⟨_, rfl⟩
                    rw [← hnn] at ev hw2
                    clear hnn
                    replace ev : vs 17 = _ := ev
                    simp only [ev] at hKO
                    go_simp
                    refine (Try.refSame09 hS.2.2.2.2.2.2.2.2.2.2.2.2.2.2.2.2.2.2.2.1 hw2).mono ?_
                    rintro e W1 ⟨rfl, hE⟩
                    rw [decide_eq_true HD3.out]
                    exact hKO _ W1 hE rfl
                  · have e8 := isOf hp.1
                    have e18 := isOf hp.2.1
                    simp only [e8, e18] at hKO
                    go_simp
                    exact hKO _ W (Ext.refl W) rfl
                  · have e19 := isOf hp.1
                    simp only [e19] at hKO
                    go_simp
                    exact hKO _ W (Ext.refl W) rfl
                intro vs W5 hS hG hp
                clear ltsz1 ltsz2 ltsz3 szw5 E0 hi0 hi1 hi2 hi3 p2 p5 p8 i11 i12 i13 sz1 p10 i21 i22 i23 sz2 i31 i32 i33 sz3 p12
                obtain ⟨E0, hi0, hi1, hi2, hi3, p2, p5, p8, i11, i12, i13, sz1, p10, i21, i22, i23, sz2, i31, i32, i33, sz3, p12, sz5⟩ := hS
                obtain ⟨h5_0, h5_1, h5_2, h5_3, h5_4, h5_5, h5_6, h5_7, h5_8, h5_9, h5_10, h5_11, h5_12, h5_13, h5_14, h5_15, h5_16, h5_17, h5_18, h5_19, h5_20, -⟩ := hp
                skip
                skip
                skip
                replace h5_0 : vs 0 = .bool true := h5_0
                replace h5_1 : vs 1 = .bool true := h5_1
                replace h5_2 : vs 2 = .int .i64 0 := h5_2
                replace h5_3 : vs 3 = .bool true := h5_3
                replace h5_4 : vs 4 = .bool true := h5_4
                replace h5_5 : vs 5 = .bool true := h5_5
                replace h5_6 : vs 6 = .bool true := h5_6
                replace h5_7 : vs 7 = .bool true := h5_7
                replace h5_8 : vs 8 = .bool true := h5_8
                replace h5_9 : vs 9 = .pointer (some ⟨g12, 2, none⟩) := h5_9
                replace h5_10 : vs 10 = .slice x33 m3 m3 := h5_10
                replace h5_12 : vs 12 = .pointer (some ⟨g8, 2, none⟩) := h5_12
                replace h5_13 : vs 13 = .slice x13 m1 m1 := h5_13
                replace h5_15 : vs 15 = .pointer (some ⟨g10, 2, none⟩) := h5_15
                replace h5_16 : vs 16 = .slice x23 m2 m2 := h5_16
                replace h5_18 : vs 18 = .bool true := h5_18
                replace h5_19 : vs 19 = .bool true := h5_19
                replace h5_20 : vs 20 = .bool true := h5_20
                simp only [h5_0, h5_1, h5_2, h5_3, h5_4, h5_5, h5_6, h5_7, h5_8, h5_9, h5_10, h5_12, h5_13, h5_15, h5_16, h5_18, h5_19, h5_20]
                clear h5_0 h5_1 h5_2 h5_3 h5_4 h5_5 h5_6 h5_7 h5_8 h5_9 h5_10 h5_12 h5_13 h5_15 h5_16 h5_18 h5_19 h5_20 h5_11 h5_14 h5_17
                clear sHS5 sHG8 sHG10 sHS12
                obtain ⟨kp2_0, kp2_1, kp2_2, kp2_3, kp2_4, kp2_5, kp2_6, kp2_7, kp2_8, kp2_9, kp2_10, kp2_11, kp2_12⟩ := p2.cells13
                obtain ⟨kp5_0, kp5_1, kp5_2, kp5_3⟩ := p5.c4
                obtain ⟨kp8_0, kp8_1, kp8_2, kp8_3⟩ := p8.c4
                obtain ⟨kp10_0, kp10_1, kp10_2, kp10_3⟩ := p10.c4
                obtain ⟨kp12_0, kp12_1, kp12_2, kp12_3⟩ := p12.c4
                go_wp2
                go_ret
                exact ⟨rfl, E0⟩
              · have k2b : (E2 != 0) = true := bne_iff_ne.2 k2
                have k3b : (E3 != 0) = true := bne_iff_ne.2 (fun k3 => k2 (HD.out.2 k3).2)
                clear k2
                obtain ⟨kp2_0, kp2_1, kp2_2, kp2_3, kp2_4, kp2_5, kp2_6, kp2_7, kp2_8, kp2_9, kp2_10, kp2_11, kp2_12⟩ := p2.cells13
                obtain ⟨kp5_0, kp5_1, kp5_2, kp5_3⟩ := p5.c4
                obtain ⟨kp8_0, kp8_1, kp8_2, kp8_3⟩ := p8.c4
                obtain ⟨kp10_0, kp10_1, kp10_2, kp10_3⟩ := p10.c4
                obtain ⟨kp12_0, kp12_1, kp12_2, kp12_3⟩ := p12.c4
                go_wp2_with fail
                clear kp2_0 kp2_1 kp2_2 kp2_3 kp2_4 kp2_5 kp2_6 kp2_7 kp2_8 kp2_9 kp2_10 kp2_11 kp2_12 kp5_0 kp5_1 kp5_2 kp5_3 kp8_0 kp8_1 kp8_2 kp8_3 kp10_0 kp10_1 kp10_2 kp10_3 kp12_0 kp12_1 kp12_2 kp12_3
                refine (Try.alive18 _).mono ?_
                rintro e We ⟨rfl, hE⟩
                replace E0 := (Ext.trans E0 hE)
                replace hi0 := (hi0.ext hE)
                replace hi1 := (hi1.ext hE)
                replace hi2 := (hi2.ext hE)
                replace hi3 := (hi3.ext hE)
                replace p2 := (p2.ext hE)
                replace p5 := (p5.ext hE)
                replace p8 := (p8.ext hE)
                replace i11 := (i11.ext hE)
                replace i12 := (i12.ext hE)
                replace i13 := (i13.ext hE)
                replace sz1 := (Nat.le_trans sz1 (Ext.size hE))
                replace p10 := (p10.ext hE)
                replace i21 := (i21.ext hE)
                replace i22 := (i22.ext hE)
                replace i23 := (i23.ext hE)
                replace sz2 := (Nat.le_trans sz2 (Ext.size hE))
                replace i31 := (i31.ext hE)
                replace i32 := (i32.ext hE)
                replace i33 := (i33.ext hE)
                replace sz3 := (Nat.le_trans sz3 (Ext.size hE))
                replace p12 := (p12.ext hE)
                clear hE
                obtain ⟨kp2_0, kp2_1, kp2_2, kp2_3, kp2_4, kp2_5, kp2_6, kp2_7, kp2_8, kp2_9, kp2_10, kp2_11, kp2_12⟩ := p2.cells13
                obtain ⟨kp5_0, kp5_1, kp5_2, kp5_3⟩ := p5.c4
                obtain ⟨kp8_0, kp8_1, kp8_2, kp8_3⟩ := p8.c4
                obtain ⟨kp10_0, kp10_1, kp10_2, kp10_3⟩ := p10.c4
                obtain ⟨kp12_0, kp12_1, kp12_2, kp12_3⟩ := p12.c4
                go_wp2
                go_ret
                exact ⟨rfl, E0⟩
            · have k1b : (E1 != 0) = true := bne_iff_ne.2 k1
              have k3b : (E3 != 0) = true := bne_iff_ne.2 (fun k3 => k1 (HD.out.2 k3).1)
              clear k1
              obtain ⟨kp2_0, kp2_1, kp2_2, kp2_3, kp2_4, kp2_5, kp2_6, kp2_7, kp2_8, kp2_9, kp2_10, kp2_11, kp2_12⟩ := p2.cells13
              obtain ⟨kp5_0, kp5_1, kp5_2, kp5_3⟩ := p5.c4
              obtain ⟨kp8_0, kp8_1, kp8_2, kp8_3⟩ := p8.c4
              obtain ⟨kp10_0, kp10_1, kp10_2, kp10_3⟩ := p10.c4
              obtain ⟨kp12_0, kp12_1, kp12_2, kp12_3⟩ := p12.c4
              go_wp2_with fail
              clear kp2_0 kp2_1 kp2_2 kp2_3 kp2_4 kp2_5 kp2_6 kp2_7 kp2_8 kp2_9 kp2_10 kp2_11 kp2_12 kp5_0 kp5_1 kp5_2 kp5_3 kp8_0 kp8_1 kp8_2 kp8_3 kp10_0 kp10_1 kp10_2 kp10_3 kp12_0 kp12_1 kp12_2 kp12_3
              refine (Try.alive18 _).mono ?_
              rintro e We ⟨rfl, hE⟩
              replace E0 := (Ext.trans E0 hE)
              replace hi0 := (hi0.ext hE)
              replace hi1 := (hi1.ext hE)
              replace hi2 := (hi2.ext hE)
              replace hi3 := (hi3.ext hE)
              replace p2 := (p2.ext hE)
              replace p5 := (p5.ext hE)
              replace p8 := (p8.ext hE)
              replace i11 := (i11.ext hE)
              replace i12 := (i12.ext hE)
              replace i13 := (i13.ext hE)
              replace sz1 := (Nat.le_trans sz1 (Ext.size hE))
              replace p10 := (p10.ext hE)
              replace i21 := (i21.ext hE)
              replace i22 := (i22.ext hE)
              replace i23 := (i23.ext hE)
              replace sz2 := (Nat.le_trans sz2 (Ext.size hE))
              replace i31 := (i31.ext hE)
              replace i32 := (i32.ext hE)
              replace i33 := (i33.ext hE)
              replace sz3 := (Nat.le_trans sz3 (Ext.size hE))
              replace p12 := (p12.ext hE)
              clear hE
              obtain ⟨kp2_0, kp2_1, kp2_2, kp2_3, kp2_4, kp2_5, kp2_6, kp2_7, kp2_8, kp2_9, kp2_10, kp2_11, kp2_12⟩ := p2.cells13
              obtain ⟨kp5_0, kp5_1, kp5_2, kp5_3⟩ := p5.c4
              obtain ⟨kp8_0, kp8_1, kp8_2, kp8_3⟩ := p8.c4
              obtain ⟨kp10_0, kp10_1, kp10_2, kp10_3⟩ := p10.c4
              obtain ⟨kp12_0, kp12_1, kp12_2, kp12_3⟩ := p12.c4
              go_wp2
              go_ret
              exact ⟨rfl, E0⟩
          · have ej2 : (n0 : Int) < (j : Int) := by omega
            have ej4 : n0 < j := by omega
            clear ej
            obtain ⟨kp2_0, kp2_1, kp2_2, kp2_3, kp2_4, kp2_5, kp2_6, kp2_7, kp2_8, kp2_9, kp2_10, kp2_11, kp2_12⟩ := p2.cells13
            obtain ⟨kp5_0, kp5_1, kp5_2, kp5_3⟩ := p5.c4
            go_wp2_with fail
            clear kp2_0 kp2_1 kp2_2 kp2_3 kp2_4 kp2_5 kp2_6 kp2_7 kp2_8 kp2_9 kp2_10 kp2_11 kp2_12 kp5_0 kp5_1 kp5_2 kp5_3
            refine (Try.alive18 _).mono ?_
            rintro e We ⟨rfl, hE⟩
            replace E0 := (Ext.trans E0 hE)
            replace hi0 := (hi0.ext hE)
            replace hi1 := (hi1.ext hE)
            replace hi2 := (hi2.ext hE)
            replace hi3 := (hi3.ext hE)
            replace p2 := (p2.ext hE)
            replace p5 := (p5.ext hE)
            clear hE
            obtain ⟨kp2_0, kp2_1, kp2_2, kp2_3, kp2_4, kp2_5, kp2_6, kp2_7, kp2_8, kp2_9, kp2_10, kp2_11, kp2_12⟩ := p2.cells13
            obtain ⟨kp5_0, kp5_1, kp5_2, kp5_3⟩ := p5.c4
            go_wp2
            go_ret
            exact ⟨rfl, E0⟩
        · have ne : ((n3 : Int) != (n0 : Int)) = true := bne_iff_ne.2 (by omega)
          clear e3
          obtain ⟨kp2_0, kp2_1, kp2_2, kp2_3, kp2_4, kp2_5, kp2_6, kp2_7, kp2_8, kp2_9, kp2_10, kp2_11, kp2_12⟩ := p2.cells13
          obtain ⟨kp5_0, kp5_1, kp5_2, kp5_3⟩ := p5.c4
          go_wp2_with fail
          clear kp2_0 kp2_1 kp2_2 kp2_3 kp2_4 kp2_5 kp2_6 kp2_7 kp2_8 kp2_9 kp2_10 kp2_11 kp2_12 kp5_0 kp5_1 kp5_2 kp5_3
          refine (Try.alive18 _).mono ?_
          rintro e We ⟨rfl, hE⟩
          replace E0 := (Ext.trans E0 hE)
          replace hi0 := (hi0.ext hE)
          replace hi1 := (hi1.ext hE)
          replace hi2 := (hi2.ext hE)
          replace hi3 := (hi3.ext hE)
          replace p2 := (p2.ext hE)
          replace p5 := (p5.ext hE)
          clear hE
          obtain ⟨kp2_0, kp2_1, kp2_2, kp2_3, kp2_4, kp2_5, kp2_6, kp2_7, kp2_8, kp2_9, kp2_10, kp2_11, kp2_12⟩ := p2.cells13
          obtain ⟨kp5_0, kp5_1, kp5_2, kp5_3⟩ := p5.c4
          go_wp2
          go_ret
          exact ⟨rfl, E0⟩
      · have ne : ((n2 : Int) != (n0 : Int)) = true := bne_iff_ne.2 (by omega)
        clear e2
        obtain ⟨kp2_0, kp2_1, kp2_2, kp2_3, kp2_4, kp2_5, kp2_6, kp2_7, kp2_8, kp2_9, kp2_10, kp2_11, kp2_12⟩ := p2.cells13
        obtain ⟨kp5_0, kp5_1, kp5_2, kp5_3⟩ := p5.c4
        go_wp2_with fail
        clear kp2_0 kp2_1 kp2_2 kp2_3 kp2_4 kp2_5 kp2_6 kp2_7 kp2_8 kp2_9 kp2_10 kp2_11 kp2_12 kp5_0 kp5_1 kp5_2 kp5_3
        refine (Try.alive18 _).mono ?_
        rintro e We ⟨rfl, hE⟩
        replace E0 := (Ext.trans E0 hE)
        replace hi0 := (hi0.ext hE)
        replace hi1 := (hi1.ext hE)
        replace hi2 := (hi2.ext hE)
        replace hi3 := (hi3.ext hE)
        replace p2 := (p2.ext hE)
        replace p5 := (p5.ext hE)
        clear hE
        obtain ⟨kp2_0, kp2_1, kp2_2, kp2_3, kp2_4, kp2_5, kp2_6, kp2_7, kp2_8, kp2_9, kp2_10, kp2_11, kp2_12⟩ := p2.cells13
        obtain ⟨kp5_0, kp5_1, kp5_2, kp5_3⟩ := p5.c4
        go_wp2
        go_ret
        exact ⟨rfl, E0⟩
    · have ne : ((n1 : Int) != (n0 : Int)) = true := bne_iff_ne.2 (by omega)
      clear e1
      obtain ⟨kp2_0, kp2_1, kp2_2, kp2_3, kp2_4, kp2_5, kp2_6, kp2_7, kp2_8, kp2_9, kp2_10, kp2_11, kp2_12⟩ := p2.cells13
      obtain ⟨kp5_0, kp5_1, kp5_2, kp5_3⟩ := p5.c4
      go_wp2_with fail
      clear kp2_0 kp2_1 kp2_2 kp2_3 kp2_4 kp2_5 kp2_6 kp2_7 kp2_8 kp2_9 kp2_10 kp2_11 kp2_12 kp5_0 kp5_1 kp5_2 kp5_3
      refine (Try.alive18 _).mono ?_
      rintro e We ⟨rfl, hE⟩
      replace E0 := (Ext.trans E0 hE)
      replace hi0 := (hi0.ext hE)
      replace hi1 := (hi1.ext hE)
      replace hi2 := (hi2.ext hE)
      replace hi3 := (hi3.ext hE)
      replace p2 := (p2.ext hE)
      replace p5 := (p5.ext hE)
      clear hE
      obtain ⟨kp2_0, kp2_1, kp2_2, kp2_3, kp2_4, kp2_5, kp2_6, kp2_7, kp2_8, kp2_9, kp2_10, kp2_11, kp2_12⟩ := p2.cells13
      obtain ⟨kp5_0, kp5_1, kp5_2, kp5_3⟩ := p5.c4
      go_wp2
      go_ret
      exact ⟨rfl, E0⟩
  · rw [decide_eq_false hf]
    clear hf
    obtain ⟨kp2_0, kp2_1, kp2_2, kp2_3, kp2_4, kp2_5, kp2_6, kp2_7, kp2_8, kp2_9, kp2_10, kp2_11, kp2_12⟩ := p2.cells13
    obtain ⟨kp5_0, kp5_1, kp5_2, kp5_3⟩ := p5.c4
    go_wp2_with fail
    clear kp2_0 kp2_1 kp2_2 kp2_3 kp2_4 kp2_5 kp2_6 kp2_7 kp2_8 kp2_9 kp2_10 kp2_11 kp2_12 kp5_0 kp5_1 kp5_2 kp5_3
    refine (Try.alive18 _).mono ?_
    rintro e We ⟨rfl, hE⟩
    replace E0 := (Ext.trans E0 hE)
    replace hi0 := (hi0.ext hE)
    replace hi1 := (hi1.ext hE)
    replace hi2 := (hi2.ext hE)
    replace hi3 := (hi3.ext hE)
    replace p2 := (p2.ext hE)
    replace p5 := (p5.ext hE)
    clear hE
    obtain ⟨kp2_0, kp2_1, kp2_2, kp2_3, kp2_4, kp2_5, kp2_6, kp2_7, kp2_8, kp2_9, kp2_10, kp2_11, kp2_12⟩ := p2.cells13
    obtain ⟨kp5_0, kp5_1, kp5_2, kp5_3⟩ := p5.c4
    go_wp2
    go_ret
    exact ⟨rfl, E0⟩


end Go.Rt
