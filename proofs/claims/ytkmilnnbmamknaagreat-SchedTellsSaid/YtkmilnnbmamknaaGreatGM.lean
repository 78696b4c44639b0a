/-
  nat.Sub: a difference, limb by limb.
  The program's integers: made, Neg, Mul, Of, Add, Cmp, Int.
-/
import Derived.Test.YtkmilnnbmamknaaGreatGF
import Derived.Test.YtkmilnnbmamknaaGreatSqz
import Derived.Test.YtkmilnnbmamknaaGreatGL
namespace Go.Rt

open Go.RowKit Go.Shelf Go.Proofs

attribute [local go_sem] Oper.semAt_some

end Go.Rt

namespace Go.Rt
open Go.RowKit Go.Proofs

set_option maxHeartbeats 400000 in
theorem Tryz.zedMade {v : Value} {N : Nat} {w : World} (h : Nw w v N) (b : Bool) :
  Calls Tryz.prog 68 #[.bool b, v] w fun e w' => ∃ v', e = .returned v' ∧ Zw w' v' (sgn b N) ∧ Ext w w' := by
 obtain ⟨a, n, c, rfl, hz, -⟩ := h.len
 have key : ∀ b', b' = (b && decide (0 < N)) → Hid (Zw (w.alloc (.cells #[.bool b', .slice a n c] 54)) (.agg #[.bool b', .slice a n c]) (sgn b N)) := fun b' hb =>
  Lib.hid ⟨b', a, n, c, rfl, Lib.hid (by rw [sgn_neg, hb]), by rw [sgn_abs]; exact h.ext (Ext.alloc1 _ _)⟩
 cases b
 ·have HZ := key false (by simp)
  clear hz h key
  go_enter Tryz.func68, Tryz.ntmps68
  go_wp2
  exact bodyPost_ret (v := .agg #[.bool false, .slice a n c]) (by simp [results, Tryz.results68, go_sem]) rfl ⟨_, rfl, HZ.out, Ext.alloc1 _ _⟩
 ·by_cases h0 : 0 < n
  ·have h0I : (0 : Int) < (n : Int) := by omega
   have HZ := key true (by rw [pos_of hz h0]; rfl)
   clear hz h key
   go_enter Tryz.func68, Tryz.ntmps68
   go_wp2
   exact bodyPost_ret (v := .agg #[.bool true, .slice a n c]) (by simp [results, Tryz.results68, go_sem]) rfl ⟨_, rfl, HZ.out, Ext.alloc1 _ _⟩
  ·have h0I : ¬ (0 : Int) < (n : Int) := by omega
   have HZ := key false (by rw [zero_of hz h0]; rfl)
   clear hz h key
   go_enter Tryz.func68, Tryz.ntmps68
   go_wp2
   exact bodyPost_ret (v := .agg #[.bool false, .slice a n c]) (by simp [results, Tryz.results68, go_sem]) rfl ⟨_, rfl, HZ.out, Ext.alloc1 _ _⟩

set_option maxRecDepth 100000 in
set_option maxHeartbeats 1000000 in
theorem Tryz.zedMul {v1 v2 : Value} {x y : Int} {L1 L2 : Nat} {w : World} (h1 : Zw w v1 x) (h2 : Zw w v2 y) (s1 : Sm L1 x.natAbs) (s2 : Sm L2 y.natAbs) (hL : L1 + L2 ≤ 10000000) :
  Calls Tryz.prog 32 #[v1, v2] w fun e w' => ∃ v', e = .returned v' ∧ Zw w' v' (x * y) ∧ Ext w w' := by
 obtain ⟨b1, a1, n1, c1, rfl, hb1, g1⟩ := h1
 obtain ⟨b2, a2, n2, c2, rfl, hb2, g2⟩ := h2
 have HB : Hid (sgn (b1 != b2) (x.natAbs * y.natAbs) = x * y) := Lib.hid (sgn_mul hb1.out hb2.out)
 obtain ⟨W0, hW0⟩ : ∃ W0, W0 = ((w.alloc (.cells #[.bool b1, .slice a1 n1 c1] 54)).alloc (.cells #[.bool b2, .slice a2 n2 c2] 54)).alloc (.cells #[.bool false, .slice none 0 0] 54) := ⟨_, rfl⟩
 have E0 : Ext w W0 := by rw [hW0]; exact ((Ext.alloc1 _ _).alloc _).alloc _
 have p1 : Bx2 W0 w.heap.size 54 (.bool b1) (.slice a1 n1 c1) := by rw [hW0]; exact (Bx2.new w _ _ _).ext ((Ext.alloc1 _ _).alloc _)
 have p2 : Bx2 W0 (w.heap.size + 1) 54 (.bool b2) (.slice a2 n2 c2) := by rw [hW0]; simpa using (Bx2.new (w.alloc (.cells #[.bool b1, .slice a1 n1 c1] 54)) 54 (.bool b2) (.slice a2 n2 c2)).ext (Ext.alloc1 _ (.cells #[.bool false, .slice none 0 0] 54))
 have p3 : Bx2 W0 (w.heap.size + 1 + 1) 54 (.bool false) (.slice none 0 0) := by rw [hW0]; simpa using Bx2.new ((w.alloc (.cells #[.bool b1, .slice a1 n1 c1] 54)).alloc (.cells #[.bool b2, .slice a2 n2 c2] 54)) 54 (.bool false) (.slice none 0 0)
 have k1 := p1.cell0
 have k2 := p1.cell1
 have k3 := p2.cell0
 have k4 := p2.cell1
 have k5 := p3.froz0
 have k6 := p3.froz1
 replace g1 := g1.ext (E0.drew)
 replace g2 := g2.ext (E0.drew)
 go_enter Tryz.func32, Tryz.ntmps32
 go_wp2_with fail
 rw [← hW0]
 clear hW0 hb1 hb2
 go_region_held3 (fun W => W.cell? ⟨w.heap.size, 0, none⟩ = some (.bool b1) ∧ W.cell? ⟨w.heap.size, 1, none⟩ = some (.slice a1 n1 c1) ∧ W.cell? ⟨w.heap.size + 1, 0, none⟩ = some (.bool b2) ∧ W.cell? ⟨w.heap.size + 1, 1, none⟩ = some (.slice a2 n2 c2) ∧ W.frozen? ⟨w.heap.size + 1 + 1, 0, none⟩ = false ∧ W.frozen? ⟨w.heap.size + 1 + 1, 1, none⟩ = false)
  (first | exact ⟨k1, k2, k3, k4, k5, k6⟩ | exact ⟨(q1.off (by omega) _ _).cell0, (q1.off (by omega) _ _).cell1, (q2.off (by omega) _ _).cell0, (q2.off (by omega) _ _).cell1, (q3.set _ _).froz0, (q3.set _ _).froz1⟩ | exact ⟨q1.cell0, q1.cell1, q2.cell0, q2.cell1, q3.froz0, q3.froz1⟩)
  (first
   | (go_at_call 26; refine (Tryz.natMul g1 g2 s1 s2 hL).mono ?_; rintro e w1 ⟨vm, rfl, hm, hE, -⟩; have hT := (Ext.drew1 W0).trans hE; have q1 := p1.ext hT; have q2 := p2.ext hT; have q3 := p3.ext hT)
   | (go_at_call 68; refine (Tryz.zedMade hm (b1 != b2)).mono ?_; rintro e w2 ⟨vr, rfl, hz, hE2⟩; rw [HB.out] at hz; have hz' := hz; obtain ⟨b3, a3, n3, c3, rfl, -, hn3⟩ := hz; have hT2 := hT.trans hE2; clear q1 q2 q3; have q1 := p1.ext hT2; have q2 := p2.ext hT2; have q3 := p3.ext hT2; have r0 := q3.cell0; have r1 := q3.cell1))
 have hT9 := E0.trans hT2
 clear k1 k2 k3 k4 k5 k6 hE hE2 hT hT2 r0 r1 q1 q2; go_wp2
 have q := q3.set (.bool b3) (.slice a3 n3 c3)
 have e0 := q.cell0
 have e1 := q.cell1
 exact bodyPost_ret (v := .agg #[.bool b3, .slice a3 n3 c3]) (by simp [results, Tryz.results32, go_sem, e0, e1]) rfl ⟨_, rfl, hz'.off q3 (noU2 _ _ _ _) (off_set2 _ _ _ _), hT9.set2 (by omega) _ _⟩

theorem sgn_of {n : Int} : sgn (decide (n < 0)) n.natAbs = n := by
 unfold sgn
 by_cases h : n < 0
 ·rw [decide_eq_true h]; simp; omega
 ·rw [decide_eq_false h]; simp; omega


set_option maxRecDepth 100000 in
set_option maxHeartbeats 400000 in
theorem Tryz.zedOf (n : Int) (w : World) (h1 : -9223372036854775808 ≤ n) (h2 : n < 9223372036854775808) :
  Calls Tryz.prog 33 #[.int .i64 n] w fun e w' => ∃ v', e = .returned v' ∧ Zw w' v' n ∧ Ext w w' := by
 have HS : Hid (sgn (decide (n < 0)) n.natAbs = n) := Lib.hid sgn_of
 have HB : Hid (n.natAbs < B64) := Lib.hid (by rw [B64_eq]; omega)
 obtain ⟨M, hM⟩ : ∃ M, M = n.natAbs := ⟨_, rfl⟩
 rw [← hM] at HS HB
 by_cases hn : n < 0
 ·have hM2 : n = -(M : Int) := by omega
  subst hM2
  have hM0 : 0 < M := by omega
  have e1 : IntKind.u64.wrap (-(M : Int)) = 18446744073709551616 - (M : Int) := by rw [IntKind.wrap_u64]; omega
  have e2 : IntKind.u64.wrap (-(18446744073709551616 - (M : Int))) = (M : Int) := by rw [IntKind.wrap_u64]; omega
  have hD : decide (-(M : Int) < 0) = true := decide_eq_true hn
  rw [hD] at HS
  clear hM
  obtain ⟨W0, hW0⟩ : ∃ W0, W0 = (w.alloc (.cells #[.bool false, .slice none 0 0] 54)) := ⟨_, rfl⟩
  have E0 : Ext w W0 := by rw [hW0]; exact (Ext.alloc1 w (.cells #[.bool false, .slice none 0 0] 54))
  have p2 : Bx2 W0 w.heap.size 54 (.bool false) (.slice none 0 0) := by rw [hW0]; exact (Bx2.new w 54 (.bool false) (.slice none 0 0))
  go_enter Tryz.func33, Tryz.ntmps33
  obtain ⟨kp2_0, kp2_1⟩ := p2.c2
  go_upto_region 4 with (fail)
  rw [← hW0]
  clear hW0; clear kp2_0 kp2_1; have fp2 := p2.form; have ltfp2 := fp2.lt; have szw1 := Ext.size E0
  refine region_gs [.one fun v _ => v = .int .i64 (-(M : Int)),
    .one fun v _ => v = .bool true,
    .one fun v _ => v = .int .u64 (M : Int),
    .one fun v W => Nw W v M,
    .one fun v W => Zw W v ((-(M : Int))),
    .two 4 (fun r _ W => At2 w.heap.size 54 r W)]
   (fun W => Ext w W ∧ Form W w.heap.size 54 2 ∧ W0.heap.size ≤ W.heap.size) ⟨Good.is _, Good.is _, Good.is _, Good.num _, Good.zed _, cert_at2, trivial⟩
   ⟨E0, fp2, Nat.le_refl _⟩ (A := ?A1) ?hA1 ?howe1 ?hfin1
  case hA1 =>
   intro vs
   simp only [putAll, Act.put, sA, sZ, sS, Nat.zero_add, Nat.reduceAdd]
   exact rfl
  case howe1 =>
   clear E0 fp2
   intro hf
   refine ⟨oE 0 [] hf rfl ?_, oE 1 [0] hf rfl ?_, oE 2 [] hf rfl ?_, oE 3 [2] hf rfl ?_, oE 4 [1, 3] hf rfl ?_, oW 5 [4] hf rfl ?_, trivial⟩
   all_goals intro vs W hS hp hx KO hKO
   all_goals simp only [Act.put, sA, sZ, sS] at hKO
   ·go_simp; exact hKO _ W (.refl W) rfl
   ·have e0 := isOf hp.1; simp only [e0] at hKO; go_simp; exact hKO _ W (.refl W) rfl
   ·go_simp; exact hKO _ W (.refl W) rfl
   ·have e2 := isOf hp.1; simp only [e2] at hKO; go_simp
    refine (Tryz.natOf M _ HB.out).mono ?_
    rintro e W1 ⟨v, rfl, hv, hE, -⟩
    exact hKO _ W1 hE hv
   ·have e1 := isOf hp.1; have q3 := hp.2.1; simp only [e1] at hKO; go_simp
    refine (Tryz.zedMade q3 true).mono ?_
    rintro e W1 ⟨v, rfl, hv, hE⟩
    rw [HS.out] at hv
    exact hKO _ W1 hE hv
   ·have q4 := hp.1
    have hf := hS.2.1
    obtain ⟨x0, y0, hx, hno⟩ := hf.bx2
    have qr := q4
    obtain ⟨b3, a3, n3, c3, er, -, -⟩ := qr
    replace er : vs 4 = _ := er
    have r0 := hx.froz0
    have t0 := hx.cell0
    have r1 := hx.froz1
    have t1 := hx.cell1
    have hw := Wr.set2 hx hno b3 a3 n3 c3
    have hq := hx.set (.bool b3) (.slice a3 n3 c3)
    have hg : w.heap.size ≤ w.heap.size := Nat.le_refl _
    simp only [er] at hKO; go_simp
    exact hKO _ _ hw ⟨(Ext.wr hS.1 hw (by omega)), (hS.2.1.wr hw), (Nat.le_trans hS.2.2 hw.apart.size)⟩ ⟨b3, a3, n3, c3, er, hq⟩
  intro vs W1 hS hp
  clear szw1 E0 fp2
  obtain ⟨E0, fp2, sz1⟩ := hS
  obtain ⟨h1_0, h1_1, h1_2, h1_3, h1_4, h1_5, -⟩ := hp
  obtain ⟨b1_5, a1_5, n1_5, c1_5, er1_5, p1_5⟩ := h1_5
  replace er1_5 : vs 4 = _ := er1_5; replace h1_4 := (show Zw W1 (vs 4) ((-(M : Int))) from h1_4)
  rw [er1_5] at h1_4
  replace h1_0 : vs 0 = .int .i64 (-(M : Int)) := h1_0
  replace h1_1 : vs 1 = .bool true := h1_1
  replace h1_2 : vs 2 = .int .u64 (M : Int) := h1_2
  simp only [er1_5, h1_0, h1_1, h1_2]
  replace h1_3 : Nw W1 (vs 3) M := h1_3
  generalize vs 3 = u1_3 at h1_3 ⊢
  clear er1_5 h1_0 h1_1 h1_2
  obtain ⟨kp1_5_0, kp1_5_1⟩ := p1_5.c2
  go_wp2
  exact bodyPost_ret (v := .agg #[.bool b1_5, .slice a1_5 n1_5 c1_5]) (by simp [results, Tryz.results33, go_sem, kp1_5_0, kp1_5_1]) rfl ⟨_, rfl, h1_4, E0⟩
 ·have hM2 : n = (M : Int) := by omega
  subst hM2
  have e1 : IntKind.u64.wrap (M : Int) = (M : Int) := by rw [IntKind.wrap_u64]; omega
  have hD : decide ((M : Int) < 0) = false := decide_eq_false hn
  rw [hD] at HS
  clear hM
  obtain ⟨W0, hW0⟩ : ∃ W0, W0 = (w.alloc (.cells #[.bool false, .slice none 0 0] 54)) := ⟨_, rfl⟩
  have E0 : Ext w W0 := by rw [hW0]; exact (Ext.alloc1 w (.cells #[.bool false, .slice none 0 0] 54))
  have p2 : Bx2 W0 w.heap.size 54 (.bool false) (.slice none 0 0) := by rw [hW0]; exact (Bx2.new w 54 (.bool false) (.slice none 0 0))
  go_enter Tryz.func33, Tryz.ntmps33
  obtain ⟨kp2_0, kp2_1⟩ := p2.c2
  go_upto_region 4 with (fail)
  rw [← hW0]
  clear hW0; clear kp2_0 kp2_1; have fp2 := p2.form; have ltfp2 := fp2.lt; have szw2 := Ext.size E0
  refine region_gs [.one fun v _ => v = .int .i64 (M : Int),
    .one fun v _ => v = .bool false,
    .one fun v _ => v = .int .u64 (M : Int),
    .one fun v W => Nw W v M,
    .one fun v W => Zw W v ((M : Int)),
    .two 4 (fun r _ W => At2 w.heap.size 54 r W)]
   (fun W => Ext w W ∧ Form W w.heap.size 54 2 ∧ W0.heap.size ≤ W.heap.size) ⟨Good.is _, Good.is _, Good.is _, Good.num _, Good.zed _, cert_at2, trivial⟩
   ⟨E0, fp2, Nat.le_refl _⟩ (A := ?A2) ?hA2 ?howe2 ?hfin2
  case hA2 =>
   intro vs
   simp only [putAll, Act.put, sA, sZ, sS, Nat.zero_add, Nat.reduceAdd]
   exact rfl
  case howe2 =>
   clear E0 fp2
   intro hf
   refine ⟨oE 0 [] hf rfl ?_, oE 1 [0] hf rfl ?_, oE 2 [] hf rfl ?_, oE 3 [2] hf rfl ?_, oE 4 [1, 3] hf rfl ?_, oW 5 [4] hf rfl ?_, trivial⟩
   all_goals intro vs W hS hp hx KO hKO
   all_goals simp only [Act.put, sA, sZ, sS] at hKO
   ·go_simp; exact hKO _ W (.refl W) rfl
   ·have e0 := isOf hp.1; simp only [e0] at hKO; go_simp; exact hKO _ W (.refl W) rfl
   ·go_simp; exact hKO _ W (.refl W) rfl
   ·have e2 := isOf hp.1; simp only [e2] at hKO; go_simp
    refine (Tryz.natOf M _ HB.out).mono ?_
    rintro e W1 ⟨v, rfl, hv, hE, -⟩
    exact hKO _ W1 hE hv
   ·have e1 := isOf hp.1; have q3 := hp.2.1; simp only [e1] at hKO; go_simp
    refine (Tryz.zedMade q3 false).mono ?_
    rintro e W1 ⟨v, rfl, hv, hE⟩
    rw [HS.out] at hv
    exact hKO _ W1 hE hv
   ·have q4 := hp.1
    have hf := hS.2.1
    obtain ⟨x0, y0, hx, hno⟩ := hf.bx2
    have qr := q4
    obtain ⟨b3, a3, n3, c3, er, -, -⟩ := qr
    replace er : vs 4 = _ := er
    have r0 := hx.froz0
    have t0 := hx.cell0
    have r1 := hx.froz1
    have t1 := hx.cell1
    have hw := Wr.set2 hx hno b3 a3 n3 c3
    have hq := hx.set (.bool b3) (.slice a3 n3 c3)
    have hg : w.heap.size ≤ w.heap.size := Nat.le_refl _
    simp only [er] at hKO; go_simp
    exact hKO _ _ hw ⟨(Ext.wr hS.1 hw (by omega)), (hS.2.1.wr hw), (Nat.le_trans hS.2.2 hw.apart.size)⟩ ⟨b3, a3, n3, c3, er, hq⟩
  intro vs W2 hS hp
  clear szw2 E0 fp2
  obtain ⟨E0, fp2, sz2⟩ := hS
  obtain ⟨h2_0, h2_1, h2_2, h2_3, h2_4, h2_5, -⟩ := hp
  obtain ⟨b2_5, a2_5, n2_5, c2_5, er2_5, p2_5⟩ := h2_5
  replace er2_5 : vs 4 = _ := er2_5; replace h2_4 := (show Zw W2 (vs 4) ((M : Int)) from h2_4)
  rw [er2_5] at h2_4
  replace h2_0 : vs 0 = .int .i64 (M : Int) := h2_0
  replace h2_1 : vs 1 = .bool false := h2_1
  replace h2_2 : vs 2 = .int .u64 (M : Int) := h2_2
  simp only [er2_5, h2_0, h2_1, h2_2]
  replace h2_3 : Nw W2 (vs 3) M := h2_3
  generalize vs 3 = u2_3 at h2_3 ⊢
  clear er2_5 h2_0 h2_1 h2_2
  obtain ⟨kp2_5_0, kp2_5_1⟩ := p2_5.c2
  go_wp2
  exact bodyPost_ret (v := .agg #[.bool b2_5, .slice a2_5 n2_5 c2_5]) (by simp [results, Tryz.results33, go_sem, kp2_5_0, kp2_5_1]) rfl ⟨_, rfl, h2_4, E0⟩

theorem sgn_add_diff {x y : Int} {b c : Bool} (h1 : b = decide (x < 0)) (h2 : c = decide (y < 0)) (hb : b ≠ c) (hle : y.natAbs ≤ x.natAbs) : sgn b (x.natAbs - y.natAbs) = x + y := by
 unfold sgn
 cases b
 ·have a1 := of_decide_eq_false h1.symm
  cases c
  ·exact absurd rfl hb
  ·have a2 := of_decide_eq_true h2.symm
   simp
   omega
 ·have a1 := of_decide_eq_true h1.symm
  cases c
  ·have a2 := of_decide_eq_false h2.symm
   simp
   omega
  ·exact absurd rfl hb

end Go.Rt
