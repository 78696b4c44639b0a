/-
 The program's comparisons; quotients by nought.
-/
import Derived.Test.YtkbalokicnogbaaGreatGY
import Derived.Test.YtkbalokicnogbaaGreatRight

namespace Go.Rt

open Go.RowKit Go.Proofs

set_option maxRecDepth 100000 in
set_option maxHeartbeats 400000 in
theorem Tryz.refRDiv0 {v1 v2 : Value} {x : Rat} {L : Nat} {w : World} (h1 : Rw w v1 x) (h2 : Rw w v2 0) (_s1 : SmR L x) (_hL : L ≤ 100000) :
  Calls Tryz.prog 152 #[v1, v2] w fun e w' => e = .returned (.tuple #[.agg #[.bool false, .slice none 0 0, .slice none 0 0], .int .i64 4]) ∧ Ext w w' := by
 obtain ⟨b1, a1, n1, c1, d1, m1, o1, rfl, q1⟩ : ∃ b a n c d m o, v1 = .agg #[.bool b, .slice a n c, .slice d m o] ∧ True := let ⟨b, a, n, c, d, m, o, e, _⟩ := h1; ⟨b, a, n, c, d, m, o, e, trivial⟩
 clear q1
 obtain ⟨b2, a2, n2, c2, d2, m2, o2, rfl, q2⟩ : ∃ b a n c d m o, v2 = .agg #[.bool b, .slice a n c, .slice d m o] ∧ True := let ⟨b, a, n, c, d, m, o, e, _⟩ := h2; ⟨b, a, n, c, d, m, o, e, trivial⟩
 clear q2
 have hyz := h2.top.num.len
 obtain ⟨_, _, _, er, hz0, -⟩ := hyz
 cases er
 have hm2 : ((n2 : Int) == 0) = true := by simp [hz0.2 rfl]
 clear hz0
 obtain ⟨W0, hW0, E0, p2, p3, p4⟩ := boxed3 w 61 #[.bool b1, .slice a1 n1 c1, .slice d1 m1 o1] 61 #[.bool b2, .slice a2 n2 c2, .slice d2 m2 o2] 61 #[.bool false, .slice none 0 0, .slice none 0 0]
 replace p2 := p2.b3
 replace p3 := p3.b3
 replace p4 := p4.b3
 replace h1 : Rw W0 (.agg #[.bool b1, .slice a1 n1 c1, .slice d1 m1 o1]) x := h1.ext E0
 replace h2 : Rw W0 (.agg #[.bool b2, .slice a2 n2 c2, .slice d2 m2 o2]) 0 := h2.ext E0
 go_enter Tryz.func152, Tryz.ntmps152
 obtain ⟨k2a, k2b, k2c⟩ := p2.c3
 obtain ⟨k3a, k3b, k3c⟩ := p3.c3
 obtain ⟨k4a, k4b, k4c⟩ := p4.c3
 go_upto_region 2 with (fail)
 rw [← hW0]
 clear hW0; clear k2a k2b k2c k3a k3b k3c k4a k4b k4c; have fp4 := p4.form; have ltp2 := p2.lt; have ltp3 := p3.lt; have ltfp4 := fp4.lt; have szw2 := Ext.size E0
 refine region_gs [isV (.agg #[.bool false, .slice none 0 0, .slice none 0 0]),
   .own fun W => Bx3 W (w.heap.size + 1 + 1) 61 (.bool false) (.slice none 0 0) (.slice none 0 0),
   isV (.int .i64 4)]
  (fun W => Ext w W ∧ Rw W (.agg #[.bool b1, .slice a1 n1 c1, .slice d1 m1 o1]) x ∧ Rw W (.agg #[.bool b2, .slice a2 n2 c2, .slice d2 m2 o2]) 0 ∧ Bx3 W w.heap.size 61 (.bool b1) (.slice a1 n1 c1) (.slice d1 m1 o1) ∧ Bx3 W (w.heap.size + 1) 61 (.bool b2) (.slice a2 n2 c2) (.slice d2 m2 o2) ∧ Form W (w.heap.size + 1 + 1) 61 3 ∧ W0.heap.size ≤ W.heap.size) ⟨Good.is _, cert_bx3, Good.is _, trivial⟩
  ⟨E0, h1, h2, p2, p3, fp4, Nat.le_refl _⟩ (A := ?A2) ?hA2 ?howe2 ?hfin2
 case hA2 =>
  intro vs
  simp only [putAll, Act.put, sA, sZ, sS, Nat.zero_add, Nat.reduceAdd]
  exact rfl
 case howe2 =>
  clear E0 h1 h2 p2 p3 fp4
  intro hf
  refine ⟨oP0 0 [] hf rfl, oW 1 [0] hf rfl ?_, oP0 2 [] hf rfl, trivial⟩
  all_goals intro vs W hS hp hx KO hKO
  all_goals simp only [Act.put] at hKO
  ·have e0 := isOf hp.1; simp only [e0] at hKO
   have hf := hS.2.2.2.2.2.1
   obtain ⟨x0, y0, z0, hx, hno⟩ := hf.bx3
   have r0 := hx.froz0
   have t0 := hx.cell0
   have r1 := hx.froz1
   have t1 := hx.cell1
   have r2 := hx.froz2
   have t2 := hx.cell2
   have hw := Wr.set3 hx hno false none 0 0 none 0 0
   have hq := hx.set (.bool false) (.slice none 0 0) (.slice none 0 0)
   have hg : (w.heap.size + 1 + 1) ≤ (w.heap.size + 1 + 1) := Nat.le_refl _
   go_simp
   exact hKO _ _ hw ⟨(Ext.wr hS.1 hw (by omega)), (hS.2.1.wr hw), (hS.2.2.1.wr hw), (hS.2.2.2.1.wr hw (by omega)), (hS.2.2.2.2.1.wr hw (by omega)), (hS.2.2.2.2.2.1.wr hw), (Nat.le_trans hS.2.2.2.2.2.2 hw.apart.size)⟩ hq
 intro vs W2 hS hp
 clear szw2 E0 h1 h2 p2 p3 fp4
 obtain ⟨E0, h1, h2, p2, p3, fp4, sz2⟩ := hS
 obtain ⟨h2_0, h2_1, h2_2, -⟩ := hp
 have p2_1 : Bx3 W2 (w.heap.size + 1 + 1) 61 (.bool false) (.slice none 0 0) (.slice none 0 0) := h2_1
 simp only [isOf h2_0, isOf h2_2]
 clear h2_0 h2_2
 obtain ⟨k2a, k2b, k2c⟩ := p2.c3
 obtain ⟨k3a, k3b, k3c⟩ := p3.c3
 obtain ⟨k2_1a, k2_1b, k2_1c⟩ := p2_1.c3
 go_wp2
 exact bodyPost_ret (v := .tuple #[.agg #[.bool false, .slice none 0 0, .slice none 0 0], .int .i64 4]) (by simp [results, Tryz.results152, go_sem, k2_1a, k2_1b, k2_1c]) rfl ⟨rfl, E0⟩

end Go.Rt
