/-
  A mantissa of a rational, and a mantissa's number: by the program and by definition.
-/
import Derived.Test.YtfgmfhdcdhanbaaGreatDyadC
import Derived.Test.YtfgmfhdcdhanbaaGreatRef08

namespace Go.Rt

open Go Go.RowKit Go.Proofs

set_option maxRecDepth 100000 in
set_option maxHeartbeats 4000000 in
theorem Tryz.ref08Of {v1 : Value} {x : Rat} {L : Nat} {w : World} (h1 : Rw w v1 x) (s1 : SmR L x) (hL : L ≤ 60) (K : Nat) (hK : K ≤ 40) {V E : Int} (hV : fitV (nearR (x * P2 K)) = V) (hE : fitE (nearR (x * P2 K)) = E) :
    Calls Tryz.prog 25 #[v1, .int .i64 (K : Int)] w fun e w' => e = .returned (.tuple #[.int .i64 V, .int .i64 E]) ∧ Ext w w' := by
  obtain ⟨b1, a1, n1, c1, d1, m1, o1, rfl, q1⟩ : ∃ b a n c d m o, v1 = .agg #[.bool b, .slice a n c, .slice d m o] ∧ True := let ⟨b, a, n, c, d, m, o, e, _⟩ := h1; ⟨b, a, n, c, d, m, o, e, trivial⟩
  clear q1
  have HF : Hid (fracB (K : Int) = true) := Lib.hid (decide_eq_true (by omega))
  have HV := Lib.hid hV
  have HEE := Lib.hid hE
  clear hV hE
  obtain ⟨W0, hW0⟩ : ∃ W0, W0 = (w.alloc (.cells #[.bool b1, .slice a1 n1 c1, .slice d1 m1 o1] 46)) := ⟨_, rfl⟩
  have E0 : Ext w W0 := by rw [hW0]; exact (Ext.alloc1 w (.cells #[.bool b1, .slice a1 n1 c1, .slice d1 m1 o1] 46))
  replace h1 : Rw W0 (.agg #[.bool b1, .slice a1 n1 c1, .slice d1 m1 o1]) x := h1.ext E0
  have p2 : Bx3 W0 w.heap.size 46 (.bool b1) (.slice a1 n1 c1) (.slice d1 m1 o1) := by rw [hW0]; exact (Bx3.new w 46 (.bool b1) (.slice a1 n1 c1) (.slice d1 m1 o1))
  go_enter Tryz.func25, Tryz.ntmps25
  have kp2_0 := p2.cell0
  have kp2_1 := p2.cell1
  have kp2_2 := p2.cell2
  go_wp2_with fail
  rw [← hW0]
  clear hW0
  clear kp2_0 kp2_1 kp2_2
  refine (Tryz.refFrac08 (K : Int) _).mono ?_
  rintro e Wc ⟨rfl, rfl⟩
  rw [HF.out]
  have kp2_0 := p2.cell0
  have kp2_1 := p2.cell1
  have kp2_2 := p2.cell2
  go_upto_region 3 with (fail)
  clear kp2_0 kp2_1 kp2_2
  have ltp2 := p2.lt
  have szw3 := Ext.size E0
  refine region_go [.one fun v _ => v = .agg #[.bool b1, .slice a1 n1 c1, .slice d1 m1 o1],
      .one fun v _ => v = .int .i64 (K : Int),
      .one fun v _ => v = .tuple #[.int .i64 V, .int .i64 E],
      .one fun v _ => v = .int .i64 V,
      .one fun v _ => v = .int .i64 E,
      .one fun v _ => v = .int .i64 V,
      .one fun v _ => v = .int .i64 E]
    (fun W => Ext w W ∧ Rw W (.agg #[.bool b1, .slice a1 n1 c1, .slice d1 m1 o1]) x ∧ Bx3 W w.heap.size 46 (.bool b1) (.slice a1 n1 c1) (.slice d1 m1 o1) ∧ W0.heap.size ≤ W.heap.size) ⟨Good.is _, Good.is _, Good.is _, Good.is _, Good.is _, Good.is _, Good.is _, trivial⟩
    (fun W W1 hS hE => ⟨(Ext.trans hS.1 hE), (hS.2.1.ext hE), (hS.2.2.1.ext hE), (Nat.le_trans hS.2.2.2 (Ext.size hE))⟩) ⟨E0, h1, p2, Nat.le_refl _⟩ (by kernel_rfl) (by kernel_rfl) (by kernel_rfl) (by kernel_rfl) (A := ?A3) ?hA3 ?howe3 ?hfin3
  case hA3 =>
    intro vs
    simp only [putAll, Act.put, List.setIfInBounds_toArray, List.set_cons_zero, List.set_cons_succ, Nat.zero_add, Nat.reduceAdd]
    exact rfl
  case howe3 =>
    clear E0 h1 p2
    intro hf
    refine ⟨owesE 0 [] hf rfl (by kernel_rfl) ?_, owesE 1 [] hf rfl (by kernel_rfl) ?_, owesE 2 [0, 1] hf rfl (by kernel_rfl) ?_, owesE 3 [2] hf rfl (by kernel_rfl) ?_, owesE 4 [2] hf rfl (by kernel_rfl) ?_, owesE 5 [3] hf rfl (by kernel_rfl) ?_, owesE 6 [4] hf rfl (by kernel_rfl) ?_, trivial⟩
    all_goals intro vs W hS hp hx KO hKO
    all_goals simp only [Act.put, List.setIfInBounds_toArray, List.set_cons_zero, List.set_cons_succ] at hKO
    · have fc0 := hS.2.2.1.cell0
      have fc1 := hS.2.2.1.cell1
      have fc2 := hS.2.2.1.cell2
      go_simp
      exact hKO _ W (Ext.refl W) rfl
    · go_simp
      exact hKO _ W (Ext.refl W) rfl
    · have e0 := isOf hp.1
      have e1 := isOf hp.2.1
      simp only [e0, e1] at hKO
      go_simp
      refine (Tryz.near08 (hS.2.1) s1 hL K (by omega)).mono ?_
      rintro e W1 ⟨rfl, hE⟩
      rw [HV.out, HEE.out]
      exact hKO _ W1 hE rfl
    · have e2 := isOf hp.1
      simp only [e2] at hKO
      go_simp
      exact hKO _ W (Ext.refl W) rfl
    · have e2 := isOf hp.1
      simp only [e2] at hKO
      go_simp
      exact hKO _ W (Ext.refl W) rfl
    · have e3 := isOf hp.1
      simp only [e3] at hKO
      go_simp
      exact hKO _ W (Ext.refl W) rfl
    · have e4 := isOf hp.1
      simp only [e4] at hKO
      go_simp
      exact hKO _ W (Ext.refl W) rfl
  intro vs W3 hS hp
  clear szw3 E0 h1 p2
  obtain ⟨E0, h1, p2, sz3⟩ := hS
  obtain ⟨h3_0, h3_1, h3_2, h3_3, h3_4, h3_5, h3_6, -⟩ := hp
  replace h3_0 : vs 0 = .agg #[.bool b1, .slice a1 n1 c1, .slice d1 m1 o1] := h3_0
  replace h3_1 : vs 1 = .int .i64 (K : Int) := h3_1
  replace h3_2 : vs 2 = .tuple #[.int .i64 V, .int .i64 E] := h3_2
  replace h3_3 : vs 3 = .int .i64 V := h3_3
  replace h3_4 : vs 4 = .int .i64 E := h3_4
  replace h3_5 : vs 5 = .int .i64 V := h3_5
  replace h3_6 : vs 6 = .int .i64 E := h3_6
  simp only [h3_0, h3_1, h3_2, h3_3, h3_4, h3_5, h3_6]
  clear h3_0 h3_1 h3_2 h3_3 h3_4 h3_5 h3_6
  have kp2_0 := p2.cell0
  have kp2_1 := p2.cell1
  have kp2_2 := p2.cell2
  go_wp2
  go_ret2
  exact ⟨rfl, E0⟩

end Go.Rt
