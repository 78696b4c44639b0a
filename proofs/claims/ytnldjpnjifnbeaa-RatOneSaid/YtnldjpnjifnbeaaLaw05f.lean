/-
 The laws of chapter 05 (fractions): One. Arrays of two integers, of two numbers, as they are handed in.
-/
import Derived.Test.YtnldjpnjifnbeaaLaw05
import Derived.Test.YtnldjpnjifnbeaaBoxA
import Derived.Test.YtnldjpnjifnbeaaOpen
import Derived.Test.YtnldjpnjifnbeaaOpenP
namespace Go.Rt
open Go Go.RowKit Go.Proofs Go.WideShapes Go.ChangeShapes

section
variable {H : Type} {enc : TypeId × Value → H} {P : Program} {W : World} {base : Nat}
theorem trod_arr2 {b0 : Nat} {spare : Nat → Bool} {held : Bool} {t e : TypeId} {fuel k : Nat} {cs : List Value} {x : DataW H × List MemPlace} (ht : P.underlying t = some (.array 2 e)) (hce : P.cellsOf e = k)
  (h : DataW.trod enc P W b0 spare held fuel t cs = some x) :
  ∃ y0 y1 n, DataW.trod enc P W b0 spare held n e (cs.take k) = some y0 ∧ DataW.trod enc P W b0 spare held n e ((cs.drop k).take k) = some y1 := by
 cases fuel with
 | zero => simp [DataW.trod] at h
 | succ n =>
  unfold DataW.trod at h
  rw [ht] at h
  have r2 : List.range 2 = [0, 1] := rfl
  simp [r2, hce] at h
  obtain ⟨_, h⟩ := h
  cases h0 : DataW.trod enc P W b0 spare held n e (cs.take k) with
  | none => simp [h0] at h
  | some y0 =>
   cases h1 : DataW.trod enc P W b0 spare held n e ((cs.drop k).take k) with
   | none => simp [h0, h1] at h
   | some y1 => exact ⟨y0, y1, n, h0, h1⟩

theorem open_pairN {t tn e : TypeId} {v : Value} {d : DataW H} {ps : List MemPlace} (ht : P.underlying t = some (.array 2 tn)) (hn : P.underlying tn = some (.slice e)) (he : P.underlying e = some (.int .u64)) (hc : P.cellsOf e = 1) (hcn : P.cellsOf tn = 1) (hct : P.cellsOf t = 2) (hts : P.cellTypes P.depth t = some [tn, tn])
  (ho : Value.okWide P W .any base t v) (h : DataW.Trod enc P W 0 (fun _ => true) true t v d ps) :
  ∃ a l c a' l' c' xs ys, v = .agg #[.slice a l c, .slice a' l' c'] ∧ Nt W (.slice a l c) xs ∧ Nt W (.slice a' l' c') ys := by
 have ho2 := ho
 simp only [Value.okWide, ht] at ho2
 obtain ⟨cs, rfl, hsz, hrest⟩ := ho2
 obtain ⟨v0, v1, rfl⟩ := Joins.array2 (hsz.trans hct)
 obtain ⟨ts, hts', -, hcell⟩ := hrest
 rw [hts] at hts'
 cases hts'
 obtain ⟨u0, hu0, o0⟩ := hcell 0 v0 rfl
 obtain ⟨u1, hu1, o1⟩ := hcell 1 v1 rfl
 cases hu0
 cases hu1
 obtain ⟨n, hf⟩ := h
 obtain ⟨y0, y1, m, h0, h1⟩ := trod_arr2 ht hcn (by simpa [Value.cells] using hf)
 obtain ⟨a, l, c, xs, rfl, hx⟩ := open_nat_cell hn he hc o0 (by simpa using h0)
 obtain ⟨a', l', c', ys, rfl, hy⟩ := open_nat_cell hn he hc o1 (by simpa using h1)
 exact ⟨a, l, c, a', l', c', xs, ys, rfl, hx, hy⟩

theorem open_pairZ {t tz tb tn e : TypeId} {f0 f1 : Field} {v : Value} {d : DataW H} {ps : List MemPlace} (ht : P.underlying t = some (.array 2 tz)) (hz : P.underlying tz = some (.struct #[f0, f1])) (e1 : f0.type = tb) (e2 : f0.offset = 0) (e3 : f1.type = tn) (e4 : f1.offset = 1)
  (hb : P.underlying tb = some .bool) (hn : P.underlying tn = some (.slice e)) (he : P.underlying e = some (.int .u64)) (hc : P.cellsOf e = 1) (hcn : P.cellsOf tn = 1) (hcz : P.cellsOf tz = 2) (hct : P.cellsOf t = 4) (hts : P.cellTypes P.depth t = some [tb, tn, tb, tn])
  (ho : Value.okWide P W .any base t v) (h : DataW.Trod enc P W 0 (fun _ => true) true t v d ps) :
  ∃ b a l c b' a' l' c' xs ys, v = .agg #[.bool b, .slice a l c, .bool b', .slice a' l' c'] ∧ Nt W (.slice a l c) xs ∧ Nt W (.slice a' l' c') ys := by
 have ho2 := ho
 simp only [Value.okWide, ht] at ho2
 obtain ⟨cs, rfl, hsz, hrest⟩ := ho2
 obtain ⟨v0, v1, v2, v3, rfl⟩ := Joins.array4 (hsz.trans hct)
 obtain ⟨ts, hts', -, hcell⟩ := hrest
 rw [hts] at hts'
 cases hts'
 obtain ⟨u0, hu0, o0⟩ := hcell 0 v0 rfl
 obtain ⟨u1, hu1, o1⟩ := hcell 1 v1 rfl
 obtain ⟨u2, hu2, o2⟩ := hcell 2 v2 rfl
 obtain ⟨u3, hu3, o3⟩ := hcell 3 v3 rfl
 cases hu0
 cases hu1
 cases hu2
 cases hu3
 obtain ⟨n, hf⟩ := h
 obtain ⟨y0, y1, m, h0, h1⟩ := trod_arr2 ht hcz (by simpa [Value.cells] using hf)
 obtain ⟨b, a, l, c, xs, rfl, rfl, hx⟩ := open_zed_cells hz e1 e2 e3 e4 hb hn he hc hcn o0 o1 (by simpa using h0)
 obtain ⟨b', a', l', c', ys, rfl, rfl, hy⟩ := open_zed_cells hz e1 e2 e3 e4 hb hn he hc hcn o2 o3 (by simpa using h1)
 exact ⟨b, a, l, c, b', a', l', c', xs, ys, rfl, hx, hy⟩
end

set_option maxRecDepth 100000 in
theorem Try.openPairN {H : Type} {enc : TypeId × Value → H} {W : World} {base : Nat} {v : Value} {d : DataW H} {ps : List MemPlace} (ho : Value.okWide Go.Proofs.Try.prog W .any base 59 v) (h : DataW.Trod enc Go.Proofs.Try.prog W 0 (fun _ => true) true 59 v d ps) :
  ∃ a l c a' l' c' xs ys, v = .agg #[.slice a l c, .slice a' l' c'] ∧ Nt W (.slice a l c) xs ∧ Nt W (.slice a' l' c') ys :=
 open_pairN Go.Proofs.Try.underlying59 Go.Proofs.Try.underlying23 Go.Proofs.Try.underlying43 (by kernel_rfl) (by kernel_rfl) (by kernel_rfl) (by kernel_rfl) ho h

set_option maxRecDepth 100000 in
theorem Try.openPairZ {H : Type} {enc : TypeId × Value → H} {W : World} {base : Nat} {v : Value} {d : DataW H} {ps : List MemPlace} (ho : Value.okWide Go.Proofs.Try.prog W .any base 58 v) (h : DataW.Trod enc Go.Proofs.Try.prog W 0 (fun _ => true) true 58 v d ps) :
  ∃ b a l c b' a' l' c' xs ys, v = .agg #[.bool b, .slice a l c, .bool b', .slice a' l' c'] ∧ Nt W (.slice a l c) xs ∧ Nt W (.slice a' l' c') ys :=
 open_pairZ Go.Proofs.Try.underlying58 Go.Proofs.Try.underlying25 rfl rfl rfl rfl Go.Proofs.Try.underlying4 Go.Proofs.Try.underlying23 Go.Proofs.Try.underlying43 (by kernel_rfl) (by kernel_rfl) (by kernel_rfl) (by kernel_rfl) (by kernel_rfl) ho h

/-- one of both is as it should be -/
def goodOne (b : Bool) (xs : List Nat) (n : Nat) (ys : List Nat) : Prop := fewZ b xs ((4 : Nat) : Int) = true ∧ n ≤ 4 ∧ n ≠ 0 ∧ normB ys = true

theorem Nw.zed {w : World} {a : Option Addr} {n c N : Nat} (h : Nw w (.slice a n c) N) : Zw w (.agg #[.bool false, .slice a n c]) (N : Int) := ⟨false, a, n, c, rfl, Lib.hid (by simp), by simpa using h⟩

set_option maxRecDepth 100000 in
set_option maxHeartbeats 8000000 in
theorem Try.lawRatOne {b0 : Bool} {b1 : Bool} {a0 : Option Addr} {n0 c0 : Nat} {x0 : List Nat} {a1 : Option Addr} {n1 c1 : Nat} {x1 : List Nat} {a2 : Option Addr} {n2 c2 : Nat} {x2 : List Nat} {a3 : Option Addr} {n3 c3 : Nat} {x3 : List Nat} {a4 : Option Addr} {n4 c4 : Nat} {x4 : List Nat} {w : World} (h0 : Nt w (.slice a0 n0 c0) x0) (h1 : Nt w (.slice a1 n1 c1) x1) (h2 : Nt w (.slice a2 n2 c2) x2) (h3 : Nt w (.slice a3 n3 c3) x3) (h4 : Nt w (.slice a4 n4 c4) x4) :
  Calls Try.prog 10 #[.agg #[.bool b0, .slice a0 n0 c0, .bool b1, .slice a1 n1 c1], .agg #[.slice a2 n2 c2, .slice a3 n3 c3], .slice a4 n4 c4] w fun e w' => e = .returned (.bool true) ∧ Ext w w' := by
 obtain ⟨W0, hW0⟩ : ∃ W0, W0 = ((w.alloc (.cells #[.bool b0, .slice a0 n0 c0, .bool b1, .slice a1 n1 c1] 58)).alloc (.cells #[.slice a2 n2 c2, .slice a3 n3 c3] 59)) := ⟨_, rfl⟩
 have E0 : Ext w W0 := by rw [hW0]; exact ((Ext.alloc1 w (.cells #[.bool b0, .slice a0 n0 c0, .bool b1, .slice a1 n1 c1] 58)).alloc (.cells #[.slice a2 n2 c2, .slice a3 n3 c3] 59))
 replace h0 : Nt W0 (.slice a0 n0 c0) x0 := h0.ext E0
 replace h1 : Nt W0 (.slice a1 n1 c1) x1 := h1.ext E0
 replace h2 : Nt W0 (.slice a2 n2 c2) x2 := h2.ext E0
 replace h3 : Nt W0 (.slice a3 n3 c3) x3 := h3.ext E0
 replace h4 : Nt W0 (.slice a4 n4 c4) x4 := h4.ext E0
 have p3 : BxA W0 w.heap.size 58 #[.bool b0, .slice a0 n0 c0, .bool b1, .slice a1 n1 c1] := by rw [hW0]; exact (BxA.new w 58 #[.bool b0, .slice a0 n0 c0, .bool b1, .slice a1 n1 c1]).ext (Ext.alloc1 (w.alloc (.cells #[.bool b0, .slice a0 n0 c0, .bool b1, .slice a1 n1 c1] 58)) (.cells #[.slice a2 n2 c2, .slice a3 n3 c3] 59))
 have p4 : Bx2 W0 (w.heap.size + 1) 59 (.slice a2 n2 c2) (.slice a3 n3 c3) := by rw [hW0]; simpa using (Bx2.new (w.alloc (.cells #[.bool b0, .slice a0 n0 c0, .bool b1, .slice a1 n1 c1] 58)) 59 (.slice a2 n2 c2) (.slice a3 n3 c3))
 go_enter Try.func10, Try.ntmps10
 have kp3_0 := p3.cell 0 (v := .bool b0) rfl
 have kp3_1 := p3.cell 1 (v := .slice a0 n0 c0) rfl
 have kp3_2 := p3.cell 2 (v := .bool b1) rfl
 have kp3_3 := p3.cell 3 (v := .slice a1 n1 c1) rfl
 have kp4_0 := p4.cell0
 have kp4_1 := p4.cell1
 go_wp2_with fail
 rw [← hW0]
 clear hW0
 clear kp3_0 kp3_1 kp3_2 kp3_3 kp4_0 kp4_1
 go_loopw [7] (fun i wr => ∃ k : Nat, i = .int .i64 (k : Int) ∧ k ≤ 2 ∧ Hid (1 ≤ k → goodOne b0 x0 n2 x2) ∧ Hid (2 ≤ k → goodOne b1 x1 n3 x3) ∧ Ext W0 wr) (fun i _ => 2 - (intOf i).toNat)
 case atStart => exact ⟨0, rfl, by omega, Lib.hid (fun h => absurd h (by omega)), Lib.hid (fun h => absurd h (by omega)), Ext.refl W0⟩
 case round =>
  obtain ⟨k, rfl, hk, g0, g1, hX⟩ := hrel
  replace E0 : Ext w wr := (Ext.trans E0 hX)
  replace h0 : Nt wr (.slice a0 n0 c0) x0 := (h0.ext hX)
  replace h1 : Nt wr (.slice a1 n1 c1) x1 := (h1.ext hX)
  replace h2 : Nt wr (.slice a2 n2 c2) x2 := (h2.ext hX)
  replace h3 : Nt wr (.slice a3 n3 c3) x3 := (h3.ext hX)
  replace h4 : Nt wr (.slice a4 n4 c4) x4 := (h4.ext hX)
  replace p3 : BxA wr w.heap.size 58 #[.bool b0, .slice a0 n0 c0, .bool b1, .slice a1 n1 c1] := (p3.ext hX)
  replace p4 : Bx2 wr (w.heap.size + 1) 59 (.slice a2 n2 c2) (.slice a3 n3 c3) := (p4.ext hX)
  have E1 := hX
  clear hX
  obtain rfl | rfl | rfl : k = 0 ∨ k = 1 ∨ k = 2 := by omega
  ·simp only [show ((0 : Nat) : Int) = 0 from rfl]
   cases hf : fewZ b0 x0 ((4 : Nat) : Int)
   ·have HF := Lib.hid hf
    clear hf
    have kp3_0 := p3.cell 0 (v := .bool b0) rfl
    have kp3_1 := p3.cell 1 (v := .slice a0 n0 c0) rfl
    have kp3_2 := p3.cell 2 (v := .bool b1) rfl
    have kp3_3 := p3.cell 3 (v := .slice a1 n1 c1) rfl
    have kp4_0 := p4.cell0
    have kp4_1 := p4.cell1
    go_upto_region 4 with (fail)
    clear kp3_0 kp3_1 kp3_2 kp3_3 kp4_0 kp4_1
    have ltp3 := p3.lt
    have ltp4 := p4.lt
    have szw1 := Ext.size E0
    refine region_go [.one fun v _ => v = .int .i64 0,
      .one fun v _ => v = .pointer (some ⟨w.heap.size, 0, none⟩),
      .one fun v _ => v = .agg #[.bool b0, .slice a0 n0 c0],
      .one fun v _ => v = .bool false,
      .one fun v _ => v = .bool true,
      .one fun v _ => v = .bool true,
      .one fun v _ => v = undef,
      .one fun v _ => v = undef,
      .one fun v _ => v = undef,
      .one fun v _ => v = undef,
      .one fun v _ => v = undef,
      .one fun v _ => v = .bool true,
      .one fun v _ => v = .bool true,
      .one fun v _ => v = undef,
      .one fun v _ => v = undef,
      .one fun v _ => v = undef,
      .one fun v _ => v = undef,
      .one fun v _ => v = undef,
      .one fun v _ => v = .bool true,
      .one fun v _ => v = .bool true,
      .one fun v _ => v = undef,
      .one fun v _ => v = undef,
      .one fun v _ => v = undef,
      .one fun v _ => v = undef,
      .one fun v _ => v = undef,
      .one fun v _ => v = .bool true]
     (fun W => Ext w W ∧ Nt W (.slice a0 n0 c0) x0 ∧ Nt W (.slice a1 n1 c1) x1 ∧ Nt W (.slice a2 n2 c2) x2 ∧ Nt W (.slice a3 n3 c3) x3 ∧ Nt W (.slice a4 n4 c4) x4 ∧ BxA W w.heap.size 58 #[.bool b0, .slice a0 n0 c0, .bool b1, .slice a1 n1 c1] ∧ Bx2 W (w.heap.size + 1) 59 (.slice a2 n2 c2) (.slice a3 n3 c3) ∧ Ext W0 W ∧ wr.heap.size ≤ W.heap.size) ⟨Good.is _, Good.is _, Good.is _, Good.is _, Good.is _, Good.is _, Good.is _, Good.is _, Good.is _, Good.is _, Good.is _, Good.is _, Good.is _, Good.is _, Good.is _, Good.is _, Good.is _, Good.is _, Good.is _, Good.is _, Good.is _, Good.is _, Good.is _, Good.is _, Good.is _, Good.is _, trivial⟩
     (fun W W1 hS hE => ⟨(Ext.trans hS.1 hE), (hS.2.1.ext hE), (hS.2.2.1.ext hE), (hS.2.2.2.1.ext hE), (hS.2.2.2.2.1.ext hE), (hS.2.2.2.2.2.1.ext hE), (hS.2.2.2.2.2.2.1.ext hE), (hS.2.2.2.2.2.2.2.1.ext hE), (Ext.trans hS.2.2.2.2.2.2.2.2.1 hE), (Nat.le_trans hS.2.2.2.2.2.2.2.2.2 (Ext.size hE))⟩) ⟨E0, h0, h1, h2, h3, h4, p3, p4, E1, Nat.le_refl _⟩ (by kernel_rfl) (by kernel_rfl) (by kernel_rfl) (by kernel_rfl) (A := ?A1) ?hA1 ?howe1 ?hfin1
    case hA1 =>
     intro vs
     simp only [putAll, Act.put, List.setIfInBounds_toArray, List.set_cons_zero, List.set_cons_succ, Nat.zero_add, Nat.reduceAdd]
     exact rfl
    case howe1 =>
     clear E0 h0 h1 h2 h3 h4 p3 p4 E1
     intro hf
     refine ⟨owesE 0 [] hf rfl (by kernel_rfl) ?_, owesE 1 [0] hf rfl (by kernel_rfl) ?_, owesE 2 [1] hf rfl (by kernel_rfl) ?_, owesE 3 [2] hf rfl (by kernel_rfl) ?_, owesE 4 [3] hf rfl (by kernel_rfl) ?_, owesE 5 [4] hf rfl (by kernel_rfl) ?_, owesE 6 [5] hf rfl (by kernel_rfl) ?_, owesE 7 [5] hf rfl (by kernel_rfl) ?_, owesE 8 [5] hf rfl (by kernel_rfl) ?_, owesE 9 [5] hf rfl (by kernel_rfl) ?_, owesE 10 [5] hf rfl (by kernel_rfl) ?_, owesE 11 [5, 10] hf rfl (by kernel_rfl) ?_, owesE 12 [11] hf rfl (by kernel_rfl) ?_, owesE 13 [12] hf rfl (by kernel_rfl) ?_, owesE 14 [12] hf rfl (by kernel_rfl) ?_, owesE 15 [12] hf rfl (by kernel_rfl) ?_, owesE 16 [12] hf rfl (by kernel_rfl) ?_, owesE 17 [12] hf rfl (by kernel_rfl) ?_, owesE 18 [12, 17] hf rfl (by kernel_rfl) ?_, owesE 19 [18] hf rfl (by kernel_rfl) ?_, owesE 20 [19] hf rfl (by kernel_rfl) ?_, owesE 21 [19] hf rfl (by kernel_rfl) ?_, owesE 22 [19] hf rfl (by kernel_rfl) ?_, owesE 23 [19] hf rfl (by kernel_rfl) ?_, owesE 24 [19] hf rfl (by kernel_rfl) ?_, owesE 25 [19, 24] hf rfl (by kernel_rfl) ?_, trivial⟩
     all_goals intro vs W hS hp hx KO hKO
     all_goals simp only [Act.put, List.setIfInBounds_toArray, List.set_cons_zero, List.set_cons_succ] at hKO
     ·go_simp
      exact hKO _ W (Ext.refl W) rfl
     ·have e0 := isOf hp.1
      simp only [e0] at hKO
      go_simp
      exact hKO _ W (Ext.refl W) rfl
     ·have e1 := isOf hp.1
      simp only [e1] at hKO
      have fc0 := BxA.cell (hS.2.2.2.2.2.2.1) 0 (v := .bool b0) rfl
      have fc1 := BxA.cell (hS.2.2.2.2.2.2.1) 1 (v := .slice a0 n0 c0) rfl
      go_simp
      exact hKO _ W (Ext.refl W) rfl
     ·have e2 := isOf hp.1
      simp only [e2] at hKO
      go_simp
      refine (Try.refZFew hS.2.1 ((4 : Nat) : Int)).mono ?_
      rintro e W1 ⟨rfl, hE⟩
      rw [HF.out]
      exact hKO _ W1 hE rfl
     ·have e3 := isOf hp.1
      simp only [e3] at hKO
      go_simp
      exact hKO _ W (Ext.refl W) rfl
     ·have e4 := isOf hp.1
      simp only [e4] at hKO
      go_simp
      exact hKO _ W (Ext.refl W) rfl
     ·have e5 := isOf hp.1
      simp only [e5] at hKO
      go_simp
      exact hKO _ W (Ext.refl W) rfl
     ·have e5 := isOf hp.1
      simp only [e5] at hKO
      go_simp
      exact hKO _ W (Ext.refl W) rfl
     ·have e5 := isOf hp.1
      simp only [e5] at hKO
      go_simp
      exact hKO _ W (Ext.refl W) rfl
     ·have e5 := isOf hp.1
      simp only [e5] at hKO
      go_simp
      exact hKO _ W (Ext.refl W) rfl
     ·have e5 := isOf hp.1
      simp only [e5] at hKO
      go_simp
      exact hKO _ W (Ext.refl W) rfl
     ·have e5 := isOf hp.1
      have e10 := isOf hp.2.1
      simp only [e5, e10] at hKO
      go_simp
      exact hKO _ W (Ext.refl W) rfl
     ·have e11 := isOf hp.1
      simp only [e11] at hKO
      go_simp
      exact hKO _ W (Ext.refl W) rfl
     ·have e12 := isOf hp.1
      simp only [e12] at hKO
      go_simp
      exact hKO _ W (Ext.refl W) rfl
     ·have e12 := isOf hp.1
      simp only [e12] at hKO
      go_simp
      exact hKO _ W (Ext.refl W) rfl
     ·have e12 := isOf hp.1
      simp only [e12] at hKO
      go_simp
      exact hKO _ W (Ext.refl W) rfl
     ·have e12 := isOf hp.1
      simp only [e12] at hKO
      go_simp
      exact hKO _ W (Ext.refl W) rfl
     ·have e12 := isOf hp.1
      simp only [e12] at hKO
      go_simp
      exact hKO _ W (Ext.refl W) rfl
     ·have e12 := isOf hp.1
      have e17 := isOf hp.2.1
      simp only [e12, e17] at hKO
      go_simp
      exact hKO _ W (Ext.refl W) rfl
     ·have e18 := isOf hp.1
      simp only [e18] at hKO
      go_simp
      exact hKO _ W (Ext.refl W) rfl
     ·have e19 := isOf hp.1
      simp only [e19] at hKO
      go_simp
      exact hKO _ W (Ext.refl W) rfl
     ·have e19 := isOf hp.1
      simp only [e19] at hKO
      go_simp
      exact hKO _ W (Ext.refl W) rfl
     ·have e19 := isOf hp.1
      simp only [e19] at hKO
      go_simp
      exact hKO _ W (Ext.refl W) rfl
     ·have e19 := isOf hp.1
      simp only [e19] at hKO
      go_simp
      exact hKO _ W (Ext.refl W) rfl
     ·have e19 := isOf hp.1
      simp only [e19] at hKO
      go_simp
      exact hKO _ W (Ext.refl W) rfl
     ·have e19 := isOf hp.1
      have e24 := isOf hp.2.1
      simp only [e19, e24] at hKO
      go_simp
      exact hKO _ W (Ext.refl W) rfl
    intro vs W1 hS hp
    clear szw1 E0 h0 h1 h2 h3 h4 p3 p4 E1
    obtain ⟨E0, h0, h1, h2, h3, h4, p3, p4, E1, sz1⟩ := hS
    obtain ⟨h1_0, h1_1, h1_2, h1_3, h1_4, h1_5, h1_6, h1_7, h1_8, h1_9, h1_10, h1_11, h1_12, h1_13, h1_14, h1_15, h1_16, h1_17, h1_18, h1_19, h1_20, h1_21, h1_22, h1_23, h1_24, h1_25, -⟩ := hp
    replace h1_0 : vs 0 = .int .i64 0 := h1_0
    replace h1_1 : vs 1 = .pointer (some ⟨w.heap.size, 0, none⟩) := h1_1
    replace h1_2 : vs 2 = .agg #[.bool b0, .slice a0 n0 c0] := h1_2
    replace h1_3 : vs 3 = .bool false := h1_3
    replace h1_4 : vs 4 = .bool true := h1_4
    replace h1_5 : vs 5 = .bool true := h1_5
    replace h1_6 : vs 6 = undef := h1_6
    replace h1_7 : vs 7 = undef := h1_7
    replace h1_8 : vs 8 = undef := h1_8
    replace h1_9 : vs 9 = undef := h1_9
    replace h1_10 : vs 10 = undef := h1_10
    replace h1_11 : vs 11 = .bool true := h1_11
    replace h1_12 : vs 12 = .bool true := h1_12
    replace h1_13 : vs 13 = undef := h1_13
    replace h1_14 : vs 14 = undef := h1_14
    replace h1_15 : vs 15 = undef := h1_15
    replace h1_16 : vs 16 = undef := h1_16
    replace h1_17 : vs 17 = undef := h1_17
    replace h1_18 : vs 18 = .bool true := h1_18
    replace h1_19 : vs 19 = .bool true := h1_19
    replace h1_20 : vs 20 = undef := h1_20
    replace h1_21 : vs 21 = undef := h1_21
    replace h1_22 : vs 22 = undef := h1_22
    replace h1_23 : vs 23 = undef := h1_23
    replace h1_24 : vs 24 = undef := h1_24
    replace h1_25 : vs 25 = .bool true := h1_25
    simp only [h1_0, h1_1, h1_2, h1_3, h1_4, h1_5, h1_6, h1_7, h1_8, h1_9, h1_10, h1_11, h1_12, h1_13, h1_14, h1_15, h1_16, h1_17, h1_18, h1_19, h1_20, h1_21, h1_22, h1_23, h1_24, h1_25]
    clear h1_0 h1_1 h1_2 h1_3 h1_4 h1_5 h1_6 h1_7 h1_8 h1_9 h1_10 h1_11 h1_12 h1_13 h1_14 h1_15 h1_16 h1_17 h1_18 h1_19 h1_20 h1_21 h1_22 h1_23 h1_24 h1_25
    have kp3_0 := p3.cell 0 (v := .bool b0) rfl
    have kp3_1 := p3.cell 1 (v := .slice a0 n0 c0) rfl
    have kp3_2 := p3.cell 2 (v := .bool b1) rfl
    have kp3_3 := p3.cell 3 (v := .slice a1 n1 c1) rfl
    have kp4_0 := p4.cell0
    have kp4_1 := p4.cell1
    go_upto_region 5 with (fail)
    clear kp3_0 kp3_1 kp3_2 kp3_3 kp4_0 kp4_1
    have szw2 := Ext.size E0
    refine region_go [.one fun v _ => v = .bool true,
      .one fun v _ => v = .bool true]
     (fun W => Ext w W ∧ Nt W (.slice a0 n0 c0) x0 ∧ Nt W (.slice a1 n1 c1) x1 ∧ Nt W (.slice a2 n2 c2) x2 ∧ Nt W (.slice a3 n3 c3) x3 ∧ Nt W (.slice a4 n4 c4) x4 ∧ BxA W w.heap.size 58 #[.bool b0, .slice a0 n0 c0, .bool b1, .slice a1 n1 c1] ∧ Bx2 W (w.heap.size + 1) 59 (.slice a2 n2 c2) (.slice a3 n3 c3) ∧ Ext W0 W ∧ W1.heap.size ≤ W.heap.size) ⟨Good.is _, Good.is _, trivial⟩
     (fun W W1 hS hE => ⟨(Ext.trans hS.1 hE), (hS.2.1.ext hE), (hS.2.2.1.ext hE), (hS.2.2.2.1.ext hE), (hS.2.2.2.2.1.ext hE), (hS.2.2.2.2.2.1.ext hE), (hS.2.2.2.2.2.2.1.ext hE), (hS.2.2.2.2.2.2.2.1.ext hE), (Ext.trans hS.2.2.2.2.2.2.2.2.1 hE), (Nat.le_trans hS.2.2.2.2.2.2.2.2.2 (Ext.size hE))⟩) ⟨E0, h0, h1, h2, h3, h4, p3, p4, E1, Nat.le_refl _⟩ (by kernel_rfl) (by kernel_rfl) (by kernel_rfl) (by kernel_rfl) (A := ?A2) ?hA2 ?howe2 ?hfin2
    case hA2 =>
     intro vs
     simp only [putAll, Act.put, List.setIfInBounds_toArray, List.set_cons_zero, List.set_cons_succ, Nat.zero_add]
     exact rfl
    case howe2 =>
     clear E0 h0 h1 h2 h3 h4 p3 p4 E1
     intro hf
     refine ⟨owesE 0 [] hf rfl (by kernel_rfl) ?_, owesE 1 [0] hf rfl (by kernel_rfl) ?_, trivial⟩
     all_goals intro vs W hS hp hx KO hKO
     all_goals simp only [Act.put, List.setIfInBounds_toArray, List.set_cons_zero, List.set_cons_succ] at hKO
     ·go_simp
      refine (Try.alive05 _).mono ?_
      rintro e W1 ⟨rfl, hE⟩
      exact hKO _ W1 hE rfl
     ·have e0 := isOf hp.1
      simp only [e0] at hKO
      go_simp
      exact hKO _ W (Ext.refl W) rfl
    intro vs W2 hS hp
    clear szw2 E0 h0 h1 h2 h3 h4 p3 p4 E1
    obtain ⟨E0, h0, h1, h2, h3, h4, p3, p4, E1, sz2⟩ := hS
    obtain ⟨h2_0, h2_1, -⟩ := hp
    replace h2_0 : vs 0 = .bool true := h2_0
    replace h2_1 : vs 1 = .bool true := h2_1
    simp only [h2_0, h2_1]
    clear h2_0 h2_1
    have kp3_0 := p3.cell 0 (v := .bool b0) rfl
    have kp3_1 := p3.cell 1 (v := .slice a0 n0 c0) rfl
    have kp3_2 := p3.cell 2 (v := .bool b1) rfl
    have kp3_3 := p3.cell 3 (v := .slice a1 n1 c1) rfl
    have kp4_0 := p4.cell0
    have kp4_1 := p4.cell1
    go_wp2
    go_ret
    exact ⟨rfl, E0⟩
   ·have HF := Lib.hid hf
    clear hf
    by_cases hl : 4 < n2
    ·have kp3_0 := p3.cell 0 (v := .bool b0) rfl
     have kp3_1 := p3.cell 1 (v := .slice a0 n0 c0) rfl
     have kp3_2 := p3.cell 2 (v := .bool b1) rfl
     have kp3_3 := p3.cell 3 (v := .slice a1 n1 c1) rfl
     have kp4_0 := p4.cell0
     have kp4_1 := p4.cell1
     go_upto_region 4 with (fail)
     clear kp3_0 kp3_1 kp3_2 kp3_3 kp4_0 kp4_1
     have ltp3 := p3.lt
     have ltp4 := p4.lt
     have szw3 := Ext.size E0
     refine region_go [.one fun v _ => v = .int .i64 0,
       .one fun v _ => v = .pointer (some ⟨w.heap.size, 0, none⟩),
       .one fun v _ => v = .agg #[.bool b0, .slice a0 n0 c0],
       .one fun v _ => v = .bool true,
       .one fun v _ => v = .bool false,
       .one fun v _ => v = .bool false,
       .one fun v _ => v = .int .i64 0,
       .one fun v _ => v = .pointer (some ⟨w.heap.size + 1, 0, none⟩),
       .one fun v _ => v = .slice a2 n2 c2,
       .one fun v _ => v = .int .i64 (n2 : Int),
       .one fun v _ => v = .bool true,
       .one fun v _ => v = .bool true,
       .one fun v _ => v = .bool true,
       .one fun v _ => v = undef,
       .one fun v _ => v = undef,
       .one fun v _ => v = undef,
       .one fun v _ => v = undef,
       .one fun v _ => v = undef,
       .one fun v _ => v = .bool true,
       .one fun v _ => v = .bool true,
       .one fun v _ => v = undef,
       .one fun v _ => v = undef,
       .one fun v _ => v = undef,
       .one fun v _ => v = undef,
       .one fun v _ => v = undef,
       .one fun v _ => v = .bool true]
      (fun W => Ext w W ∧ Nt W (.slice a0 n0 c0) x0 ∧ Nt W (.slice a1 n1 c1) x1 ∧ Nt W (.slice a2 n2 c2) x2 ∧ Nt W (.slice a3 n3 c3) x3 ∧ Nt W (.slice a4 n4 c4) x4 ∧ BxA W w.heap.size 58 #[.bool b0, .slice a0 n0 c0, .bool b1, .slice a1 n1 c1] ∧ Bx2 W (w.heap.size + 1) 59 (.slice a2 n2 c2) (.slice a3 n3 c3) ∧ Ext W0 W ∧ wr.heap.size ≤ W.heap.size) ⟨Good.is _, Good.is _, Good.is _, Good.is _, Good.is _, Good.is _, Good.is _, Good.is _, Good.is _, Good.is _, Good.is _, Good.is _, Good.is _, Good.is _, Good.is _, Good.is _, Good.is _, Good.is _, Good.is _, Good.is _, Good.is _, Good.is _, Good.is _, Good.is _, Good.is _, Good.is _, trivial⟩
      (fun W W1 hS hE => ⟨(Ext.trans hS.1 hE), (hS.2.1.ext hE), (hS.2.2.1.ext hE), (hS.2.2.2.1.ext hE), (hS.2.2.2.2.1.ext hE), (hS.2.2.2.2.2.1.ext hE), (hS.2.2.2.2.2.2.1.ext hE), (hS.2.2.2.2.2.2.2.1.ext hE), (Ext.trans hS.2.2.2.2.2.2.2.2.1 hE), (Nat.le_trans hS.2.2.2.2.2.2.2.2.2 (Ext.size hE))⟩) ⟨E0, h0, h1, h2, h3, h4, p3, p4, E1, Nat.le_refl _⟩ (by kernel_rfl) (by kernel_rfl) (by kernel_rfl) (by kernel_rfl) (A := ?A3) ?hA3 ?howe3 ?hfin3
     case hA3 =>
      intro vs
      simp only [putAll, Act.put, List.setIfInBounds_toArray, List.set_cons_zero, List.set_cons_succ, Nat.zero_add, Nat.reduceAdd]
      exact rfl
     case howe3 =>
      clear E0 h0 h1 h2 h3 h4 p3 p4 E1
      intro hf
      refine ⟨owesE 0 [] hf rfl (by kernel_rfl) ?_, owesE 1 [0] hf rfl (by kernel_rfl) ?_, owesE 2 [1] hf rfl (by kernel_rfl) ?_, owesE 3 [2] hf rfl (by kernel_rfl) ?_, owesE 4 [3] hf rfl (by kernel_rfl) ?_, owesE 5 [4] hf rfl (by kernel_rfl) ?_, owesE 6 [5] hf rfl (by kernel_rfl) ?_, owesE 7 [5, 6] hf rfl (by kernel_rfl) ?_, owesE 8 [5, 7] hf rfl (by kernel_rfl) ?_, owesE 9 [5, 8] hf rfl (by kernel_rfl) ?_, owesE 10 [5, 9] hf rfl (by kernel_rfl) ?_, owesE 11 [5, 10] hf rfl (by kernel_rfl) ?_, owesE 12 [11] hf rfl (by kernel_rfl) ?_, owesE 13 [12] hf rfl (by kernel_rfl) ?_, owesE 14 [12] hf rfl (by kernel_rfl) ?_, owesE 15 [12] hf rfl (by kernel_rfl) ?_, owesE 16 [12] hf rfl (by kernel_rfl) ?_, owesE 17 [12] hf rfl (by kernel_rfl) ?_, owesE 18 [12, 17] hf rfl (by kernel_rfl) ?_, owesE 19 [18] hf rfl (by kernel_rfl) ?_, owesE 20 [19] hf rfl (by kernel_rfl) ?_, owesE 21 [19] hf rfl (by kernel_rfl) ?_, owesE 22 [19] hf rfl (by kernel_rfl) ?_, owesE 23 [19] hf rfl (by kernel_rfl) ?_, owesE 24 [19] hf rfl (by kernel_rfl) ?_, owesE 25 [19, 24] hf rfl (by kernel_rfl) ?_, trivial⟩
      all_goals intro vs W hS hp hx KO hKO
      all_goals simp only [Act.put, List.setIfInBounds_toArray, List.set_cons_zero, List.set_cons_succ] at hKO
      ·go_simp
       exact hKO _ W (Ext.refl W) rfl
      ·have e0 := isOf hp.1
       simp only [e0] at hKO
       go_simp
       exact hKO _ W (Ext.refl W) rfl
      ·have e1 := isOf hp.1
       simp only [e1] at hKO
       have fc0 := BxA.cell (hS.2.2.2.2.2.2.1) 0 (v := .bool b0) rfl
       have fc1 := BxA.cell (hS.2.2.2.2.2.2.1) 1 (v := .slice a0 n0 c0) rfl
       go_simp
       exact hKO _ W (Ext.refl W) rfl
      ·have e2 := isOf hp.1
       simp only [e2] at hKO
       go_simp
       refine (Try.refZFew hS.2.1 ((4 : Nat) : Int)).mono ?_
       rintro e W1 ⟨rfl, hE⟩
       rw [HF.out]
       exact hKO _ W1 hE rfl
      ·have e3 := isOf hp.1
       simp only [e3] at hKO
       go_simp
       exact hKO _ W (Ext.refl W) rfl
      ·have e4 := isOf hp.1
       simp only [e4] at hKO
       go_simp
       exact hKO _ W (Ext.refl W) rfl
      ·have e5 := isOf hp.1
       simp only [e5] at hKO
       go_simp
       exact hKO _ W (Ext.refl W) rfl
      ·have e5 := isOf hp.1
       have e6 := isOf hp.2.1
       simp only [e5, e6] at hKO
       go_simp
       exact hKO _ W (Ext.refl W) rfl
      ·have e5 := isOf hp.1
       have e7 := isOf hp.2.1
       simp only [e5, e7] at hKO
       have fc0 := hS.2.2.2.2.2.2.2.1.cell0
       go_simp
       exact hKO _ W (Ext.refl W) rfl
      ·have e5 := isOf hp.1
       have e8 := isOf hp.2.1
       simp only [e5, e8] at hKO
       go_simp
       exact hKO _ W (Ext.refl W) rfl
      ·have e5 := isOf hp.1
       have e9 := isOf hp.2.1
       simp only [e5, e9] at hKO
       go_simp
       exact hKO _ W (Ext.refl W) (by first | rfl | exact congrArg Value.bool (decide_eq_true (by omega)))
      ·have e5 := isOf hp.1
       have e10 := isOf hp.2.1
       simp only [e5, e10] at hKO
       go_simp
       exact hKO _ W (Ext.refl W) rfl
      ·have e11 := isOf hp.1
       simp only [e11] at hKO
       go_simp
       exact hKO _ W (Ext.refl W) rfl
      ·have e12 := isOf hp.1
       simp only [e12] at hKO
       go_simp
       exact hKO _ W (Ext.refl W) rfl
      ·have e12 := isOf hp.1
       simp only [e12] at hKO
       go_simp
       exact hKO _ W (Ext.refl W) rfl
      ·have e12 := isOf hp.1
       simp only [e12] at hKO
       go_simp
       exact hKO _ W (Ext.refl W) rfl
      ·have e12 := isOf hp.1
       simp only [e12] at hKO
       go_simp
       exact hKO _ W (Ext.refl W) rfl
      ·have e12 := isOf hp.1
       simp only [e12] at hKO
       go_simp
       exact hKO _ W (Ext.refl W) rfl
      ·have e12 := isOf hp.1
       have e17 := isOf hp.2.1
       simp only [e12, e17] at hKO
       go_simp
       exact hKO _ W (Ext.refl W) rfl
      ·have e18 := isOf hp.1
       simp only [e18] at hKO
       go_simp
       exact hKO _ W (Ext.refl W) rfl
      ·have e19 := isOf hp.1
       simp only [e19] at hKO
       go_simp
       exact hKO _ W (Ext.refl W) rfl
      ·have e19 := isOf hp.1
       simp only [e19] at hKO
       go_simp
       exact hKO _ W (Ext.refl W) rfl
      ·have e19 := isOf hp.1
       simp only [e19] at hKO
       go_simp
       exact hKO _ W (Ext.refl W) rfl
      ·have e19 := isOf hp.1
       simp only [e19] at hKO
       go_simp
       exact hKO _ W (Ext.refl W) rfl
      ·have e19 := isOf hp.1
       simp only [e19] at hKO
       go_simp
       exact hKO _ W (Ext.refl W) rfl
      ·have e19 := isOf hp.1
       have e24 := isOf hp.2.1
       simp only [e19, e24] at hKO
       go_simp
       exact hKO _ W (Ext.refl W) rfl
     intro vs W3 hS hp
     clear szw3 E0 h0 h1 h2 h3 h4 p3 p4 E1
     obtain ⟨E0, h0, h1, h2, h3, h4, p3, p4, E1, sz3⟩ := hS
     obtain ⟨h3_0, h3_1, h3_2, h3_3, h3_4, h3_5, h3_6, h3_7, h3_8, h3_9, h3_10, h3_11, h3_12, h3_13, h3_14, h3_15, h3_16, h3_17, h3_18, h3_19, h3_20, h3_21, h3_22, h3_23, h3_24, h3_25, -⟩ := hp
     replace h3_0 : vs 0 = .int .i64 0 := h3_0
     replace h3_1 : vs 1 = .pointer (some ⟨w.heap.size, 0, none⟩) := h3_1
     replace h3_2 : vs 2 = .agg #[.bool b0, .slice a0 n0 c0] := h3_2
     replace h3_3 : vs 3 = .bool true := h3_3
     replace h3_4 : vs 4 = .bool false := h3_4
     replace h3_5 : vs 5 = .bool false := h3_5
     replace h3_6 : vs 6 = .int .i64 0 := h3_6
     replace h3_7 : vs 7 = .pointer (some ⟨w.heap.size + 1, 0, none⟩) := h3_7
     replace h3_8 : vs 8 = .slice a2 n2 c2 := h3_8
     replace h3_9 : vs 9 = .int .i64 (n2 : Int) := h3_9
     replace h3_10 : vs 10 = .bool true := h3_10
     replace h3_11 : vs 11 = .bool true := h3_11
     replace h3_12 : vs 12 = .bool true := h3_12
     replace h3_13 : vs 13 = undef := h3_13
     replace h3_14 : vs 14 = undef := h3_14
     replace h3_15 : vs 15 = undef := h3_15
     replace h3_16 : vs 16 = undef := h3_16
     replace h3_17 : vs 17 = undef := h3_17
     replace h3_18 : vs 18 = .bool true := h3_18
     replace h3_19 : vs 19 = .bool true := h3_19
     replace h3_20 : vs 20 = undef := h3_20
     replace h3_21 : vs 21 = undef := h3_21
     replace h3_22 : vs 22 = undef := h3_22
     replace h3_23 : vs 23 = undef := h3_23
     replace h3_24 : vs 24 = undef := h3_24
     replace h3_25 : vs 25 = .bool true := h3_25
     simp only [h3_0, h3_1, h3_2, h3_3, h3_4, h3_5, h3_6, h3_7, h3_8, h3_9, h3_10, h3_11, h3_12, h3_13, h3_14, h3_15, h3_16, h3_17, h3_18, h3_19, h3_20, h3_21, h3_22, h3_23, h3_24, h3_25]
     clear h3_0 h3_1 h3_2 h3_3 h3_4 h3_5 h3_6 h3_7 h3_8 h3_9 h3_10 h3_11 h3_12 h3_13 h3_14 h3_15 h3_16 h3_17 h3_18 h3_19 h3_20 h3_21 h3_22 h3_23 h3_24 h3_25
     have kp3_0 := p3.cell 0 (v := .bool b0) rfl
     have kp3_1 := p3.cell 1 (v := .slice a0 n0 c0) rfl
     have kp3_2 := p3.cell 2 (v := .bool b1) rfl
     have kp3_3 := p3.cell 3 (v := .slice a1 n1 c1) rfl
     have kp4_0 := p4.cell0
     have kp4_1 := p4.cell1
     go_upto_region 5 with (fail)
     clear kp3_0 kp3_1 kp3_2 kp3_3 kp4_0 kp4_1
     have szw4 := Ext.size E0
     refine region_go [.one fun v _ => v = .bool true,
       .one fun v _ => v = .bool true]
      (fun W => Ext w W ∧ Nt W (.slice a0 n0 c0) x0 ∧ Nt W (.slice a1 n1 c1) x1 ∧ Nt W (.slice a2 n2 c2) x2 ∧ Nt W (.slice a3 n3 c3) x3 ∧ Nt W (.slice a4 n4 c4) x4 ∧ BxA W w.heap.size 58 #[.bool b0, .slice a0 n0 c0, .bool b1, .slice a1 n1 c1] ∧ Bx2 W (w.heap.size + 1) 59 (.slice a2 n2 c2) (.slice a3 n3 c3) ∧ Ext W0 W ∧ W3.heap.size ≤ W.heap.size) ⟨Good.is _, Good.is _, trivial⟩
      (fun W W1 hS hE => ⟨(Ext.trans hS.1 hE), (hS.2.1.ext hE), (hS.2.2.1.ext hE), (hS.2.2.2.1.ext hE), (hS.2.2.2.2.1.ext hE), (hS.2.2.2.2.2.1.ext hE), (hS.2.2.2.2.2.2.1.ext hE), (hS.2.2.2.2.2.2.2.1.ext hE), (Ext.trans hS.2.2.2.2.2.2.2.2.1 hE), (Nat.le_trans hS.2.2.2.2.2.2.2.2.2 (Ext.size hE))⟩) ⟨E0, h0, h1, h2, h3, h4, p3, p4, E1, Nat.le_refl _⟩ (by kernel_rfl) (by kernel_rfl) (by kernel_rfl) (by kernel_rfl) (A := ?A4) ?hA4 ?howe4 ?hfin4
     case hA4 =>
      intro vs
      simp only [putAll, Act.put, List.setIfInBounds_toArray, List.set_cons_zero, List.set_cons_succ, Nat.zero_add]
      exact rfl
     case howe4 =>
      clear E0 h0 h1 h2 h3 h4 p3 p4 E1
      intro hf
      refine ⟨owesE 0 [] hf rfl (by kernel_rfl) ?_, owesE 1 [0] hf rfl (by kernel_rfl) ?_, trivial⟩
      all_goals intro vs W hS hp hx KO hKO
      all_goals simp only [Act.put, List.setIfInBounds_toArray, List.set_cons_zero, List.set_cons_succ] at hKO
      ·go_simp
       refine (Try.alive05 _).mono ?_
       rintro e W1 ⟨rfl, hE⟩
       exact hKO _ W1 hE rfl
      ·have e0 := isOf hp.1
       simp only [e0] at hKO
       go_simp
       exact hKO _ W (Ext.refl W) rfl
     intro vs W4 hS hp
     clear szw4 E0 h0 h1 h2 h3 h4 p3 p4 E1
     obtain ⟨E0, h0, h1, h2, h3, h4, p3, p4, E1, sz4⟩ := hS
     obtain ⟨h4_0, h4_1, -⟩ := hp
     replace h4_0 : vs 0 = .bool true := h4_0
     replace h4_1 : vs 1 = .bool true := h4_1
     simp only [h4_0, h4_1]
     clear h4_0 h4_1
     have kp3_0 := p3.cell 0 (v := .bool b0) rfl
     have kp3_1 := p3.cell 1 (v := .slice a0 n0 c0) rfl
     have kp3_2 := p3.cell 2 (v := .bool b1) rfl
     have kp3_3 := p3.cell 3 (v := .slice a1 n1 c1) rfl
     have kp4_0 := p4.cell0
     have kp4_1 := p4.cell1
     go_wp2
     go_ret
     exact ⟨rfl, E0⟩
    ·by_cases hq : n2 = 0
     ·have HQ0 := Lib.hid hq
      clear hq
      have kp3_0 := p3.cell 0 (v := .bool b0) rfl
      have kp3_1 := p3.cell 1 (v := .slice a0 n0 c0) rfl
      have kp3_2 := p3.cell 2 (v := .bool b1) rfl
      have kp3_3 := p3.cell 3 (v := .slice a1 n1 c1) rfl
      have kp4_0 := p4.cell0
      have kp4_1 := p4.cell1
      go_upto_region 4 with (fail)
      clear kp3_0 kp3_1 kp3_2 kp3_3 kp4_0 kp4_1
      have ltp3 := p3.lt
      have ltp4 := p4.lt
      have szw5 := Ext.size E0
      refine region_go [.one fun v _ => v = .int .i64 0,
        .one fun v _ => v = .pointer (some ⟨w.heap.size, 0, none⟩),
        .one fun v _ => v = .agg #[.bool b0, .slice a0 n0 c0],
        .one fun v _ => v = .bool true,
        .one fun v _ => v = .bool false,
        .one fun v _ => v = .bool false,
        .one fun v _ => v = .int .i64 0,
        .one fun v _ => v = .pointer (some ⟨w.heap.size + 1, 0, none⟩),
        .one fun v _ => v = .slice a2 n2 c2,
        .one fun v _ => v = .int .i64 (n2 : Int),
        .one fun v _ => v = .bool false,
        .one fun v _ => v = .bool false,
        .one fun v _ => v = .bool false,
        .one fun v _ => v = .int .i64 0,
        .one fun v _ => v = .pointer (some ⟨w.heap.size + 1, 0, none⟩),
        .one fun v _ => v = .slice a2 n2 c2,
        .one fun v _ => v = .int .i64 (n2 : Int),
        .one fun v _ => v = .bool true,
        .one fun v _ => v = .bool true,
        .one fun v _ => v = .bool true,
        .one fun v _ => v = undef,
        .one fun v _ => v = undef,
        .one fun v _ => v = undef,
        .one fun v _ => v = undef,
        .one fun v _ => v = undef,
        .one fun v _ => v = .bool true]
       (fun W => Ext w W ∧ Nt W (.slice a0 n0 c0) x0 ∧ Nt W (.slice a1 n1 c1) x1 ∧ Nt W (.slice a2 n2 c2) x2 ∧ Nt W (.slice a3 n3 c3) x3 ∧ Nt W (.slice a4 n4 c4) x4 ∧ BxA W w.heap.size 58 #[.bool b0, .slice a0 n0 c0, .bool b1, .slice a1 n1 c1] ∧ Bx2 W (w.heap.size + 1) 59 (.slice a2 n2 c2) (.slice a3 n3 c3) ∧ Ext W0 W ∧ wr.heap.size ≤ W.heap.size) ⟨Good.is _, Good.is _, Good.is _, Good.is _, Good.is _, Good.is _, Good.is _, Good.is _, Good.is _, Good.is _, Good.is _, Good.is _, Good.is _, Good.is _, Good.is _, Good.is _, Good.is _, Good.is _, Good.is _, Good.is _, Good.is _, Good.is _, Good.is _, Good.is _, Good.is _, Good.is _, trivial⟩
       (fun W W1 hS hE => ⟨(Ext.trans hS.1 hE), (hS.2.1.ext hE), (hS.2.2.1.ext hE), (hS.2.2.2.1.ext hE), (hS.2.2.2.2.1.ext hE), (hS.2.2.2.2.2.1.ext hE), (hS.2.2.2.2.2.2.1.ext hE), (hS.2.2.2.2.2.2.2.1.ext hE), (Ext.trans hS.2.2.2.2.2.2.2.2.1 hE), (Nat.le_trans hS.2.2.2.2.2.2.2.2.2 (Ext.size hE))⟩) ⟨E0, h0, h1, h2, h3, h4, p3, p4, E1, Nat.le_refl _⟩ (by kernel_rfl) (by kernel_rfl) (by kernel_rfl) (by kernel_rfl) (A := ?A5) ?hA5 ?howe5 ?hfin5
      case hA5 =>
       intro vs
       simp only [putAll, Act.put, List.setIfInBounds_toArray, List.set_cons_zero, List.set_cons_succ, Nat.zero_add, Nat.reduceAdd]
       exact rfl
      case howe5 =>
       clear E0 h0 h1 h2 h3 h4 p3 p4 E1
       intro hf
       refine ⟨owesE 0 [] hf rfl (by kernel_rfl) ?_, owesE 1 [0] hf rfl (by kernel_rfl) ?_, owesE 2 [1] hf rfl (by kernel_rfl) ?_, owesE 3 [2] hf rfl (by kernel_rfl) ?_, owesE 4 [3] hf rfl (by kernel_rfl) ?_, owesE 5 [4] hf rfl (by kernel_rfl) ?_, owesE 6 [5] hf rfl (by kernel_rfl) ?_, owesE 7 [5, 6] hf rfl (by kernel_rfl) ?_, owesE 8 [5, 7] hf rfl (by kernel_rfl) ?_, owesE 9 [5, 8] hf rfl (by kernel_rfl) ?_, owesE 10 [5, 9] hf rfl (by kernel_rfl) ?_, owesE 11 [5, 10] hf rfl (by kernel_rfl) ?_, owesE 12 [11] hf rfl (by kernel_rfl) ?_, owesE 13 [12] hf rfl (by kernel_rfl) ?_, owesE 14 [12, 13] hf rfl (by kernel_rfl) ?_, owesE 15 [12, 14] hf rfl (by kernel_rfl) ?_, owesE 16 [12, 15] hf rfl (by kernel_rfl) ?_, owesE 17 [12, 16] hf rfl (by kernel_rfl) ?_, owesE 18 [12, 17] hf rfl (by kernel_rfl) ?_, owesE 19 [18] hf rfl (by kernel_rfl) ?_, owesE 20 [19] hf rfl (by kernel_rfl) ?_, owesE 21 [19] hf rfl (by kernel_rfl) ?_, owesE 22 [19] hf rfl (by kernel_rfl) ?_, owesE 23 [19] hf rfl (by kernel_rfl) ?_, owesE 24 [19] hf rfl (by kernel_rfl) ?_, owesE 25 [19, 24] hf rfl (by kernel_rfl) ?_, trivial⟩
       all_goals intro vs W hS hp hx KO hKO
       all_goals simp only [Act.put, List.setIfInBounds_toArray, List.set_cons_zero, List.set_cons_succ] at hKO
       ·go_simp
        exact hKO _ W (Ext.refl W) rfl
       ·have e0 := isOf hp.1
        simp only [e0] at hKO
        go_simp
        exact hKO _ W (Ext.refl W) rfl
       ·have e1 := isOf hp.1
        simp only [e1] at hKO
        have fc0 := BxA.cell (hS.2.2.2.2.2.2.1) 0 (v := .bool b0) rfl
        have fc1 := BxA.cell (hS.2.2.2.2.2.2.1) 1 (v := .slice a0 n0 c0) rfl
        go_simp
        exact hKO _ W (Ext.refl W) rfl
       ·have e2 := isOf hp.1
        simp only [e2] at hKO
        go_simp
        refine (Try.refZFew hS.2.1 ((4 : Nat) : Int)).mono ?_
        rintro e W1 ⟨rfl, hE⟩
        rw [HF.out]
        exact hKO _ W1 hE rfl
       ·have e3 := isOf hp.1
        simp only [e3] at hKO
        go_simp
        exact hKO _ W (Ext.refl W) rfl
       ·have e4 := isOf hp.1
        simp only [e4] at hKO
        go_simp
        exact hKO _ W (Ext.refl W) rfl
       ·have e5 := isOf hp.1
        simp only [e5] at hKO
        go_simp
        exact hKO _ W (Ext.refl W) rfl
       ·have e5 := isOf hp.1
        have e6 := isOf hp.2.1
        simp only [e5, e6] at hKO
        go_simp
        exact hKO _ W (Ext.refl W) rfl
       ·have e5 := isOf hp.1
        have e7 := isOf hp.2.1
        simp only [e5, e7] at hKO
        have fc0 := hS.2.2.2.2.2.2.2.1.cell0
        go_simp
        exact hKO _ W (Ext.refl W) rfl
       ·have e5 := isOf hp.1
        have e8 := isOf hp.2.1
        simp only [e5, e8] at hKO
        go_simp
        exact hKO _ W (Ext.refl W) rfl
       ·have e5 := isOf hp.1
        have e9 := isOf hp.2.1
        simp only [e5, e9] at hKO
        go_simp
        exact hKO _ W (Ext.refl W) (by first | rfl | exact congrArg Value.bool (decide_eq_false (by omega)))
       ·have e5 := isOf hp.1
        have e10 := isOf hp.2.1
        simp only [e5, e10] at hKO
        go_simp
        exact hKO _ W (Ext.refl W) rfl
       ·have e11 := isOf hp.1
        simp only [e11] at hKO
        go_simp
        exact hKO _ W (Ext.refl W) rfl
       ·have e12 := isOf hp.1
        simp only [e12] at hKO
        go_simp
        exact hKO _ W (Ext.refl W) rfl
       ·have e12 := isOf hp.1
        have e13 := isOf hp.2.1
        simp only [e12, e13] at hKO
        go_simp
        exact hKO _ W (Ext.refl W) rfl
       ·have e12 := isOf hp.1
        have e14 := isOf hp.2.1
        simp only [e12, e14] at hKO
        have fc0 := hS.2.2.2.2.2.2.2.1.cell0
        go_simp
        exact hKO _ W (Ext.refl W) rfl
       ·have e12 := isOf hp.1
        have e15 := isOf hp.2.1
        simp only [e12, e15] at hKO
        go_simp
        exact hKO _ W (Ext.refl W) rfl
       ·have e12 := isOf hp.1
        have e16 := isOf hp.2.1
        simp only [e12, e16] at hKO
        go_simp
        exact hKO _ W (Ext.refl W) (by first | rfl | exact congrArg Value.bool (beq_iff_eq.2 (by have := HQ0.out; omega)))
       ·have e12 := isOf hp.1
        have e17 := isOf hp.2.1
        simp only [e12, e17] at hKO
        go_simp
        exact hKO _ W (Ext.refl W) rfl
       ·have e18 := isOf hp.1
        simp only [e18] at hKO
        go_simp
        exact hKO _ W (Ext.refl W) rfl
       ·have e19 := isOf hp.1
        simp only [e19] at hKO
        go_simp
        exact hKO _ W (Ext.refl W) rfl
       ·have e19 := isOf hp.1
        simp only [e19] at hKO
        go_simp
        exact hKO _ W (Ext.refl W) rfl
       ·have e19 := isOf hp.1
        simp only [e19] at hKO
        go_simp
        exact hKO _ W (Ext.refl W) rfl
       ·have e19 := isOf hp.1
        simp only [e19] at hKO
        go_simp
        exact hKO _ W (Ext.refl W) rfl
       ·have e19 := isOf hp.1
        simp only [e19] at hKO
        go_simp
        exact hKO _ W (Ext.refl W) rfl
       ·have e19 := isOf hp.1
        have e24 := isOf hp.2.1
        simp only [e19, e24] at hKO
        go_simp
        exact hKO _ W (Ext.refl W) rfl
      intro vs W5 hS hp
      clear szw5 E0 h0 h1 h2 h3 h4 p3 p4 E1
      obtain ⟨E0, h0, h1, h2, h3, h4, p3, p4, E1, sz5⟩ := hS
      obtain ⟨h5_0, h5_1, h5_2, h5_3, h5_4, h5_5, h5_6, h5_7, h5_8, h5_9, h5_10, h5_11, h5_12, h5_13, h5_14, h5_15, h5_16, h5_17, h5_18, h5_19, h5_20, h5_21, h5_22, h5_23, h5_24, h5_25, -⟩ := hp
      replace h5_0 : vs 0 = .int .i64 0 := h5_0
      replace h5_1 : vs 1 = .pointer (some ⟨w.heap.size, 0, none⟩) := h5_1
      replace h5_2 : vs 2 = .agg #[.bool b0, .slice a0 n0 c0] := h5_2
      replace h5_3 : vs 3 = .bool true := h5_3
      replace h5_4 : vs 4 = .bool false := h5_4
      replace h5_5 : vs 5 = .bool false := h5_5
      replace h5_6 : vs 6 = .int .i64 0 := h5_6
      replace h5_7 : vs 7 = .pointer (some ⟨w.heap.size + 1, 0, none⟩) := h5_7
      replace h5_8 : vs 8 = .slice a2 n2 c2 := h5_8
      replace h5_9 : vs 9 = .int .i64 (n2 : Int) := h5_9
      replace h5_10 : vs 10 = .bool false := h5_10
      replace h5_11 : vs 11 = .bool false := h5_11
      replace h5_12 : vs 12 = .bool false := h5_12
      replace h5_13 : vs 13 = .int .i64 0 := h5_13
      replace h5_14 : vs 14 = .pointer (some ⟨w.heap.size + 1, 0, none⟩) := h5_14
      replace h5_15 : vs 15 = .slice a2 n2 c2 := h5_15
      replace h5_16 : vs 16 = .int .i64 (n2 : Int) := h5_16
      replace h5_17 : vs 17 = .bool true := h5_17
      replace h5_18 : vs 18 = .bool true := h5_18
      replace h5_19 : vs 19 = .bool true := h5_19
      replace h5_20 : vs 20 = undef := h5_20
      replace h5_21 : vs 21 = undef := h5_21
      replace h5_22 : vs 22 = undef := h5_22
      replace h5_23 : vs 23 = undef := h5_23
      replace h5_24 : vs 24 = undef := h5_24
      replace h5_25 : vs 25 = .bool true := h5_25
      simp only [h5_0, h5_1, h5_2, h5_3, h5_4, h5_5, h5_6, h5_7, h5_8, h5_9, h5_10, h5_11, h5_12, h5_13, h5_14, h5_15, h5_16, h5_17, h5_18, h5_19, h5_20, h5_21, h5_22, h5_23, h5_24, h5_25]
      clear h5_0 h5_1 h5_2 h5_3 h5_4 h5_5 h5_6 h5_7 h5_8 h5_9 h5_10 h5_11 h5_12 h5_13 h5_14 h5_15 h5_16 h5_17 h5_18 h5_19 h5_20 h5_21 h5_22 h5_23 h5_24 h5_25
      have kp3_0 := p3.cell 0 (v := .bool b0) rfl
      have kp3_1 := p3.cell 1 (v := .slice a0 n0 c0) rfl
      have kp3_2 := p3.cell 2 (v := .bool b1) rfl
      have kp3_3 := p3.cell 3 (v := .slice a1 n1 c1) rfl
      have kp4_0 := p4.cell0
      have kp4_1 := p4.cell1
      go_upto_region 5 with (fail)
      clear kp3_0 kp3_1 kp3_2 kp3_3 kp4_0 kp4_1
      have szw6 := Ext.size E0
      refine region_go [.one fun v _ => v = .bool true,
        .one fun v _ => v = .bool true]
       (fun W => Ext w W ∧ Nt W (.slice a0 n0 c0) x0 ∧ Nt W (.slice a1 n1 c1) x1 ∧ Nt W (.slice a2 n2 c2) x2 ∧ Nt W (.slice a3 n3 c3) x3 ∧ Nt W (.slice a4 n4 c4) x4 ∧ BxA W w.heap.size 58 #[.bool b0, .slice a0 n0 c0, .bool b1, .slice a1 n1 c1] ∧ Bx2 W (w.heap.size + 1) 59 (.slice a2 n2 c2) (.slice a3 n3 c3) ∧ Ext W0 W ∧ W5.heap.size ≤ W.heap.size) ⟨Good.is _, Good.is _, trivial⟩
       (fun W W1 hS hE => ⟨(Ext.trans hS.1 hE), (hS.2.1.ext hE), (hS.2.2.1.ext hE), (hS.2.2.2.1.ext hE), (hS.2.2.2.2.1.ext hE), (hS.2.2.2.2.2.1.ext hE), (hS.2.2.2.2.2.2.1.ext hE), (hS.2.2.2.2.2.2.2.1.ext hE), (Ext.trans hS.2.2.2.2.2.2.2.2.1 hE), (Nat.le_trans hS.2.2.2.2.2.2.2.2.2 (Ext.size hE))⟩) ⟨E0, h0, h1, h2, h3, h4, p3, p4, E1, Nat.le_refl _⟩ (by kernel_rfl) (by kernel_rfl) (by kernel_rfl) (by kernel_rfl) (A := ?A6) ?hA6 ?howe6 ?hfin6
      case hA6 =>
       intro vs
       simp only [putAll, Act.put, List.setIfInBounds_toArray, List.set_cons_zero, List.set_cons_succ, Nat.zero_add]
       exact rfl
      case howe6 =>
       clear E0 h0 h1 h2 h3 h4 p3 p4 E1
       intro hf
       refine ⟨owesE 0 [] hf rfl (by kernel_rfl) ?_, owesE 1 [0] hf rfl (by kernel_rfl) ?_, trivial⟩
       all_goals intro vs W hS hp hx KO hKO
       all_goals simp only [Act.put, List.setIfInBounds_toArray, List.set_cons_zero, List.set_cons_succ] at hKO
       ·go_simp
        refine (Try.alive05 _).mono ?_
        rintro e W1 ⟨rfl, hE⟩
        exact hKO _ W1 hE rfl
       ·have e0 := isOf hp.1
        simp only [e0] at hKO
        go_simp
        exact hKO _ W (Ext.refl W) rfl
      intro vs W6 hS hp
      clear szw6 E0 h0 h1 h2 h3 h4 p3 p4 E1
      obtain ⟨E0, h0, h1, h2, h3, h4, p3, p4, E1, sz6⟩ := hS
      obtain ⟨h6_0, h6_1, -⟩ := hp
      replace h6_0 : vs 0 = .bool true := h6_0
      replace h6_1 : vs 1 = .bool true := h6_1
      simp only [h6_0, h6_1]
      clear h6_0 h6_1
      have kp3_0 := p3.cell 0 (v := .bool b0) rfl
      have kp3_1 := p3.cell 1 (v := .slice a0 n0 c0) rfl
      have kp3_2 := p3.cell 2 (v := .bool b1) rfl
      have kp3_3 := p3.cell 3 (v := .slice a1 n1 c1) rfl
      have kp4_0 := p4.cell0
      have kp4_1 := p4.cell1
      go_wp2
      go_ret
      exact ⟨rfl, E0⟩
     ·cases hr : normB x2
      ·have HR := Lib.hid hr
       clear hr
       have kp3_0 := p3.cell 0 (v := .bool b0) rfl
       have kp3_1 := p3.cell 1 (v := .slice a0 n0 c0) rfl
       have kp3_2 := p3.cell 2 (v := .bool b1) rfl
       have kp3_3 := p3.cell 3 (v := .slice a1 n1 c1) rfl
       have kp4_0 := p4.cell0
       have kp4_1 := p4.cell1
       go_upto_region 4 with (fail)
       clear kp3_0 kp3_1 kp3_2 kp3_3 kp4_0 kp4_1
       have ltp3 := p3.lt
       have ltp4 := p4.lt
       have szw7 := Ext.size E0
       refine region_go [.one fun v _ => v = .int .i64 0,
         .one fun v _ => v = .pointer (some ⟨w.heap.size, 0, none⟩),
         .one fun v _ => v = .agg #[.bool b0, .slice a0 n0 c0],
         .one fun v _ => v = .bool true,
         .one fun v _ => v = .bool false,
         .one fun v _ => v = .bool false,
         .one fun v _ => v = .int .i64 0,
         .one fun v _ => v = .pointer (some ⟨w.heap.size + 1, 0, none⟩),
         .one fun v _ => v = .slice a2 n2 c2,
         .one fun v _ => v = .int .i64 (n2 : Int),
         .one fun v _ => v = .bool false,
         .one fun v _ => v = .bool false,
         .one fun v _ => v = .bool false,
         .one fun v _ => v = .int .i64 0,
         .one fun v _ => v = .pointer (some ⟨w.heap.size + 1, 0, none⟩),
         .one fun v _ => v = .slice a2 n2 c2,
         .one fun v _ => v = .int .i64 (n2 : Int),
         .one fun v _ => v = .bool false,
         .one fun v _ => v = .bool false,
         .one fun v _ => v = .bool false,
         .one fun v _ => v = .int .i64 0,
         .one fun v _ => v = .pointer (some ⟨w.heap.size + 1, 0, none⟩),
         .one fun v _ => v = .slice a2 n2 c2,
         .one fun v _ => v = .bool false,
         .one fun v _ => v = .bool true,
         .one fun v _ => v = .bool true]
        (fun W => Ext w W ∧ Nt W (.slice a0 n0 c0) x0 ∧ Nt W (.slice a1 n1 c1) x1 ∧ Nt W (.slice a2 n2 c2) x2 ∧ Nt W (.slice a3 n3 c3) x3 ∧ Nt W (.slice a4 n4 c4) x4 ∧ BxA W w.heap.size 58 #[.bool b0, .slice a0 n0 c0, .bool b1, .slice a1 n1 c1] ∧ Bx2 W (w.heap.size + 1) 59 (.slice a2 n2 c2) (.slice a3 n3 c3) ∧ Ext W0 W ∧ wr.heap.size ≤ W.heap.size) ⟨Good.is _, Good.is _, Good.is _, Good.is _, Good.is _, Good.is _, Good.is _, Good.is _, Good.is _, Good.is _, Good.is _, Good.is _, Good.is _, Good.is _, Good.is _, Good.is _, Good.is _, Good.is _, Good.is _, Good.is _, Good.is _, Good.is _, Good.is _, Good.is _, Good.is _, Good.is _, trivial⟩
        (fun W W1 hS hE => ⟨(Ext.trans hS.1 hE), (hS.2.1.ext hE), (hS.2.2.1.ext hE), (hS.2.2.2.1.ext hE), (hS.2.2.2.2.1.ext hE), (hS.2.2.2.2.2.1.ext hE), (hS.2.2.2.2.2.2.1.ext hE), (hS.2.2.2.2.2.2.2.1.ext hE), (Ext.trans hS.2.2.2.2.2.2.2.2.1 hE), (Nat.le_trans hS.2.2.2.2.2.2.2.2.2 (Ext.size hE))⟩) ⟨E0, h0, h1, h2, h3, h4, p3, p4, E1, Nat.le_refl _⟩ (by kernel_rfl) (by kernel_rfl) (by kernel_rfl) (by kernel_rfl) (A := ?A7) ?hA7 ?howe7 ?hfin7
       case hA7 =>
        intro vs
        simp only [putAll, Act.put, List.setIfInBounds_toArray, List.set_cons_zero, List.set_cons_succ, Nat.zero_add, Nat.reduceAdd]
        exact rfl
       case howe7 =>
        clear E0 h0 h1 h2 h3 h4 p3 p4 E1
        intro hf
        refine ⟨owesE 0 [] hf rfl (by kernel_rfl) ?_, owesE 1 [0] hf rfl (by kernel_rfl) ?_, owesE 2 [1] hf rfl (by kernel_rfl) ?_, owesE 3 [2] hf rfl (by kernel_rfl) ?_, owesE 4 [3] hf rfl (by kernel_rfl) ?_, owesE 5 [4] hf rfl (by kernel_rfl) ?_, owesE 6 [5] hf rfl (by kernel_rfl) ?_, owesE 7 [5, 6] hf rfl (by kernel_rfl) ?_, owesE 8 [5, 7] hf rfl (by kernel_rfl) ?_, owesE 9 [5, 8] hf rfl (by kernel_rfl) ?_, owesE 10 [5, 9] hf rfl (by kernel_rfl) ?_, owesE 11 [5, 10] hf rfl (by kernel_rfl) ?_, owesE 12 [11] hf rfl (by kernel_rfl) ?_, owesE 13 [12] hf rfl (by kernel_rfl) ?_, owesE 14 [12, 13] hf rfl (by kernel_rfl) ?_, owesE 15 [12, 14] hf rfl (by kernel_rfl) ?_, owesE 16 [12, 15] hf rfl (by kernel_rfl) ?_, owesE 17 [12, 16] hf rfl (by kernel_rfl) ?_, owesE 18 [12, 17] hf rfl (by kernel_rfl) ?_, owesE 19 [18] hf rfl (by kernel_rfl) ?_, owesE 20 [19] hf rfl (by kernel_rfl) ?_, owesE 21 [19, 20] hf rfl (by kernel_rfl) ?_, owesE 22 [19, 21] hf rfl (by kernel_rfl) ?_, owesE 23 [19, 22] hf rfl (by kernel_rfl) ?_, owesE 24 [19, 23] hf rfl (by kernel_rfl) ?_, owesE 25 [19, 24] hf rfl (by kernel_rfl) ?_, trivial⟩
        all_goals intro vs W hS hp hx KO hKO
        all_goals simp only [Act.put, List.setIfInBounds_toArray, List.set_cons_zero, List.set_cons_succ] at hKO
        ·go_simp
         exact hKO _ W (Ext.refl W) rfl
        ·have e0 := isOf hp.1
         simp only [e0] at hKO
         go_simp
         exact hKO _ W (Ext.refl W) rfl
        ·have e1 := isOf hp.1
         simp only [e1] at hKO
         have fc0 := BxA.cell (hS.2.2.2.2.2.2.1) 0 (v := .bool b0) rfl
         have fc1 := BxA.cell (hS.2.2.2.2.2.2.1) 1 (v := .slice a0 n0 c0) rfl
         go_simp
         exact hKO _ W (Ext.refl W) rfl
        ·have e2 := isOf hp.1
         simp only [e2] at hKO
         go_simp
         refine (Try.refZFew hS.2.1 ((4 : Nat) : Int)).mono ?_
         rintro e W1 ⟨rfl, hE⟩
         rw [HF.out]
         exact hKO _ W1 hE rfl
        ·have e3 := isOf hp.1
         simp only [e3] at hKO
         go_simp
         exact hKO _ W (Ext.refl W) rfl
        ·have e4 := isOf hp.1
         simp only [e4] at hKO
         go_simp
         exact hKO _ W (Ext.refl W) rfl
        ·have e5 := isOf hp.1
         simp only [e5] at hKO
         go_simp
         exact hKO _ W (Ext.refl W) rfl
        ·have e5 := isOf hp.1
         have e6 := isOf hp.2.1
         simp only [e5, e6] at hKO
         go_simp
         exact hKO _ W (Ext.refl W) rfl
        ·have e5 := isOf hp.1
         have e7 := isOf hp.2.1
         simp only [e5, e7] at hKO
         have fc0 := hS.2.2.2.2.2.2.2.1.cell0
         go_simp
         exact hKO _ W (Ext.refl W) rfl
        ·have e5 := isOf hp.1
         have e8 := isOf hp.2.1
         simp only [e5, e8] at hKO
         go_simp
         exact hKO _ W (Ext.refl W) rfl
        ·have e5 := isOf hp.1
         have e9 := isOf hp.2.1
         simp only [e5, e9] at hKO
         go_simp
         exact hKO _ W (Ext.refl W) (by first | rfl | exact congrArg Value.bool (decide_eq_false (by omega)))
        ·have e5 := isOf hp.1
         have e10 := isOf hp.2.1
         simp only [e5, e10] at hKO
         go_simp
         exact hKO _ W (Ext.refl W) rfl
        ·have e11 := isOf hp.1
         simp only [e11] at hKO
         go_simp
         exact hKO _ W (Ext.refl W) rfl
        ·have e12 := isOf hp.1
         simp only [e12] at hKO
         go_simp
         exact hKO _ W (Ext.refl W) rfl
        ·have e12 := isOf hp.1
         have e13 := isOf hp.2.1
         simp only [e12, e13] at hKO
         go_simp
         exact hKO _ W (Ext.refl W) rfl
        ·have e12 := isOf hp.1
         have e14 := isOf hp.2.1
         simp only [e12, e14] at hKO
         have fc0 := hS.2.2.2.2.2.2.2.1.cell0
         go_simp
         exact hKO _ W (Ext.refl W) rfl
        ·have e12 := isOf hp.1
         have e15 := isOf hp.2.1
         simp only [e12, e15] at hKO
         go_simp
         exact hKO _ W (Ext.refl W) rfl
        ·have e12 := isOf hp.1
         have e16 := isOf hp.2.1
         simp only [e12, e16] at hKO
         go_simp
         exact hKO _ W (Ext.refl W) (by first | rfl | exact congrArg Value.bool (beq_eq_false_iff_ne.2 (by omega)))
        ·have e12 := isOf hp.1
         have e17 := isOf hp.2.1
         simp only [e12, e17] at hKO
         go_simp
         exact hKO _ W (Ext.refl W) rfl
        ·have e18 := isOf hp.1
         simp only [e18] at hKO
         go_simp
         exact hKO _ W (Ext.refl W) rfl
        ·have e19 := isOf hp.1
         simp only [e19] at hKO
         go_simp
         exact hKO _ W (Ext.refl W) rfl
        ·have e19 := isOf hp.1
         have e20 := isOf hp.2.1
         simp only [e19, e20] at hKO
         go_simp
         exact hKO _ W (Ext.refl W) rfl
        ·have e19 := isOf hp.1
         have e21 := isOf hp.2.1
         simp only [e19, e21] at hKO
         have fc0 := hS.2.2.2.2.2.2.2.1.cell0
         go_simp
         exact hKO _ W (Ext.refl W) rfl
        ·have e19 := isOf hp.1
         have e22 := isOf hp.2.1
         simp only [e19, e22] at hKO
         go_simp
         refine (Try.refRight hS.2.2.2.1).mono ?_
         rintro e W1 ⟨rfl, rfl⟩
         rw [HR.out]
         exact hKO _ W (Ext.refl W) rfl
        ·have e19 := isOf hp.1
         have e23 := isOf hp.2.1
         simp only [e19, e23] at hKO
         go_simp
         exact hKO _ W (Ext.refl W) rfl
        ·have e19 := isOf hp.1
         have e24 := isOf hp.2.1
         simp only [e19, e24] at hKO
         go_simp
         exact hKO _ W (Ext.refl W) rfl
       intro vs W7 hS hp
       clear szw7 E0 h0 h1 h2 h3 h4 p3 p4 E1
       obtain ⟨E0, h0, h1, h2, h3, h4, p3, p4, E1, sz7⟩ := hS
       obtain ⟨h7_0, h7_1, h7_2, h7_3, h7_4, h7_5, h7_6, h7_7, h7_8, h7_9, h7_10, h7_11, h7_12, h7_13, h7_14, h7_15, h7_16, h7_17, h7_18, h7_19, h7_20, h7_21, h7_22, h7_23, h7_24, h7_25, -⟩ := hp
       replace h7_0 : vs 0 = .int .i64 0 := h7_0
       replace h7_1 : vs 1 = .pointer (some ⟨w.heap.size, 0, none⟩) := h7_1
       replace h7_2 : vs 2 = .agg #[.bool b0, .slice a0 n0 c0] := h7_2
       replace h7_3 : vs 3 = .bool true := h7_3
       replace h7_4 : vs 4 = .bool false := h7_4
       replace h7_5 : vs 5 = .bool false := h7_5
       replace h7_6 : vs 6 = .int .i64 0 := h7_6
       replace h7_7 : vs 7 = .pointer (some ⟨w.heap.size + 1, 0, none⟩) := h7_7
       replace h7_8 : vs 8 = .slice a2 n2 c2 := h7_8
       replace h7_9 : vs 9 = .int .i64 (n2 : Int) := h7_9
       replace h7_10 : vs 10 = .bool false := h7_10
       replace h7_11 : vs 11 = .bool false := h7_11
       replace h7_12 : vs 12 = .bool false := h7_12
       replace h7_13 : vs 13 = .int .i64 0 := h7_13
       replace h7_14 : vs 14 = .pointer (some ⟨w.heap.size + 1, 0, none⟩) := h7_14
       replace h7_15 : vs 15 = .slice a2 n2 c2 := h7_15
       replace h7_16 : vs 16 = .int .i64 (n2 : Int) := h7_16
       replace h7_17 : vs 17 = .bool false := h7_17
       replace h7_18 : vs 18 = .bool false := h7_18
       replace h7_19 : vs 19 = .bool false := h7_19
       replace h7_20 : vs 20 = .int .i64 0 := h7_20
       replace h7_21 : vs 21 = .pointer (some ⟨w.heap.size + 1, 0, none⟩) := h7_21
       replace h7_22 : vs 22 = .slice a2 n2 c2 := h7_22
       replace h7_23 : vs 23 = .bool false := h7_23
       replace h7_24 : vs 24 = .bool true := h7_24
       replace h7_25 : vs 25 = .bool true := h7_25
       simp only [h7_0, h7_1, h7_2, h7_3, h7_4, h7_5, h7_6, h7_7, h7_8, h7_9, h7_10, h7_11, h7_12, h7_13, h7_14, h7_15, h7_16, h7_17, h7_18, h7_19, h7_20, h7_21, h7_22, h7_23, h7_24, h7_25]
       clear h7_0 h7_1 h7_2 h7_3 h7_4 h7_5 h7_6 h7_7 h7_8 h7_9 h7_10 h7_11 h7_12 h7_13 h7_14 h7_15 h7_16 h7_17 h7_18 h7_19 h7_20 h7_21 h7_22 h7_23 h7_24 h7_25
       have kp3_0 := p3.cell 0 (v := .bool b0) rfl
       have kp3_1 := p3.cell 1 (v := .slice a0 n0 c0) rfl
       have kp3_2 := p3.cell 2 (v := .bool b1) rfl
       have kp3_3 := p3.cell 3 (v := .slice a1 n1 c1) rfl
       have kp4_0 := p4.cell0
       have kp4_1 := p4.cell1
       go_upto_region 5 with (fail)
       clear kp3_0 kp3_1 kp3_2 kp3_3 kp4_0 kp4_1
       have szw8 := Ext.size E0
       refine region_go [.one fun v _ => v = .bool true,
         .one fun v _ => v = .bool true]
        (fun W => Ext w W ∧ Nt W (.slice a0 n0 c0) x0 ∧ Nt W (.slice a1 n1 c1) x1 ∧ Nt W (.slice a2 n2 c2) x2 ∧ Nt W (.slice a3 n3 c3) x3 ∧ Nt W (.slice a4 n4 c4) x4 ∧ BxA W w.heap.size 58 #[.bool b0, .slice a0 n0 c0, .bool b1, .slice a1 n1 c1] ∧ Bx2 W (w.heap.size + 1) 59 (.slice a2 n2 c2) (.slice a3 n3 c3) ∧ Ext W0 W ∧ W7.heap.size ≤ W.heap.size) ⟨Good.is _, Good.is _, trivial⟩
        (fun W W1 hS hE => ⟨(Ext.trans hS.1 hE), (hS.2.1.ext hE), (hS.2.2.1.ext hE), (hS.2.2.2.1.ext hE), (hS.2.2.2.2.1.ext hE), (hS.2.2.2.2.2.1.ext hE), (hS.2.2.2.2.2.2.1.ext hE), (hS.2.2.2.2.2.2.2.1.ext hE), (Ext.trans hS.2.2.2.2.2.2.2.2.1 hE), (Nat.le_trans hS.2.2.2.2.2.2.2.2.2 (Ext.size hE))⟩) ⟨E0, h0, h1, h2, h3, h4, p3, p4, E1, Nat.le_refl _⟩ (by kernel_rfl) (by kernel_rfl) (by kernel_rfl) (by kernel_rfl) (A := ?A8) ?hA8 ?howe8 ?hfin8
       case hA8 =>
        intro vs
        simp only [putAll, Act.put, List.setIfInBounds_toArray, List.set_cons_zero, List.set_cons_succ, Nat.zero_add]
        exact rfl
       case howe8 =>
        clear E0 h0 h1 h2 h3 h4 p3 p4 E1
        intro hf
        refine ⟨owesE 0 [] hf rfl (by kernel_rfl) ?_, owesE 1 [0] hf rfl (by kernel_rfl) ?_, trivial⟩
        all_goals intro vs W hS hp hx KO hKO
        all_goals simp only [Act.put, List.setIfInBounds_toArray, List.set_cons_zero, List.set_cons_succ] at hKO
        ·go_simp
         refine (Try.alive05 _).mono ?_
         rintro e W1 ⟨rfl, hE⟩
         exact hKO _ W1 hE rfl
        ·have e0 := isOf hp.1
         simp only [e0] at hKO
         go_simp
         exact hKO _ W (Ext.refl W) rfl
       intro vs W8 hS hp
       clear szw8 E0 h0 h1 h2 h3 h4 p3 p4 E1
       obtain ⟨E0, h0, h1, h2, h3, h4, p3, p4, E1, sz8⟩ := hS
       obtain ⟨h8_0, h8_1, -⟩ := hp
       replace h8_0 : vs 0 = .bool true := h8_0
       replace h8_1 : vs 1 = .bool true := h8_1
       simp only [h8_0, h8_1]
       clear h8_0 h8_1
       have kp3_0 := p3.cell 0 (v := .bool b0) rfl
       have kp3_1 := p3.cell 1 (v := .slice a0 n0 c0) rfl
       have kp3_2 := p3.cell 2 (v := .bool b1) rfl
       have kp3_3 := p3.cell 3 (v := .slice a1 n1 c1) rfl
       have kp4_0 := p4.cell0
       have kp4_1 := p4.cell1
       go_wp2
       go_ret
       exact ⟨rfl, E0⟩
      ·have HR := Lib.hid hr
       clear hr
       have kp3_0 := p3.cell 0 (v := .bool b0) rfl
       have kp3_1 := p3.cell 1 (v := .slice a0 n0 c0) rfl
       have kp3_2 := p3.cell 2 (v := .bool b1) rfl
       have kp3_3 := p3.cell 3 (v := .slice a1 n1 c1) rfl
       have kp4_0 := p4.cell0
       have kp4_1 := p4.cell1
       go_upto_region 4 with (fail)
       clear kp3_0 kp3_1 kp3_2 kp3_3 kp4_0 kp4_1
       have ltp3 := p3.lt
       have ltp4 := p4.lt
       have szw9 := Ext.size E0
       refine region_go [.one fun v _ => v = .int .i64 0,
         .one fun v _ => v = .pointer (some ⟨w.heap.size, 0, none⟩),
         .one fun v _ => v = .agg #[.bool b0, .slice a0 n0 c0],
         .one fun v _ => v = .bool true,
         .one fun v _ => v = .bool false,
         .one fun v _ => v = .bool false,
         .one fun v _ => v = .int .i64 0,
         .one fun v _ => v = .pointer (some ⟨w.heap.size + 1, 0, none⟩),
         .one fun v _ => v = .slice a2 n2 c2,
         .one fun v _ => v = .int .i64 (n2 : Int),
         .one fun v _ => v = .bool false,
         .one fun v _ => v = .bool false,
         .one fun v _ => v = .bool false,
         .one fun v _ => v = .int .i64 0,
         .one fun v _ => v = .pointer (some ⟨w.heap.size + 1, 0, none⟩),
         .one fun v _ => v = .slice a2 n2 c2,
         .one fun v _ => v = .int .i64 (n2 : Int),
         .one fun v _ => v = .bool false,
         .one fun v _ => v = .bool false,
         .one fun v _ => v = .bool false,
         .one fun v _ => v = .int .i64 0,
         .one fun v _ => v = .pointer (some ⟨w.heap.size + 1, 0, none⟩),
         .one fun v _ => v = .slice a2 n2 c2,
         .one fun v _ => v = .bool true,
         .one fun v _ => v = .bool false,
         .one fun v _ => v = .bool false]
        (fun W => Ext w W ∧ Nt W (.slice a0 n0 c0) x0 ∧ Nt W (.slice a1 n1 c1) x1 ∧ Nt W (.slice a2 n2 c2) x2 ∧ Nt W (.slice a3 n3 c3) x3 ∧ Nt W (.slice a4 n4 c4) x4 ∧ BxA W w.heap.size 58 #[.bool b0, .slice a0 n0 c0, .bool b1, .slice a1 n1 c1] ∧ Bx2 W (w.heap.size + 1) 59 (.slice a2 n2 c2) (.slice a3 n3 c3) ∧ Ext W0 W ∧ wr.heap.size ≤ W.heap.size) ⟨Good.is _, Good.is _, Good.is _, Good.is _, Good.is _, Good.is _, Good.is _, Good.is _, Good.is _, Good.is _, Good.is _, Good.is _, Good.is _, Good.is _, Good.is _, Good.is _, Good.is _, Good.is _, Good.is _, Good.is _, Good.is _, Good.is _, Good.is _, Good.is _, Good.is _, Good.is _, trivial⟩
        (fun W W1 hS hE => ⟨(Ext.trans hS.1 hE), (hS.2.1.ext hE), (hS.2.2.1.ext hE), (hS.2.2.2.1.ext hE), (hS.2.2.2.2.1.ext hE), (hS.2.2.2.2.2.1.ext hE), (hS.2.2.2.2.2.2.1.ext hE), (hS.2.2.2.2.2.2.2.1.ext hE), (Ext.trans hS.2.2.2.2.2.2.2.2.1 hE), (Nat.le_trans hS.2.2.2.2.2.2.2.2.2 (Ext.size hE))⟩) ⟨E0, h0, h1, h2, h3, h4, p3, p4, E1, Nat.le_refl _⟩ (by kernel_rfl) (by kernel_rfl) (by kernel_rfl) (by kernel_rfl) (A := ?A9) ?hA9 ?howe9 ?hfin9
       case hA9 =>
        intro vs
        simp only [putAll, Act.put, List.setIfInBounds_toArray, List.set_cons_zero, List.set_cons_succ, Nat.zero_add, Nat.reduceAdd]
        exact rfl
       case howe9 =>
        clear E0 h0 h1 h2 h3 h4 p3 p4 E1
        intro hf
        refine ⟨owesE 0 [] hf rfl (by kernel_rfl) ?_, owesE 1 [0] hf rfl (by kernel_rfl) ?_, owesE 2 [1] hf rfl (by kernel_rfl) ?_, owesE 3 [2] hf rfl (by kernel_rfl) ?_, owesE 4 [3] hf rfl (by kernel_rfl) ?_, owesE 5 [4] hf rfl (by kernel_rfl) ?_, owesE 6 [5] hf rfl (by kernel_rfl) ?_, owesE 7 [5, 6] hf rfl (by kernel_rfl) ?_, owesE 8 [5, 7] hf rfl (by kernel_rfl) ?_, owesE 9 [5, 8] hf rfl (by kernel_rfl) ?_, owesE 10 [5, 9] hf rfl (by kernel_rfl) ?_, owesE 11 [5, 10] hf rfl (by kernel_rfl) ?_, owesE 12 [11] hf rfl (by kernel_rfl) ?_, owesE 13 [12] hf rfl (by kernel_rfl) ?_, owesE 14 [12, 13] hf rfl (by kernel_rfl) ?_, owesE 15 [12, 14] hf rfl (by kernel_rfl) ?_, owesE 16 [12, 15] hf rfl (by kernel_rfl) ?_, owesE 17 [12, 16] hf rfl (by kernel_rfl) ?_, owesE 18 [12, 17] hf rfl (by kernel_rfl) ?_, owesE 19 [18] hf rfl (by kernel_rfl) ?_, owesE 20 [19] hf rfl (by kernel_rfl) ?_, owesE 21 [19, 20] hf rfl (by kernel_rfl) ?_, owesE 22 [19, 21] hf rfl (by kernel_rfl) ?_, owesE 23 [19, 22] hf rfl (by kernel_rfl) ?_, owesE 24 [19, 23] hf rfl (by kernel_rfl) ?_, owesE 25 [19, 24] hf rfl (by kernel_rfl) ?_, trivial⟩
        all_goals intro vs W hS hp hx KO hKO
        all_goals simp only [Act.put, List.setIfInBounds_toArray, List.set_cons_zero, List.set_cons_succ] at hKO
        ·go_simp
         exact hKO _ W (Ext.refl W) rfl
        ·have e0 := isOf hp.1
         simp only [e0] at hKO
         go_simp
         exact hKO _ W (Ext.refl W) rfl
        ·have e1 := isOf hp.1
         simp only [e1] at hKO
         have fc0 := BxA.cell (hS.2.2.2.2.2.2.1) 0 (v := .bool b0) rfl
         have fc1 := BxA.cell (hS.2.2.2.2.2.2.1) 1 (v := .slice a0 n0 c0) rfl
         go_simp
         exact hKO _ W (Ext.refl W) rfl
        ·have e2 := isOf hp.1
         simp only [e2] at hKO
         go_simp
         refine (Try.refZFew hS.2.1 ((4 : Nat) : Int)).mono ?_
         rintro e W1 ⟨rfl, hE⟩
         rw [HF.out]
         exact hKO _ W1 hE rfl
        ·have e3 := isOf hp.1
         simp only [e3] at hKO
         go_simp
         exact hKO _ W (Ext.refl W) rfl
        ·have e4 := isOf hp.1
         simp only [e4] at hKO
         go_simp
         exact hKO _ W (Ext.refl W) rfl
        ·have e5 := isOf hp.1
         simp only [e5] at hKO
         go_simp
         exact hKO _ W (Ext.refl W) rfl
        ·have e5 := isOf hp.1
         have e6 := isOf hp.2.1
         simp only [e5, e6] at hKO
         go_simp
         exact hKO _ W (Ext.refl W) rfl
        ·have e5 := isOf hp.1
         have e7 := isOf hp.2.1
         simp only [e5, e7] at hKO
         have fc0 := hS.2.2.2.2.2.2.2.1.cell0
         go_simp
         exact hKO _ W (Ext.refl W) rfl
        ·have e5 := isOf hp.1
         have e8 := isOf hp.2.1
         simp only [e5, e8] at hKO
         go_simp
         exact hKO _ W (Ext.refl W) rfl
        ·have e5 := isOf hp.1
         have e9 := isOf hp.2.1
         simp only [e5, e9] at hKO
         go_simp
         exact hKO _ W (Ext.refl W) (by first | rfl | exact congrArg Value.bool (decide_eq_false (by omega)))
        ·have e5 := isOf hp.1
         have e10 := isOf hp.2.1
         simp only [e5, e10] at hKO
         go_simp
         exact hKO _ W (Ext.refl W) rfl
        ·have e11 := isOf hp.1
         simp only [e11] at hKO
         go_simp
         exact hKO _ W (Ext.refl W) rfl
        ·have e12 := isOf hp.1
         simp only [e12] at hKO
         go_simp
         exact hKO _ W (Ext.refl W) rfl
        ·have e12 := isOf hp.1
         have e13 := isOf hp.2.1
         simp only [e12, e13] at hKO
         go_simp
         exact hKO _ W (Ext.refl W) rfl
        ·have e12 := isOf hp.1
         have e14 := isOf hp.2.1
         simp only [e12, e14] at hKO
         have fc0 := hS.2.2.2.2.2.2.2.1.cell0
         go_simp
         exact hKO _ W (Ext.refl W) rfl
        ·have e12 := isOf hp.1
         have e15 := isOf hp.2.1
         simp only [e12, e15] at hKO
         go_simp
         exact hKO _ W (Ext.refl W) rfl
        ·have e12 := isOf hp.1
         have e16 := isOf hp.2.1
         simp only [e12, e16] at hKO
         go_simp
         exact hKO _ W (Ext.refl W) (by first | rfl | exact congrArg Value.bool (beq_eq_false_iff_ne.2 (by omega)))
        ·have e12 := isOf hp.1
         have e17 := isOf hp.2.1
         simp only [e12, e17] at hKO
         go_simp
         exact hKO _ W (Ext.refl W) rfl
        ·have e18 := isOf hp.1
         simp only [e18] at hKO
         go_simp
         exact hKO _ W (Ext.refl W) rfl
        ·have e19 := isOf hp.1
         simp only [e19] at hKO
         go_simp
         exact hKO _ W (Ext.refl W) rfl
        ·have e19 := isOf hp.1
         have e20 := isOf hp.2.1
         simp only [e19, e20] at hKO
         go_simp
         exact hKO _ W (Ext.refl W) rfl
        ·have e19 := isOf hp.1
         have e21 := isOf hp.2.1
         simp only [e19, e21] at hKO
         have fc0 := hS.2.2.2.2.2.2.2.1.cell0
         go_simp
         exact hKO _ W (Ext.refl W) rfl
        ·have e19 := isOf hp.1
         have e22 := isOf hp.2.1
         simp only [e19, e22] at hKO
         go_simp
         refine (Try.refRight hS.2.2.2.1).mono ?_
         rintro e W1 ⟨rfl, rfl⟩
         rw [HR.out]
         exact hKO _ W (Ext.refl W) rfl
        ·have e19 := isOf hp.1
         have e23 := isOf hp.2.1
         simp only [e19, e23] at hKO
         go_simp
         exact hKO _ W (Ext.refl W) rfl
        ·have e19 := isOf hp.1
         have e24 := isOf hp.2.1
         simp only [e19, e24] at hKO
         go_simp
         exact hKO _ W (Ext.refl W) rfl
       intro vs W9 hS hp
       clear szw9 E0 h0 h1 h2 h3 h4 p3 p4 E1
       obtain ⟨E0, h0, h1, h2, h3, h4, p3, p4, E1, sz9⟩ := hS
       obtain ⟨h9_0, h9_1, h9_2, h9_3, h9_4, h9_5, h9_6, h9_7, h9_8, h9_9, h9_10, h9_11, h9_12, h9_13, h9_14, h9_15, h9_16, h9_17, h9_18, h9_19, h9_20, h9_21, h9_22, h9_23, h9_24, h9_25, -⟩ := hp
       replace h9_0 : vs 0 = .int .i64 0 := h9_0
       replace h9_1 : vs 1 = .pointer (some ⟨w.heap.size, 0, none⟩) := h9_1
       replace h9_2 : vs 2 = .agg #[.bool b0, .slice a0 n0 c0] := h9_2
       replace h9_3 : vs 3 = .bool true := h9_3
       replace h9_4 : vs 4 = .bool false := h9_4
       replace h9_5 : vs 5 = .bool false := h9_5
       replace h9_6 : vs 6 = .int .i64 0 := h9_6
       replace h9_7 : vs 7 = .pointer (some ⟨w.heap.size + 1, 0, none⟩) := h9_7
       replace h9_8 : vs 8 = .slice a2 n2 c2 := h9_8
       replace h9_9 : vs 9 = .int .i64 (n2 : Int) := h9_9
       replace h9_10 : vs 10 = .bool false := h9_10
       replace h9_11 : vs 11 = .bool false := h9_11
       replace h9_12 : vs 12 = .bool false := h9_12
       replace h9_13 : vs 13 = .int .i64 0 := h9_13
       replace h9_14 : vs 14 = .pointer (some ⟨w.heap.size + 1, 0, none⟩) := h9_14
       replace h9_15 : vs 15 = .slice a2 n2 c2 := h9_15
       replace h9_16 : vs 16 = .int .i64 (n2 : Int) := h9_16
       replace h9_17 : vs 17 = .bool false := h9_17
       replace h9_18 : vs 18 = .bool false := h9_18
       replace h9_19 : vs 19 = .bool false := h9_19
       replace h9_20 : vs 20 = .int .i64 0 := h9_20
       replace h9_21 : vs 21 = .pointer (some ⟨w.heap.size + 1, 0, none⟩) := h9_21
       replace h9_22 : vs 22 = .slice a2 n2 c2 := h9_22
       replace h9_23 : vs 23 = .bool true := h9_23
       replace h9_24 : vs 24 = .bool false := h9_24
       replace h9_25 : vs 25 = .bool false := h9_25
       simp only [h9_0, h9_1, h9_2, h9_3, h9_4, h9_5, h9_6, h9_7, h9_8, h9_9, h9_10, h9_11, h9_12, h9_13, h9_14, h9_15, h9_16, h9_17, h9_18, h9_19, h9_20, h9_21, h9_22, h9_23, h9_24, h9_25]
       clear h9_0 h9_1 h9_2 h9_3 h9_4 h9_5 h9_6 h9_7 h9_8 h9_9 h9_10 h9_11 h9_12 h9_13 h9_14 h9_15 h9_16 h9_17 h9_18 h9_19 h9_20 h9_21 h9_22 h9_23 h9_24 h9_25
       have HG := Lib.hid (show goodOne b0 x0 n2 x2 from ⟨HF.out, by omega, hq, HR.out⟩)
       have kp3_0 := p3.cell 0 (v := .bool b0) rfl
       have kp3_1 := p3.cell 1 (v := .slice a0 n0 c0) rfl
       have kp3_2 := p3.cell 2 (v := .bool b1) rfl
       have kp3_3 := p3.cell 3 (v := .slice a1 n1 c1) rfl
       have kp4_0 := p4.cell0
       have kp4_1 := p4.cell1
       go_wp2
       go_roundw
       case rel => exact ⟨1, rfl, by omega, Lib.hid (fun _ => HG.out), Lib.hid (fun h => absurd h (by omega)), E1⟩
       case measure => simp [intOf]
  ·simp only [show ((1 : Nat) : Int) = 1 from rfl]
   cases hf : fewZ b1 x1 ((4 : Nat) : Int)
   ·have HF := Lib.hid hf
    clear hf
    have kp3_0 := p3.cell 0 (v := .bool b0) rfl
    have kp3_1 := p3.cell 1 (v := .slice a0 n0 c0) rfl
    have kp3_2 := p3.cell 2 (v := .bool b1) rfl
    have kp3_3 := p3.cell 3 (v := .slice a1 n1 c1) rfl
    have kp4_0 := p4.cell0
    have kp4_1 := p4.cell1
    go_upto_region 4 with (fail)
    clear kp3_0 kp3_1 kp3_2 kp3_3 kp4_0 kp4_1
    have ltp3 := p3.lt
    have ltp4 := p4.lt
    have szw10 := Ext.size E0
    refine region_go [.one fun v _ => v = .int .i64 1,
      .one fun v _ => v = .pointer (some ⟨w.heap.size, 2, none⟩),
      .one fun v _ => v = .agg #[.bool b1, .slice a1 n1 c1],
      .one fun v _ => v = .bool false,
      .one fun v _ => v = .bool true,
      .one fun v _ => v = .bool true,
      .one fun v _ => v = undef,
      .one fun v _ => v = undef,
      .one fun v _ => v = undef,
      .one fun v _ => v = undef,
      .one fun v _ => v = undef,
      .one fun v _ => v = .bool true,
      .one fun v _ => v = .bool true,
      .one fun v _ => v = undef,
      .one fun v _ => v = undef,
      .one fun v _ => v = undef,
      .one fun v _ => v = undef,
      .one fun v _ => v = undef,
      .one fun v _ => v = .bool true,
      .one fun v _ => v = .bool true,
      .one fun v _ => v = undef,
      .one fun v _ => v = undef,
      .one fun v _ => v = undef,
      .one fun v _ => v = undef,
      .one fun v _ => v = undef,
      .one fun v _ => v = .bool true]
     (fun W => Ext w W ∧ Nt W (.slice a0 n0 c0) x0 ∧ Nt W (.slice a1 n1 c1) x1 ∧ Nt W (.slice a2 n2 c2) x2 ∧ Nt W (.slice a3 n3 c3) x3 ∧ Nt W (.slice a4 n4 c4) x4 ∧ BxA W w.heap.size 58 #[.bool b0, .slice a0 n0 c0, .bool b1, .slice a1 n1 c1] ∧ Bx2 W (w.heap.size + 1) 59 (.slice a2 n2 c2) (.slice a3 n3 c3) ∧ Ext W0 W ∧ wr.heap.size ≤ W.heap.size) ⟨Good.is _, Good.is _, Good.is _, Good.is _, Good.is _, Good.is _, Good.is _, Good.is _, Good.is _, Good.is _, Good.is _, Good.is _, Good.is _, Good.is _, Good.is _, Good.is _, Good.is _, Good.is _, Good.is _, Good.is _, Good.is _, Good.is _, Good.is _, Good.is _, Good.is _, Good.is _, trivial⟩
     (fun W W1 hS hE => ⟨(Ext.trans hS.1 hE), (hS.2.1.ext hE), (hS.2.2.1.ext hE), (hS.2.2.2.1.ext hE), (hS.2.2.2.2.1.ext hE), (hS.2.2.2.2.2.1.ext hE), (hS.2.2.2.2.2.2.1.ext hE), (hS.2.2.2.2.2.2.2.1.ext hE), (Ext.trans hS.2.2.2.2.2.2.2.2.1 hE), (Nat.le_trans hS.2.2.2.2.2.2.2.2.2 (Ext.size hE))⟩) ⟨E0, h0, h1, h2, h3, h4, p3, p4, E1, Nat.le_refl _⟩ (by kernel_rfl) (by kernel_rfl) (by kernel_rfl) (by kernel_rfl) (A := ?A10) ?hA10 ?howe10 ?hfin10
    case hA10 =>
     intro vs
     simp only [putAll, Act.put, List.setIfInBounds_toArray, List.set_cons_zero, List.set_cons_succ, Nat.zero_add, Nat.reduceAdd]
     exact rfl
    case howe10 =>
     clear E0 h0 h1 h2 h3 h4 p3 p4 E1
     intro hf
     refine ⟨owesE 0 [] hf rfl (by kernel_rfl) ?_, owesE 1 [0] hf rfl (by kernel_rfl) ?_, owesE 2 [1] hf rfl (by kernel_rfl) ?_, owesE 3 [2] hf rfl (by kernel_rfl) ?_, owesE 4 [3] hf rfl (by kernel_rfl) ?_, owesE 5 [4] hf rfl (by kernel_rfl) ?_, owesE 6 [5] hf rfl (by kernel_rfl) ?_, owesE 7 [5] hf rfl (by kernel_rfl) ?_, owesE 8 [5] hf rfl (by kernel_rfl) ?_, owesE 9 [5] hf rfl (by kernel_rfl) ?_, owesE 10 [5] hf rfl (by kernel_rfl) ?_, owesE 11 [5, 10] hf rfl (by kernel_rfl) ?_, owesE 12 [11] hf rfl (by kernel_rfl) ?_, owesE 13 [12] hf rfl (by kernel_rfl) ?_, owesE 14 [12] hf rfl (by kernel_rfl) ?_, owesE 15 [12] hf rfl (by kernel_rfl) ?_, owesE 16 [12] hf rfl (by kernel_rfl) ?_, owesE 17 [12] hf rfl (by kernel_rfl) ?_, owesE 18 [12, 17] hf rfl (by kernel_rfl) ?_, owesE 19 [18] hf rfl (by kernel_rfl) ?_, owesE 20 [19] hf rfl (by kernel_rfl) ?_, owesE 21 [19] hf rfl (by kernel_rfl) ?_, owesE 22 [19] hf rfl (by kernel_rfl) ?_, owesE 23 [19] hf rfl (by kernel_rfl) ?_, owesE 24 [19] hf rfl (by kernel_rfl) ?_, owesE 25 [19, 24] hf rfl (by kernel_rfl) ?_, trivial⟩
     all_goals intro vs W hS hp hx KO hKO
     all_goals simp only [Act.put, List.setIfInBounds_toArray, List.set_cons_zero, List.set_cons_succ] at hKO
     ·go_simp
      exact hKO _ W (Ext.refl W) rfl
     ·have e0 := isOf hp.1
      simp only [e0] at hKO
      go_simp
      exact hKO _ W (Ext.refl W) rfl
     ·have e1 := isOf hp.1
      simp only [e1] at hKO
      have fc2 := BxA.cell (hS.2.2.2.2.2.2.1) 2 (v := .bool b1) rfl
      have fc3 := BxA.cell (hS.2.2.2.2.2.2.1) 3 (v := .slice a1 n1 c1) rfl
      go_simp
      exact hKO _ W (Ext.refl W) rfl
     ·have e2 := isOf hp.1
      simp only [e2] at hKO
      go_simp
      refine (Try.refZFew hS.2.2.1 ((4 : Nat) : Int)).mono ?_
      rintro e W1 ⟨rfl, hE⟩
      rw [HF.out]
      exact hKO _ W1 hE rfl
     ·have e3 := isOf hp.1
      simp only [e3] at hKO
      go_simp
      exact hKO _ W (Ext.refl W) rfl
     ·have e4 := isOf hp.1
      simp only [e4] at hKO
      go_simp
      exact hKO _ W (Ext.refl W) rfl
     ·have e5 := isOf hp.1
      simp only [e5] at hKO
      go_simp
      exact hKO _ W (Ext.refl W) rfl
     ·have e5 := isOf hp.1
      simp only [e5] at hKO
      go_simp
      exact hKO _ W (Ext.refl W) rfl
     ·have e5 := isOf hp.1
      simp only [e5] at hKO
      go_simp
      exact hKO _ W (Ext.refl W) rfl
     ·have e5 := isOf hp.1
      simp only [e5] at hKO
      go_simp
      exact hKO _ W (Ext.refl W) rfl
     ·have e5 := isOf hp.1
      simp only [e5] at hKO
      go_simp
      exact hKO _ W (Ext.refl W) rfl
     ·have e5 := isOf hp.1
      have e10 := isOf hp.2.1
      simp only [e5, e10] at hKO
      go_simp
      exact hKO _ W (Ext.refl W) rfl
     ·have e11 := isOf hp.1
      simp only [e11] at hKO
      go_simp
      exact hKO _ W (Ext.refl W) rfl
     ·have e12 := isOf hp.1
      simp only [e12] at hKO
      go_simp
      exact hKO _ W (Ext.refl W) rfl
     ·have e12 := isOf hp.1
      simp only [e12] at hKO
      go_simp
      exact hKO _ W (Ext.refl W) rfl
     ·have e12 := isOf hp.1
      simp only [e12] at hKO
      go_simp
      exact hKO _ W (Ext.refl W) rfl
     ·have e12 := isOf hp.1
      simp only [e12] at hKO
      go_simp
      exact hKO _ W (Ext.refl W) rfl
     ·have e12 := isOf hp.1
      simp only [e12] at hKO
      go_simp
      exact hKO _ W (Ext.refl W) rfl
     ·have e12 := isOf hp.1
      have e17 := isOf hp.2.1
      simp only [e12, e17] at hKO
      go_simp
      exact hKO _ W (Ext.refl W) rfl
     ·have e18 := isOf hp.1
      simp only [e18] at hKO
      go_simp
      exact hKO _ W (Ext.refl W) rfl
     ·have e19 := isOf hp.1
      simp only [e19] at hKO
      go_simp
      exact hKO _ W (Ext.refl W) rfl
     ·have e19 := isOf hp.1
      simp only [e19] at hKO
      go_simp
      exact hKO _ W (Ext.refl W) rfl
     ·have e19 := isOf hp.1
      simp only [e19] at hKO
      go_simp
      exact hKO _ W (Ext.refl W) rfl
     ·have e19 := isOf hp.1
      simp only [e19] at hKO
      go_simp
      exact hKO _ W (Ext.refl W) rfl
     ·have e19 := isOf hp.1
      simp only [e19] at hKO
      go_simp
      exact hKO _ W (Ext.refl W) rfl
     ·have e19 := isOf hp.1
      have e24 := isOf hp.2.1
      simp only [e19, e24] at hKO
      go_simp
      exact hKO _ W (Ext.refl W) rfl
    intro vs W10 hS hp
    clear szw10 E0 h0 h1 h2 h3 h4 p3 p4 E1
    obtain ⟨E0, h0, h1, h2, h3, h4, p3, p4, E1, sz10⟩ := hS
    obtain ⟨h10_0, h10_1, h10_2, h10_3, h10_4, h10_5, h10_6, h10_7, h10_8, h10_9, h10_10, h10_11, h10_12, h10_13, h10_14, h10_15, h10_16, h10_17, h10_18, h10_19, h10_20, h10_21, h10_22, h10_23, h10_24, h10_25, -⟩ := hp
    replace h10_0 : vs 0 = .int .i64 1 := h10_0
    replace h10_1 : vs 1 = .pointer (some ⟨w.heap.size, 2, none⟩) := h10_1
    replace h10_2 : vs 2 = .agg #[.bool b1, .slice a1 n1 c1] := h10_2
    replace h10_3 : vs 3 = .bool false := h10_3
    replace h10_4 : vs 4 = .bool true := h10_4
    replace h10_5 : vs 5 = .bool true := h10_5
    replace h10_6 : vs 6 = undef := h10_6
    replace h10_7 : vs 7 = undef := h10_7
    replace h10_8 : vs 8 = undef := h10_8
    replace h10_9 : vs 9 = undef := h10_9
    replace h10_10 : vs 10 = undef := h10_10
    replace h10_11 : vs 11 = .bool true := h10_11
    replace h10_12 : vs 12 = .bool true := h10_12
    replace h10_13 : vs 13 = undef := h10_13
    replace h10_14 : vs 14 = undef := h10_14
    replace h10_15 : vs 15 = undef := h10_15
    replace h10_16 : vs 16 = undef := h10_16
    replace h10_17 : vs 17 = undef := h10_17
    replace h10_18 : vs 18 = .bool true := h10_18
    replace h10_19 : vs 19 = .bool true := h10_19
    replace h10_20 : vs 20 = undef := h10_20
    replace h10_21 : vs 21 = undef := h10_21
    replace h10_22 : vs 22 = undef := h10_22
    replace h10_23 : vs 23 = undef := h10_23
    replace h10_24 : vs 24 = undef := h10_24
    replace h10_25 : vs 25 = .bool true := h10_25
    simp only [h10_0, h10_1, h10_2, h10_3, h10_4, h10_5, h10_6, h10_7, h10_8, h10_9, h10_10, h10_11, h10_12, h10_13, h10_14, h10_15, h10_16, h10_17, h10_18, h10_19, h10_20, h10_21, h10_22, h10_23, h10_24, h10_25]
    clear h10_0 h10_1 h10_2 h10_3 h10_4 h10_5 h10_6 h10_7 h10_8 h10_9 h10_10 h10_11 h10_12 h10_13 h10_14 h10_15 h10_16 h10_17 h10_18 h10_19 h10_20 h10_21 h10_22 h10_23 h10_24 h10_25
    have kp3_0 := p3.cell 0 (v := .bool b0) rfl
    have kp3_1 := p3.cell 1 (v := .slice a0 n0 c0) rfl
    have kp3_2 := p3.cell 2 (v := .bool b1) rfl
    have kp3_3 := p3.cell 3 (v := .slice a1 n1 c1) rfl
    have kp4_0 := p4.cell0
    have kp4_1 := p4.cell1
    go_upto_region 5 with (fail)
    clear kp3_0 kp3_1 kp3_2 kp3_3 kp4_0 kp4_1
    have szw11 := Ext.size E0
    refine region_go [.one fun v _ => v = .bool true,
      .one fun v _ => v = .bool true]
     (fun W => Ext w W ∧ Nt W (.slice a0 n0 c0) x0 ∧ Nt W (.slice a1 n1 c1) x1 ∧ Nt W (.slice a2 n2 c2) x2 ∧ Nt W (.slice a3 n3 c3) x3 ∧ Nt W (.slice a4 n4 c4) x4 ∧ BxA W w.heap.size 58 #[.bool b0, .slice a0 n0 c0, .bool b1, .slice a1 n1 c1] ∧ Bx2 W (w.heap.size + 1) 59 (.slice a2 n2 c2) (.slice a3 n3 c3) ∧ Ext W0 W ∧ W10.heap.size ≤ W.heap.size) ⟨Good.is _, Good.is _, trivial⟩
     (fun W W1 hS hE => ⟨(Ext.trans hS.1 hE), (hS.2.1.ext hE), (hS.2.2.1.ext hE), (hS.2.2.2.1.ext hE), (hS.2.2.2.2.1.ext hE), (hS.2.2.2.2.2.1.ext hE), (hS.2.2.2.2.2.2.1.ext hE), (hS.2.2.2.2.2.2.2.1.ext hE), (Ext.trans hS.2.2.2.2.2.2.2.2.1 hE), (Nat.le_trans hS.2.2.2.2.2.2.2.2.2 (Ext.size hE))⟩) ⟨E0, h0, h1, h2, h3, h4, p3, p4, E1, Nat.le_refl _⟩ (by kernel_rfl) (by kernel_rfl) (by kernel_rfl) (by kernel_rfl) (A := ?A11) ?hA11 ?howe11 ?hfin11
    case hA11 =>
     intro vs
     simp only [putAll, Act.put, List.setIfInBounds_toArray, List.set_cons_zero, List.set_cons_succ, Nat.zero_add]
     exact rfl
    case howe11 =>
     clear E0 h0 h1 h2 h3 h4 p3 p4 E1
     intro hf
     refine ⟨owesE 0 [] hf rfl (by kernel_rfl) ?_, owesE 1 [0] hf rfl (by kernel_rfl) ?_, trivial⟩
     all_goals intro vs W hS hp hx KO hKO
     all_goals simp only [Act.put, List.setIfInBounds_toArray, List.set_cons_zero, List.set_cons_succ] at hKO
     ·go_simp
      refine (Try.alive05 _).mono ?_
      rintro e W1 ⟨rfl, hE⟩
      exact hKO _ W1 hE rfl
     ·have e0 := isOf hp.1
      simp only [e0] at hKO
      go_simp
      exact hKO _ W (Ext.refl W) rfl
    intro vs W11 hS hp
    clear szw11 E0 h0 h1 h2 h3 h4 p3 p4 E1
    obtain ⟨E0, h0, h1, h2, h3, h4, p3, p4, E1, sz11⟩ := hS
    obtain ⟨h11_0, h11_1, -⟩ := hp
    replace h11_0 : vs 0 = .bool true := h11_0
    replace h11_1 : vs 1 = .bool true := h11_1
    simp only [h11_0, h11_1]
    clear h11_0 h11_1
    have kp3_0 := p3.cell 0 (v := .bool b0) rfl
    have kp3_1 := p3.cell 1 (v := .slice a0 n0 c0) rfl
    have kp3_2 := p3.cell 2 (v := .bool b1) rfl
    have kp3_3 := p3.cell 3 (v := .slice a1 n1 c1) rfl
    have kp4_0 := p4.cell0
    have kp4_1 := p4.cell1
    go_wp2
    go_ret
    exact ⟨rfl, E0⟩
   ·have HF := Lib.hid hf
    clear hf
    by_cases hl : 4 < n3
    ·have kp3_0 := p3.cell 0 (v := .bool b0) rfl
     have kp3_1 := p3.cell 1 (v := .slice a0 n0 c0) rfl
     have kp3_2 := p3.cell 2 (v := .bool b1) rfl
     have kp3_3 := p3.cell 3 (v := .slice a1 n1 c1) rfl
     have kp4_0 := p4.cell0
     have kp4_1 := p4.cell1
     go_upto_region 4 with (fail)
     clear kp3_0 kp3_1 kp3_2 kp3_3 kp4_0 kp4_1
     have ltp3 := p3.lt
     have ltp4 := p4.lt
     have szw12 := Ext.size E0
     refine region_go [.one fun v _ => v = .int .i64 1,
       .one fun v _ => v = .pointer (some ⟨w.heap.size, 2, none⟩),
       .one fun v _ => v = .agg #[.bool b1, .slice a1 n1 c1],
       .one fun v _ => v = .bool true,
       .one fun v _ => v = .bool false,
       .one fun v _ => v = .bool false,
       .one fun v _ => v = .int .i64 1,
       .one fun v _ => v = .pointer (some ⟨w.heap.size + 1, 1, none⟩),
       .one fun v _ => v = .slice a3 n3 c3,
       .one fun v _ => v = .int .i64 (n3 : Int),
       .one fun v _ => v = .bool true,
       .one fun v _ => v = .bool true,
       .one fun v _ => v = .bool true,
       .one fun v _ => v = undef,
       .one fun v _ => v = undef,
       .one fun v _ => v = undef,
       .one fun v _ => v = undef,
       .one fun v _ => v = undef,
       .one fun v _ => v = .bool true,
       .one fun v _ => v = .bool true,
       .one fun v _ => v = undef,
       .one fun v _ => v = undef,
       .one fun v _ => v = undef,
       .one fun v _ => v = undef,
       .one fun v _ => v = undef,
       .one fun v _ => v = .bool true]
      (fun W => Ext w W ∧ Nt W (.slice a0 n0 c0) x0 ∧ Nt W (.slice a1 n1 c1) x1 ∧ Nt W (.slice a2 n2 c2) x2 ∧ Nt W (.slice a3 n3 c3) x3 ∧ Nt W (.slice a4 n4 c4) x4 ∧ BxA W w.heap.size 58 #[.bool b0, .slice a0 n0 c0, .bool b1, .slice a1 n1 c1] ∧ Bx2 W (w.heap.size + 1) 59 (.slice a2 n2 c2) (.slice a3 n3 c3) ∧ Ext W0 W ∧ wr.heap.size ≤ W.heap.size) ⟨Good.is _, Good.is _, Good.is _, Good.is _, Good.is _, Good.is _, Good.is _, Good.is _, Good.is _, Good.is _, Good.is _, Good.is _, Good.is _, Good.is _, Good.is _, Good.is _, Good.is _, Good.is _, Good.is _, Good.is _, Good.is _, Good.is _, Good.is _, Good.is _, Good.is _, Good.is _, trivial⟩
      (fun W W1 hS hE => ⟨(Ext.trans hS.1 hE), (hS.2.1.ext hE), (hS.2.2.1.ext hE), (hS.2.2.2.1.ext hE), (hS.2.2.2.2.1.ext hE), (hS.2.2.2.2.2.1.ext hE), (hS.2.2.2.2.2.2.1.ext hE), (hS.2.2.2.2.2.2.2.1.ext hE), (Ext.trans hS.2.2.2.2.2.2.2.2.1 hE), (Nat.le_trans hS.2.2.2.2.2.2.2.2.2 (Ext.size hE))⟩) ⟨E0, h0, h1, h2, h3, h4, p3, p4, E1, Nat.le_refl _⟩ (by kernel_rfl) (by kernel_rfl) (by kernel_rfl) (by kernel_rfl) (A := ?A12) ?hA12 ?howe12 ?hfin12
     case hA12 =>
      intro vs
      simp only [putAll, Act.put, List.setIfInBounds_toArray, List.set_cons_zero, List.set_cons_succ, Nat.zero_add, Nat.reduceAdd]
      exact rfl
     case howe12 =>
      clear E0 h0 h1 h2 h3 h4 p3 p4 E1
      intro hf
      refine ⟨owesE 0 [] hf rfl (by kernel_rfl) ?_, owesE 1 [0] hf rfl (by kernel_rfl) ?_, owesE 2 [1] hf rfl (by kernel_rfl) ?_, owesE 3 [2] hf rfl (by kernel_rfl) ?_, owesE 4 [3] hf rfl (by kernel_rfl) ?_, owesE 5 [4] hf rfl (by kernel_rfl) ?_, owesE 6 [5] hf rfl (by kernel_rfl) ?_, owesE 7 [5, 6] hf rfl (by kernel_rfl) ?_, owesE 8 [5, 7] hf rfl (by kernel_rfl) ?_, owesE 9 [5, 8] hf rfl (by kernel_rfl) ?_, owesE 10 [5, 9] hf rfl (by kernel_rfl) ?_, owesE 11 [5, 10] hf rfl (by kernel_rfl) ?_, owesE 12 [11] hf rfl (by kernel_rfl) ?_, owesE 13 [12] hf rfl (by kernel_rfl) ?_, owesE 14 [12] hf rfl (by kernel_rfl) ?_, owesE 15 [12] hf rfl (by kernel_rfl) ?_, owesE 16 [12] hf rfl (by kernel_rfl) ?_, owesE 17 [12] hf rfl (by kernel_rfl) ?_, owesE 18 [12, 17] hf rfl (by kernel_rfl) ?_, owesE 19 [18] hf rfl (by kernel_rfl) ?_, owesE 20 [19] hf rfl (by kernel_rfl) ?_, owesE 21 [19] hf rfl (by kernel_rfl) ?_, owesE 22 [19] hf rfl (by kernel_rfl) ?_, owesE 23 [19] hf rfl (by kernel_rfl) ?_, owesE 24 [19] hf rfl (by kernel_rfl) ?_, owesE 25 [19, 24] hf rfl (by kernel_rfl) ?_, trivial⟩
      all_goals intro vs W hS hp hx KO hKO
      all_goals simp only [Act.put, List.setIfInBounds_toArray, List.set_cons_zero, List.set_cons_succ] at hKO
      ·go_simp
       exact hKO _ W (Ext.refl W) rfl
      ·have e0 := isOf hp.1
       simp only [e0] at hKO
       go_simp
       exact hKO _ W (Ext.refl W) rfl
      ·have e1 := isOf hp.1
       simp only [e1] at hKO
       have fc2 := BxA.cell (hS.2.2.2.2.2.2.1) 2 (v := .bool b1) rfl
       have fc3 := BxA.cell (hS.2.2.2.2.2.2.1) 3 (v := .slice a1 n1 c1) rfl
       go_simp
       exact hKO _ W (Ext.refl W) rfl
      ·have e2 := isOf hp.1
       simp only [e2] at hKO
       go_simp
       refine (Try.refZFew hS.2.2.1 ((4 : Nat) : Int)).mono ?_
       rintro e W1 ⟨rfl, hE⟩
       rw [HF.out]
       exact hKO _ W1 hE rfl
      ·have e3 := isOf hp.1
       simp only [e3] at hKO
       go_simp
       exact hKO _ W (Ext.refl W) rfl
      ·have e4 := isOf hp.1
       simp only [e4] at hKO
       go_simp
       exact hKO _ W (Ext.refl W) rfl
      ·have e5 := isOf hp.1
       simp only [e5] at hKO
       go_simp
       exact hKO _ W (Ext.refl W) rfl
      ·have e5 := isOf hp.1
       have e6 := isOf hp.2.1
       simp only [e5, e6] at hKO
       go_simp
       exact hKO _ W (Ext.refl W) rfl
      ·have e5 := isOf hp.1
       have e7 := isOf hp.2.1
       simp only [e5, e7] at hKO
       have fc1 := hS.2.2.2.2.2.2.2.1.cell1
       go_simp
       exact hKO _ W (Ext.refl W) rfl
      ·have e5 := isOf hp.1
       have e8 := isOf hp.2.1
       simp only [e5, e8] at hKO
       go_simp
       exact hKO _ W (Ext.refl W) rfl
      ·have e5 := isOf hp.1
       have e9 := isOf hp.2.1
       simp only [e5, e9] at hKO
       go_simp
       exact hKO _ W (Ext.refl W) (by first | rfl | exact congrArg Value.bool (decide_eq_true (by omega)))
      ·have e5 := isOf hp.1
       have e10 := isOf hp.2.1
       simp only [e5, e10] at hKO
       go_simp
       exact hKO _ W (Ext.refl W) rfl
      ·have e11 := isOf hp.1
       simp only [e11] at hKO
       go_simp
       exact hKO _ W (Ext.refl W) rfl
      ·have e12 := isOf hp.1
       simp only [e12] at hKO
       go_simp
       exact hKO _ W (Ext.refl W) rfl
      ·have e12 := isOf hp.1
       simp only [e12] at hKO
       go_simp
       exact hKO _ W (Ext.refl W) rfl
      ·have e12 := isOf hp.1
       simp only [e12] at hKO
       go_simp
       exact hKO _ W (Ext.refl W) rfl
      ·have e12 := isOf hp.1
       simp only [e12] at hKO
       go_simp
       exact hKO _ W (Ext.refl W) rfl
      ·have e12 := isOf hp.1
       simp only [e12] at hKO
       go_simp
       exact hKO _ W (Ext.refl W) rfl
      ·have e12 := isOf hp.1
       have e17 := isOf hp.2.1
       simp only [e12, e17] at hKO
       go_simp
       exact hKO _ W (Ext.refl W) rfl
      ·have e18 := isOf hp.1
       simp only [e18] at hKO
       go_simp
       exact hKO _ W (Ext.refl W) rfl
      ·have e19 := isOf hp.1
       simp only [e19] at hKO
       go_simp
       exact hKO _ W (Ext.refl W) rfl
      ·have e19 := isOf hp.1
       simp only [e19] at hKO
       go_simp
       exact hKO _ W (Ext.refl W) rfl
      ·have e19 := isOf hp.1
       simp only [e19] at hKO
       go_simp
       exact hKO _ W (Ext.refl W) rfl
      ·have e19 := isOf hp.1
       simp only [e19] at hKO
       go_simp
       exact hKO _ W (Ext.refl W) rfl
      ·have e19 := isOf hp.1
       simp only [e19] at hKO
       go_simp
       exact hKO _ W (Ext.refl W) rfl
      ·have e19 := isOf hp.1
       have e24 := isOf hp.2.1
       simp only [e19, e24] at hKO
       go_simp
       exact hKO _ W (Ext.refl W) rfl
     intro vs W12 hS hp
     clear szw12 E0 h0 h1 h2 h3 h4 p3 p4 E1
     obtain ⟨E0, h0, h1, h2, h3, h4, p3, p4, E1, sz12⟩ := hS
     obtain ⟨h12_0, h12_1, h12_2, h12_3, h12_4, h12_5, h12_6, h12_7, h12_8, h12_9, h12_10, h12_11, h12_12, h12_13, h12_14, h12_15, h12_16, h12_17, h12_18, h12_19, h12_20, h12_21, h12_22, h12_23, h12_24, h12_25, -⟩ := hp
     replace h12_0 : vs 0 = .int .i64 1 := h12_0
     replace h12_1 : vs 1 = .pointer (some ⟨w.heap.size, 2, none⟩) := h12_1
     replace h12_2 : vs 2 = .agg #[.bool b1, .slice a1 n1 c1] := h12_2
     replace h12_3 : vs 3 = .bool true := h12_3
     replace h12_4 : vs 4 = .bool false := h12_4
     replace h12_5 : vs 5 = .bool false := h12_5
     replace h12_6 : vs 6 = .int .i64 1 := h12_6
     replace h12_7 : vs 7 = .pointer (some ⟨w.heap.size + 1, 1, none⟩) := h12_7
     replace h12_8 : vs 8 = .slice a3 n3 c3 := h12_8
     replace h12_9 : vs 9 = .int .i64 (n3 : Int) := h12_9
     replace h12_10 : vs 10 = .bool true := h12_10
     replace h12_11 : vs 11 = .bool true := h12_11
     replace h12_12 : vs 12 = .bool true := h12_12
     replace h12_13 : vs 13 = undef := h12_13
     replace h12_14 : vs 14 = undef := h12_14
     replace h12_15 : vs 15 = undef := h12_15
     replace h12_16 : vs 16 = undef := h12_16
     replace h12_17 : vs 17 = undef := h12_17
     replace h12_18 : vs 18 = .bool true := h12_18
     replace h12_19 : vs 19 = .bool true := h12_19
     replace h12_20 : vs 20 = undef := h12_20
     replace h12_21 : vs 21 = undef := h12_21
     replace h12_22 : vs 22 = undef := h12_22
     replace h12_23 : vs 23 = undef := h12_23
     replace h12_24 : vs 24 = undef := h12_24
     replace h12_25 : vs 25 = .bool true := h12_25
     simp only [h12_0, h12_1, h12_2, h12_3, h12_4, h12_5, h12_6, h12_7, h12_8, h12_9, h12_10, h12_11, h12_12, h12_13, h12_14, h12_15, h12_16, h12_17, h12_18, h12_19, h12_20, h12_21, h12_22, h12_23, h12_24, h12_25]
     clear h12_0 h12_1 h12_2 h12_3 h12_4 h12_5 h12_6 h12_7 h12_8 h12_9 h12_10 h12_11 h12_12 h12_13 h12_14 h12_15 h12_16 h12_17 h12_18 h12_19 h12_20 h12_21 h12_22 h12_23 h12_24 h12_25
     have kp3_0 := p3.cell 0 (v := .bool b0) rfl
     have kp3_1 := p3.cell 1 (v := .slice a0 n0 c0) rfl
     have kp3_2 := p3.cell 2 (v := .bool b1) rfl
     have kp3_3 := p3.cell 3 (v := .slice a1 n1 c1) rfl
     have kp4_0 := p4.cell0
     have kp4_1 := p4.cell1
     go_upto_region 5 with (fail)
     clear kp3_0 kp3_1 kp3_2 kp3_3 kp4_0 kp4_1
     have szw13 := Ext.size E0
     refine region_go [.one fun v _ => v = .bool true,
       .one fun v _ => v = .bool true]
      (fun W => Ext w W ∧ Nt W (.slice a0 n0 c0) x0 ∧ Nt W (.slice a1 n1 c1) x1 ∧ Nt W (.slice a2 n2 c2) x2 ∧ Nt W (.slice a3 n3 c3) x3 ∧ Nt W (.slice a4 n4 c4) x4 ∧ BxA W w.heap.size 58 #[.bool b0, .slice a0 n0 c0, .bool b1, .slice a1 n1 c1] ∧ Bx2 W (w.heap.size + 1) 59 (.slice a2 n2 c2) (.slice a3 n3 c3) ∧ Ext W0 W ∧ W12.heap.size ≤ W.heap.size) ⟨Good.is _, Good.is _, trivial⟩
      (fun W W1 hS hE => ⟨(Ext.trans hS.1 hE), (hS.2.1.ext hE), (hS.2.2.1.ext hE), (hS.2.2.2.1.ext hE), (hS.2.2.2.2.1.ext hE), (hS.2.2.2.2.2.1.ext hE), (hS.2.2.2.2.2.2.1.ext hE), (hS.2.2.2.2.2.2.2.1.ext hE), (Ext.trans hS.2.2.2.2.2.2.2.2.1 hE), (Nat.le_trans hS.2.2.2.2.2.2.2.2.2 (Ext.size hE))⟩) ⟨E0, h0, h1, h2, h3, h4, p3, p4, E1, Nat.le_refl _⟩ (by kernel_rfl) (by kernel_rfl) (by kernel_rfl) (by kernel_rfl) (A := ?A13) ?hA13 ?howe13 ?hfin13
     case hA13 =>
      intro vs
      simp only [putAll, Act.put, List.setIfInBounds_toArray, List.set_cons_zero, List.set_cons_succ, Nat.zero_add]
      exact rfl
     case howe13 =>
      clear E0 h0 h1 h2 h3 h4 p3 p4 E1
      intro hf
      refine ⟨owesE 0 [] hf rfl (by kernel_rfl) ?_, owesE 1 [0] hf rfl (by kernel_rfl) ?_, trivial⟩
      all_goals intro vs W hS hp hx KO hKO
      all_goals simp only [Act.put, List.setIfInBounds_toArray, List.set_cons_zero, List.set_cons_succ] at hKO
      ·go_simp
       refine (Try.alive05 _).mono ?_
       rintro e W1 ⟨rfl, hE⟩
       exact hKO _ W1 hE rfl
      ·have e0 := isOf hp.1
       simp only [e0] at hKO
       go_simp
       exact hKO _ W (Ext.refl W) rfl
     intro vs W13 hS hp
     clear szw13 E0 h0 h1 h2 h3 h4 p3 p4 E1
     obtain ⟨E0, h0, h1, h2, h3, h4, p3, p4, E1, sz13⟩ := hS
     obtain ⟨h13_0, h13_1, -⟩ := hp
     replace h13_0 : vs 0 = .bool true := h13_0
     replace h13_1 : vs 1 = .bool true := h13_1
     simp only [h13_0, h13_1]
     clear h13_0 h13_1
     have kp3_0 := p3.cell 0 (v := .bool b0) rfl
     have kp3_1 := p3.cell 1 (v := .slice a0 n0 c0) rfl
     have kp3_2 := p3.cell 2 (v := .bool b1) rfl
     have kp3_3 := p3.cell 3 (v := .slice a1 n1 c1) rfl
     have kp4_0 := p4.cell0
     have kp4_1 := p4.cell1
     go_wp2
     go_ret
     exact ⟨rfl, E0⟩
    ·by_cases hq : n3 = 0
     ·have HQ0 := Lib.hid hq
      clear hq
      have kp3_0 := p3.cell 0 (v := .bool b0) rfl
      have kp3_1 := p3.cell 1 (v := .slice a0 n0 c0) rfl
      have kp3_2 := p3.cell 2 (v := .bool b1) rfl
      have kp3_3 := p3.cell 3 (v := .slice a1 n1 c1) rfl
      have kp4_0 := p4.cell0
      have kp4_1 := p4.cell1
      go_upto_region 4 with (fail)
      clear kp3_0 kp3_1 kp3_2 kp3_3 kp4_0 kp4_1
      have ltp3 := p3.lt
      have ltp4 := p4.lt
      have szw14 := Ext.size E0
      refine region_go [.one fun v _ => v = .int .i64 1,
        .one fun v _ => v = .pointer (some ⟨w.heap.size, 2, none⟩),
        .one fun v _ => v = .agg #[.bool b1, .slice a1 n1 c1],
        .one fun v _ => v = .bool true,
        .one fun v _ => v = .bool false,
        .one fun v _ => v = .bool false,
        .one fun v _ => v = .int .i64 1,
        .one fun v _ => v = .pointer (some ⟨w.heap.size + 1, 1, none⟩),
        .one fun v _ => v = .slice a3 n3 c3,
        .one fun v _ => v = .int .i64 (n3 : Int),
        .one fun v _ => v = .bool false,
        .one fun v _ => v = .bool false,
        .one fun v _ => v = .bool false,
        .one fun v _ => v = .int .i64 1,
        .one fun v _ => v = .pointer (some ⟨w.heap.size + 1, 1, none⟩),
        .one fun v _ => v = .slice a3 n3 c3,
        .one fun v _ => v = .int .i64 (n3 : Int),
        .one fun v _ => v = .bool true,
        .one fun v _ => v = .bool true,
        .one fun v _ => v = .bool true,
        .one fun v _ => v = undef,
        .one fun v _ => v = undef,
        .one fun v _ => v = undef,
        .one fun v _ => v = undef,
        .one fun v _ => v = undef,
        .one fun v _ => v = .bool true]
       (fun W => Ext w W ∧ Nt W (.slice a0 n0 c0) x0 ∧ Nt W (.slice a1 n1 c1) x1 ∧ Nt W (.slice a2 n2 c2) x2 ∧ Nt W (.slice a3 n3 c3) x3 ∧ Nt W (.slice a4 n4 c4) x4 ∧ BxA W w.heap.size 58 #[.bool b0, .slice a0 n0 c0, .bool b1, .slice a1 n1 c1] ∧ Bx2 W (w.heap.size + 1) 59 (.slice a2 n2 c2) (.slice a3 n3 c3) ∧ Ext W0 W ∧ wr.heap.size ≤ W.heap.size) ⟨Good.is _, Good.is _, Good.is _, Good.is _, Good.is _, Good.is _, Good.is _, Good.is _, Good.is _, Good.is _, Good.is _, Good.is _, Good.is _, Good.is _, Good.is _, Good.is _, Good.is _, Good.is _, Good.is _, Good.is _, Good.is _, Good.is _, Good.is _, Good.is _, Good.is _, Good.is _, trivial⟩
       (fun W W1 hS hE => ⟨(Ext.trans hS.1 hE), (hS.2.1.ext hE), (hS.2.2.1.ext hE), (hS.2.2.2.1.ext hE), (hS.2.2.2.2.1.ext hE), (hS.2.2.2.2.2.1.ext hE), (hS.2.2.2.2.2.2.1.ext hE), (hS.2.2.2.2.2.2.2.1.ext hE), (Ext.trans hS.2.2.2.2.2.2.2.2.1 hE), (Nat.le_trans hS.2.2.2.2.2.2.2.2.2 (Ext.size hE))⟩) ⟨E0, h0, h1, h2, h3, h4, p3, p4, E1, Nat.le_refl _⟩ (by kernel_rfl) (by kernel_rfl) (by kernel_rfl) (by kernel_rfl) (A := ?A14) ?hA14 ?howe14 ?hfin14
      case hA14 =>
       intro vs
       simp only [putAll, Act.put, List.setIfInBounds_toArray, List.set_cons_zero, List.set_cons_succ, Nat.zero_add, Nat.reduceAdd]
       exact rfl
      case howe14 =>
       clear E0 h0 h1 h2 h3 h4 p3 p4 E1
       intro hf
       refine ⟨owesE 0 [] hf rfl (by kernel_rfl) ?_, owesE 1 [0] hf rfl (by kernel_rfl) ?_, owesE 2 [1] hf rfl (by kernel_rfl) ?_, owesE 3 [2] hf rfl (by kernel_rfl) ?_, owesE 4 [3] hf rfl (by kernel_rfl) ?_, owesE 5 [4] hf rfl (by kernel_rfl) ?_, owesE 6 [5] hf rfl (by kernel_rfl) ?_, owesE 7 [5, 6] hf rfl (by kernel_rfl) ?_, owesE 8 [5, 7] hf rfl (by kernel_rfl) ?_, owesE 9 [5, 8] hf rfl (by kernel_rfl) ?_, owesE 10 [5, 9] hf rfl (by kernel_rfl) ?_, owesE 11 [5, 10] hf rfl (by kernel_rfl) ?_, owesE 12 [11] hf rfl (by kernel_rfl) ?_, owesE 13 [12] hf rfl (by kernel_rfl) ?_, owesE 14 [12, 13] hf rfl (by kernel_rfl) ?_, owesE 15 [12, 14] hf rfl (by kernel_rfl) ?_, owesE 16 [12, 15] hf rfl (by kernel_rfl) ?_, owesE 17 [12, 16] hf rfl (by kernel_rfl) ?_, owesE 18 [12, 17] hf rfl (by kernel_rfl) ?_, owesE 19 [18] hf rfl (by kernel_rfl) ?_, owesE 20 [19] hf rfl (by kernel_rfl) ?_, owesE 21 [19] hf rfl (by kernel_rfl) ?_, owesE 22 [19] hf rfl (by kernel_rfl) ?_, owesE 23 [19] hf rfl (by kernel_rfl) ?_, owesE 24 [19] hf rfl (by kernel_rfl) ?_, owesE 25 [19, 24] hf rfl (by kernel_rfl) ?_, trivial⟩
       all_goals intro vs W hS hp hx KO hKO
       all_goals simp only [Act.put, List.setIfInBounds_toArray, List.set_cons_zero, List.set_cons_succ] at hKO
       ·go_simp
        exact hKO _ W (Ext.refl W) rfl
       ·have e0 := isOf hp.1
        simp only [e0] at hKO
        go_simp
        exact hKO _ W (Ext.refl W) rfl
       ·have e1 := isOf hp.1
        simp only [e1] at hKO
        have fc2 := BxA.cell (hS.2.2.2.2.2.2.1) 2 (v := .bool b1) rfl
        have fc3 := BxA.cell (hS.2.2.2.2.2.2.1) 3 (v := .slice a1 n1 c1) rfl
        go_simp
        exact hKO _ W (Ext.refl W) rfl
       ·have e2 := isOf hp.1
        simp only [e2] at hKO
        go_simp
        refine (Try.refZFew hS.2.2.1 ((4 : Nat) : Int)).mono ?_
        rintro e W1 ⟨rfl, hE⟩
        rw [HF.out]
        exact hKO _ W1 hE rfl
       ·have e3 := isOf hp.1
        simp only [e3] at hKO
        go_simp
        exact hKO _ W (Ext.refl W) rfl
       ·have e4 := isOf hp.1
        simp only [e4] at hKO
        go_simp
        exact hKO _ W (Ext.refl W) rfl
       ·have e5 := isOf hp.1
        simp only [e5] at hKO
        go_simp
        exact hKO _ W (Ext.refl W) rfl
       ·have e5 := isOf hp.1
        have e6 := isOf hp.2.1
        simp only [e5, e6] at hKO
        go_simp
        exact hKO _ W (Ext.refl W) rfl
       ·have e5 := isOf hp.1
        have e7 := isOf hp.2.1
        simp only [e5, e7] at hKO
        have fc1 := hS.2.2.2.2.2.2.2.1.cell1
        go_simp
        exact hKO _ W (Ext.refl W) rfl
       ·have e5 := isOf hp.1
        have e8 := isOf hp.2.1
        simp only [e5, e8] at hKO
        go_simp
        exact hKO _ W (Ext.refl W) rfl
       ·have e5 := isOf hp.1
        have e9 := isOf hp.2.1
        simp only [e5, e9] at hKO
        go_simp
        exact hKO _ W (Ext.refl W) (by first | rfl | exact congrArg Value.bool (decide_eq_false (by omega)))
       ·have e5 := isOf hp.1
        have e10 := isOf hp.2.1
        simp only [e5, e10] at hKO
        go_simp
        exact hKO _ W (Ext.refl W) rfl
       ·have e11 := isOf hp.1
        simp only [e11] at hKO
        go_simp
        exact hKO _ W (Ext.refl W) rfl
       ·have e12 := isOf hp.1
        simp only [e12] at hKO
        go_simp
        exact hKO _ W (Ext.refl W) rfl
       ·have e12 := isOf hp.1
        have e13 := isOf hp.2.1
        simp only [e12, e13] at hKO
        go_simp
        exact hKO _ W (Ext.refl W) rfl
       ·have e12 := isOf hp.1
        have e14 := isOf hp.2.1
        simp only [e12, e14] at hKO
        have fc1 := hS.2.2.2.2.2.2.2.1.cell1
        go_simp
        exact hKO _ W (Ext.refl W) rfl
       ·have e12 := isOf hp.1
        have e15 := isOf hp.2.1
        simp only [e12, e15] at hKO
        go_simp
        exact hKO _ W (Ext.refl W) rfl
       ·have e12 := isOf hp.1
        have e16 := isOf hp.2.1
        simp only [e12, e16] at hKO
        go_simp
        exact hKO _ W (Ext.refl W) (by first | rfl | exact congrArg Value.bool (beq_iff_eq.2 (by have := HQ0.out; omega)))
       ·have e12 := isOf hp.1
        have e17 := isOf hp.2.1
        simp only [e12, e17] at hKO
        go_simp
        exact hKO _ W (Ext.refl W) rfl
       ·have e18 := isOf hp.1
        simp only [e18] at hKO
        go_simp
        exact hKO _ W (Ext.refl W) rfl
       ·have e19 := isOf hp.1
        simp only [e19] at hKO
        go_simp
        exact hKO _ W (Ext.refl W) rfl
       ·have e19 := isOf hp.1
        simp only [e19] at hKO
        go_simp
        exact hKO _ W (Ext.refl W) rfl
       ·have e19 := isOf hp.1
        simp only [e19] at hKO
        go_simp
        exact hKO _ W (Ext.refl W) rfl
       ·have e19 := isOf hp.1
        simp only [e19] at hKO
        go_simp
        exact hKO _ W (Ext.refl W) rfl
       ·have e19 := isOf hp.1
        simp only [e19] at hKO
        go_simp
        exact hKO _ W (Ext.refl W) rfl
       ·have e19 := isOf hp.1
        have e24 := isOf hp.2.1
        simp only [e19, e24] at hKO
        go_simp
        exact hKO _ W (Ext.refl W) rfl
      intro vs W14 hS hp
      clear szw14 E0 h0 h1 h2 h3 h4 p3 p4 E1
      obtain ⟨E0, h0, h1, h2, h3, h4, p3, p4, E1, sz14⟩ := hS
      obtain ⟨h14_0, h14_1, h14_2, h14_3, h14_4, h14_5, h14_6, h14_7, h14_8, h14_9, h14_10, h14_11, h14_12, h14_13, h14_14, h14_15, h14_16, h14_17, h14_18, h14_19, h14_20, h14_21, h14_22, h14_23, h14_24, h14_25, -⟩ := hp
      replace h14_0 : vs 0 = .int .i64 1 := h14_0
      replace h14_1 : vs 1 = .pointer (some ⟨w.heap.size, 2, none⟩) := h14_1
      replace h14_2 : vs 2 = .agg #[.bool b1, .slice a1 n1 c1] := h14_2
      replace h14_3 : vs 3 = .bool true := h14_3
      replace h14_4 : vs 4 = .bool false := h14_4
      replace h14_5 : vs 5 = .bool false := h14_5
      replace h14_6 : vs 6 = .int .i64 1 := h14_6
      replace h14_7 : vs 7 = .pointer (some ⟨w.heap.size + 1, 1, none⟩) := h14_7
      replace h14_8 : vs 8 = .slice a3 n3 c3 := h14_8
      replace h14_9 : vs 9 = .int .i64 (n3 : Int) := h14_9
      replace h14_10 : vs 10 = .bool false := h14_10
      replace h14_11 : vs 11 = .bool false := h14_11
      replace h14_12 : vs 12 = .bool false := h14_12
      replace h14_13 : vs 13 = .int .i64 1 := h14_13
      replace h14_14 : vs 14 = .pointer (some ⟨w.heap.size + 1, 1, none⟩) := h14_14
      replace h14_15 : vs 15 = .slice a3 n3 c3 := h14_15
      replace h14_16 : vs 16 = .int .i64 (n3 : Int) := h14_16
      replace h14_17 : vs 17 = .bool true := h14_17
      replace h14_18 : vs 18 = .bool true := h14_18
      replace h14_19 : vs 19 = .bool true := h14_19
      replace h14_20 : vs 20 = undef := h14_20
      replace h14_21 : vs 21 = undef := h14_21
      replace h14_22 : vs 22 = undef := h14_22
      replace h14_23 : vs 23 = undef := h14_23
      replace h14_24 : vs 24 = undef := h14_24
      replace h14_25 : vs 25 = .bool true := h14_25
      simp only [h14_0, h14_1, h14_2, h14_3, h14_4, h14_5, h14_6, h14_7, h14_8, h14_9, h14_10, h14_11, h14_12, h14_13, h14_14, h14_15, h14_16, h14_17, h14_18, h14_19, h14_20, h14_21, h14_22, h14_23, h14_24, h14_25]
      clear h14_0 h14_1 h14_2 h14_3 h14_4 h14_5 h14_6 h14_7 h14_8 h14_9 h14_10 h14_11 h14_12 h14_13 h14_14 h14_15 h14_16 h14_17 h14_18 h14_19 h14_20 h14_21 h14_22 h14_23 h14_24 h14_25
      have kp3_0 := p3.cell 0 (v := .bool b0) rfl
      have kp3_1 := p3.cell 1 (v := .slice a0 n0 c0) rfl
      have kp3_2 := p3.cell 2 (v := .bool b1) rfl
      have kp3_3 := p3.cell 3 (v := .slice a1 n1 c1) rfl
      have kp4_0 := p4.cell0
      have kp4_1 := p4.cell1
      go_upto_region 5 with (fail)
      clear kp3_0 kp3_1 kp3_2 kp3_3 kp4_0 kp4_1
      have szw15 := Ext.size E0
      refine region_go [.one fun v _ => v = .bool true,
        .one fun v _ => v = .bool true]
       (fun W => Ext w W ∧ Nt W (.slice a0 n0 c0) x0 ∧ Nt W (.slice a1 n1 c1) x1 ∧ Nt W (.slice a2 n2 c2) x2 ∧ Nt W (.slice a3 n3 c3) x3 ∧ Nt W (.slice a4 n4 c4) x4 ∧ BxA W w.heap.size 58 #[.bool b0, .slice a0 n0 c0, .bool b1, .slice a1 n1 c1] ∧ Bx2 W (w.heap.size + 1) 59 (.slice a2 n2 c2) (.slice a3 n3 c3) ∧ Ext W0 W ∧ W14.heap.size ≤ W.heap.size) ⟨Good.is _, Good.is _, trivial⟩
       (fun W W1 hS hE => ⟨(Ext.trans hS.1 hE), (hS.2.1.ext hE), (hS.2.2.1.ext hE), (hS.2.2.2.1.ext hE), (hS.2.2.2.2.1.ext hE), (hS.2.2.2.2.2.1.ext hE), (hS.2.2.2.2.2.2.1.ext hE), (hS.2.2.2.2.2.2.2.1.ext hE), (Ext.trans hS.2.2.2.2.2.2.2.2.1 hE), (Nat.le_trans hS.2.2.2.2.2.2.2.2.2 (Ext.size hE))⟩) ⟨E0, h0, h1, h2, h3, h4, p3, p4, E1, Nat.le_refl _⟩ (by kernel_rfl) (by kernel_rfl) (by kernel_rfl) (by kernel_rfl) (A := ?A15) ?hA15 ?howe15 ?hfin15
      case hA15 =>
       intro vs
       simp only [putAll, Act.put, List.setIfInBounds_toArray, List.set_cons_zero, List.set_cons_succ, Nat.zero_add]
       exact rfl
      case howe15 =>
       clear E0 h0 h1 h2 h3 h4 p3 p4 E1
       intro hf
       refine ⟨owesE 0 [] hf rfl (by kernel_rfl) ?_, owesE 1 [0] hf rfl (by kernel_rfl) ?_, trivial⟩
       all_goals intro vs W hS hp hx KO hKO
       all_goals simp only [Act.put, List.setIfInBounds_toArray, List.set_cons_zero, List.set_cons_succ] at hKO
       ·go_simp
        refine (Try.alive05 _).mono ?_
        rintro e W1 ⟨rfl, hE⟩
        exact hKO _ W1 hE rfl
       ·have e0 := isOf hp.1
        simp only [e0] at hKO
        go_simp
        exact hKO _ W (Ext.refl W) rfl
      intro vs W15 hS hp
      clear szw15 E0 h0 h1 h2 h3 h4 p3 p4 E1
      obtain ⟨E0, h0, h1, h2, h3, h4, p3, p4, E1, sz15⟩ := hS
      obtain ⟨h15_0, h15_1, -⟩ := hp
      replace h15_0 : vs 0 = .bool true := h15_0
      replace h15_1 : vs 1 = .bool true := h15_1
      simp only [h15_0, h15_1]
      clear h15_0 h15_1
      have kp3_0 := p3.cell 0 (v := .bool b0) rfl
      have kp3_1 := p3.cell 1 (v := .slice a0 n0 c0) rfl
      have kp3_2 := p3.cell 2 (v := .bool b1) rfl
      have kp3_3 := p3.cell 3 (v := .slice a1 n1 c1) rfl
      have kp4_0 := p4.cell0
      have kp4_1 := p4.cell1
      go_wp2
      go_ret
      exact ⟨rfl, E0⟩
     ·cases hr : normB x3
      ·have HR := Lib.hid hr
       clear hr
       have kp3_0 := p3.cell 0 (v := .bool b0) rfl
       have kp3_1 := p3.cell 1 (v := .slice a0 n0 c0) rfl
       have kp3_2 := p3.cell 2 (v := .bool b1) rfl
       have kp3_3 := p3.cell 3 (v := .slice a1 n1 c1) rfl
       have kp4_0 := p4.cell0
       have kp4_1 := p4.cell1
       go_upto_region 4 with (fail)
       clear kp3_0 kp3_1 kp3_2 kp3_3 kp4_0 kp4_1
       have ltp3 := p3.lt
       have ltp4 := p4.lt
       have szw16 := Ext.size E0
       refine region_go [.one fun v _ => v = .int .i64 1,
         .one fun v _ => v = .pointer (some ⟨w.heap.size, 2, none⟩),
         .one fun v _ => v = .agg #[.bool b1, .slice a1 n1 c1],
         .one fun v _ => v = .bool true,
         .one fun v _ => v = .bool false,
         .one fun v _ => v = .bool false,
         .one fun v _ => v = .int .i64 1,
         .one fun v _ => v = .pointer (some ⟨w.heap.size + 1, 1, none⟩),
         .one fun v _ => v = .slice a3 n3 c3,
         .one fun v _ => v = .int .i64 (n3 : Int),
         .one fun v _ => v = .bool false,
         .one fun v _ => v = .bool false,
         .one fun v _ => v = .bool false,
         .one fun v _ => v = .int .i64 1,
         .one fun v _ => v = .pointer (some ⟨w.heap.size + 1, 1, none⟩),
         .one fun v _ => v = .slice a3 n3 c3,
         .one fun v _ => v = .int .i64 (n3 : Int),
         .one fun v _ => v = .bool false,
         .one fun v _ => v = .bool false,
         .one fun v _ => v = .bool false,
         .one fun v _ => v = .int .i64 1,
         .one fun v _ => v = .pointer (some ⟨w.heap.size + 1, 1, none⟩),
         .one fun v _ => v = .slice a3 n3 c3,
         .one fun v _ => v = .bool false,
         .one fun v _ => v = .bool true,
         .one fun v _ => v = .bool true]
        (fun W => Ext w W ∧ Nt W (.slice a0 n0 c0) x0 ∧ Nt W (.slice a1 n1 c1) x1 ∧ Nt W (.slice a2 n2 c2) x2 ∧ Nt W (.slice a3 n3 c3) x3 ∧ Nt W (.slice a4 n4 c4) x4 ∧ BxA W w.heap.size 58 #[.bool b0, .slice a0 n0 c0, .bool b1, .slice a1 n1 c1] ∧ Bx2 W (w.heap.size + 1) 59 (.slice a2 n2 c2) (.slice a3 n3 c3) ∧ Ext W0 W ∧ wr.heap.size ≤ W.heap.size) ⟨Good.is _, Good.is _, Good.is _, Good.is _, Good.is _, Good.is _, Good.is _, Good.is _, Good.is _, Good.is _, Good.is _, Good.is _, Good.is _, Good.is _, Good.is _, Good.is _, Good.is _, Good.is _, Good.is _, Good.is _, Good.is _, Good.is _, Good.is _, Good.is _, Good.is _, Good.is _, trivial⟩
        (fun W W1 hS hE => ⟨(Ext.trans hS.1 hE), (hS.2.1.ext hE), (hS.2.2.1.ext hE), (hS.2.2.2.1.ext hE), (hS.2.2.2.2.1.ext hE), (hS.2.2.2.2.2.1.ext hE), (hS.2.2.2.2.2.2.1.ext hE), (hS.2.2.2.2.2.2.2.1.ext hE), (Ext.trans hS.2.2.2.2.2.2.2.2.1 hE), (Nat.le_trans hS.2.2.2.2.2.2.2.2.2 (Ext.size hE))⟩) ⟨E0, h0, h1, h2, h3, h4, p3, p4, E1, Nat.le_refl _⟩ (by kernel_rfl) (by kernel_rfl) (by kernel_rfl) (by kernel_rfl) (A := ?A16) ?hA16 ?howe16 ?hfin16
       case hA16 =>
        intro vs
        simp only [putAll, Act.put, List.setIfInBounds_toArray, List.set_cons_zero, List.set_cons_succ, Nat.zero_add, Nat.reduceAdd]
        exact rfl
       case howe16 =>
        clear E0 h0 h1 h2 h3 h4 p3 p4 E1
        intro hf
        refine ⟨owesE 0 [] hf rfl (by kernel_rfl) ?_, owesE 1 [0] hf rfl (by kernel_rfl) ?_, owesE 2 [1] hf rfl (by kernel_rfl) ?_, owesE 3 [2] hf rfl (by kernel_rfl) ?_, owesE 4 [3] hf rfl (by kernel_rfl) ?_, owesE 5 [4] hf rfl (by kernel_rfl) ?_, owesE 6 [5] hf rfl (by kernel_rfl) ?_, owesE 7 [5, 6] hf rfl (by kernel_rfl) ?_, owesE 8 [5, 7] hf rfl (by kernel_rfl) ?_, owesE 9 [5, 8] hf rfl (by kernel_rfl) ?_, owesE 10 [5, 9] hf rfl (by kernel_rfl) ?_, owesE 11 [5, 10] hf rfl (by kernel_rfl) ?_, owesE 12 [11] hf rfl (by kernel_rfl) ?_, owesE 13 [12] hf rfl (by kernel_rfl) ?_, owesE 14 [12, 13] hf rfl (by kernel_rfl) ?_, owesE 15 [12, 14] hf rfl (by kernel_rfl) ?_, owesE 16 [12, 15] hf rfl (by kernel_rfl) ?_, owesE 17 [12, 16] hf rfl (by kernel_rfl) ?_, owesE 18 [12, 17] hf rfl (by kernel_rfl) ?_, owesE 19 [18] hf rfl (by kernel_rfl) ?_, owesE 20 [19] hf rfl (by kernel_rfl) ?_, owesE 21 [19, 20] hf rfl (by kernel_rfl) ?_, owesE 22 [19, 21] hf rfl (by kernel_rfl) ?_, owesE 23 [19, 22] hf rfl (by kernel_rfl) ?_, owesE 24 [19, 23] hf rfl (by kernel_rfl) ?_, owesE 25 [19, 24] hf rfl (by kernel_rfl) ?_, trivial⟩
        all_goals intro vs W hS hp hx KO hKO
        all_goals simp only [Act.put, List.setIfInBounds_toArray, List.set_cons_zero, List.set_cons_succ] at hKO
        ·go_simp
         exact hKO _ W (Ext.refl W) rfl
        ·have e0 := isOf hp.1
         simp only [e0] at hKO
         go_simp
         exact hKO _ W (Ext.refl W) rfl
        ·have e1 := isOf hp.1
         simp only [e1] at hKO
         have fc2 := BxA.cell (hS.2.2.2.2.2.2.1) 2 (v := .bool b1) rfl
         have fc3 := BxA.cell (hS.2.2.2.2.2.2.1) 3 (v := .slice a1 n1 c1) rfl
         go_simp
         exact hKO _ W (Ext.refl W) rfl
        ·have e2 := isOf hp.1
         simp only [e2] at hKO
         go_simp
         refine (Try.refZFew hS.2.2.1 ((4 : Nat) : Int)).mono ?_
         rintro e W1 ⟨rfl, hE⟩
         rw [HF.out]
         exact hKO _ W1 hE rfl
        ·have e3 := isOf hp.1
         simp only [e3] at hKO
         go_simp
         exact hKO _ W (Ext.refl W) rfl
        ·have e4 := isOf hp.1
         simp only [e4] at hKO
         go_simp
         exact hKO _ W (Ext.refl W) rfl
        ·have e5 := isOf hp.1
         simp only [e5] at hKO
         go_simp
         exact hKO _ W (Ext.refl W) rfl
        ·have e5 := isOf hp.1
         have e6 := isOf hp.2.1
         simp only [e5, e6] at hKO
         go_simp
         exact hKO _ W (Ext.refl W) rfl
        ·have e5 := isOf hp.1
         have e7 := isOf hp.2.1
         simp only [e5, e7] at hKO
         have fc1 := hS.2.2.2.2.2.2.2.1.cell1
         go_simp
         exact hKO _ W (Ext.refl W) rfl
        ·have e5 := isOf hp.1
         have e8 := isOf hp.2.1
         simp only [e5, e8] at hKO
         go_simp
         exact hKO _ W (Ext.refl W) rfl
        ·have e5 := isOf hp.1
         have e9 := isOf hp.2.1
         simp only [e5, e9] at hKO
         go_simp
         exact hKO _ W (Ext.refl W) (by first | rfl | exact congrArg Value.bool (decide_eq_false (by omega)))
        ·have e5 := isOf hp.1
         have e10 := isOf hp.2.1
         simp only [e5, e10] at hKO
         go_simp
         exact hKO _ W (Ext.refl W) rfl
        ·have e11 := isOf hp.1
         simp only [e11] at hKO
         go_simp
         exact hKO _ W (Ext.refl W) rfl
        ·have e12 := isOf hp.1
         simp only [e12] at hKO
         go_simp
         exact hKO _ W (Ext.refl W) rfl
        ·have e12 := isOf hp.1
         have e13 := isOf hp.2.1
         simp only [e12, e13] at hKO
         go_simp
         exact hKO _ W (Ext.refl W) rfl
        ·have e12 := isOf hp.1
         have e14 := isOf hp.2.1
         simp only [e12, e14] at hKO
         have fc1 := hS.2.2.2.2.2.2.2.1.cell1
         go_simp
         exact hKO _ W (Ext.refl W) rfl
        ·have e12 := isOf hp.1
         have e15 := isOf hp.2.1
         simp only [e12, e15] at hKO
         go_simp
         exact hKO _ W (Ext.refl W) rfl
        ·have e12 := isOf hp.1
         have e16 := isOf hp.2.1
         simp only [e12, e16] at hKO
         go_simp
         exact hKO _ W (Ext.refl W) (by first | rfl | exact congrArg Value.bool (beq_eq_false_iff_ne.2 (by omega)))
        ·have e12 := isOf hp.1
         have e17 := isOf hp.2.1
         simp only [e12, e17] at hKO
         go_simp
         exact hKO _ W (Ext.refl W) rfl
        ·have e18 := isOf hp.1
         simp only [e18] at hKO
         go_simp
         exact hKO _ W (Ext.refl W) rfl
        ·have e19 := isOf hp.1
         simp only [e19] at hKO
         go_simp
         exact hKO _ W (Ext.refl W) rfl
        ·have e19 := isOf hp.1
         have e20 := isOf hp.2.1
         simp only [e19, e20] at hKO
         go_simp
         exact hKO _ W (Ext.refl W) rfl
        ·have e19 := isOf hp.1
         have e21 := isOf hp.2.1
         simp only [e19, e21] at hKO
         have fc1 := hS.2.2.2.2.2.2.2.1.cell1
         go_simp
         exact hKO _ W (Ext.refl W) rfl
        ·have e19 := isOf hp.1
         have e22 := isOf hp.2.1
         simp only [e19, e22] at hKO
         go_simp
         refine (Try.refRight hS.2.2.2.2.1).mono ?_
         rintro e W1 ⟨rfl, rfl⟩
         rw [HR.out]
         exact hKO _ W (Ext.refl W) rfl
        ·have e19 := isOf hp.1
         have e23 := isOf hp.2.1
         simp only [e19, e23] at hKO
         go_simp
         exact hKO _ W (Ext.refl W) rfl
        ·have e19 := isOf hp.1
         have e24 := isOf hp.2.1
         simp only [e19, e24] at hKO
         go_simp
         exact hKO _ W (Ext.refl W) rfl
       intro vs W16 hS hp
       clear szw16 E0 h0 h1 h2 h3 h4 p3 p4 E1
       obtain ⟨E0, h0, h1, h2, h3, h4, p3, p4, E1, sz16⟩ := hS
       obtain ⟨h16_0, h16_1, h16_2, h16_3, h16_4, h16_5, h16_6, h16_7, h16_8, h16_9, h16_10, h16_11, h16_12, h16_13, h16_14, h16_15, h16_16, h16_17, h16_18, h16_19, h16_20, h16_21, h16_22, h16_23, h16_24, h16_25, -⟩ := hp
       replace h16_0 : vs 0 = .int .i64 1 := h16_0
       replace h16_1 : vs 1 = .pointer (some ⟨w.heap.size, 2, none⟩) := h16_1
       replace h16_2 : vs 2 = .agg #[.bool b1, .slice a1 n1 c1] := h16_2
       replace h16_3 : vs 3 = .bool true := h16_3
       replace h16_4 : vs 4 = .bool false := h16_4
       replace h16_5 : vs 5 = .bool false := h16_5
       replace h16_6 : vs 6 = .int .i64 1 := h16_6
       replace h16_7 : vs 7 = .pointer (some ⟨w.heap.size + 1, 1, none⟩) := h16_7
       replace h16_8 : vs 8 = .slice a3 n3 c3 := h16_8
       replace h16_9 : vs 9 = .int .i64 (n3 : Int) := h16_9
       replace h16_10 : vs 10 = .bool false := h16_10
       replace h16_11 : vs 11 = .bool false := h16_11
       replace h16_12 : vs 12 = .bool false := h16_12
       replace h16_13 : vs 13 = .int .i64 1 := h16_13
       replace h16_14 : vs 14 = .pointer (some ⟨w.heap.size + 1, 1, none⟩) := h16_14
       replace h16_15 : vs 15 = .slice a3 n3 c3 := h16_15
       replace h16_16 : vs 16 = .int .i64 (n3 : Int) := h16_16
       replace h16_17 : vs 17 = .bool false := h16_17
       replace h16_18 : vs 18 = .bool false := h16_18
       replace h16_19 : vs 19 = .bool false := h16_19
       replace h16_20 : vs 20 = .int .i64 1 := h16_20
       replace h16_21 : vs 21 = .pointer (some ⟨w.heap.size + 1, 1, none⟩) := h16_21
       replace h16_22 : vs 22 = .slice a3 n3 c3 := h16_22
       replace h16_23 : vs 23 = .bool false := h16_23
       replace h16_24 : vs 24 = .bool true := h16_24
       replace h16_25 : vs 25 = .bool true := h16_25
       simp only [h16_0, h16_1, h16_2, h16_3, h16_4, h16_5, h16_6, h16_7, h16_8, h16_9, h16_10, h16_11, h16_12, h16_13, h16_14, h16_15, h16_16, h16_17, h16_18, h16_19, h16_20, h16_21, h16_22, h16_23, h16_24, h16_25]
       clear h16_0 h16_1 h16_2 h16_3 h16_4 h16_5 h16_6 h16_7 h16_8 h16_9 h16_10 h16_11 h16_12 h16_13 h16_14 h16_15 h16_16 h16_17 h16_18 h16_19 h16_20 h16_21 h16_22 h16_23 h16_24 h16_25
       have kp3_0 := p3.cell 0 (v := .bool b0) rfl
       have kp3_1 := p3.cell 1 (v := .slice a0 n0 c0) rfl
       have kp3_2 := p3.cell 2 (v := .bool b1) rfl
       have kp3_3 := p3.cell 3 (v := .slice a1 n1 c1) rfl
       have kp4_0 := p4.cell0
       have kp4_1 := p4.cell1
       go_upto_region 5 with (fail)
       clear kp3_0 kp3_1 kp3_2 kp3_3 kp4_0 kp4_1
       have szw17 := Ext.size E0
       refine region_go [.one fun v _ => v = .bool true,
         .one fun v _ => v = .bool true]
        (fun W => Ext w W ∧ Nt W (.slice a0 n0 c0) x0 ∧ Nt W (.slice a1 n1 c1) x1 ∧ Nt W (.slice a2 n2 c2) x2 ∧ Nt W (.slice a3 n3 c3) x3 ∧ Nt W (.slice a4 n4 c4) x4 ∧ BxA W w.heap.size 58 #[.bool b0, .slice a0 n0 c0, .bool b1, .slice a1 n1 c1] ∧ Bx2 W (w.heap.size + 1) 59 (.slice a2 n2 c2) (.slice a3 n3 c3) ∧ Ext W0 W ∧ W16.heap.size ≤ W.heap.size) ⟨Good.is _, Good.is _, trivial⟩
        (fun W W1 hS hE => ⟨(Ext.trans hS.1 hE), (hS.2.1.ext hE), (hS.2.2.1.ext hE), (hS.2.2.2.1.ext hE), (hS.2.2.2.2.1.ext hE), (hS.2.2.2.2.2.1.ext hE), (hS.2.2.2.2.2.2.1.ext hE), (hS.2.2.2.2.2.2.2.1.ext hE), (Ext.trans hS.2.2.2.2.2.2.2.2.1 hE), (Nat.le_trans hS.2.2.2.2.2.2.2.2.2 (Ext.size hE))⟩) ⟨E0, h0, h1, h2, h3, h4, p3, p4, E1, Nat.le_refl _⟩ (by kernel_rfl) (by kernel_rfl) (by kernel_rfl) (by kernel_rfl) (A := ?A17) ?hA17 ?howe17 ?hfin17
       case hA17 =>
        intro vs
        simp only [putAll, Act.put, List.setIfInBounds_toArray, List.set_cons_zero, List.set_cons_succ, Nat.zero_add]
        exact rfl
       case howe17 =>
        clear E0 h0 h1 h2 h3 h4 p3 p4 E1
        intro hf
        refine ⟨owesE 0 [] hf rfl (by kernel_rfl) ?_, owesE 1 [0] hf rfl (by kernel_rfl) ?_, trivial⟩
        all_goals intro vs W hS hp hx KO hKO
        all_goals simp only [Act.put, List.setIfInBounds_toArray, List.set_cons_zero, List.set_cons_succ] at hKO
        ·go_simp
         refine (Try.alive05 _).mono ?_
         rintro e W1 ⟨rfl, hE⟩
         exact hKO _ W1 hE rfl
        ·have e0 := isOf hp.1
         simp only [e0] at hKO
         go_simp
         exact hKO _ W (Ext.refl W) rfl
       intro vs W17 hS hp
       clear szw17 E0 h0 h1 h2 h3 h4 p3 p4 E1
       obtain ⟨E0, h0, h1, h2, h3, h4, p3, p4, E1, sz17⟩ := hS
       obtain ⟨h17_0, h17_1, -⟩ := hp
       replace h17_0 : vs 0 = .bool true := h17_0
       replace h17_1 : vs 1 = .bool true := h17_1
       simp only [h17_0, h17_1]
       clear h17_0 h17_1
       have kp3_0 := p3.cell 0 (v := .bool b0) rfl
       have kp3_1 := p3.cell 1 (v := .slice a0 n0 c0) rfl
       have kp3_2 := p3.cell 2 (v := .bool b1) rfl
       have kp3_3 := p3.cell 3 (v := .slice a1 n1 c1) rfl
       have kp4_0 := p4.cell0
       have kp4_1 := p4.cell1
       go_wp2
       go_ret
       exact ⟨rfl, E0⟩
      ·have HR := Lib.hid hr
       clear hr
       have kp3_0 := p3.cell 0 (v := .bool b0) rfl
       have kp3_1 := p3.cell 1 (v := .slice a0 n0 c0) rfl
       have kp3_2 := p3.cell 2 (v := .bool b1) rfl
       have kp3_3 := p3.cell 3 (v := .slice a1 n1 c1) rfl
       have kp4_0 := p4.cell0
       have kp4_1 := p4.cell1
       go_upto_region 4 with (fail)
       clear kp3_0 kp3_1 kp3_2 kp3_3 kp4_0 kp4_1
       have ltp3 := p3.lt
       have ltp4 := p4.lt
       have szw18 := Ext.size E0
       refine region_go [.one fun v _ => v = .int .i64 1,
         .one fun v _ => v = .pointer (some ⟨w.heap.size, 2, none⟩),
         .one fun v _ => v = .agg #[.bool b1, .slice a1 n1 c1],
         .one fun v _ => v = .bool true,
         .one fun v _ => v = .bool false,
         .one fun v _ => v = .bool false,
         .one fun v _ => v = .int .i64 1,
         .one fun v _ => v = .pointer (some ⟨w.heap.size + 1, 1, none⟩),
         .one fun v _ => v = .slice a3 n3 c3,
         .one fun v _ => v = .int .i64 (n3 : Int),
         .one fun v _ => v = .bool false,
         .one fun v _ => v = .bool false,
         .one fun v _ => v = .bool false,
         .one fun v _ => v = .int .i64 1,
         .one fun v _ => v = .pointer (some ⟨w.heap.size + 1, 1, none⟩),
         .one fun v _ => v = .slice a3 n3 c3,
         .one fun v _ => v = .int .i64 (n3 : Int),
         .one fun v _ => v = .bool false,
         .one fun v _ => v = .bool false,
         .one fun v _ => v = .bool false,
         .one fun v _ => v = .int .i64 1,
         .one fun v _ => v = .pointer (some ⟨w.heap.size + 1, 1, none⟩),
         .one fun v _ => v = .slice a3 n3 c3,
         .one fun v _ => v = .bool true,
         .one fun v _ => v = .bool false,
         .one fun v _ => v = .bool false]
        (fun W => Ext w W ∧ Nt W (.slice a0 n0 c0) x0 ∧ Nt W (.slice a1 n1 c1) x1 ∧ Nt W (.slice a2 n2 c2) x2 ∧ Nt W (.slice a3 n3 c3) x3 ∧ Nt W (.slice a4 n4 c4) x4 ∧ BxA W w.heap.size 58 #[.bool b0, .slice a0 n0 c0, .bool b1, .slice a1 n1 c1] ∧ Bx2 W (w.heap.size + 1) 59 (.slice a2 n2 c2) (.slice a3 n3 c3) ∧ Ext W0 W ∧ wr.heap.size ≤ W.heap.size) ⟨Good.is _, Good.is _, Good.is _, Good.is _, Good.is _, Good.is _, Good.is _, Good.is _, Good.is _, Good.is _, Good.is _, Good.is _, Good.is _, Good.is _, Good.is _, Good.is _, Good.is _, Good.is _, Good.is _, Good.is _, Good.is _, Good.is _, Good.is _, Good.is _, Good.is _, Good.is _, trivial⟩
        (fun W W1 hS hE => ⟨(Ext.trans hS.1 hE), (hS.2.1.ext hE), (hS.2.2.1.ext hE), (hS.2.2.2.1.ext hE), (hS.2.2.2.2.1.ext hE), (hS.2.2.2.2.2.1.ext hE), (hS.2.2.2.2.2.2.1.ext hE), (hS.2.2.2.2.2.2.2.1.ext hE), (Ext.trans hS.2.2.2.2.2.2.2.2.1 hE), (Nat.le_trans hS.2.2.2.2.2.2.2.2.2 (Ext.size hE))⟩) ⟨E0, h0, h1, h2, h3, h4, p3, p4, E1, Nat.le_refl _⟩ (by kernel_rfl) (by kernel_rfl) (by kernel_rfl) (by kernel_rfl) (A := ?A18) ?hA18 ?howe18 ?hfin18
       case hA18 =>
        intro vs
        simp only [putAll, Act.put, List.setIfInBounds_toArray, List.set_cons_zero, List.set_cons_succ, Nat.zero_add, Nat.reduceAdd]
        exact rfl
       case howe18 =>
        clear E0 h0 h1 h2 h3 h4 p3 p4 E1
        intro hf
        refine ⟨owesE 0 [] hf rfl (by kernel_rfl) ?_, owesE 1 [0] hf rfl (by kernel_rfl) ?_, owesE 2 [1] hf rfl (by kernel_rfl) ?_, owesE 3 [2] hf rfl (by kernel_rfl) ?_, owesE 4 [3] hf rfl (by kernel_rfl) ?_, owesE 5 [4] hf rfl (by kernel_rfl) ?_, owesE 6 [5] hf rfl (by kernel_rfl) ?_, owesE 7 [5, 6] hf rfl (by kernel_rfl) ?_, owesE 8 [5, 7] hf rfl (by kernel_rfl) ?_, owesE 9 [5, 8] hf rfl (by kernel_rfl) ?_, owesE 10 [5, 9] hf rfl (by kernel_rfl) ?_, owesE 11 [5, 10] hf rfl (by kernel_rfl) ?_, owesE 12 [11] hf rfl (by kernel_rfl) ?_, owesE 13 [12] hf rfl (by kernel_rfl) ?_, owesE 14 [12, 13] hf rfl (by kernel_rfl) ?_, owesE 15 [12, 14] hf rfl (by kernel_rfl) ?_, owesE 16 [12, 15] hf rfl (by kernel_rfl) ?_, owesE 17 [12, 16] hf rfl (by kernel_rfl) ?_, owesE 18 [12, 17] hf rfl (by kernel_rfl) ?_, owesE 19 [18] hf rfl (by kernel_rfl) ?_, owesE 20 [19] hf rfl (by kernel_rfl) ?_, owesE 21 [19, 20] hf rfl (by kernel_rfl) ?_, owesE 22 [19, 21] hf rfl (by kernel_rfl) ?_, owesE 23 [19, 22] hf rfl (by kernel_rfl) ?_, owesE 24 [19, 23] hf rfl (by kernel_rfl) ?_, owesE 25 [19, 24] hf rfl (by kernel_rfl) ?_, trivial⟩
        all_goals intro vs W hS hp hx KO hKO
        all_goals simp only [Act.put, List.setIfInBounds_toArray, List.set_cons_zero, List.set_cons_succ] at hKO
        ·go_simp
         exact hKO _ W (Ext.refl W) rfl
        ·have e0 := isOf hp.1
         simp only [e0] at hKO
         go_simp
         exact hKO _ W (Ext.refl W) rfl
        ·have e1 := isOf hp.1
         simp only [e1] at hKO
         have fc2 := BxA.cell (hS.2.2.2.2.2.2.1) 2 (v := .bool b1) rfl
         have fc3 := BxA.cell (hS.2.2.2.2.2.2.1) 3 (v := .slice a1 n1 c1) rfl
         go_simp
         exact hKO _ W (Ext.refl W) rfl
        ·have e2 := isOf hp.1
         simp only [e2] at hKO
         go_simp
         refine (Try.refZFew hS.2.2.1 ((4 : Nat) : Int)).mono ?_
         rintro e W1 ⟨rfl, hE⟩
         rw [HF.out]
         exact hKO _ W1 hE rfl
        ·have e3 := isOf hp.1
         simp only [e3] at hKO
         go_simp
         exact hKO _ W (Ext.refl W) rfl
        ·have e4 := isOf hp.1
         simp only [e4] at hKO
         go_simp
         exact hKO _ W (Ext.refl W) rfl
        ·have e5 := isOf hp.1
         simp only [e5] at hKO
         go_simp
         exact hKO _ W (Ext.refl W) rfl
        ·have e5 := isOf hp.1
         have e6 := isOf hp.2.1
         simp only [e5, e6] at hKO
         go_simp
         exact hKO _ W (Ext.refl W) rfl
        ·have e5 := isOf hp.1
         have e7 := isOf hp.2.1
         simp only [e5, e7] at hKO
         have fc1 := hS.2.2.2.2.2.2.2.1.cell1
         go_simp
         exact hKO _ W (Ext.refl W) rfl
        ·have e5 := isOf hp.1
         have e8 := isOf hp.2.1
         simp only [e5, e8] at hKO
         go_simp
         exact hKO _ W (Ext.refl W) rfl
        ·have e5 := isOf hp.1
         have e9 := isOf hp.2.1
         simp only [e5, e9] at hKO
         go_simp
         exact hKO _ W (Ext.refl W) (by first | rfl | exact congrArg Value.bool (decide_eq_false (by omega)))
        ·have e5 := isOf hp.1
         have e10 := isOf hp.2.1
         simp only [e5, e10] at hKO
         go_simp
         exact hKO _ W (Ext.refl W) rfl
        ·have e11 := isOf hp.1
         simp only [e11] at hKO
         go_simp
         exact hKO _ W (Ext.refl W) rfl
        ·have e12 := isOf hp.1
         simp only [e12] at hKO
         go_simp
         exact hKO _ W (Ext.refl W) rfl
        ·have e12 := isOf hp.1
         have e13 := isOf hp.2.1
         simp only [e12, e13] at hKO
         go_simp
         exact hKO _ W (Ext.refl W) rfl
        ·have e12 := isOf hp.1
         have e14 := isOf hp.2.1
         simp only [e12, e14] at hKO
         have fc1 := hS.2.2.2.2.2.2.2.1.cell1
         go_simp
         exact hKO _ W (Ext.refl W) rfl
        ·have e12 := isOf hp.1
         have e15 := isOf hp.2.1
         simp only [e12, e15] at hKO
         go_simp
         exact hKO _ W (Ext.refl W) rfl
        ·have e12 := isOf hp.1
         have e16 := isOf hp.2.1
         simp only [e12, e16] at hKO
         go_simp
         exact hKO _ W (Ext.refl W) (by first | rfl | exact congrArg Value.bool (beq_eq_false_iff_ne.2 (by omega)))
        ·have e12 := isOf hp.1
         have e17 := isOf hp.2.1
         simp only [e12, e17] at hKO
         go_simp
         exact hKO _ W (Ext.refl W) rfl
        ·have e18 := isOf hp.1
         simp only [e18] at hKO
         go_simp
         exact hKO _ W (Ext.refl W) rfl
        ·have e19 := isOf hp.1
         simp only [e19] at hKO
         go_simp
         exact hKO _ W (Ext.refl W) rfl
        ·have e19 := isOf hp.1
         have e20 := isOf hp.2.1
         simp only [e19, e20] at hKO
         go_simp
         exact hKO _ W (Ext.refl W) rfl
        ·have e19 := isOf hp.1
         have e21 := isOf hp.2.1
         simp only [e19, e21] at hKO
         have fc1 := hS.2.2.2.2.2.2.2.1.cell1
         go_simp
         exact hKO _ W (Ext.refl W) rfl
        ·have e19 := isOf hp.1
         have e22 := isOf hp.2.1
         simp only [e19, e22] at hKO
         go_simp
         refine (Try.refRight hS.2.2.2.2.1).mono ?_
         rintro e W1 ⟨rfl, rfl⟩
         rw [HR.out]
         exact hKO _ W (Ext.refl W) rfl
        ·have e19 := isOf hp.1
         have e23 := isOf hp.2.1
         simp only [e19, e23] at hKO
         go_simp
         exact hKO _ W (Ext.refl W) rfl
        ·have e19 := isOf hp.1
         have e24 := isOf hp.2.1
         simp only [e19, e24] at hKO
         go_simp
         exact hKO _ W (Ext.refl W) rfl
       intro vs W18 hS hp
       clear szw18 E0 h0 h1 h2 h3 h4 p3 p4 E1
       obtain ⟨E0, h0, h1, h2, h3, h4, p3, p4, E1, sz18⟩ := hS
       obtain ⟨h18_0, h18_1, h18_2, h18_3, h18_4, h18_5, h18_6, h18_7, h18_8, h18_9, h18_10, h18_11, h18_12, h18_13, h18_14, h18_15, h18_16, h18_17, h18_18, h18_19, h18_20, h18_21, h18_22, h18_23, h18_24, h18_25, -⟩ := hp
       replace h18_0 : vs 0 = .int .i64 1 := h18_0
       replace h18_1 : vs 1 = .pointer (some ⟨w.heap.size, 2, none⟩) := h18_1
       replace h18_2 : vs 2 = .agg #[.bool b1, .slice a1 n1 c1] := h18_2
       replace h18_3 : vs 3 = .bool true := h18_3
       replace h18_4 : vs 4 = .bool false := h18_4
       replace h18_5 : vs 5 = .bool false := h18_5
       replace h18_6 : vs 6 = .int .i64 1 := h18_6
       replace h18_7 : vs 7 = .pointer (some ⟨w.heap.size + 1, 1, none⟩) := h18_7
       replace h18_8 : vs 8 = .slice a3 n3 c3 := h18_8
       replace h18_9 : vs 9 = .int .i64 (n3 : Int) := h18_9
       replace h18_10 : vs 10 = .bool false := h18_10
       replace h18_11 : vs 11 = .bool false := h18_11
       replace h18_12 : vs 12 = .bool false := h18_12
       replace h18_13 : vs 13 = .int .i64 1 := h18_13
       replace h18_14 : vs 14 = .pointer (some ⟨w.heap.size + 1, 1, none⟩) := h18_14
       replace h18_15 : vs 15 = .slice a3 n3 c3 := h18_15
       replace h18_16 : vs 16 = .int .i64 (n3 : Int) := h18_16
       replace h18_17 : vs 17 = .bool false := h18_17
       replace h18_18 : vs 18 = .bool false := h18_18
       replace h18_19 : vs 19 = .bool false := h18_19
       replace h18_20 : vs 20 = .int .i64 1 := h18_20
       replace h18_21 : vs 21 = .pointer (some ⟨w.heap.size + 1, 1, none⟩) := h18_21
       replace h18_22 : vs 22 = .slice a3 n3 c3 := h18_22
       replace h18_23 : vs 23 = .bool true := h18_23
       replace h18_24 : vs 24 = .bool false := h18_24
       replace h18_25 : vs 25 = .bool false := h18_25
       simp only [h18_0, h18_1, h18_2, h18_3, h18_4, h18_5, h18_6, h18_7, h18_8, h18_9, h18_10, h18_11, h18_12, h18_13, h18_14, h18_15, h18_16, h18_17, h18_18, h18_19, h18_20, h18_21, h18_22, h18_23, h18_24, h18_25]
       clear h18_0 h18_1 h18_2 h18_3 h18_4 h18_5 h18_6 h18_7 h18_8 h18_9 h18_10 h18_11 h18_12 h18_13 h18_14 h18_15 h18_16 h18_17 h18_18 h18_19 h18_20 h18_21 h18_22 h18_23 h18_24 h18_25
       have HG := Lib.hid (show goodOne b1 x1 n3 x3 from ⟨HF.out, by omega, hq, HR.out⟩)
       have kp3_0 := p3.cell 0 (v := .bool b0) rfl
       have kp3_1 := p3.cell 1 (v := .slice a0 n0 c0) rfl
       have kp3_2 := p3.cell 2 (v := .bool b1) rfl
       have kp3_3 := p3.cell 3 (v := .slice a1 n1 c1) rfl
       have kp4_0 := p4.cell0
       have kp4_1 := p4.cell1
       go_wp2
       go_roundw
       case rel => exact ⟨2, rfl, by omega, Lib.hid (fun _ => g0.out (by omega)), Lib.hid (fun _ => HG.out), E1⟩
       case measure => simp [intOf]
  ·clear E1
   simp only [show ((2 : Nat) : Int) = 2 from rfl]
   have g0 := g0.out (by omega)
   have g1 := g1.out (by omega)
   obtain ⟨y, hy0, s0⟩ := fewZ_zw (L := 4) h0 g0.1
   obtain ⟨z, hz0, s1⟩ := fewZ_zw (L := 4) h1 g1.1
   obtain ⟨Q, hQ⟩ : ∃ Q, ev B64 x2 = Q := ⟨_, rfl⟩
   obtain ⟨R, hR⟩ : ∃ R, ev B64 x3 = R := ⟨_, rfl⟩
   have k2 := h2.nw g0.2.2.2
   have k3 := h3.nw g1.2.2.2
   have sQ : Hid (Sm 4 Q) := Lib.hid (by
    have := h2.slice
    have := g0.2.1
    rw [← hQ]
    exact Nat.lt_of_lt_of_le (ev_lt h2.lim) (Nat.pow_le_pow_right B64_pos (by omega)))
   have nQ : Hid (Q ≠ 0) := Lib.hid (by
    have := h2.slice
    have := g0.2.2.1
    rw [← hQ]
    exact fun e => this (by have := (Norm.zero_iff B64_pos (normB_iff.1 g0.2.2.2)).1 e; omega))
   have sR : Hid (Sm 4 R) := Lib.hid (by
    have := h3.slice
    have := g1.2.1
    rw [← hR]
    exact Nat.lt_of_lt_of_le (ev_lt h3.lim) (Nat.pow_le_pow_right B64_pos (by omega)))
   have nR : Hid (R ≠ 0) := Lib.hid (by
    have := h3.slice
    have := g1.2.2.1
    rw [← hR]
    exact fun e => this (by have := (Norm.zero_iff B64_pos (normB_iff.1 g1.2.2.2)).1 e; omega))
   rw [hQ] at k2
   rw [hR] at k3
   clear hQ hR g0 g1 h0 h1 h2 h3
   have zq := k2.zed
   have zr := k3.zed
   have S0 := Lib.hid s0
   have S1 := Lib.hid s1
   clear s0 s1
   by_cases hl : 4 < n4
   ·have kp3_0 := p3.cell 0 (v := .bool b0) rfl
    have kp3_1 := p3.cell 1 (v := .slice a0 n0 c0) rfl
    have kp3_2 := p3.cell 2 (v := .bool b1) rfl
    have kp3_3 := p3.cell 3 (v := .slice a1 n1 c1) rfl
    have kp4_0 := p4.cell0
    have kp4_1 := p4.cell1
    go_upto_region 6 with (fail)
    clear kp3_0 kp3_1 kp3_2 kp3_3 kp4_0 kp4_1
    have ltp3 := p3.lt
    have ltp4 := p4.lt
    have szw19 := Ext.size E0
    refine region_go [.one fun v _ => v = .slice a4 n4 c4,
      .one fun v _ => v = .int .i64 (n4 : Int),
      .one fun v _ => v = .bool true,
      .one fun v _ => v = .bool true,
      .one fun v _ => v = undef,
      .one fun v _ => v = undef,
      .one fun v _ => v = undef,
      .one fun v _ => v = .bool true,
      .one fun v _ => v = .bool true,
      .one fun v _ => v = undef,
      .one fun v _ => v = undef,
      .one fun v _ => v = undef,
      .one fun v _ => v = .bool true]
     (fun W => Ext w W ∧ Nt W (.slice a4 n4 c4) x4 ∧ BxA W w.heap.size 58 #[.bool b0, .slice a0 n0 c0, .bool b1, .slice a1 n1 c1] ∧ Bx2 W (w.heap.size + 1) 59 (.slice a2 n2 c2) (.slice a3 n3 c3) ∧ Zw W (.agg #[.bool b0, .slice a0 n0 c0]) y ∧ Zw W (.agg #[.bool b1, .slice a1 n1 c1]) z ∧ Zw W (.agg #[.bool false, .slice a2 n2 c2]) ((Q : Int)) ∧ Zw W (.agg #[.bool false, .slice a3 n3 c3]) ((R : Int)) ∧ Nw W (.slice a2 n2 c2) Q ∧ Nw W (.slice a3 n3 c3) R ∧ wr.heap.size ≤ W.heap.size) ⟨Good.is _, Good.is _, Good.is _, Good.is _, Good.is _, Good.is _, Good.is _, Good.is _, Good.is _, Good.is _, Good.is _, Good.is _, Good.is _, trivial⟩
     (fun W W1 hS hE => ⟨(Ext.trans hS.1 hE), (hS.2.1.ext hE), (hS.2.2.1.ext hE), (hS.2.2.2.1.ext hE), (hS.2.2.2.2.1.ext hE), (hS.2.2.2.2.2.1.ext hE), (hS.2.2.2.2.2.2.1.ext hE), (hS.2.2.2.2.2.2.2.1.ext hE), (hS.2.2.2.2.2.2.2.2.1.ext hE), (hS.2.2.2.2.2.2.2.2.2.1.ext hE), (Nat.le_trans hS.2.2.2.2.2.2.2.2.2.2 (Ext.size hE))⟩) ⟨E0, h4, p3, p4, hy0, hz0, zq, zr, k2, k3, Nat.le_refl _⟩ (by kernel_rfl) (by kernel_rfl) (by kernel_rfl) (by kernel_rfl) (A := ?A19) ?hA19 ?howe19 ?hfin19
    case hA19 =>
     intro vs
     simp only [putAll, Act.put, List.setIfInBounds_toArray, List.set_cons_zero, List.set_cons_succ, Nat.zero_add, Nat.reduceAdd]
     exact rfl
    case howe19 =>
     clear E0 h4 p3 p4 hy0 hz0 zq zr k2 k3
     intro hf
     refine ⟨owesE 0 [] hf rfl (by kernel_rfl) ?_, owesE 1 [0] hf rfl (by kernel_rfl) ?_, owesE 2 [1] hf rfl (by kernel_rfl) ?_, owesE 3 [2] hf rfl (by kernel_rfl) ?_, owesE 4 [3] hf rfl (by kernel_rfl) ?_, owesE 5 [3] hf rfl (by kernel_rfl) ?_, owesE 6 [3] hf rfl (by kernel_rfl) ?_, owesE 7 [3, 6] hf rfl (by kernel_rfl) ?_, owesE 8 [7] hf rfl (by kernel_rfl) ?_, owesE 9 [8] hf rfl (by kernel_rfl) ?_, owesE 10 [8] hf rfl (by kernel_rfl) ?_, owesE 11 [8] hf rfl (by kernel_rfl) ?_, owesE 12 [8, 11] hf rfl (by kernel_rfl) ?_, trivial⟩
     all_goals intro vs W hS hp hx KO hKO
     all_goals simp only [Act.put, List.setIfInBounds_toArray, List.set_cons_zero, List.set_cons_succ] at hKO
     ·go_simp
      exact hKO _ W (Ext.refl W) rfl
     ·have e0 := isOf hp.1
      simp only [e0] at hKO
      go_simp
      exact hKO _ W (Ext.refl W) rfl
     ·have e1 := isOf hp.1
      simp only [e1] at hKO
      go_simp
      exact hKO _ W (Ext.refl W) (by first | rfl | exact congrArg Value.bool (decide_eq_true (by omega)))
     ·have e2 := isOf hp.1
      simp only [e2] at hKO
      go_simp
      exact hKO _ W (Ext.refl W) rfl
     ·have e3 := isOf hp.1
      simp only [e3] at hKO
      go_simp
      exact hKO _ W (Ext.refl W) rfl
     ·have e3 := isOf hp.1
      simp only [e3] at hKO
      go_simp
      exact hKO _ W (Ext.refl W) rfl
     ·have e3 := isOf hp.1
      simp only [e3] at hKO
      go_simp
      exact hKO _ W (Ext.refl W) rfl
     ·have e3 := isOf hp.1
      have e6 := isOf hp.2.1
      simp only [e3, e6] at hKO
      go_simp
      exact hKO _ W (Ext.refl W) rfl
     ·have e7 := isOf hp.1
      simp only [e7] at hKO
      go_simp
      exact hKO _ W (Ext.refl W) rfl
     ·have e8 := isOf hp.1
      simp only [e8] at hKO
      go_simp
      exact hKO _ W (Ext.refl W) rfl
     ·have e8 := isOf hp.1
      simp only [e8] at hKO
      go_simp
      exact hKO _ W (Ext.refl W) rfl
     ·have e8 := isOf hp.1
      simp only [e8] at hKO
      go_simp
      exact hKO _ W (Ext.refl W) rfl
     ·have e8 := isOf hp.1
      have e11 := isOf hp.2.1
      simp only [e8, e11] at hKO
      go_simp
      exact hKO _ W (Ext.refl W) rfl
    intro vs W19 hS hp
    clear szw19 E0 h4 p3 p4 hy0 hz0 zq zr k2 k3
    obtain ⟨E0, h4, p3, p4, hy0, hz0, zq, zr, k2, k3, sz19⟩ := hS
    obtain ⟨h19_0, h19_1, h19_2, h19_3, h19_4, h19_5, h19_6, h19_7, h19_8, h19_9, h19_10, h19_11, h19_12, -⟩ := hp
    replace h19_0 : vs 0 = .slice a4 n4 c4 := h19_0
    replace h19_1 : vs 1 = .int .i64 (n4 : Int) := h19_1
    replace h19_2 : vs 2 = .bool true := h19_2
    replace h19_3 : vs 3 = .bool true := h19_3
    replace h19_4 : vs 4 = undef := h19_4
    replace h19_5 : vs 5 = undef := h19_5
    replace h19_6 : vs 6 = undef := h19_6
    replace h19_7 : vs 7 = .bool true := h19_7
    replace h19_8 : vs 8 = .bool true := h19_8
    replace h19_9 : vs 9 = undef := h19_9
    replace h19_10 : vs 10 = undef := h19_10
    replace h19_11 : vs 11 = undef := h19_11
    replace h19_12 : vs 12 = .bool true := h19_12
    simp only [h19_0, h19_1, h19_2, h19_3, h19_4, h19_5, h19_6, h19_7, h19_8, h19_9, h19_10, h19_11, h19_12]
    clear h19_0 h19_1 h19_2 h19_3 h19_4 h19_5 h19_6 h19_7 h19_8 h19_9 h19_10 h19_11 h19_12
    have kp3_0 := p3.cell 0 (v := .bool b0) rfl
    have kp3_1 := p3.cell 1 (v := .slice a0 n0 c0) rfl
    have kp3_2 := p3.cell 2 (v := .bool b1) rfl
    have kp3_3 := p3.cell 3 (v := .slice a1 n1 c1) rfl
    have kp4_0 := p4.cell0
    have kp4_1 := p4.cell1
    go_upto_region 7 with (fail)
    clear kp3_0 kp3_1 kp3_2 kp3_3 kp4_0 kp4_1
    have szw20 := Ext.size E0
    refine region_go [.one fun v _ => v = .bool true,
      .one fun v _ => v = .bool true]
     (fun W => Ext w W ∧ Nt W (.slice a4 n4 c4) x4 ∧ BxA W w.heap.size 58 #[.bool b0, .slice a0 n0 c0, .bool b1, .slice a1 n1 c1] ∧ Bx2 W (w.heap.size + 1) 59 (.slice a2 n2 c2) (.slice a3 n3 c3) ∧ Zw W (.agg #[.bool b0, .slice a0 n0 c0]) y ∧ Zw W (.agg #[.bool b1, .slice a1 n1 c1]) z ∧ Zw W (.agg #[.bool false, .slice a2 n2 c2]) ((Q : Int)) ∧ Zw W (.agg #[.bool false, .slice a3 n3 c3]) ((R : Int)) ∧ Nw W (.slice a2 n2 c2) Q ∧ Nw W (.slice a3 n3 c3) R ∧ W19.heap.size ≤ W.heap.size) ⟨Good.is _, Good.is _, trivial⟩
     (fun W W1 hS hE => ⟨(Ext.trans hS.1 hE), (hS.2.1.ext hE), (hS.2.2.1.ext hE), (hS.2.2.2.1.ext hE), (hS.2.2.2.2.1.ext hE), (hS.2.2.2.2.2.1.ext hE), (hS.2.2.2.2.2.2.1.ext hE), (hS.2.2.2.2.2.2.2.1.ext hE), (hS.2.2.2.2.2.2.2.2.1.ext hE), (hS.2.2.2.2.2.2.2.2.2.1.ext hE), (Nat.le_trans hS.2.2.2.2.2.2.2.2.2.2 (Ext.size hE))⟩) ⟨E0, h4, p3, p4, hy0, hz0, zq, zr, k2, k3, Nat.le_refl _⟩ (by kernel_rfl) (by kernel_rfl) (by kernel_rfl) (by kernel_rfl) (A := ?A20) ?hA20 ?howe20 ?hfin20
    case hA20 =>
     intro vs
     simp only [putAll, Act.put, List.setIfInBounds_toArray, List.set_cons_zero, List.set_cons_succ, Nat.zero_add]
     exact rfl
    case howe20 =>
     clear E0 h4 p3 p4 hy0 hz0 zq zr k2 k3
     intro hf
     refine ⟨owesE 0 [] hf rfl (by kernel_rfl) ?_, owesE 1 [0] hf rfl (by kernel_rfl) ?_, trivial⟩
     all_goals intro vs W hS hp hx KO hKO
     all_goals simp only [Act.put, List.setIfInBounds_toArray, List.set_cons_zero, List.set_cons_succ] at hKO
     ·go_simp
      refine (Try.alive05 _).mono ?_
      rintro e W1 ⟨rfl, hE⟩
      exact hKO _ W1 hE rfl
     ·have e0 := isOf hp.1
      simp only [e0] at hKO
      go_simp
      exact hKO _ W (Ext.refl W) rfl
    intro vs W20 hS hp
    clear szw20 E0 h4 p3 p4 hy0 hz0 zq zr k2 k3
    obtain ⟨E0, h4, p3, p4, hy0, hz0, zq, zr, k2, k3, sz20⟩ := hS
    obtain ⟨h20_0, h20_1, -⟩ := hp
    replace h20_0 : vs 0 = .bool true := h20_0
    replace h20_1 : vs 1 = .bool true := h20_1
    simp only [h20_0, h20_1]
    clear h20_0 h20_1
    have kp3_0 := p3.cell 0 (v := .bool b0) rfl
    have kp3_1 := p3.cell 1 (v := .slice a0 n0 c0) rfl
    have kp3_2 := p3.cell 2 (v := .bool b1) rfl
    have kp3_3 := p3.cell 3 (v := .slice a1 n1 c1) rfl
    have kp4_0 := p4.cell0
    have kp4_1 := p4.cell1
    go_wp2
    go_ret
    exact ⟨rfl, E0⟩
   ·by_cases hq : n4 = 0
    ·have HQ0 := Lib.hid hq
     clear hq
     have kp3_0 := p3.cell 0 (v := .bool b0) rfl
     have kp3_1 := p3.cell 1 (v := .slice a0 n0 c0) rfl
     have kp3_2 := p3.cell 2 (v := .bool b1) rfl
     have kp3_3 := p3.cell 3 (v := .slice a1 n1 c1) rfl
     have kp4_0 := p4.cell0
     have kp4_1 := p4.cell1
     go_upto_region 6 with (fail)
     clear kp3_0 kp3_1 kp3_2 kp3_3 kp4_0 kp4_1
     have ltp3 := p3.lt
     have ltp4 := p4.lt
     have szw21 := Ext.size E0
     refine region_go [.one fun v _ => v = .slice a4 n4 c4,
       .one fun v _ => v = .int .i64 (n4 : Int),
       .one fun v _ => v = .bool false,
       .one fun v _ => v = .bool false,
       .one fun v _ => v = .slice a4 n4 c4,
       .one fun v _ => v = .int .i64 (n4 : Int),
       .one fun v _ => v = .bool true,
       .one fun v _ => v = .bool true,
       .one fun v _ => v = .bool true,
       .one fun v _ => v = undef,
       .one fun v _ => v = undef,
       .one fun v _ => v = undef,
       .one fun v _ => v = .bool true]
      (fun W => Ext w W ∧ Nt W (.slice a4 n4 c4) x4 ∧ BxA W w.heap.size 58 #[.bool b0, .slice a0 n0 c0, .bool b1, .slice a1 n1 c1] ∧ Bx2 W (w.heap.size + 1) 59 (.slice a2 n2 c2) (.slice a3 n3 c3) ∧ Zw W (.agg #[.bool b0, .slice a0 n0 c0]) y ∧ Zw W (.agg #[.bool b1, .slice a1 n1 c1]) z ∧ Zw W (.agg #[.bool false, .slice a2 n2 c2]) ((Q : Int)) ∧ Zw W (.agg #[.bool false, .slice a3 n3 c3]) ((R : Int)) ∧ Nw W (.slice a2 n2 c2) Q ∧ Nw W (.slice a3 n3 c3) R ∧ wr.heap.size ≤ W.heap.size) ⟨Good.is _, Good.is _, Good.is _, Good.is _, Good.is _, Good.is _, Good.is _, Good.is _, Good.is _, Good.is _, Good.is _, Good.is _, Good.is _, trivial⟩
      (fun W W1 hS hE => ⟨(Ext.trans hS.1 hE), (hS.2.1.ext hE), (hS.2.2.1.ext hE), (hS.2.2.2.1.ext hE), (hS.2.2.2.2.1.ext hE), (hS.2.2.2.2.2.1.ext hE), (hS.2.2.2.2.2.2.1.ext hE), (hS.2.2.2.2.2.2.2.1.ext hE), (hS.2.2.2.2.2.2.2.2.1.ext hE), (hS.2.2.2.2.2.2.2.2.2.1.ext hE), (Nat.le_trans hS.2.2.2.2.2.2.2.2.2.2 (Ext.size hE))⟩) ⟨E0, h4, p3, p4, hy0, hz0, zq, zr, k2, k3, Nat.le_refl _⟩ (by kernel_rfl) (by kernel_rfl) (by kernel_rfl) (by kernel_rfl) (A := ?A21) ?hA21 ?howe21 ?hfin21
     case hA21 =>
      intro vs
      simp only [putAll, Act.put, List.setIfInBounds_toArray, List.set_cons_zero, List.set_cons_succ, Nat.zero_add, Nat.reduceAdd]
      exact rfl
     case howe21 =>
      clear E0 h4 p3 p4 hy0 hz0 zq zr k2 k3
      intro hf
      refine ⟨owesE 0 [] hf rfl (by kernel_rfl) ?_, owesE 1 [0] hf rfl (by kernel_rfl) ?_, owesE 2 [1] hf rfl (by kernel_rfl) ?_, owesE 3 [2] hf rfl (by kernel_rfl) ?_, owesE 4 [3] hf rfl (by kernel_rfl) ?_, owesE 5 [3, 4] hf rfl (by kernel_rfl) ?_, owesE 6 [3, 5] hf rfl (by kernel_rfl) ?_, owesE 7 [3, 6] hf rfl (by kernel_rfl) ?_, owesE 8 [7] hf rfl (by kernel_rfl) ?_, owesE 9 [8] hf rfl (by kernel_rfl) ?_, owesE 10 [8] hf rfl (by kernel_rfl) ?_, owesE 11 [8] hf rfl (by kernel_rfl) ?_, owesE 12 [8, 11] hf rfl (by kernel_rfl) ?_, trivial⟩
      all_goals intro vs W hS hp hx KO hKO
      all_goals simp only [Act.put, List.setIfInBounds_toArray, List.set_cons_zero, List.set_cons_succ] at hKO
      ·go_simp
       exact hKO _ W (Ext.refl W) rfl
      ·have e0 := isOf hp.1
       simp only [e0] at hKO
       go_simp
       exact hKO _ W (Ext.refl W) rfl
      ·have e1 := isOf hp.1
       simp only [e1] at hKO
       go_simp
       exact hKO _ W (Ext.refl W) (by first | rfl | exact congrArg Value.bool (decide_eq_false (by omega)))
      ·have e2 := isOf hp.1
       simp only [e2] at hKO
       go_simp
       exact hKO _ W (Ext.refl W) rfl
      ·have e3 := isOf hp.1
       simp only [e3] at hKO
       go_simp
       exact hKO _ W (Ext.refl W) rfl
      ·have e3 := isOf hp.1
       have e4 := isOf hp.2.1
       simp only [e3, e4] at hKO
       go_simp
       exact hKO _ W (Ext.refl W) rfl
      ·have e3 := isOf hp.1
       have e5 := isOf hp.2.1
       simp only [e3, e5] at hKO
       go_simp
       exact hKO _ W (Ext.refl W) (by first | rfl | exact congrArg Value.bool (beq_iff_eq.2 (by have := HQ0.out; omega)))
      ·have e3 := isOf hp.1
       have e6 := isOf hp.2.1
       simp only [e3, e6] at hKO
       go_simp
       exact hKO _ W (Ext.refl W) rfl
      ·have e7 := isOf hp.1
       simp only [e7] at hKO
       go_simp
       exact hKO _ W (Ext.refl W) rfl
      ·have e8 := isOf hp.1
       simp only [e8] at hKO
       go_simp
       exact hKO _ W (Ext.refl W) rfl
      ·have e8 := isOf hp.1
       simp only [e8] at hKO
       go_simp
       exact hKO _ W (Ext.refl W) rfl
      ·have e8 := isOf hp.1
       simp only [e8] at hKO
       go_simp
       exact hKO _ W (Ext.refl W) rfl
      ·have e8 := isOf hp.1
       have e11 := isOf hp.2.1
       simp only [e8, e11] at hKO
       go_simp
       exact hKO _ W (Ext.refl W) rfl
     intro vs W21 hS hp
     clear szw21 E0 h4 p3 p4 hy0 hz0 zq zr k2 k3
     obtain ⟨E0, h4, p3, p4, hy0, hz0, zq, zr, k2, k3, sz21⟩ := hS
     obtain ⟨h21_0, h21_1, h21_2, h21_3, h21_4, h21_5, h21_6, h21_7, h21_8, h21_9, h21_10, h21_11, h21_12, -⟩ := hp
     replace h21_0 : vs 0 = .slice a4 n4 c4 := h21_0
     replace h21_1 : vs 1 = .int .i64 (n4 : Int) := h21_1
     replace h21_2 : vs 2 = .bool false := h21_2
     replace h21_3 : vs 3 = .bool false := h21_3
     replace h21_4 : vs 4 = .slice a4 n4 c4 := h21_4
     replace h21_5 : vs 5 = .int .i64 (n4 : Int) := h21_5
     replace h21_6 : vs 6 = .bool true := h21_6
     replace h21_7 : vs 7 = .bool true := h21_7
     replace h21_8 : vs 8 = .bool true := h21_8
     replace h21_9 : vs 9 = undef := h21_9
     replace h21_10 : vs 10 = undef := h21_10
     replace h21_11 : vs 11 = undef := h21_11
     replace h21_12 : vs 12 = .bool true := h21_12
     simp only [h21_0, h21_1, h21_2, h21_3, h21_4, h21_5, h21_6, h21_7, h21_8, h21_9, h21_10, h21_11, h21_12]
     clear h21_0 h21_1 h21_2 h21_3 h21_4 h21_5 h21_6 h21_7 h21_8 h21_9 h21_10 h21_11 h21_12
     have kp3_0 := p3.cell 0 (v := .bool b0) rfl
     have kp3_1 := p3.cell 1 (v := .slice a0 n0 c0) rfl
     have kp3_2 := p3.cell 2 (v := .bool b1) rfl
     have kp3_3 := p3.cell 3 (v := .slice a1 n1 c1) rfl
     have kp4_0 := p4.cell0
     have kp4_1 := p4.cell1
     go_upto_region 7 with (fail)
     clear kp3_0 kp3_1 kp3_2 kp3_3 kp4_0 kp4_1
     have szw22 := Ext.size E0
     refine region_go [.one fun v _ => v = .bool true,
       .one fun v _ => v = .bool true]
      (fun W => Ext w W ∧ Nt W (.slice a4 n4 c4) x4 ∧ BxA W w.heap.size 58 #[.bool b0, .slice a0 n0 c0, .bool b1, .slice a1 n1 c1] ∧ Bx2 W (w.heap.size + 1) 59 (.slice a2 n2 c2) (.slice a3 n3 c3) ∧ Zw W (.agg #[.bool b0, .slice a0 n0 c0]) y ∧ Zw W (.agg #[.bool b1, .slice a1 n1 c1]) z ∧ Zw W (.agg #[.bool false, .slice a2 n2 c2]) ((Q : Int)) ∧ Zw W (.agg #[.bool false, .slice a3 n3 c3]) ((R : Int)) ∧ Nw W (.slice a2 n2 c2) Q ∧ Nw W (.slice a3 n3 c3) R ∧ W21.heap.size ≤ W.heap.size) ⟨Good.is _, Good.is _, trivial⟩
      (fun W W1 hS hE => ⟨(Ext.trans hS.1 hE), (hS.2.1.ext hE), (hS.2.2.1.ext hE), (hS.2.2.2.1.ext hE), (hS.2.2.2.2.1.ext hE), (hS.2.2.2.2.2.1.ext hE), (hS.2.2.2.2.2.2.1.ext hE), (hS.2.2.2.2.2.2.2.1.ext hE), (hS.2.2.2.2.2.2.2.2.1.ext hE), (hS.2.2.2.2.2.2.2.2.2.1.ext hE), (Nat.le_trans hS.2.2.2.2.2.2.2.2.2.2 (Ext.size hE))⟩) ⟨E0, h4, p3, p4, hy0, hz0, zq, zr, k2, k3, Nat.le_refl _⟩ (by kernel_rfl) (by kernel_rfl) (by kernel_rfl) (by kernel_rfl) (A := ?A22) ?hA22 ?howe22 ?hfin22
     case hA22 =>
      intro vs
      simp only [putAll, Act.put, List.setIfInBounds_toArray, List.set_cons_zero, List.set_cons_succ, Nat.zero_add]
      exact rfl
     case howe22 =>
      clear E0 h4 p3 p4 hy0 hz0 zq zr k2 k3
      intro hf
      refine ⟨owesE 0 [] hf rfl (by kernel_rfl) ?_, owesE 1 [0] hf rfl (by kernel_rfl) ?_, trivial⟩
      all_goals intro vs W hS hp hx KO hKO
      all_goals simp only [Act.put, List.setIfInBounds_toArray, List.set_cons_zero, List.set_cons_succ] at hKO
      ·go_simp
       refine (Try.alive05 _).mono ?_
       rintro e W1 ⟨rfl, hE⟩
       exact hKO _ W1 hE rfl
      ·have e0 := isOf hp.1
       simp only [e0] at hKO
       go_simp
       exact hKO _ W (Ext.refl W) rfl
     intro vs W22 hS hp
     clear szw22 E0 h4 p3 p4 hy0 hz0 zq zr k2 k3
     obtain ⟨E0, h4, p3, p4, hy0, hz0, zq, zr, k2, k3, sz22⟩ := hS
     obtain ⟨h22_0, h22_1, -⟩ := hp
     replace h22_0 : vs 0 = .bool true := h22_0
     replace h22_1 : vs 1 = .bool true := h22_1
     simp only [h22_0, h22_1]
     clear h22_0 h22_1
     have kp3_0 := p3.cell 0 (v := .bool b0) rfl
     have kp3_1 := p3.cell 1 (v := .slice a0 n0 c0) rfl
     have kp3_2 := p3.cell 2 (v := .bool b1) rfl
     have kp3_3 := p3.cell 3 (v := .slice a1 n1 c1) rfl
     have kp4_0 := p4.cell0
     have kp4_1 := p4.cell1
     go_wp2
     go_ret
     exact ⟨rfl, E0⟩
    ·cases hr : normB x4
     ·have HR := Lib.hid hr
      clear hr
      have kp3_0 := p3.cell 0 (v := .bool b0) rfl
      have kp3_1 := p3.cell 1 (v := .slice a0 n0 c0) rfl
      have kp3_2 := p3.cell 2 (v := .bool b1) rfl
      have kp3_3 := p3.cell 3 (v := .slice a1 n1 c1) rfl
      have kp4_0 := p4.cell0
      have kp4_1 := p4.cell1
      go_upto_region 6 with (fail)
      clear kp3_0 kp3_1 kp3_2 kp3_3 kp4_0 kp4_1
      have ltp3 := p3.lt
      have ltp4 := p4.lt
      have szw23 := Ext.size E0
      refine region_go [.one fun v _ => v = .slice a4 n4 c4,
        .one fun v _ => v = .int .i64 (n4 : Int),
        .one fun v _ => v = .bool false,
        .one fun v _ => v = .bool false,
        .one fun v _ => v = .slice a4 n4 c4,
        .one fun v _ => v = .int .i64 (n4 : Int),
        .one fun v _ => v = .bool false,
        .one fun v _ => v = .bool false,
        .one fun v _ => v = .bool false,
        .one fun v _ => v = .slice a4 n4 c4,
        .one fun v _ => v = .bool false,
        .one fun v _ => v = .bool true,
        .one fun v _ => v = .bool true]
       (fun W => Ext w W ∧ Nt W (.slice a4 n4 c4) x4 ∧ BxA W w.heap.size 58 #[.bool b0, .slice a0 n0 c0, .bool b1, .slice a1 n1 c1] ∧ Bx2 W (w.heap.size + 1) 59 (.slice a2 n2 c2) (.slice a3 n3 c3) ∧ Zw W (.agg #[.bool b0, .slice a0 n0 c0]) y ∧ Zw W (.agg #[.bool b1, .slice a1 n1 c1]) z ∧ Zw W (.agg #[.bool false, .slice a2 n2 c2]) ((Q : Int)) ∧ Zw W (.agg #[.bool false, .slice a3 n3 c3]) ((R : Int)) ∧ Nw W (.slice a2 n2 c2) Q ∧ Nw W (.slice a3 n3 c3) R ∧ wr.heap.size ≤ W.heap.size) ⟨Good.is _, Good.is _, Good.is _, Good.is _, Good.is _, Good.is _, Good.is _, Good.is _, Good.is _, Good.is _, Good.is _, Good.is _, Good.is _, trivial⟩
       (fun W W1 hS hE => ⟨(Ext.trans hS.1 hE), (hS.2.1.ext hE), (hS.2.2.1.ext hE), (hS.2.2.2.1.ext hE), (hS.2.2.2.2.1.ext hE), (hS.2.2.2.2.2.1.ext hE), (hS.2.2.2.2.2.2.1.ext hE), (hS.2.2.2.2.2.2.2.1.ext hE), (hS.2.2.2.2.2.2.2.2.1.ext hE), (hS.2.2.2.2.2.2.2.2.2.1.ext hE), (Nat.le_trans hS.2.2.2.2.2.2.2.2.2.2 (Ext.size hE))⟩) ⟨E0, h4, p3, p4, hy0, hz0, zq, zr, k2, k3, Nat.le_refl _⟩ (by kernel_rfl) (by kernel_rfl) (by kernel_rfl) (by kernel_rfl) (A := ?A23) ?hA23 ?howe23 ?hfin23
      case hA23 =>
       intro vs
       simp only [putAll, Act.put, List.setIfInBounds_toArray, List.set_cons_zero, List.set_cons_succ, Nat.zero_add, Nat.reduceAdd]
       exact rfl
      case howe23 =>
       clear E0 h4 p3 p4 hy0 hz0 zq zr k2 k3
       intro hf
       refine ⟨owesE 0 [] hf rfl (by kernel_rfl) ?_, owesE 1 [0] hf rfl (by kernel_rfl) ?_, owesE 2 [1] hf rfl (by kernel_rfl) ?_, owesE 3 [2] hf rfl (by kernel_rfl) ?_, owesE 4 [3] hf rfl (by kernel_rfl) ?_, owesE 5 [3, 4] hf rfl (by kernel_rfl) ?_, owesE 6 [3, 5] hf rfl (by kernel_rfl) ?_, owesE 7 [3, 6] hf rfl (by kernel_rfl) ?_, owesE 8 [7] hf rfl (by kernel_rfl) ?_, owesE 9 [8] hf rfl (by kernel_rfl) ?_, owesE 10 [8, 9] hf rfl (by kernel_rfl) ?_, owesE 11 [8, 10] hf rfl (by kernel_rfl) ?_, owesE 12 [8, 11] hf rfl (by kernel_rfl) ?_, trivial⟩
       all_goals intro vs W hS hp hx KO hKO
       all_goals simp only [Act.put, List.setIfInBounds_toArray, List.set_cons_zero, List.set_cons_succ] at hKO
       ·go_simp
        exact hKO _ W (Ext.refl W) rfl
       ·have e0 := isOf hp.1
        simp only [e0] at hKO
        go_simp
        exact hKO _ W (Ext.refl W) rfl
       ·have e1 := isOf hp.1
        simp only [e1] at hKO
        go_simp
        exact hKO _ W (Ext.refl W) (by first | rfl | exact congrArg Value.bool (decide_eq_false (by omega)))
       ·have e2 := isOf hp.1
        simp only [e2] at hKO
        go_simp
        exact hKO _ W (Ext.refl W) rfl
       ·have e3 := isOf hp.1
        simp only [e3] at hKO
        go_simp
        exact hKO _ W (Ext.refl W) rfl
       ·have e3 := isOf hp.1
        have e4 := isOf hp.2.1
        simp only [e3, e4] at hKO
        go_simp
        exact hKO _ W (Ext.refl W) rfl
       ·have e3 := isOf hp.1
        have e5 := isOf hp.2.1
        simp only [e3, e5] at hKO
        go_simp
        exact hKO _ W (Ext.refl W) (by first | rfl | exact congrArg Value.bool (beq_eq_false_iff_ne.2 (by omega)))
       ·have e3 := isOf hp.1
        have e6 := isOf hp.2.1
        simp only [e3, e6] at hKO
        go_simp
        exact hKO _ W (Ext.refl W) rfl
       ·have e7 := isOf hp.1
        simp only [e7] at hKO
        go_simp
        exact hKO _ W (Ext.refl W) rfl
       ·have e8 := isOf hp.1
        simp only [e8] at hKO
        go_simp
        exact hKO _ W (Ext.refl W) rfl
       ·have e8 := isOf hp.1
        have e9 := isOf hp.2.1
        simp only [e8, e9] at hKO
        go_simp
        refine (Try.refRight hS.2.1).mono ?_
        rintro e W1 ⟨rfl, rfl⟩
        rw [HR.out]
        exact hKO _ W (Ext.refl W) rfl
       ·have e8 := isOf hp.1
        have e10 := isOf hp.2.1
        simp only [e8, e10] at hKO
        go_simp
        exact hKO _ W (Ext.refl W) rfl
       ·have e8 := isOf hp.1
        have e11 := isOf hp.2.1
        simp only [e8, e11] at hKO
        go_simp
        exact hKO _ W (Ext.refl W) rfl
      intro vs W23 hS hp
      clear szw23 E0 h4 p3 p4 hy0 hz0 zq zr k2 k3
      obtain ⟨E0, h4, p3, p4, hy0, hz0, zq, zr, k2, k3, sz23⟩ := hS
      obtain ⟨h23_0, h23_1, h23_2, h23_3, h23_4, h23_5, h23_6, h23_7, h23_8, h23_9, h23_10, h23_11, h23_12, -⟩ := hp
      replace h23_0 : vs 0 = .slice a4 n4 c4 := h23_0
      replace h23_1 : vs 1 = .int .i64 (n4 : Int) := h23_1
      replace h23_2 : vs 2 = .bool false := h23_2
      replace h23_3 : vs 3 = .bool false := h23_3
      replace h23_4 : vs 4 = .slice a4 n4 c4 := h23_4
      replace h23_5 : vs 5 = .int .i64 (n4 : Int) := h23_5
      replace h23_6 : vs 6 = .bool false := h23_6
      replace h23_7 : vs 7 = .bool false := h23_7
      replace h23_8 : vs 8 = .bool false := h23_8
      replace h23_9 : vs 9 = .slice a4 n4 c4 := h23_9
      replace h23_10 : vs 10 = .bool false := h23_10
      replace h23_11 : vs 11 = .bool true := h23_11
      replace h23_12 : vs 12 = .bool true := h23_12
      simp only [h23_0, h23_1, h23_2, h23_3, h23_4, h23_5, h23_6, h23_7, h23_8, h23_9, h23_10, h23_11, h23_12]
      clear h23_0 h23_1 h23_2 h23_3 h23_4 h23_5 h23_6 h23_7 h23_8 h23_9 h23_10 h23_11 h23_12
      have kp3_0 := p3.cell 0 (v := .bool b0) rfl
      have kp3_1 := p3.cell 1 (v := .slice a0 n0 c0) rfl
      have kp3_2 := p3.cell 2 (v := .bool b1) rfl
      have kp3_3 := p3.cell 3 (v := .slice a1 n1 c1) rfl
      have kp4_0 := p4.cell0
      have kp4_1 := p4.cell1
      go_upto_region 7 with (fail)
      clear kp3_0 kp3_1 kp3_2 kp3_3 kp4_0 kp4_1
      have szw24 := Ext.size E0
      refine region_go [.one fun v _ => v = .bool true,
        .one fun v _ => v = .bool true]
       (fun W => Ext w W ∧ Nt W (.slice a4 n4 c4) x4 ∧ BxA W w.heap.size 58 #[.bool b0, .slice a0 n0 c0, .bool b1, .slice a1 n1 c1] ∧ Bx2 W (w.heap.size + 1) 59 (.slice a2 n2 c2) (.slice a3 n3 c3) ∧ Zw W (.agg #[.bool b0, .slice a0 n0 c0]) y ∧ Zw W (.agg #[.bool b1, .slice a1 n1 c1]) z ∧ Zw W (.agg #[.bool false, .slice a2 n2 c2]) ((Q : Int)) ∧ Zw W (.agg #[.bool false, .slice a3 n3 c3]) ((R : Int)) ∧ Nw W (.slice a2 n2 c2) Q ∧ Nw W (.slice a3 n3 c3) R ∧ W23.heap.size ≤ W.heap.size) ⟨Good.is _, Good.is _, trivial⟩
       (fun W W1 hS hE => ⟨(Ext.trans hS.1 hE), (hS.2.1.ext hE), (hS.2.2.1.ext hE), (hS.2.2.2.1.ext hE), (hS.2.2.2.2.1.ext hE), (hS.2.2.2.2.2.1.ext hE), (hS.2.2.2.2.2.2.1.ext hE), (hS.2.2.2.2.2.2.2.1.ext hE), (hS.2.2.2.2.2.2.2.2.1.ext hE), (hS.2.2.2.2.2.2.2.2.2.1.ext hE), (Nat.le_trans hS.2.2.2.2.2.2.2.2.2.2 (Ext.size hE))⟩) ⟨E0, h4, p3, p4, hy0, hz0, zq, zr, k2, k3, Nat.le_refl _⟩ (by kernel_rfl) (by kernel_rfl) (by kernel_rfl) (by kernel_rfl) (A := ?A24) ?hA24 ?howe24 ?hfin24
      case hA24 =>
       intro vs
       simp only [putAll, Act.put, List.setIfInBounds_toArray, List.set_cons_zero, List.set_cons_succ, Nat.zero_add]
       exact rfl
      case howe24 =>
       clear E0 h4 p3 p4 hy0 hz0 zq zr k2 k3
       intro hf
       refine ⟨owesE 0 [] hf rfl (by kernel_rfl) ?_, owesE 1 [0] hf rfl (by kernel_rfl) ?_, trivial⟩
       all_goals intro vs W hS hp hx KO hKO
       all_goals simp only [Act.put, List.setIfInBounds_toArray, List.set_cons_zero, List.set_cons_succ] at hKO
       ·go_simp
        refine (Try.alive05 _).mono ?_
        rintro e W1 ⟨rfl, hE⟩
        exact hKO _ W1 hE rfl
       ·have e0 := isOf hp.1
        simp only [e0] at hKO
        go_simp
        exact hKO _ W (Ext.refl W) rfl
      intro vs W24 hS hp
      clear szw24 E0 h4 p3 p4 hy0 hz0 zq zr k2 k3
      obtain ⟨E0, h4, p3, p4, hy0, hz0, zq, zr, k2, k3, sz24⟩ := hS
      obtain ⟨h24_0, h24_1, -⟩ := hp
      replace h24_0 : vs 0 = .bool true := h24_0
      replace h24_1 : vs 1 = .bool true := h24_1
      simp only [h24_0, h24_1]
      clear h24_0 h24_1
      have kp3_0 := p3.cell 0 (v := .bool b0) rfl
      have kp3_1 := p3.cell 1 (v := .slice a0 n0 c0) rfl
      have kp3_2 := p3.cell 2 (v := .bool b1) rfl
      have kp3_3 := p3.cell 3 (v := .slice a1 n1 c1) rfl
      have kp4_0 := p4.cell0
      have kp4_1 := p4.cell1
      go_wp2
      go_ret
      exact ⟨rfl, E0⟩
     ·have HR := Lib.hid hr
      clear hr
      have kp3_0 := p3.cell 0 (v := .bool b0) rfl
      have kp3_1 := p3.cell 1 (v := .slice a0 n0 c0) rfl
      have kp3_2 := p3.cell 2 (v := .bool b1) rfl
      have kp3_3 := p3.cell 3 (v := .slice a1 n1 c1) rfl
      have kp4_0 := p4.cell0
      have kp4_1 := p4.cell1
      go_upto_region 6 with (fail)
      clear kp3_0 kp3_1 kp3_2 kp3_3 kp4_0 kp4_1
      have ltp3 := p3.lt
      have ltp4 := p4.lt
      have szw25 := Ext.size E0
      refine region_go [.one fun v _ => v = .slice a4 n4 c4,
        .one fun v _ => v = .int .i64 (n4 : Int),
        .one fun v _ => v = .bool false,
        .one fun v _ => v = .bool false,
        .one fun v _ => v = .slice a4 n4 c4,
        .one fun v _ => v = .int .i64 (n4 : Int),
        .one fun v _ => v = .bool false,
        .one fun v _ => v = .bool false,
        .one fun v _ => v = .bool false,
        .one fun v _ => v = .slice a4 n4 c4,
        .one fun v _ => v = .bool true,
        .one fun v _ => v = .bool false,
        .one fun v _ => v = .bool false]
       (fun W => Ext w W ∧ Nt W (.slice a4 n4 c4) x4 ∧ BxA W w.heap.size 58 #[.bool b0, .slice a0 n0 c0, .bool b1, .slice a1 n1 c1] ∧ Bx2 W (w.heap.size + 1) 59 (.slice a2 n2 c2) (.slice a3 n3 c3) ∧ Zw W (.agg #[.bool b0, .slice a0 n0 c0]) y ∧ Zw W (.agg #[.bool b1, .slice a1 n1 c1]) z ∧ Zw W (.agg #[.bool false, .slice a2 n2 c2]) ((Q : Int)) ∧ Zw W (.agg #[.bool false, .slice a3 n3 c3]) ((R : Int)) ∧ Nw W (.slice a2 n2 c2) Q ∧ Nw W (.slice a3 n3 c3) R ∧ wr.heap.size ≤ W.heap.size) ⟨Good.is _, Good.is _, Good.is _, Good.is _, Good.is _, Good.is _, Good.is _, Good.is _, Good.is _, Good.is _, Good.is _, Good.is _, Good.is _, trivial⟩
       (fun W W1 hS hE => ⟨(Ext.trans hS.1 hE), (hS.2.1.ext hE), (hS.2.2.1.ext hE), (hS.2.2.2.1.ext hE), (hS.2.2.2.2.1.ext hE), (hS.2.2.2.2.2.1.ext hE), (hS.2.2.2.2.2.2.1.ext hE), (hS.2.2.2.2.2.2.2.1.ext hE), (hS.2.2.2.2.2.2.2.2.1.ext hE), (hS.2.2.2.2.2.2.2.2.2.1.ext hE), (Nat.le_trans hS.2.2.2.2.2.2.2.2.2.2 (Ext.size hE))⟩) ⟨E0, h4, p3, p4, hy0, hz0, zq, zr, k2, k3, Nat.le_refl _⟩ (by kernel_rfl) (by kernel_rfl) (by kernel_rfl) (by kernel_rfl) (A := ?A25) ?hA25 ?howe25 ?hfin25
      case hA25 =>
       intro vs
       simp only [putAll, Act.put, List.setIfInBounds_toArray, List.set_cons_zero, List.set_cons_succ, Nat.zero_add, Nat.reduceAdd]
       exact rfl
      case howe25 =>
       clear E0 h4 p3 p4 hy0 hz0 zq zr k2 k3
       intro hf
       refine ⟨owesE 0 [] hf rfl (by kernel_rfl) ?_, owesE 1 [0] hf rfl (by kernel_rfl) ?_, owesE 2 [1] hf rfl (by kernel_rfl) ?_, owesE 3 [2] hf rfl (by kernel_rfl) ?_, owesE 4 [3] hf rfl (by kernel_rfl) ?_, owesE 5 [3, 4] hf rfl (by kernel_rfl) ?_, owesE 6 [3, 5] hf rfl (by kernel_rfl) ?_, owesE 7 [3, 6] hf rfl (by kernel_rfl) ?_, owesE 8 [7] hf rfl (by kernel_rfl) ?_, owesE 9 [8] hf rfl (by kernel_rfl) ?_, owesE 10 [8, 9] hf rfl (by kernel_rfl) ?_, owesE 11 [8, 10] hf rfl (by kernel_rfl) ?_, owesE 12 [8, 11] hf rfl (by kernel_rfl) ?_, trivial⟩
       all_goals intro vs W hS hp hx KO hKO
       all_goals simp only [Act.put, List.setIfInBounds_toArray, List.set_cons_zero, List.set_cons_succ] at hKO
       ·go_simp
        exact hKO _ W (Ext.refl W) rfl
       ·have e0 := isOf hp.1
        simp only [e0] at hKO
        go_simp
        exact hKO _ W (Ext.refl W) rfl
       ·have e1 := isOf hp.1
        simp only [e1] at hKO
        go_simp
        exact hKO _ W (Ext.refl W) (by first | rfl | exact congrArg Value.bool (decide_eq_false (by omega)))
       ·have e2 := isOf hp.1
        simp only [e2] at hKO
        go_simp
        exact hKO _ W (Ext.refl W) rfl
       ·have e3 := isOf hp.1
        simp only [e3] at hKO
        go_simp
        exact hKO _ W (Ext.refl W) rfl
       ·have e3 := isOf hp.1
        have e4 := isOf hp.2.1
        simp only [e3, e4] at hKO
        go_simp
        exact hKO _ W (Ext.refl W) rfl
       ·have e3 := isOf hp.1
        have e5 := isOf hp.2.1
        simp only [e3, e5] at hKO
        go_simp
        exact hKO _ W (Ext.refl W) (by first | rfl | exact congrArg Value.bool (beq_eq_false_iff_ne.2 (by omega)))
       ·have e3 := isOf hp.1
        have e6 := isOf hp.2.1
        simp only [e3, e6] at hKO
        go_simp
        exact hKO _ W (Ext.refl W) rfl
       ·have e7 := isOf hp.1
        simp only [e7] at hKO
        go_simp
        exact hKO _ W (Ext.refl W) rfl
       ·have e8 := isOf hp.1
        simp only [e8] at hKO
        go_simp
        exact hKO _ W (Ext.refl W) rfl
       ·have e8 := isOf hp.1
        have e9 := isOf hp.2.1
        simp only [e8, e9] at hKO
        go_simp
        refine (Try.refRight hS.2.1).mono ?_
        rintro e W1 ⟨rfl, rfl⟩
        rw [HR.out]
        exact hKO _ W (Ext.refl W) rfl
       ·have e8 := isOf hp.1
        have e10 := isOf hp.2.1
        simp only [e8, e10] at hKO
        go_simp
        exact hKO _ W (Ext.refl W) rfl
       ·have e8 := isOf hp.1
        have e11 := isOf hp.2.1
        simp only [e8, e11] at hKO
        go_simp
        exact hKO _ W (Ext.refl W) rfl
      intro vs W25 hS hp
      clear szw25 E0 h4 p3 p4 hy0 hz0 zq zr k2 k3
      obtain ⟨E0, h4, p3, p4, hy0, hz0, zq, zr, k2, k3, sz25⟩ := hS
      obtain ⟨h25_0, h25_1, h25_2, h25_3, h25_4, h25_5, h25_6, h25_7, h25_8, h25_9, h25_10, h25_11, h25_12, -⟩ := hp
      replace h25_0 : vs 0 = .slice a4 n4 c4 := h25_0
      replace h25_1 : vs 1 = .int .i64 (n4 : Int) := h25_1
      replace h25_2 : vs 2 = .bool false := h25_2
      replace h25_3 : vs 3 = .bool false := h25_3
      replace h25_4 : vs 4 = .slice a4 n4 c4 := h25_4
      replace h25_5 : vs 5 = .int .i64 (n4 : Int) := h25_5
      replace h25_6 : vs 6 = .bool false := h25_6
      replace h25_7 : vs 7 = .bool false := h25_7
      replace h25_8 : vs 8 = .bool false := h25_8
      replace h25_9 : vs 9 = .slice a4 n4 c4 := h25_9
      replace h25_10 : vs 10 = .bool true := h25_10
      replace h25_11 : vs 11 = .bool false := h25_11
      replace h25_12 : vs 12 = .bool false := h25_12
      simp only [h25_0, h25_1, h25_2, h25_3, h25_4, h25_5, h25_6, h25_7, h25_8, h25_9, h25_10, h25_11, h25_12]
      clear h25_0 h25_1 h25_2 h25_3 h25_4 h25_5 h25_6 h25_7 h25_8 h25_9 h25_10 h25_11 h25_12
      obtain ⟨C, hC⟩ : ∃ C, ev B64 x4 = C := ⟨_, rfl⟩
      have k4 := h4.nw HR.out
      have SC : Hid (Sm 4 C) := Lib.hid (by
       have := h4.slice
       rw [← hC]
       exact Nat.lt_of_lt_of_le (ev_lt h4.lim) (Nat.pow_le_pow_right B64_pos (by omega)))
      have NC : Hid (C ≠ 0) := Lib.hid (by
       have := h4.slice
       rw [← hC]
       exact fun e => hq (by have := (Norm.zero_iff B64_pos (normB_iff.1 HR.out)).1 e; omega))
      rw [hC] at k4
      clear hC h4 HR hl hq
      have zc := k4.zed
      obtain ⟨yc, hyc⟩ : ∃ v : Int, y * (C : Int) = v := ⟨_, rfl⟩
      obtain ⟨qc, hqc⟩ : ∃ v : Nat, Q * C = v := ⟨_, rfl⟩
      have SY : Hid (Sm 8 yc.natAbs) := Lib.hid (by rw [← hyc, Int.natAbs_mul]; exact S0.out.mul (by simpa using SC.out))
      have SQ : Hid (Sm 8 qc) := Lib.hid (by rw [← hqc]; exact sQ.out.mul SC.out)
      have NQ : Hid (qc ≠ 0) := Lib.hid (by rw [← hqc]; exact Nat.mul_ne_zero nQ.out NC.out)
      have EM : Hid (mkRat y Q = mkRat yc qc) := Lib.hid (by rw [← hyc, ← hqc]; exact (Rat.mkRat_mul_right NC.out).symm)
      obtain ⟨S, hS⟩ : ∃ S, decide (mkRat y Q = mkRat z R) = S := ⟨_, rfl⟩
      have HS := Lib.hid hS
      have HT : Hid (decide (y * (R : Int) = z * (Q : Int)) = S) := Lib.hid (by rw [← hS, Bool.eq_iff_iff, decide_eq_true_iff, decide_eq_true_iff]; exact (Rat.mkRat_eq_iff nQ.out nR.out).symm)
      have SCz : Hid (Sm 4 ((C : Int).natAbs)) := Lib.hid (by simpa using SC.out)
      have SQz : Hid (Sm 4 ((Q : Int).natAbs)) := Lib.hid (by simpa using sQ.out)
      have SRz : Hid (Sm 4 ((R : Int).natAbs)) := Lib.hid (by simpa using sR.out)
      have HYC := Lib.hid hyc
      have HQC := Lib.hid hqc
      clear hyc hqc hS
      have kp3_0 := p3.cell 0 (v := .bool b0) rfl
      have kp3_1 := p3.cell 1 (v := .slice a0 n0 c0) rfl
      have kp3_2 := p3.cell 2 (v := .bool b1) rfl
      have kp3_3 := p3.cell 3 (v := .slice a1 n1 c1) rfl
      have kp4_0 := p4.cell0
      have kp4_1 := p4.cell1
      go_upto_region 8 with (fail)
      clear kp3_0 kp3_1 kp3_2 kp3_3 kp4_0 kp4_1
      have szw26 := Ext.size E0
      refine region_go [.one fun v _ => v = .pointer (some ⟨w.heap.size, 0, none⟩),
        .one fun v _ => v = .agg #[.bool b0, .slice a0 n0 c0],
        .one fun v _ => v = .pointer (some ⟨w.heap.size + 1, 0, none⟩),
        .one fun v _ => v = .slice a2 n2 c2,
        .one fun v W => ∃ v', v = .tuple #[v', .int .i64 0] ∧ (fun v W => Rw W v (mkRat y Q)) v' W,
        .one fun v W => ∃ v', v = .tuple #[v', .int .i64 0] ∧ (fun v W => Rw W v (mkRat y Q)) v' W,
        .one fun v W => Rw W v (mkRat y Q),
        .one fun v _ => v = .int .i64 0,
        .one fun v W => ∃ g, v = .pointer (some ⟨g, 0, none⟩) ∧ W25.heap.size ≤ g ∧ Form W g 27 3,
        .three 8 6 (fun p r _ W => Put3 W25.heap.size 27 p r W),
        .one fun v _ => v = .int .i64 0]
       (fun W => Ext w W ∧ BxA W w.heap.size 58 #[.bool b0, .slice a0 n0 c0, .bool b1, .slice a1 n1 c1] ∧ Bx2 W (w.heap.size + 1) 59 (.slice a2 n2 c2) (.slice a3 n3 c3) ∧ Zw W (.agg #[.bool b0, .slice a0 n0 c0]) y ∧ Zw W (.agg #[.bool b1, .slice a1 n1 c1]) z ∧ Zw W (.agg #[.bool false, .slice a2 n2 c2]) ((Q : Int)) ∧ Zw W (.agg #[.bool false, .slice a3 n3 c3]) ((R : Int)) ∧ Nw W (.slice a2 n2 c2) Q ∧ Nw W (.slice a3 n3 c3) R ∧ Nw W (.slice a4 n4 c4) C ∧ Zw W (.agg #[.bool false, .slice a4 n4 c4]) ((C : Int)) ∧ W25.heap.size ≤ W.heap.size) ⟨Good.is _, Good.is _, Good.is _, Good.is _, (Good.rat _).tup _, (Good.rat _).tup _, Good.rat _, Good.is _, Good.box _ _ _, cert_put3, Good.is _, trivial⟩
       (fun W W1 hS hE => ⟨(Ext.trans hS.1 hE), (hS.2.1.ext hE), (hS.2.2.1.ext hE), (hS.2.2.2.1.ext hE), (hS.2.2.2.2.1.ext hE), (hS.2.2.2.2.2.1.ext hE), (hS.2.2.2.2.2.2.1.ext hE), (hS.2.2.2.2.2.2.2.1.ext hE), (hS.2.2.2.2.2.2.2.2.1.ext hE), (hS.2.2.2.2.2.2.2.2.2.1.ext hE), (hS.2.2.2.2.2.2.2.2.2.2.1.ext hE), (Nat.le_trans hS.2.2.2.2.2.2.2.2.2.2.2 (Ext.size hE))⟩) ⟨E0, p3, p4, hy0, hz0, zq, zr, k2, k3, k4, zc, Nat.le_refl _⟩ (by kernel_rfl) (by kernel_rfl) (by kernel_rfl) (by kernel_rfl) (A := ?A26) ?hA26 ?howe26 ?hfin26
      case hA26 =>
       intro vs
       simp only [putAll, Act.put, List.setIfInBounds_toArray, List.set_cons_zero, List.set_cons_succ, Nat.zero_add, Nat.reduceAdd]
       exact rfl
      case howe26 =>
       clear E0 p3 p4 hy0 hz0 zq zr k2 k3 k4 zc
       intro hf
       refine ⟨owesE 0 [] hf rfl (by kernel_rfl) ?_, owesE 1 [0] hf rfl (by kernel_rfl) ?_, owesE 2 [] hf rfl (by kernel_rfl) ?_, owesE 3 [2] hf rfl (by kernel_rfl) ?_, owesE 4 [1, 3] hf rfl (by kernel_rfl) ?_, owesE 5 [4] hf rfl (by kernel_rfl) ?_, owesE 6 [5] hf rfl (by kernel_rfl) ?_, owesE 7 [5] hf rfl (by kernel_rfl) ?_, owesE 8 [] hf rfl (by kernel_rfl) ?_, owesW 9 [8, 6] hf rfl (by kernel_rfl) (by kernel_rfl) ?_, owesE 10 [7] hf rfl (by kernel_rfl) ?_, trivial⟩
       all_goals intro vs W hS hp hx KO hKO
       all_goals simp only [Act.put, List.setIfInBounds_toArray, List.set_cons_zero, List.set_cons_succ] at hKO
       ·go_simp
        exact hKO _ W (Ext.refl W) rfl
       ·have e0 := isOf hp.1
        simp only [e0] at hKO
        have fc0 := BxA.cell (hS.2.1) 0 (v := .bool b0) rfl
        have fc1 := BxA.cell (hS.2.1) 1 (v := .slice a0 n0 c0) rfl
        go_simp
        exact hKO _ W (Ext.refl W) rfl
       ·go_simp
        exact hKO _ W (Ext.refl W) rfl
       ·have e2 := isOf hp.1
        simp only [e2] at hKO
        have fc0 := hS.2.2.1.cell0
        go_simp
        exact hKO _ W (Ext.refl W) rfl
       ·have e1 := isOf hp.1
        have e3 := isOf hp.2.1
        simp only [e1, e3] at hKO
        go_simp
        refine (Try.ratMake (hS.2.2.2.1) (hS.2.2.2.2.2.2.2.1) S0.out sQ.out (by omega) nQ.out).mono ?_
        rintro e W1 ⟨v, rfl, hv, hE⟩
        exact hKO _ W1 hE ⟨_, rfl, hv⟩
       ·have q4 := hp.1
        obtain ⟨u, ev, hu⟩ := q4
        replace ev : vs 4 = _ := ev
        simp only [ev] at hKO
        go_simp
        exact hKO _ W (Ext.refl W) ⟨u, rfl, hu⟩
       ·have q5 := hp.1
        obtain ⟨u, ev, hu⟩ := q5
        replace ev : vs 5 = _ := ev
        simp only [ev] at hKO
        go_simp
        exact hKO _ W (Ext.refl W) hu
       ·have q5 := hp.1
        obtain ⟨u, ev, hu⟩ := q5
        replace ev : vs 5 = _ := ev
        simp only [ev] at hKO
        go_simp
        exact hKO _ W (Ext.refl W) rfl
       ·have hn := Bx3.new W 27 (.bool false) (.slice none 0 0) (.slice none 0 0)
        have hE := Ext.alloc1 W (.cells #[.bool false, .slice none 0 0, .slice none 0 0] 27)
        have hsz := hS.2.2.2.2.2.2.2.2.2.2.2
        go_simp
        exact hKO _ _ hE ⟨_, rfl, hsz, hn.form⟩
       ·have q8 := hp.1
        have q6 := hp.2.1
        obtain ⟨g, ev, hg, hf⟩ := q8
        replace ev : vs 8 = _ := ev
        obtain ⟨x0_0, x0_1, x0_2, hx, hno⟩ := hf.bx3
        have qr := q6
        obtain ⟨b3, a3, n3, c3, d3, m3, o3, er, -, -, -⟩ := qr
        replace er : vs 6 = _ := er
        have r0 := hx.froz0
        have t0 := hx.cell0
        have r1 := hx.froz1
        have t1 := hx.cell1
        have r2 := hx.froz2
        have t2 := hx.cell2
        have hw := Wr.set3 hx hno b3 a3 n3 c3 d3 m3 o3
        have hq := hx.set (.bool b3) (.slice a3 n3 c3) (.slice d3 m3 o3)
        simp only [ev, er] at hKO
        go_simp
        exact hKO _ _ hw ⟨(Ext.wr hS.1 hw (by omega)), (hS.2.1.wr hw (by omega)), (hS.2.2.1.wr hw (by omega)), (hS.2.2.2.1.wr hw), (hS.2.2.2.2.1.wr hw), (hS.2.2.2.2.2.1.wr hw), (hS.2.2.2.2.2.2.1.wr hw), (hS.2.2.2.2.2.2.2.1.wr hw), (hS.2.2.2.2.2.2.2.2.1.wr hw), (hS.2.2.2.2.2.2.2.2.2.1.wr hw), (hS.2.2.2.2.2.2.2.2.2.2.1.wr hw), (Nat.le_trans hS.2.2.2.2.2.2.2.2.2.2.2 hw.apart.size)⟩ ⟨g, b3, a3, n3, c3, d3, m3, o3, ev, er, hg, hq⟩
       ·have e7 := isOf hp.1
        simp only [e7] at hKO
        go_simp
        exact hKO _ W (Ext.refl W) rfl
      intro vs W26 hS hp
      clear szw26 E0 p3 p4 hy0 hz0 zq zr k2 k3 k4 zc
      obtain ⟨E0, p3, p4, hy0, hz0, zq, zr, k2, k3, k4, zc, sz26⟩ := hS
      obtain ⟨h26_0, h26_1, h26_2, h26_3, h26_4, h26_5, h26_6, h26_7, h26_8, h26_9, h26_10, -⟩ := hp
      obtain ⟨g26_9, b26_9, a26_9, n26_9, c26_9, d26_9, m26_9, o26_9, ev26_9, er26_9, hg26_9, p26_9⟩ := h26_9
      replace ev26_9 : vs 8 = _ := ev26_9
      replace er26_9 : vs 6 = _ := er26_9
      replace h26_6 := (show Rw W26 (vs 6) (mkRat y Q) from h26_6)
      rw [er26_9] at h26_6
      replace h26_0 : vs 0 = .pointer (some ⟨w.heap.size, 0, none⟩) := h26_0
      replace h26_1 : vs 1 = .agg #[.bool b0, .slice a0 n0 c0] := h26_1
      replace h26_2 : vs 2 = .pointer (some ⟨w.heap.size + 1, 0, none⟩) := h26_2
      replace h26_3 : vs 3 = .slice a2 n2 c2 := h26_3
      replace h26_7 : vs 7 = .int .i64 0 := h26_7
      replace h26_10 : vs 10 = .int .i64 0 := h26_10
      simp only [ev26_9, er26_9, h26_0, h26_1, h26_2, h26_3, h26_7, h26_10]
      clear ev26_9 er26_9 h26_0 h26_1 h26_2 h26_3 h26_7 h26_10 h26_4 h26_5 h26_8
      have kp3_0 := p3.cell 0 (v := .bool b0) rfl
      have kp3_1 := p3.cell 1 (v := .slice a0 n0 c0) rfl
      have kp3_2 := p3.cell 2 (v := .bool b1) rfl
      have kp3_3 := p3.cell 3 (v := .slice a1 n1 c1) rfl
      have kp4_0 := p4.cell0
      have kp4_1 := p4.cell1
      have kp26_9_0 := p26_9.cell0
      have kp26_9_1 := p26_9.cell1
      have kp26_9_2 := p26_9.cell2
      go_upto_region 9 with (fail)
      clear kp3_0 kp3_1 kp3_2 kp3_3 kp4_0 kp4_1 kp26_9_0 kp26_9_1 kp26_9_2
      have ltp26_9 := p26_9.lt
      have szw27 := Ext.size E0
      refine region_go [.one fun v _ => v = .pointer (some ⟨w.heap.size, 2, none⟩),
        .one fun v _ => v = .agg #[.bool b1, .slice a1 n1 c1],
        .one fun v _ => v = .pointer (some ⟨w.heap.size + 1, 1, none⟩),
        .one fun v _ => v = .slice a3 n3 c3,
        .one fun v W => ∃ v', v = .tuple #[v', .int .i64 0] ∧ (fun v W => Rw W v (mkRat z R)) v' W,
        .one fun v W => ∃ v', v = .tuple #[v', .int .i64 0] ∧ (fun v W => Rw W v (mkRat z R)) v' W,
        .one fun v W => Rw W v (mkRat z R),
        .one fun v _ => v = .int .i64 0,
        .one fun v W => ∃ g, v = .pointer (some ⟨g, 0, none⟩) ∧ W26.heap.size ≤ g ∧ Form W g 27 3,
        .three 8 6 (fun p r _ W => Put3 W26.heap.size 27 p r W),
        .one fun v _ => v = .int .i64 0]
       (fun W => Ext w W ∧ BxA W w.heap.size 58 #[.bool b0, .slice a0 n0 c0, .bool b1, .slice a1 n1 c1] ∧ Bx2 W (w.heap.size + 1) 59 (.slice a2 n2 c2) (.slice a3 n3 c3) ∧ Zw W (.agg #[.bool b0, .slice a0 n0 c0]) y ∧ Zw W (.agg #[.bool b1, .slice a1 n1 c1]) z ∧ Zw W (.agg #[.bool false, .slice a2 n2 c2]) ((Q : Int)) ∧ Zw W (.agg #[.bool false, .slice a3 n3 c3]) ((R : Int)) ∧ Nw W (.slice a2 n2 c2) Q ∧ Nw W (.slice a3 n3 c3) R ∧ Nw W (.slice a4 n4 c4) C ∧ Zw W (.agg #[.bool false, .slice a4 n4 c4]) ((C : Int)) ∧ Rw W (.agg #[.bool b26_9, .slice a26_9 n26_9 c26_9, .slice d26_9 m26_9 o26_9]) (mkRat y Q) ∧ Bx3 W g26_9 27 (.bool b26_9) (.slice a26_9 n26_9 c26_9) (.slice d26_9 m26_9 o26_9) ∧ W26.heap.size ≤ W.heap.size) ⟨Good.is _, Good.is _, Good.is _, Good.is _, (Good.rat _).tup _, (Good.rat _).tup _, Good.rat _, Good.is _, Good.box _ _ _, cert_put3, Good.is _, trivial⟩
       (fun W W1 hS hE => ⟨(Ext.trans hS.1 hE), (hS.2.1.ext hE), (hS.2.2.1.ext hE), (hS.2.2.2.1.ext hE), (hS.2.2.2.2.1.ext hE), (hS.2.2.2.2.2.1.ext hE), (hS.2.2.2.2.2.2.1.ext hE), (hS.2.2.2.2.2.2.2.1.ext hE), (hS.2.2.2.2.2.2.2.2.1.ext hE), (hS.2.2.2.2.2.2.2.2.2.1.ext hE), (hS.2.2.2.2.2.2.2.2.2.2.1.ext hE), (hS.2.2.2.2.2.2.2.2.2.2.2.1.ext hE), (hS.2.2.2.2.2.2.2.2.2.2.2.2.1.ext hE), (Nat.le_trans hS.2.2.2.2.2.2.2.2.2.2.2.2.2 (Ext.size hE))⟩) ⟨E0, p3, p4, hy0, hz0, zq, zr, k2, k3, k4, zc, h26_6, p26_9, Nat.le_refl _⟩ (by kernel_rfl) (by kernel_rfl) (by kernel_rfl) (by kernel_rfl) (A := ?A27) ?hA27 ?howe27 ?hfin27
      case hA27 =>
       intro vs
       simp only [putAll, Act.put, List.setIfInBounds_toArray, List.set_cons_zero, List.set_cons_succ, Nat.zero_add, Nat.reduceAdd]
       exact rfl
      case howe27 =>
       clear E0 p3 p4 hy0 hz0 zq zr k2 k3 k4 zc h26_6 p26_9
       intro hf
       refine ⟨owesE 0 [] hf rfl (by kernel_rfl) ?_, owesE 1 [0] hf rfl (by kernel_rfl) ?_, owesE 2 [] hf rfl (by kernel_rfl) ?_, owesE 3 [2] hf rfl (by kernel_rfl) ?_, owesE 4 [1, 3] hf rfl (by kernel_rfl) ?_, owesE 5 [4] hf rfl (by kernel_rfl) ?_, owesE 6 [5] hf rfl (by kernel_rfl) ?_, owesE 7 [5] hf rfl (by kernel_rfl) ?_, owesE 8 [] hf rfl (by kernel_rfl) ?_, owesW 9 [8, 6] hf rfl (by kernel_rfl) (by kernel_rfl) ?_, owesE 10 [7] hf rfl (by kernel_rfl) ?_, trivial⟩
       all_goals intro vs W hS hp hx KO hKO
       all_goals simp only [Act.put, List.setIfInBounds_toArray, List.set_cons_zero, List.set_cons_succ] at hKO
       ·go_simp
        exact hKO _ W (Ext.refl W) rfl
       ·have e0 := isOf hp.1
        simp only [e0] at hKO
        have fc2 := BxA.cell (hS.2.1) 2 (v := .bool b1) rfl
        have fc3 := BxA.cell (hS.2.1) 3 (v := .slice a1 n1 c1) rfl
        go_simp
        exact hKO _ W (Ext.refl W) rfl
       ·go_simp
        exact hKO _ W (Ext.refl W) rfl
       ·have e2 := isOf hp.1
        simp only [e2] at hKO
        have fc1 := hS.2.2.1.cell1
        go_simp
        exact hKO _ W (Ext.refl W) rfl
       ·have e1 := isOf hp.1
        have e3 := isOf hp.2.1
        simp only [e1, e3] at hKO
        go_simp
        refine (Try.ratMake (hS.2.2.2.2.1) (hS.2.2.2.2.2.2.2.2.1) S1.out sR.out (by omega) nR.out).mono ?_
        rintro e W1 ⟨v, rfl, hv, hE⟩
        exact hKO _ W1 hE ⟨_, rfl, hv⟩
       ·have q4 := hp.1
        obtain ⟨u, ev, hu⟩ := q4
        replace ev : vs 4 = _ := ev
        simp only [ev] at hKO
        go_simp
        exact hKO _ W (Ext.refl W) ⟨u, rfl, hu⟩
       ·have q5 := hp.1
        obtain ⟨u, ev, hu⟩ := q5
        replace ev : vs 5 = _ := ev
        simp only [ev] at hKO
        go_simp
        exact hKO _ W (Ext.refl W) hu
       ·have q5 := hp.1
        obtain ⟨u, ev, hu⟩ := q5
        replace ev : vs 5 = _ := ev
        simp only [ev] at hKO
        go_simp
        exact hKO _ W (Ext.refl W) rfl
       ·have hn := Bx3.new W 27 (.bool false) (.slice none 0 0) (.slice none 0 0)
        have hE := Ext.alloc1 W (.cells #[.bool false, .slice none 0 0, .slice none 0 0] 27)
        have hsz := hS.2.2.2.2.2.2.2.2.2.2.2.2.2
        go_simp
        exact hKO _ _ hE ⟨_, rfl, hsz, hn.form⟩
       ·have q8 := hp.1
        have q6 := hp.2.1
        obtain ⟨g, ev, hg, hf⟩ := q8
        replace ev : vs 8 = _ := ev
        obtain ⟨x0_0, x0_1, x0_2, hx, hno⟩ := hf.bx3
        have qr := q6
        obtain ⟨b3, a3, n3, c3, d3, m3, o3, er, -, -, -⟩ := qr
        replace er : vs 6 = _ := er
        have r0 := hx.froz0
        have t0 := hx.cell0
        have r1 := hx.froz1
        have t1 := hx.cell1
        have r2 := hx.froz2
        have t2 := hx.cell2
        have hw := Wr.set3 hx hno b3 a3 n3 c3 d3 m3 o3
        have hq := hx.set (.bool b3) (.slice a3 n3 c3) (.slice d3 m3 o3)
        simp only [ev, er] at hKO
        go_simp
        exact hKO _ _ hw ⟨(Ext.wr hS.1 hw (by omega)), (hS.2.1.wr hw (by omega)), (hS.2.2.1.wr hw (by omega)), (hS.2.2.2.1.wr hw), (hS.2.2.2.2.1.wr hw), (hS.2.2.2.2.2.1.wr hw), (hS.2.2.2.2.2.2.1.wr hw), (hS.2.2.2.2.2.2.2.1.wr hw), (hS.2.2.2.2.2.2.2.2.1.wr hw), (hS.2.2.2.2.2.2.2.2.2.1.wr hw), (hS.2.2.2.2.2.2.2.2.2.2.1.wr hw), (hS.2.2.2.2.2.2.2.2.2.2.2.1.wr hw), (hS.2.2.2.2.2.2.2.2.2.2.2.2.1.wr hw (by omega)), (Nat.le_trans hS.2.2.2.2.2.2.2.2.2.2.2.2.2 hw.apart.size)⟩ ⟨g, b3, a3, n3, c3, d3, m3, o3, ev, er, hg, hq⟩
       ·have e7 := isOf hp.1
        simp only [e7] at hKO
        go_simp
        exact hKO _ W (Ext.refl W) rfl
      intro vs W27 hS hp
      clear szw27 E0 p3 p4 hy0 hz0 zq zr k2 k3 k4 zc h26_6 p26_9
      obtain ⟨E0, p3, p4, hy0, hz0, zq, zr, k2, k3, k4, zc, h26_6, p26_9, sz27⟩ := hS
      obtain ⟨h27_0, h27_1, h27_2, h27_3, h27_4, h27_5, h27_6, h27_7, h27_8, h27_9, h27_10, -⟩ := hp
      obtain ⟨g27_9, b27_9, a27_9, n27_9, c27_9, d27_9, m27_9, o27_9, ev27_9, er27_9, hg27_9, p27_9⟩ := h27_9
      replace ev27_9 : vs 8 = _ := ev27_9
      replace er27_9 : vs 6 = _ := er27_9
      replace h27_6 := (show Rw W27 (vs 6) (mkRat z R) from h27_6)
      rw [er27_9] at h27_6
      replace h27_0 : vs 0 = .pointer (some ⟨w.heap.size, 2, none⟩) := h27_0
      replace h27_1 : vs 1 = .agg #[.bool b1, .slice a1 n1 c1] := h27_1
      replace h27_2 : vs 2 = .pointer (some ⟨w.heap.size + 1, 1, none⟩) := h27_2
      replace h27_3 : vs 3 = .slice a3 n3 c3 := h27_3
      replace h27_7 : vs 7 = .int .i64 0 := h27_7
      replace h27_10 : vs 10 = .int .i64 0 := h27_10
      simp only [ev27_9, er27_9, h27_0, h27_1, h27_2, h27_3, h27_7, h27_10]
      clear ev27_9 er27_9 h27_0 h27_1 h27_2 h27_3 h27_7 h27_10 h27_4 h27_5 h27_8
      have kp3_0 := p3.cell 0 (v := .bool b0) rfl
      have kp3_1 := p3.cell 1 (v := .slice a0 n0 c0) rfl
      have kp3_2 := p3.cell 2 (v := .bool b1) rfl
      have kp3_3 := p3.cell 3 (v := .slice a1 n1 c1) rfl
      have kp4_0 := p4.cell0
      have kp4_1 := p4.cell1
      have kp26_9_0 := p26_9.cell0
      have kp26_9_1 := p26_9.cell1
      have kp26_9_2 := p26_9.cell2
      have kp27_9_0 := p27_9.cell0
      have kp27_9_1 := p27_9.cell1
      have kp27_9_2 := p27_9.cell2
      go_upto_region 10 with (fail)
      clear kp3_0 kp3_1 kp3_2 kp3_3 kp4_0 kp4_1 kp26_9_0 kp26_9_1 kp26_9_2 kp27_9_0 kp27_9_1 kp27_9_2
      have ltp27_9 := p27_9.lt
      have szw28 := Ext.size E0
      refine region_go [.one fun v _ => v = .pointer (some ⟨w.heap.size, 0, none⟩),
        .one fun v _ => v = .agg #[.bool b0, .slice a0 n0 c0],
        .one fun v _ => v = .slice a4 n4 c4,
        .one fun v _ => v = .agg #[.bool false, .slice a4 n4 c4],
        .one fun v W => Zw W v yc,
        .one fun v _ => v = .pointer (some ⟨w.heap.size + 1, 0, none⟩),
        .one fun v _ => v = .slice a2 n2 c2,
        .one fun v _ => v = .slice a4 n4 c4,
        .one fun v W => Nw W v qc,
        .one fun v W => ∃ v', v = .tuple #[v', .int .i64 0] ∧ (fun v W => Rw W v (mkRat yc qc)) v' W,
        .one fun v W => ∃ v', v = .tuple #[v', .int .i64 0] ∧ (fun v W => Rw W v (mkRat yc qc)) v' W,
        .one fun v W => Rw W v (mkRat yc qc),
        .one fun v _ => v = .int .i64 0,
        .one fun v W => ∃ g, v = .pointer (some ⟨g, 0, none⟩) ∧ W27.heap.size ≤ g ∧ Form W g 27 3,
        .three 13 11 (fun p r _ W => Put3 W27.heap.size 27 p r W),
        .one fun v _ => v = .int .i64 0]
       (fun W => Ext w W ∧ BxA W w.heap.size 58 #[.bool b0, .slice a0 n0 c0, .bool b1, .slice a1 n1 c1] ∧ Bx2 W (w.heap.size + 1) 59 (.slice a2 n2 c2) (.slice a3 n3 c3) ∧ Zw W (.agg #[.bool b0, .slice a0 n0 c0]) y ∧ Zw W (.agg #[.bool b1, .slice a1 n1 c1]) z ∧ Zw W (.agg #[.bool false, .slice a2 n2 c2]) ((Q : Int)) ∧ Zw W (.agg #[.bool false, .slice a3 n3 c3]) ((R : Int)) ∧ Nw W (.slice a2 n2 c2) Q ∧ Nw W (.slice a3 n3 c3) R ∧ Nw W (.slice a4 n4 c4) C ∧ Zw W (.agg #[.bool false, .slice a4 n4 c4]) ((C : Int)) ∧ Rw W (.agg #[.bool b26_9, .slice a26_9 n26_9 c26_9, .slice d26_9 m26_9 o26_9]) (mkRat y Q) ∧ Bx3 W g26_9 27 (.bool b26_9) (.slice a26_9 n26_9 c26_9) (.slice d26_9 m26_9 o26_9) ∧ Rw W (.agg #[.bool b27_9, .slice a27_9 n27_9 c27_9, .slice d27_9 m27_9 o27_9]) (mkRat z R) ∧ Bx3 W g27_9 27 (.bool b27_9) (.slice a27_9 n27_9 c27_9) (.slice d27_9 m27_9 o27_9) ∧ W27.heap.size ≤ W.heap.size) ⟨Good.is _, Good.is _, Good.is _, Good.is _, Good.zed _, Good.is _, Good.is _, Good.is _, Good.num _, (Good.rat _).tup _, (Good.rat _).tup _, Good.rat _, Good.is _, Good.box _ _ _, cert_put3, Good.is _, trivial⟩
       (fun W W1 hS hE => ⟨(Ext.trans hS.1 hE), (hS.2.1.ext hE), (hS.2.2.1.ext hE), (hS.2.2.2.1.ext hE), (hS.2.2.2.2.1.ext hE), (hS.2.2.2.2.2.1.ext hE), (hS.2.2.2.2.2.2.1.ext hE), (hS.2.2.2.2.2.2.2.1.ext hE), (hS.2.2.2.2.2.2.2.2.1.ext hE), (hS.2.2.2.2.2.2.2.2.2.1.ext hE), (hS.2.2.2.2.2.2.2.2.2.2.1.ext hE), (hS.2.2.2.2.2.2.2.2.2.2.2.1.ext hE), (hS.2.2.2.2.2.2.2.2.2.2.2.2.1.ext hE), (hS.2.2.2.2.2.2.2.2.2.2.2.2.2.1.ext hE), (hS.2.2.2.2.2.2.2.2.2.2.2.2.2.2.1.ext hE), (Nat.le_trans hS.2.2.2.2.2.2.2.2.2.2.2.2.2.2.2 (Ext.size hE))⟩) ⟨E0, p3, p4, hy0, hz0, zq, zr, k2, k3, k4, zc, h26_6, p26_9, h27_6, p27_9, Nat.le_refl _⟩ (by kernel_rfl) (by kernel_rfl) (by kernel_rfl) (by kernel_rfl) (A := ?A28) ?hA28 ?howe28 ?hfin28
      case hA28 =>
       intro vs
       simp only [putAll, Act.put, List.setIfInBounds_toArray, List.set_cons_zero, List.set_cons_succ, Nat.zero_add, Nat.reduceAdd]
       exact rfl
      case howe28 =>
       clear E0 p3 p4 hy0 hz0 zq zr k2 k3 k4 zc h26_6 p26_9 h27_6 p27_9
       intro hf
       refine ⟨owesE 0 [] hf rfl (by kernel_rfl) ?_, owesE 1 [0] hf rfl (by kernel_rfl) ?_, owesE 2 [] hf rfl (by kernel_rfl) ?_, owesE 3 [2] hf rfl (by kernel_rfl) ?_, owesE 4 [1, 3] hf rfl (by kernel_rfl) ?_, owesE 5 [] hf rfl (by kernel_rfl) ?_, owesE 6 [5] hf rfl (by kernel_rfl) ?_, owesE 7 [] hf rfl (by kernel_rfl) ?_, owesE 8 [6, 7] hf rfl (by kernel_rfl) ?_, owesE 9 [4, 8] hf rfl (by kernel_rfl) ?_, owesE 10 [9] hf rfl (by kernel_rfl) ?_, owesE 11 [10] hf rfl (by kernel_rfl) ?_, owesE 12 [10] hf rfl (by kernel_rfl) ?_, owesE 13 [] hf rfl (by kernel_rfl) ?_, owesW 14 [13, 11] hf rfl (by kernel_rfl) (by kernel_rfl) ?_, owesE 15 [12] hf rfl (by kernel_rfl) ?_, trivial⟩
       all_goals intro vs W hS hp hx KO hKO
       all_goals simp only [Act.put, List.setIfInBounds_toArray, List.set_cons_zero, List.set_cons_succ] at hKO
       ·go_simp
        exact hKO _ W (Ext.refl W) rfl
       ·have e0 := isOf hp.1
        simp only [e0] at hKO
        have fc0 := BxA.cell (hS.2.1) 0 (v := .bool b0) rfl
        have fc1 := BxA.cell (hS.2.1) 1 (v := .slice a0 n0 c0) rfl
        go_simp
        exact hKO _ W (Ext.refl W) rfl
       ·go_simp
        exact hKO _ W (Ext.refl W) rfl
       ·have e2 := isOf hp.1
        simp only [e2] at hKO
        go_simp
        exact hKO _ W (Ext.refl W) rfl
       ·have e1 := isOf hp.1
        have e3 := isOf hp.2.1
        simp only [e1, e3] at hKO
        go_simp
        refine (Try.refZMul (hS.2.2.2.1) (hS.2.2.2.2.2.2.2.2.2.2.1) S0.out SCz.out (by omega)).mono ?_
        rintro e W1 ⟨v, rfl, hv, hE⟩
        rw [HYC.out] at hv
        exact hKO _ W1 hE hv
       ·go_simp
        exact hKO _ W (Ext.refl W) rfl
       ·have e5 := isOf hp.1
        simp only [e5] at hKO
        have fc0 := hS.2.2.1.cell0
        go_simp
        exact hKO _ W (Ext.refl W) rfl
       ·go_simp
        exact hKO _ W (Ext.refl W) rfl
       ·have e6 := isOf hp.1
        have e7 := isOf hp.2.1
        simp only [e6, e7] at hKO
        go_simp
        refine (Try.refMul (hS.2.2.2.2.2.2.2.1) (hS.2.2.2.2.2.2.2.2.2.2.1.num) sQ.out SC.out (by omega)).mono ?_
        rintro e W1 ⟨v, rfl, hv, hE, -⟩
        rw [Int.natAbs_natCast, HQC.out] at hv
        exact hKO _ W1 hE hv
       ·have q4 := hp.1
        have q8 := hp.2.1
        go_simp
        refine (Try.ratMake q4 q8 SY.out SQ.out (by omega) NQ.out).mono ?_
        rintro e W1 ⟨v, rfl, hv, hE⟩
        exact hKO _ W1 hE ⟨_, rfl, hv⟩
       ·have q9 := hp.1
        obtain ⟨u, ev, hu⟩ := q9
        replace ev : vs 9 = _ := ev
        simp only [ev] at hKO
        go_simp
        exact hKO _ W (Ext.refl W) ⟨u, rfl, hu⟩
       ·have q10 := hp.1
        obtain ⟨u, ev, hu⟩ := q10
        replace ev : vs 10 = _ := ev
        simp only [ev] at hKO
        go_simp
        exact hKO _ W (Ext.refl W) hu
       ·have q10 := hp.1
        obtain ⟨u, ev, hu⟩ := q10
        replace ev : vs 10 = _ := ev
        simp only [ev] at hKO
        go_simp
        exact hKO _ W (Ext.refl W) rfl
       ·have hn := Bx3.new W 27 (.bool false) (.slice none 0 0) (.slice none 0 0)
        have hE := Ext.alloc1 W (.cells #[.bool false, .slice none 0 0, .slice none 0 0] 27)
        have hsz := hS.2.2.2.2.2.2.2.2.2.2.2.2.2.2.2
        go_simp
        exact hKO _ _ hE ⟨_, rfl, hsz, hn.form⟩
       ·have q13 := hp.1
        have q11 := hp.2.1
        obtain ⟨g, ev, hg, hf⟩ := q13
        replace ev : vs 13 = _ := ev
        obtain ⟨x0_0, x0_1, x0_2, hx, hno⟩ := hf.bx3
        have qr := q11
        obtain ⟨b3, a3, n3, c3, d3, m3, o3, er, -, -, -⟩ := qr
        replace er : vs 11 = _ := er
        have r0 := hx.froz0
        have t0 := hx.cell0
        have r1 := hx.froz1
        have t1 := hx.cell1
        have r2 := hx.froz2
        have t2 := hx.cell2
        have hw := Wr.set3 hx hno b3 a3 n3 c3 d3 m3 o3
        have hq := hx.set (.bool b3) (.slice a3 n3 c3) (.slice d3 m3 o3)
        simp only [ev, er] at hKO
        go_simp
        exact hKO _ _ hw ⟨(Ext.wr hS.1 hw (by omega)), (hS.2.1.wr hw (by omega)), (hS.2.2.1.wr hw (by omega)), (hS.2.2.2.1.wr hw), (hS.2.2.2.2.1.wr hw), (hS.2.2.2.2.2.1.wr hw), (hS.2.2.2.2.2.2.1.wr hw), (hS.2.2.2.2.2.2.2.1.wr hw), (hS.2.2.2.2.2.2.2.2.1.wr hw), (hS.2.2.2.2.2.2.2.2.2.1.wr hw), (hS.2.2.2.2.2.2.2.2.2.2.1.wr hw), (hS.2.2.2.2.2.2.2.2.2.2.2.1.wr hw), (hS.2.2.2.2.2.2.2.2.2.2.2.2.1.wr hw (by omega)), (hS.2.2.2.2.2.2.2.2.2.2.2.2.2.1.wr hw), (hS.2.2.2.2.2.2.2.2.2.2.2.2.2.2.1.wr hw (by omega)), (Nat.le_trans hS.2.2.2.2.2.2.2.2.2.2.2.2.2.2.2 hw.apart.size)⟩ ⟨g, b3, a3, n3, c3, d3, m3, o3, ev, er, hg, hq⟩
       ·have e12 := isOf hp.1
        simp only [e12] at hKO
        go_simp
        exact hKO _ W (Ext.refl W) rfl
      intro vs W28 hS hp
      clear szw28 E0 p3 p4 hy0 hz0 zq zr k2 k3 k4 zc h26_6 p26_9 h27_6 p27_9
      obtain ⟨E0, p3, p4, hy0, hz0, zq, zr, k2, k3, k4, zc, h26_6, p26_9, h27_6, p27_9, sz28⟩ := hS
      obtain ⟨h28_0, h28_1, h28_2, h28_3, h28_4, h28_5, h28_6, h28_7, h28_8, h28_9, h28_10, h28_11, h28_12, h28_13, h28_14, h28_15, -⟩ := hp
      obtain ⟨g28_14, b28_14, a28_14, n28_14, c28_14, d28_14, m28_14, o28_14, ev28_14, er28_14, hg28_14, p28_14⟩ := h28_14
      replace ev28_14 : vs 13 = _ := ev28_14
      replace er28_14 : vs 11 = _ := er28_14
      replace h28_11 := (show Rw W28 (vs 11) (mkRat yc qc) from h28_11)
      rw [er28_14] at h28_11
      replace h28_0 : vs 0 = .pointer (some ⟨w.heap.size, 0, none⟩) := h28_0
      replace h28_1 : vs 1 = .agg #[.bool b0, .slice a0 n0 c0] := h28_1
      replace h28_2 : vs 2 = .slice a4 n4 c4 := h28_2
      replace h28_3 : vs 3 = .agg #[.bool false, .slice a4 n4 c4] := h28_3
      replace h28_5 : vs 5 = .pointer (some ⟨w.heap.size + 1, 0, none⟩) := h28_5
      replace h28_6 : vs 6 = .slice a2 n2 c2 := h28_6
      replace h28_7 : vs 7 = .slice a4 n4 c4 := h28_7
      replace h28_12 : vs 12 = .int .i64 0 := h28_12
      replace h28_15 : vs 15 = .int .i64 0 := h28_15
      simp only [ev28_14, er28_14, h28_0, h28_1, h28_2, h28_3, h28_5, h28_6, h28_7, h28_12, h28_15]
      replace h28_4 : Zw W28 (vs 4) yc := h28_4
      generalize vs 4 = u28_4 at h28_4 ⊢
      replace h28_8 : Nw W28 (vs 8) qc := h28_8
      generalize vs 8 = u28_8 at h28_8 ⊢
      clear ev28_14 er28_14 h28_0 h28_1 h28_2 h28_3 h28_5 h28_6 h28_7 h28_12 h28_15 h28_9 h28_10 h28_13
      have kp3_0 := p3.cell 0 (v := .bool b0) rfl
      have kp3_1 := p3.cell 1 (v := .slice a0 n0 c0) rfl
      have kp3_2 := p3.cell 2 (v := .bool b1) rfl
      have kp3_3 := p3.cell 3 (v := .slice a1 n1 c1) rfl
      have kp4_0 := p4.cell0
      have kp4_1 := p4.cell1
      have kp26_9_0 := p26_9.cell0
      have kp26_9_1 := p26_9.cell1
      have kp26_9_2 := p26_9.cell2
      have kp27_9_0 := p27_9.cell0
      have kp27_9_1 := p27_9.cell1
      have kp27_9_2 := p27_9.cell2
      have kp28_14_0 := p28_14.cell0
      have kp28_14_1 := p28_14.cell1
      have kp28_14_2 := p28_14.cell2
      go_upto_region 11 with (fail)
      clear kp3_0 kp3_1 kp3_2 kp3_3 kp4_0 kp4_1 kp26_9_0 kp26_9_1 kp26_9_2 kp27_9_0 kp27_9_1 kp27_9_2 kp28_14_0 kp28_14_1 kp28_14_2
      have ltp28_14 := p28_14.lt
      have szw29 := Ext.size E0
      refine region_go [.one fun v _ => v = .pointer (some ⟨w.heap.size, 0, none⟩),
        .one fun v _ => v = .agg #[.bool b0, .slice a0 n0 c0],
        .one fun v _ => v = .pointer (some ⟨w.heap.size + 1, 1, none⟩),
        .one fun v _ => v = .slice a3 n3 c3,
        .one fun v _ => v = .agg #[.bool false, .slice a3 n3 c3],
        .one fun v W => Zw W v (y * (R : Int)),
        .one fun v W => ∃ g, v = .pointer (some ⟨g, 0, none⟩) ∧ W28.heap.size ≤ g ∧ Form W g 25 2,
        .three 6 5 (fun p r _ W => Put2 W28.heap.size 25 p r W)]
       (fun W => Ext w W ∧ BxA W w.heap.size 58 #[.bool b0, .slice a0 n0 c0, .bool b1, .slice a1 n1 c1] ∧ Bx2 W (w.heap.size + 1) 59 (.slice a2 n2 c2) (.slice a3 n3 c3) ∧ Zw W (.agg #[.bool b0, .slice a0 n0 c0]) y ∧ Zw W (.agg #[.bool b1, .slice a1 n1 c1]) z ∧ Zw W (.agg #[.bool false, .slice a2 n2 c2]) ((Q : Int)) ∧ Zw W (.agg #[.bool false, .slice a3 n3 c3]) ((R : Int)) ∧ Nw W (.slice a2 n2 c2) Q ∧ Nw W (.slice a3 n3 c3) R ∧ Nw W (.slice a4 n4 c4) C ∧ Zw W (.agg #[.bool false, .slice a4 n4 c4]) ((C : Int)) ∧ Rw W (.agg #[.bool b26_9, .slice a26_9 n26_9 c26_9, .slice d26_9 m26_9 o26_9]) (mkRat y Q) ∧ Bx3 W g26_9 27 (.bool b26_9) (.slice a26_9 n26_9 c26_9) (.slice d26_9 m26_9 o26_9) ∧ Rw W (.agg #[.bool b27_9, .slice a27_9 n27_9 c27_9, .slice d27_9 m27_9 o27_9]) (mkRat z R) ∧ Bx3 W g27_9 27 (.bool b27_9) (.slice a27_9 n27_9 c27_9) (.slice d27_9 m27_9 o27_9) ∧ Rw W (.agg #[.bool b28_14, .slice a28_14 n28_14 c28_14, .slice d28_14 m28_14 o28_14]) (mkRat yc qc) ∧ Bx3 W g28_14 27 (.bool b28_14) (.slice a28_14 n28_14 c28_14) (.slice d28_14 m28_14 o28_14) ∧ Zw W u28_4 yc ∧ Nw W u28_8 qc ∧ W28.heap.size ≤ W.heap.size) ⟨Good.is _, Good.is _, Good.is _, Good.is _, Good.is _, Good.zed _, Good.box _ _ _, cert_put2, trivial⟩
       (fun W W1 hS hE => ⟨(Ext.trans hS.1 hE), (hS.2.1.ext hE), (hS.2.2.1.ext hE), (hS.2.2.2.1.ext hE), (hS.2.2.2.2.1.ext hE), (hS.2.2.2.2.2.1.ext hE), (hS.2.2.2.2.2.2.1.ext hE), (hS.2.2.2.2.2.2.2.1.ext hE), (hS.2.2.2.2.2.2.2.2.1.ext hE), (hS.2.2.2.2.2.2.2.2.2.1.ext hE), (hS.2.2.2.2.2.2.2.2.2.2.1.ext hE), (hS.2.2.2.2.2.2.2.2.2.2.2.1.ext hE), (hS.2.2.2.2.2.2.2.2.2.2.2.2.1.ext hE), (hS.2.2.2.2.2.2.2.2.2.2.2.2.2.1.ext hE), (hS.2.2.2.2.2.2.2.2.2.2.2.2.2.2.1.ext hE), (hS.2.2.2.2.2.2.2.2.2.2.2.2.2.2.2.1.ext hE), (hS.2.2.2.2.2.2.2.2.2.2.2.2.2.2.2.2.1.ext hE), (hS.2.2.2.2.2.2.2.2.2.2.2.2.2.2.2.2.2.1.ext hE), (hS.2.2.2.2.2.2.2.2.2.2.2.2.2.2.2.2.2.2.1.ext hE), (Nat.le_trans hS.2.2.2.2.2.2.2.2.2.2.2.2.2.2.2.2.2.2.2 (Ext.size hE))⟩) ⟨E0, p3, p4, hy0, hz0, zq, zr, k2, k3, k4, zc, h26_6, p26_9, h27_6, p27_9, h28_11, p28_14, h28_4, h28_8, Nat.le_refl _⟩ (by kernel_rfl) (by kernel_rfl) (by kernel_rfl) (by kernel_rfl) (A := ?A29) ?hA29 ?howe29 ?hfin29
      case hA29 =>
       intro vs
       simp only [putAll, Act.put, List.setIfInBounds_toArray, List.set_cons_zero, List.set_cons_succ, Nat.zero_add, Nat.reduceAdd]
       exact rfl
      case howe29 =>
       clear E0 p3 p4 hy0 hz0 zq zr k2 k3 k4 zc h26_6 p26_9 h27_6 p27_9 h28_11 p28_14 h28_4 h28_8
       intro hf
       refine ⟨owesE 0 [] hf rfl (by kernel_rfl) ?_, owesE 1 [0] hf rfl (by kernel_rfl) ?_, owesE 2 [] hf rfl (by kernel_rfl) ?_, owesE 3 [2] hf rfl (by kernel_rfl) ?_, owesE 4 [3] hf rfl (by kernel_rfl) ?_, owesE 5 [1, 4] hf rfl (by kernel_rfl) ?_, owesE 6 [] hf rfl (by kernel_rfl) ?_, owesW 7 [6, 5] hf rfl (by kernel_rfl) (by kernel_rfl) ?_, trivial⟩
       all_goals intro vs W hS hp hx KO hKO
       all_goals simp only [Act.put, List.setIfInBounds_toArray, List.set_cons_zero, List.set_cons_succ] at hKO
       ·go_simp
        exact hKO _ W (Ext.refl W) rfl
       ·have e0 := isOf hp.1
        simp only [e0] at hKO
        have fc0 := BxA.cell (hS.2.1) 0 (v := .bool b0) rfl
        have fc1 := BxA.cell (hS.2.1) 1 (v := .slice a0 n0 c0) rfl
        go_simp
        exact hKO _ W (Ext.refl W) rfl
       ·go_simp
        exact hKO _ W (Ext.refl W) rfl
       ·have e2 := isOf hp.1
        simp only [e2] at hKO
        have fc1 := hS.2.2.1.cell1
        go_simp
        exact hKO _ W (Ext.refl W) rfl
       ·have e3 := isOf hp.1
        simp only [e3] at hKO
        go_simp
        exact hKO _ W (Ext.refl W) rfl
       ·have e1 := isOf hp.1
        have e4 := isOf hp.2.1
        simp only [e1, e4] at hKO
        go_simp
        refine (Try.refZMul (hS.2.2.2.1) (hS.2.2.2.2.2.2.1) S0.out SRz.out (by omega)).mono ?_
        rintro e W1 ⟨v, rfl, hv, hE⟩
        exact hKO _ W1 hE hv
       ·have hn := Bx2.new W 25 (.bool false) (.slice none 0 0)
        have hE := Ext.alloc1 W (.cells #[.bool false, .slice none 0 0] 25)
        have hsz := hS.2.2.2.2.2.2.2.2.2.2.2.2.2.2.2.2.2.2.2
        go_simp
        exact hKO _ _ hE ⟨_, rfl, hsz, hn.form⟩
       ·have q6 := hp.1
        have q5 := hp.2.1
        obtain ⟨g, ev, hg, hf⟩ := q6
        replace ev : vs 6 = _ := ev
        obtain ⟨x0_0, x0_1, hx, hno⟩ := hf.bx2
        have qr := q5
        obtain ⟨b3, a3, n3, c3, er, -, -⟩ := qr
        replace er : vs 5 = _ := er
        have r0 := hx.froz0
        have t0 := hx.cell0
        have r1 := hx.froz1
        have t1 := hx.cell1
        have hw := Wr.set2 hx hno b3 a3 n3 c3
        have hq := hx.set (.bool b3) (.slice a3 n3 c3)
        simp only [ev, er] at hKO
        go_simp
        exact hKO _ _ hw ⟨(Ext.wr hS.1 hw (by omega)), (hS.2.1.wr hw (by omega)), (hS.2.2.1.wr hw (by omega)), (hS.2.2.2.1.wr hw), (hS.2.2.2.2.1.wr hw), (hS.2.2.2.2.2.1.wr hw), (hS.2.2.2.2.2.2.1.wr hw), (hS.2.2.2.2.2.2.2.1.wr hw), (hS.2.2.2.2.2.2.2.2.1.wr hw), (hS.2.2.2.2.2.2.2.2.2.1.wr hw), (hS.2.2.2.2.2.2.2.2.2.2.1.wr hw), (hS.2.2.2.2.2.2.2.2.2.2.2.1.wr hw), (hS.2.2.2.2.2.2.2.2.2.2.2.2.1.wr hw (by omega)), (hS.2.2.2.2.2.2.2.2.2.2.2.2.2.1.wr hw), (hS.2.2.2.2.2.2.2.2.2.2.2.2.2.2.1.wr hw (by omega)), (hS.2.2.2.2.2.2.2.2.2.2.2.2.2.2.2.1.wr hw), (hS.2.2.2.2.2.2.2.2.2.2.2.2.2.2.2.2.1.wr hw (by omega)), (hS.2.2.2.2.2.2.2.2.2.2.2.2.2.2.2.2.2.1.wr hw), (hS.2.2.2.2.2.2.2.2.2.2.2.2.2.2.2.2.2.2.1.wr hw), (Nat.le_trans hS.2.2.2.2.2.2.2.2.2.2.2.2.2.2.2.2.2.2.2 hw.apart.size)⟩ ⟨g, b3, a3, n3, c3, ev, er, hg, hq⟩
      intro vs W29 hS hp
      clear szw29 E0 p3 p4 hy0 hz0 zq zr k2 k3 k4 zc h26_6 p26_9 h27_6 p27_9 h28_11 p28_14 h28_4 h28_8
      obtain ⟨E0, p3, p4, hy0, hz0, zq, zr, k2, k3, k4, zc, h26_6, p26_9, h27_6, p27_9, h28_11, p28_14, h28_4, h28_8, sz29⟩ := hS
      obtain ⟨h29_0, h29_1, h29_2, h29_3, h29_4, h29_5, h29_6, h29_7, -⟩ := hp
      obtain ⟨g29_7, b29_7, a29_7, n29_7, c29_7, ev29_7, er29_7, hg29_7, p29_7⟩ := h29_7
      replace ev29_7 : vs 6 = _ := ev29_7
      replace er29_7 : vs 5 = _ := er29_7
      replace h29_5 := (show Zw W29 (vs 5) (y * (R : Int)) from h29_5)
      rw [er29_7] at h29_5
      replace h29_0 : vs 0 = .pointer (some ⟨w.heap.size, 0, none⟩) := h29_0
      replace h29_1 : vs 1 = .agg #[.bool b0, .slice a0 n0 c0] := h29_1
      replace h29_2 : vs 2 = .pointer (some ⟨w.heap.size + 1, 1, none⟩) := h29_2
      replace h29_3 : vs 3 = .slice a3 n3 c3 := h29_3
      replace h29_4 : vs 4 = .agg #[.bool false, .slice a3 n3 c3] := h29_4
      simp only [ev29_7, er29_7, h29_0, h29_1, h29_2, h29_3, h29_4]
      clear ev29_7 er29_7 h29_0 h29_1 h29_2 h29_3 h29_4 h29_6
      have kp3_0 := p3.cell 0 (v := .bool b0) rfl
      have kp3_1 := p3.cell 1 (v := .slice a0 n0 c0) rfl
      have kp3_2 := p3.cell 2 (v := .bool b1) rfl
      have kp3_3 := p3.cell 3 (v := .slice a1 n1 c1) rfl
      have kp4_0 := p4.cell0
      have kp4_1 := p4.cell1
      have kp26_9_0 := p26_9.cell0
      have kp26_9_1 := p26_9.cell1
      have kp26_9_2 := p26_9.cell2
      have kp27_9_0 := p27_9.cell0
      have kp27_9_1 := p27_9.cell1
      have kp27_9_2 := p27_9.cell2
      have kp28_14_0 := p28_14.cell0
      have kp28_14_1 := p28_14.cell1
      have kp28_14_2 := p28_14.cell2
      have kp29_7_0 := p29_7.cell0
      have kp29_7_1 := p29_7.cell1
      go_upto_region 12 with (fail)
      clear kp3_0 kp3_1 kp3_2 kp3_3 kp4_0 kp4_1 kp26_9_0 kp26_9_1 kp26_9_2 kp27_9_0 kp27_9_1 kp27_9_2 kp28_14_0 kp28_14_1 kp28_14_2 kp29_7_0 kp29_7_1
      have ltp29_7 := p29_7.lt
      have szw30 := Ext.size E0
      refine region_go [.one fun v _ => v = .pointer (some ⟨w.heap.size, 2, none⟩),
        .one fun v _ => v = .agg #[.bool b1, .slice a1 n1 c1],
        .one fun v _ => v = .pointer (some ⟨w.heap.size + 1, 0, none⟩),
        .one fun v _ => v = .slice a2 n2 c2,
        .one fun v _ => v = .agg #[.bool false, .slice a2 n2 c2],
        .one fun v W => Zw W v (z * (Q : Int)),
        .one fun v W => ∃ g, v = .pointer (some ⟨g, 0, none⟩) ∧ W29.heap.size ≤ g ∧ Form W g 25 2,
        .three 6 5 (fun p r _ W => Put2 W29.heap.size 25 p r W)]
       (fun W => Ext w W ∧ BxA W w.heap.size 58 #[.bool b0, .slice a0 n0 c0, .bool b1, .slice a1 n1 c1] ∧ Bx2 W (w.heap.size + 1) 59 (.slice a2 n2 c2) (.slice a3 n3 c3) ∧ Zw W (.agg #[.bool b0, .slice a0 n0 c0]) y ∧ Zw W (.agg #[.bool b1, .slice a1 n1 c1]) z ∧ Zw W (.agg #[.bool false, .slice a2 n2 c2]) ((Q : Int)) ∧ Zw W (.agg #[.bool false, .slice a3 n3 c3]) ((R : Int)) ∧ Nw W (.slice a2 n2 c2) Q ∧ Nw W (.slice a3 n3 c3) R ∧ Nw W (.slice a4 n4 c4) C ∧ Zw W (.agg #[.bool false, .slice a4 n4 c4]) ((C : Int)) ∧ Rw W (.agg #[.bool b26_9, .slice a26_9 n26_9 c26_9, .slice d26_9 m26_9 o26_9]) (mkRat y Q) ∧ Bx3 W g26_9 27 (.bool b26_9) (.slice a26_9 n26_9 c26_9) (.slice d26_9 m26_9 o26_9) ∧ Rw W (.agg #[.bool b27_9, .slice a27_9 n27_9 c27_9, .slice d27_9 m27_9 o27_9]) (mkRat z R) ∧ Bx3 W g27_9 27 (.bool b27_9) (.slice a27_9 n27_9 c27_9) (.slice d27_9 m27_9 o27_9) ∧ Rw W (.agg #[.bool b28_14, .slice a28_14 n28_14 c28_14, .slice d28_14 m28_14 o28_14]) (mkRat yc qc) ∧ Bx3 W g28_14 27 (.bool b28_14) (.slice a28_14 n28_14 c28_14) (.slice d28_14 m28_14 o28_14) ∧ Zw W u28_4 yc ∧ Nw W u28_8 qc ∧ Zw W (.agg #[.bool b29_7, .slice a29_7 n29_7 c29_7]) (y * (R : Int)) ∧ Bx2 W g29_7 25 (.bool b29_7) (.slice a29_7 n29_7 c29_7) ∧ W29.heap.size ≤ W.heap.size) ⟨Good.is _, Good.is _, Good.is _, Good.is _, Good.is _, Good.zed _, Good.box _ _ _, cert_put2, trivial⟩
       (fun W W1 hS hE => ⟨(Ext.trans hS.1 hE), (hS.2.1.ext hE), (hS.2.2.1.ext hE), (hS.2.2.2.1.ext hE), (hS.2.2.2.2.1.ext hE), (hS.2.2.2.2.2.1.ext hE), (hS.2.2.2.2.2.2.1.ext hE), (hS.2.2.2.2.2.2.2.1.ext hE), (hS.2.2.2.2.2.2.2.2.1.ext hE), (hS.2.2.2.2.2.2.2.2.2.1.ext hE), (hS.2.2.2.2.2.2.2.2.2.2.1.ext hE), (hS.2.2.2.2.2.2.2.2.2.2.2.1.ext hE), (hS.2.2.2.2.2.2.2.2.2.2.2.2.1.ext hE), (hS.2.2.2.2.2.2.2.2.2.2.2.2.2.1.ext hE), (hS.2.2.2.2.2.2.2.2.2.2.2.2.2.2.1.ext hE), (hS.2.2.2.2.2.2.2.2.2.2.2.2.2.2.2.1.ext hE), (hS.2.2.2.2.2.2.2.2.2.2.2.2.2.2.2.2.1.ext hE), (hS.2.2.2.2.2.2.2.2.2.2.2.2.2.2.2.2.2.1.ext hE), (hS.2.2.2.2.2.2.2.2.2.2.2.2.2.2.2.2.2.2.1.ext hE), (hS.2.2.2.2.2.2.2.2.2.2.2.2.2.2.2.2.2.2.2.1.ext hE), (hS.2.2.2.2.2.2.2.2.2.2.2.2.2.2.2.2.2.2.2.2.1.ext hE), (Nat.le_trans hS.2.2.2.2.2.2.2.2.2.2.2.2.2.2.2.2.2.2.2.2.2 (Ext.size hE))⟩) ⟨E0, p3, p4, hy0, hz0, zq, zr, k2, k3, k4, zc, h26_6, p26_9, h27_6, p27_9, h28_11, p28_14, h28_4, h28_8, h29_5, p29_7, Nat.le_refl _⟩ (by kernel_rfl) (by kernel_rfl) (by kernel_rfl) (by kernel_rfl) (A := ?A30) ?hA30 ?howe30 ?hfin30
      case hA30 =>
       intro vs
       simp only [putAll, Act.put, List.setIfInBounds_toArray, List.set_cons_zero, List.set_cons_succ, Nat.zero_add, Nat.reduceAdd]
       exact rfl
      case howe30 =>
       clear E0 p3 p4 hy0 hz0 zq zr k2 k3 k4 zc h26_6 p26_9 h27_6 p27_9 h28_11 p28_14 h28_4 h28_8 h29_5 p29_7
       intro hf
       refine ⟨owesE 0 [] hf rfl (by kernel_rfl) ?_, owesE 1 [0] hf rfl (by kernel_rfl) ?_, owesE 2 [] hf rfl (by kernel_rfl) ?_, owesE 3 [2] hf rfl (by kernel_rfl) ?_, owesE 4 [3] hf rfl (by kernel_rfl) ?_, owesE 5 [1, 4] hf rfl (by kernel_rfl) ?_, owesE 6 [] hf rfl (by kernel_rfl) ?_, owesW 7 [6, 5] hf rfl (by kernel_rfl) (by kernel_rfl) ?_, trivial⟩
       all_goals intro vs W hS hp hx KO hKO
       all_goals simp only [Act.put, List.setIfInBounds_toArray, List.set_cons_zero, List.set_cons_succ] at hKO
       ·go_simp
        exact hKO _ W (Ext.refl W) rfl
       ·have e0 := isOf hp.1
        simp only [e0] at hKO
        have fc2 := BxA.cell (hS.2.1) 2 (v := .bool b1) rfl
        have fc3 := BxA.cell (hS.2.1) 3 (v := .slice a1 n1 c1) rfl
        go_simp
        exact hKO _ W (Ext.refl W) rfl
       ·go_simp
        exact hKO _ W (Ext.refl W) rfl
       ·have e2 := isOf hp.1
        simp only [e2] at hKO
        have fc0 := hS.2.2.1.cell0
        go_simp
        exact hKO _ W (Ext.refl W) rfl
       ·have e3 := isOf hp.1
        simp only [e3] at hKO
        go_simp
        exact hKO _ W (Ext.refl W) rfl
       ·have e1 := isOf hp.1
        have e4 := isOf hp.2.1
        simp only [e1, e4] at hKO
        go_simp
        refine (Try.refZMul (hS.2.2.2.2.1) (hS.2.2.2.2.2.1) S1.out SQz.out (by omega)).mono ?_
        rintro e W1 ⟨v, rfl, hv, hE⟩
        exact hKO _ W1 hE hv
       ·have hn := Bx2.new W 25 (.bool false) (.slice none 0 0)
        have hE := Ext.alloc1 W (.cells #[.bool false, .slice none 0 0] 25)
        have hsz := hS.2.2.2.2.2.2.2.2.2.2.2.2.2.2.2.2.2.2.2.2.2
        go_simp
        exact hKO _ _ hE ⟨_, rfl, hsz, hn.form⟩
       ·have q6 := hp.1
        have q5 := hp.2.1
        obtain ⟨g, ev, hg, hf⟩ := q6
        replace ev : vs 6 = _ := ev
        obtain ⟨x0_0, x0_1, hx, hno⟩ := hf.bx2
        have qr := q5
        obtain ⟨b3, a3, n3, c3, er, -, -⟩ := qr
        replace er : vs 5 = _ := er
        have r0 := hx.froz0
        have t0 := hx.cell0
        have r1 := hx.froz1
        have t1 := hx.cell1
        have hw := Wr.set2 hx hno b3 a3 n3 c3
        have hq := hx.set (.bool b3) (.slice a3 n3 c3)
        simp only [ev, er] at hKO
        go_simp
        exact hKO _ _ hw ⟨(Ext.wr hS.1 hw (by omega)), (hS.2.1.wr hw (by omega)), (hS.2.2.1.wr hw (by omega)), (hS.2.2.2.1.wr hw), (hS.2.2.2.2.1.wr hw), (hS.2.2.2.2.2.1.wr hw), (hS.2.2.2.2.2.2.1.wr hw), (hS.2.2.2.2.2.2.2.1.wr hw), (hS.2.2.2.2.2.2.2.2.1.wr hw), (hS.2.2.2.2.2.2.2.2.2.1.wr hw), (hS.2.2.2.2.2.2.2.2.2.2.1.wr hw), (hS.2.2.2.2.2.2.2.2.2.2.2.1.wr hw), (hS.2.2.2.2.2.2.2.2.2.2.2.2.1.wr hw (by omega)), (hS.2.2.2.2.2.2.2.2.2.2.2.2.2.1.wr hw), (hS.2.2.2.2.2.2.2.2.2.2.2.2.2.2.1.wr hw (by omega)), (hS.2.2.2.2.2.2.2.2.2.2.2.2.2.2.2.1.wr hw), (hS.2.2.2.2.2.2.2.2.2.2.2.2.2.2.2.2.1.wr hw (by omega)), (hS.2.2.2.2.2.2.2.2.2.2.2.2.2.2.2.2.2.1.wr hw), (hS.2.2.2.2.2.2.2.2.2.2.2.2.2.2.2.2.2.2.1.wr hw), (hS.2.2.2.2.2.2.2.2.2.2.2.2.2.2.2.2.2.2.2.1.wr hw), (hS.2.2.2.2.2.2.2.2.2.2.2.2.2.2.2.2.2.2.2.2.1.wr hw (by omega)), (Nat.le_trans hS.2.2.2.2.2.2.2.2.2.2.2.2.2.2.2.2.2.2.2.2.2 hw.apart.size)⟩ ⟨g, b3, a3, n3, c3, ev, er, hg, hq⟩
      intro vs W30 hS hp
      clear szw30 E0 p3 p4 hy0 hz0 zq zr k2 k3 k4 zc h26_6 p26_9 h27_6 p27_9 h28_11 p28_14 h28_4 h28_8 h29_5 p29_7
      obtain ⟨E0, p3, p4, hy0, hz0, zq, zr, k2, k3, k4, zc, h26_6, p26_9, h27_6, p27_9, h28_11, p28_14, h28_4, h28_8, h29_5, p29_7, sz30⟩ := hS
      obtain ⟨h30_0, h30_1, h30_2, h30_3, h30_4, h30_5, h30_6, h30_7, -⟩ := hp
      obtain ⟨g30_7, b30_7, a30_7, n30_7, c30_7, ev30_7, er30_7, hg30_7, p30_7⟩ := h30_7
      replace ev30_7 : vs 6 = _ := ev30_7
      replace er30_7 : vs 5 = _ := er30_7
      replace h30_5 := (show Zw W30 (vs 5) (z * (Q : Int)) from h30_5)
      rw [er30_7] at h30_5
      replace h30_0 : vs 0 = .pointer (some ⟨w.heap.size, 2, none⟩) := h30_0
      replace h30_1 : vs 1 = .agg #[.bool b1, .slice a1 n1 c1] := h30_1
      replace h30_2 : vs 2 = .pointer (some ⟨w.heap.size + 1, 0, none⟩) := h30_2
      replace h30_3 : vs 3 = .slice a2 n2 c2 := h30_3
      replace h30_4 : vs 4 = .agg #[.bool false, .slice a2 n2 c2] := h30_4
      simp only [ev30_7, er30_7, h30_0, h30_1, h30_2, h30_3, h30_4]
      clear ev30_7 er30_7 h30_0 h30_1 h30_2 h30_3 h30_4 h30_6
      have kp3_0 := p3.cell 0 (v := .bool b0) rfl
      have kp3_1 := p3.cell 1 (v := .slice a0 n0 c0) rfl
      have kp3_2 := p3.cell 2 (v := .bool b1) rfl
      have kp3_3 := p3.cell 3 (v := .slice a1 n1 c1) rfl
      have kp4_0 := p4.cell0
      have kp4_1 := p4.cell1
      have kp26_9_0 := p26_9.cell0
      have kp26_9_1 := p26_9.cell1
      have kp26_9_2 := p26_9.cell2
      have kp27_9_0 := p27_9.cell0
      have kp27_9_1 := p27_9.cell1
      have kp27_9_2 := p27_9.cell2
      have kp28_14_0 := p28_14.cell0
      have kp28_14_1 := p28_14.cell1
      have kp28_14_2 := p28_14.cell2
      have kp29_7_0 := p29_7.cell0
      have kp29_7_1 := p29_7.cell1
      have kp30_7_0 := p30_7.cell0
      have kp30_7_1 := p30_7.cell1
      go_upto_region 13 with (fail)
      clear kp3_0 kp3_1 kp3_2 kp3_3 kp4_0 kp4_1 kp26_9_0 kp26_9_1 kp26_9_2 kp27_9_0 kp27_9_1 kp27_9_2 kp28_14_0 kp28_14_1 kp28_14_2 kp29_7_0 kp29_7_1 kp30_7_0 kp30_7_1
      have ltp30_7 := p30_7.lt
      have szw31 := Ext.size E0
      refine region_go [.one fun v _ => v = .bool true,
        .one fun v _ => v = .bool true,
        .one fun v _ => v = .int .i64 0,
        .one fun v _ => v = .bool true,
        .one fun v _ => v = .bool true,
        .one fun v _ => v = .bool true,
        .one fun v _ => v = .int .i64 0,
        .one fun v _ => v = .bool true,
        .one fun v _ => v = .bool true,
        .one fun v _ => v = .bool true,
        .one fun v _ => v = .int .i64 0,
        .one fun v _ => v = .bool true,
        .one fun v _ => v = .bool true,
        .one fun v _ => v = .bool true,
        .one fun v _ => v = .agg #[.bool b26_9, .slice a26_9 n26_9 c26_9, .slice d26_9 m26_9 o26_9],
        .one fun v _ => v = .agg #[.bool b28_14, .slice a28_14 n28_14 c28_14, .slice d28_14 m28_14 o28_14],
        .one fun v _ => v = .bool true,
        .one fun v _ => v = .bool true,
        .one fun v _ => v = .bool true,
        .one fun v _ => v = .agg #[.bool b26_9, .slice a26_9 n26_9 c26_9, .slice d26_9 m26_9 o26_9],
        .one fun v _ => v = .agg #[.bool b27_9, .slice a27_9 n27_9 c27_9, .slice d27_9 m27_9 o27_9],
        .one fun v _ => v = .bool S,
        .one fun v _ => v = .agg #[.bool b29_7, .slice a29_7 n29_7 c29_7],
        .one fun v _ => v = .agg #[.bool b30_7, .slice a30_7 n30_7 c30_7],
        .one fun v _ => v = .bool S,
        .one fun v _ => v = .bool true,
        .one fun v _ => v = .bool true,
        .one fun v _ => v = .bool true]
       (fun W => Ext w W ∧ BxA W w.heap.size 58 #[.bool b0, .slice a0 n0 c0, .bool b1, .slice a1 n1 c1] ∧ Bx2 W (w.heap.size + 1) 59 (.slice a2 n2 c2) (.slice a3 n3 c3) ∧ Zw W (.agg #[.bool b0, .slice a0 n0 c0]) y ∧ Zw W (.agg #[.bool b1, .slice a1 n1 c1]) z ∧ Zw W (.agg #[.bool false, .slice a2 n2 c2]) ((Q : Int)) ∧ Zw W (.agg #[.bool false, .slice a3 n3 c3]) ((R : Int)) ∧ Nw W (.slice a2 n2 c2) Q ∧ Nw W (.slice a3 n3 c3) R ∧ Nw W (.slice a4 n4 c4) C ∧ Zw W (.agg #[.bool false, .slice a4 n4 c4]) ((C : Int)) ∧ Rw W (.agg #[.bool b26_9, .slice a26_9 n26_9 c26_9, .slice d26_9 m26_9 o26_9]) (mkRat y Q) ∧ Bx3 W g26_9 27 (.bool b26_9) (.slice a26_9 n26_9 c26_9) (.slice d26_9 m26_9 o26_9) ∧ Rw W (.agg #[.bool b27_9, .slice a27_9 n27_9 c27_9, .slice d27_9 m27_9 o27_9]) (mkRat z R) ∧ Bx3 W g27_9 27 (.bool b27_9) (.slice a27_9 n27_9 c27_9) (.slice d27_9 m27_9 o27_9) ∧ Rw W (.agg #[.bool b28_14, .slice a28_14 n28_14 c28_14, .slice d28_14 m28_14 o28_14]) (mkRat yc qc) ∧ Bx3 W g28_14 27 (.bool b28_14) (.slice a28_14 n28_14 c28_14) (.slice d28_14 m28_14 o28_14) ∧ Zw W u28_4 yc ∧ Nw W u28_8 qc ∧ Zw W (.agg #[.bool b29_7, .slice a29_7 n29_7 c29_7]) (y * (R : Int)) ∧ Bx2 W g29_7 25 (.bool b29_7) (.slice a29_7 n29_7 c29_7) ∧ Zw W (.agg #[.bool b30_7, .slice a30_7 n30_7 c30_7]) (z * (Q : Int)) ∧ Bx2 W g30_7 25 (.bool b30_7) (.slice a30_7 n30_7 c30_7) ∧ W30.heap.size ≤ W.heap.size) ⟨Good.is _, Good.is _, Good.is _, Good.is _, Good.is _, Good.is _, Good.is _, Good.is _, Good.is _, Good.is _, Good.is _, Good.is _, Good.is _, Good.is _, Good.is _, Good.is _, Good.is _, Good.is _, Good.is _, Good.is _, Good.is _, Good.is _, Good.is _, Good.is _, Good.is _, Good.is _, Good.is _, Good.is _, trivial⟩
       (fun W W1 hS hE => ⟨(Ext.trans hS.1 hE), (hS.2.1.ext hE), (hS.2.2.1.ext hE), (hS.2.2.2.1.ext hE), (hS.2.2.2.2.1.ext hE), (hS.2.2.2.2.2.1.ext hE), (hS.2.2.2.2.2.2.1.ext hE), (hS.2.2.2.2.2.2.2.1.ext hE), (hS.2.2.2.2.2.2.2.2.1.ext hE), (hS.2.2.2.2.2.2.2.2.2.1.ext hE), (hS.2.2.2.2.2.2.2.2.2.2.1.ext hE), (hS.2.2.2.2.2.2.2.2.2.2.2.1.ext hE), (hS.2.2.2.2.2.2.2.2.2.2.2.2.1.ext hE), (hS.2.2.2.2.2.2.2.2.2.2.2.2.2.1.ext hE), (hS.2.2.2.2.2.2.2.2.2.2.2.2.2.2.1.ext hE), (hS.2.2.2.2.2.2.2.2.2.2.2.2.2.2.2.1.ext hE), (hS.2.2.2.2.2.2.2.2.2.2.2.2.2.2.2.2.1.ext hE), (hS.2.2.2.2.2.2.2.2.2.2.2.2.2.2.2.2.2.1.ext hE), (hS.2.2.2.2.2.2.2.2.2.2.2.2.2.2.2.2.2.2.1.ext hE), (hS.2.2.2.2.2.2.2.2.2.2.2.2.2.2.2.2.2.2.2.1.ext hE), (hS.2.2.2.2.2.2.2.2.2.2.2.2.2.2.2.2.2.2.2.2.1.ext hE), (hS.2.2.2.2.2.2.2.2.2.2.2.2.2.2.2.2.2.2.2.2.2.1.ext hE), (hS.2.2.2.2.2.2.2.2.2.2.2.2.2.2.2.2.2.2.2.2.2.2.1.ext hE), (Nat.le_trans hS.2.2.2.2.2.2.2.2.2.2.2.2.2.2.2.2.2.2.2.2.2.2.2 (Ext.size hE))⟩) ⟨E0, p3, p4, hy0, hz0, zq, zr, k2, k3, k4, zc, h26_6, p26_9, h27_6, p27_9, h28_11, p28_14, h28_4, h28_8, h29_5, p29_7, h30_5, p30_7, Nat.le_refl _⟩ (by kernel_rfl) (by kernel_rfl) (by kernel_rfl) (by kernel_rfl) (A := ?A31) ?hA31 ?howe31 ?hfin31
      case hA31 =>
       intro vs
       simp only [putAll, Act.put, List.setIfInBounds_toArray, List.set_cons_zero, List.set_cons_succ, Nat.zero_add, Nat.reduceAdd]
       exact rfl
      case howe31 =>
       clear E0 p3 p4 hy0 hz0 zq zr k2 k3 k4 zc h26_6 p26_9 h27_6 p27_9 h28_11 p28_14 h28_4 h28_8 h29_5 p29_7 h30_5 p30_7
       intro hf
       refine ⟨owesE 0 [] hf rfl (by kernel_rfl) ?_, owesE 1 [0] hf rfl (by kernel_rfl) ?_, owesE 2 [1] hf rfl (by kernel_rfl) ?_, owesE 3 [1, 2] hf rfl (by kernel_rfl) ?_, owesE 4 [1, 3] hf rfl (by kernel_rfl) ?_, owesE 5 [4] hf rfl (by kernel_rfl) ?_, owesE 6 [5] hf rfl (by kernel_rfl) ?_, owesE 7 [5, 6] hf rfl (by kernel_rfl) ?_, owesE 8 [5, 7] hf rfl (by kernel_rfl) ?_, owesE 9 [8] hf rfl (by kernel_rfl) ?_, owesE 10 [9] hf rfl (by kernel_rfl) ?_, owesE 11 [9, 10] hf rfl (by kernel_rfl) ?_, owesE 12 [9, 11] hf rfl (by kernel_rfl) ?_, owesE 13 [12] hf rfl (by kernel_rfl) ?_, owesE 14 [13] hf rfl (by kernel_rfl) ?_, owesE 15 [13] hf rfl (by kernel_rfl) ?_, owesE 16 [13, 14, 15] hf rfl (by kernel_rfl) ?_, owesE 17 [13, 16] hf rfl (by kernel_rfl) ?_, owesE 18 [17] hf rfl (by kernel_rfl) ?_, owesE 19 [18] hf rfl (by kernel_rfl) ?_, owesE 20 [18] hf rfl (by kernel_rfl) ?_, owesE 21 [18, 19, 20] hf rfl (by kernel_rfl) ?_, owesE 22 [18] hf rfl (by kernel_rfl) ?_, owesE 23 [18] hf rfl (by kernel_rfl) ?_, owesE 24 [18, 22, 23] hf rfl (by kernel_rfl) ?_, owesE 25 [18, 21, 24] hf rfl (by kernel_rfl) ?_, owesE 26 [18, 25] hf rfl (by kernel_rfl) ?_, owesE 27 [26] hf rfl (by kernel_rfl) ?_, trivial⟩
       all_goals intro vs W hS hp hx KO hKO
       all_goals simp only [Act.put, List.setIfInBounds_toArray, List.set_cons_zero, List.set_cons_succ] at hKO
       ·go_simp
        refine (Try.alive05 _).mono ?_
        rintro e W1 ⟨rfl, hE⟩
        exact hKO _ W1 hE rfl
       ·have e0 := isOf hp.1
        simp only [e0] at hKO
        go_simp
        exact hKO _ W (Ext.refl W) rfl
       ·have e1 := isOf hp.1
        simp only [e1] at hKO
        go_simp
        exact hKO _ W (Ext.refl W) rfl
       ·have e1 := isOf hp.1
        have e2 := isOf hp.2.1
        simp only [e1, e2] at hKO
        go_simp
        exact hKO _ W (Ext.refl W) rfl
       ·have e1 := isOf hp.1
        have e3 := isOf hp.2.1
        simp only [e1, e3] at hKO
        go_simp
        exact hKO _ W (Ext.refl W) rfl
       ·have e4 := isOf hp.1
        simp only [e4] at hKO
        go_simp
        exact hKO _ W (Ext.refl W) rfl
       ·have e5 := isOf hp.1
        simp only [e5] at hKO
        go_simp
        exact hKO _ W (Ext.refl W) rfl
       ·have e5 := isOf hp.1
        have e6 := isOf hp.2.1
        simp only [e5, e6] at hKO
        go_simp
        exact hKO _ W (Ext.refl W) rfl
       ·have e5 := isOf hp.1
        have e7 := isOf hp.2.1
        simp only [e5, e7] at hKO
        go_simp
        exact hKO _ W (Ext.refl W) rfl
       ·have e8 := isOf hp.1
        simp only [e8] at hKO
        go_simp
        exact hKO _ W (Ext.refl W) rfl
       ·have e9 := isOf hp.1
        simp only [e9] at hKO
        go_simp
        exact hKO _ W (Ext.refl W) rfl
       ·have e9 := isOf hp.1
        have e10 := isOf hp.2.1
        simp only [e9, e10] at hKO
        go_simp
        exact hKO _ W (Ext.refl W) rfl
       ·have e9 := isOf hp.1
        have e11 := isOf hp.2.1
        simp only [e9, e11] at hKO
        go_simp
        exact hKO _ W (Ext.refl W) rfl
       ·have e12 := isOf hp.1
        simp only [e12] at hKO
        go_simp
        exact hKO _ W (Ext.refl W) rfl
       ·have e13 := isOf hp.1
        simp only [e13] at hKO
        have fc0 := hS.2.2.2.2.2.2.2.2.2.2.2.2.1.cell0
        have fc1 := hS.2.2.2.2.2.2.2.2.2.2.2.2.1.cell1
        have fc2 := hS.2.2.2.2.2.2.2.2.2.2.2.2.1.cell2
        go_simp
        exact hKO _ W (Ext.refl W) rfl
       ·have e13 := isOf hp.1
        simp only [e13] at hKO
        have fc0 := hS.2.2.2.2.2.2.2.2.2.2.2.2.2.2.2.2.1.cell0
        have fc1 := hS.2.2.2.2.2.2.2.2.2.2.2.2.2.2.2.2.1.cell1
        have fc2 := hS.2.2.2.2.2.2.2.2.2.2.2.2.2.2.2.2.1.cell2
        go_simp
        exact hKO _ W (Ext.refl W) rfl
       ·have e13 := isOf hp.1
        have e14 := isOf hp.2.1
        have e15 := isOf hp.2.2.1
        simp only [e13, e14, e15] at hKO
        go_simp
        refine (Try.refRSameT (hS.2.2.2.2.2.2.2.2.2.2.2.1) (hS.2.2.2.2.2.2.2.2.2.2.2.2.2.2.2.1) EM.out).mono ?_
        rintro e W1 ⟨rfl, hE⟩
        exact hKO _ W1 hE rfl
       ·have e13 := isOf hp.1
        have e16 := isOf hp.2.1
        simp only [e13, e16] at hKO
        go_simp
        exact hKO _ W (Ext.refl W) rfl
       ·have e17 := isOf hp.1
        simp only [e17] at hKO
        go_simp
        exact hKO _ W (Ext.refl W) rfl
       ·have e18 := isOf hp.1
        simp only [e18] at hKO
        have fc0 := hS.2.2.2.2.2.2.2.2.2.2.2.2.1.cell0
        have fc1 := hS.2.2.2.2.2.2.2.2.2.2.2.2.1.cell1
        have fc2 := hS.2.2.2.2.2.2.2.2.2.2.2.2.1.cell2
        go_simp
        exact hKO _ W (Ext.refl W) rfl
       ·have e18 := isOf hp.1
        simp only [e18] at hKO
        have fc0 := hS.2.2.2.2.2.2.2.2.2.2.2.2.2.2.1.cell0
        have fc1 := hS.2.2.2.2.2.2.2.2.2.2.2.2.2.2.1.cell1
        have fc2 := hS.2.2.2.2.2.2.2.2.2.2.2.2.2.2.1.cell2
        go_simp
        exact hKO _ W (Ext.refl W) rfl
       ·have e18 := isOf hp.1
        have e19 := isOf hp.2.1
        have e20 := isOf hp.2.2.1
        simp only [e18, e19, e20] at hKO
        go_simp
        refine (Try.refRSame (hS.2.2.2.2.2.2.2.2.2.2.2.1) (hS.2.2.2.2.2.2.2.2.2.2.2.2.2.1)).mono ?_
        rintro e W1 ⟨rfl, hE⟩
        rw [HS.out]
        exact hKO _ W1 hE rfl
       ·have e18 := isOf hp.1
        simp only [e18] at hKO
        have fc0 := hS.2.2.2.2.2.2.2.2.2.2.2.2.2.2.2.2.2.2.2.2.1.cell0
        have fc1 := hS.2.2.2.2.2.2.2.2.2.2.2.2.2.2.2.2.2.2.2.2.1.cell1
        go_simp
        exact hKO _ W (Ext.refl W) rfl
       ·have e18 := isOf hp.1
        simp only [e18] at hKO
        have fc0 := hS.2.2.2.2.2.2.2.2.2.2.2.2.2.2.2.2.2.2.2.2.2.2.1.cell0
        have fc1 := hS.2.2.2.2.2.2.2.2.2.2.2.2.2.2.2.2.2.2.2.2.2.2.1.cell1
        go_simp
        exact hKO _ W (Ext.refl W) rfl
       ·have e18 := isOf hp.1
        have e22 := isOf hp.2.1
        have e23 := isOf hp.2.2.1
        simp only [e18, e22, e23] at hKO
        go_simp
        refine (Try.refZSame (hS.2.2.2.2.2.2.2.2.2.2.2.2.2.2.2.2.2.2.2.1) (hS.2.2.2.2.2.2.2.2.2.2.2.2.2.2.2.2.2.2.2.2.2.1)).mono ?_
        rintro e W1 ⟨rfl, hE⟩
        rw [HT.out]
        exact hKO _ W1 hE rfl
       ·have e18 := isOf hp.1
        have e21 := isOf hp.2.1
        have e24 := isOf hp.2.2.1
        simp only [e18, e21, e24] at hKO
        go_simp
        exact hKO _ W (Ext.refl W) rfl
       ·have e18 := isOf hp.1
        have e25 := isOf hp.2.1
        simp only [e18, e25] at hKO
        go_simp
        exact hKO _ W (Ext.refl W) rfl
       ·have e26 := isOf hp.1
        simp only [e26] at hKO
        go_simp
        exact hKO _ W (Ext.refl W) rfl
      intro vs W31 hS hp
      clear szw31 E0 p3 p4 hy0 hz0 zq zr k2 k3 k4 zc h26_6 p26_9 h27_6 p27_9 h28_11 p28_14 h28_4 h28_8 h29_5 p29_7 h30_5 p30_7
      obtain ⟨E0, p3, p4, hy0, hz0, zq, zr, k2, k3, k4, zc, h26_6, p26_9, h27_6, p27_9, h28_11, p28_14, h28_4, h28_8, h29_5, p29_7, h30_5, p30_7, sz31⟩ := hS
      obtain ⟨h31_0, h31_1, h31_2, h31_3, h31_4, h31_5, h31_6, h31_7, h31_8, h31_9, h31_10, h31_11, h31_12, h31_13, h31_14, h31_15, h31_16, h31_17, h31_18, h31_19, h31_20, h31_21, h31_22, h31_23, h31_24, h31_25, h31_26, h31_27, -⟩ := hp
      replace h31_0 : vs 0 = .bool true := h31_0
      replace h31_1 : vs 1 = .bool true := h31_1
      replace h31_2 : vs 2 = .int .i64 0 := h31_2
      replace h31_3 : vs 3 = .bool true := h31_3
      replace h31_4 : vs 4 = .bool true := h31_4
      replace h31_5 : vs 5 = .bool true := h31_5
      replace h31_6 : vs 6 = .int .i64 0 := h31_6
      replace h31_7 : vs 7 = .bool true := h31_7
      replace h31_8 : vs 8 = .bool true := h31_8
      replace h31_9 : vs 9 = .bool true := h31_9
      replace h31_10 : vs 10 = .int .i64 0 := h31_10
      replace h31_11 : vs 11 = .bool true := h31_11
      replace h31_12 : vs 12 = .bool true := h31_12
      replace h31_13 : vs 13 = .bool true := h31_13
      replace h31_14 : vs 14 = .agg #[.bool b26_9, .slice a26_9 n26_9 c26_9, .slice d26_9 m26_9 o26_9] := h31_14
      replace h31_15 : vs 15 = .agg #[.bool b28_14, .slice a28_14 n28_14 c28_14, .slice d28_14 m28_14 o28_14] := h31_15
      replace h31_16 : vs 16 = .bool true := h31_16
      replace h31_17 : vs 17 = .bool true := h31_17
      replace h31_18 : vs 18 = .bool true := h31_18
      replace h31_19 : vs 19 = .agg #[.bool b26_9, .slice a26_9 n26_9 c26_9, .slice d26_9 m26_9 o26_9] := h31_19
      replace h31_20 : vs 20 = .agg #[.bool b27_9, .slice a27_9 n27_9 c27_9, .slice d27_9 m27_9 o27_9] := h31_20
      replace h31_21 : vs 21 = .bool S := h31_21
      replace h31_22 : vs 22 = .agg #[.bool b29_7, .slice a29_7 n29_7 c29_7] := h31_22
      replace h31_23 : vs 23 = .agg #[.bool b30_7, .slice a30_7 n30_7 c30_7] := h31_23
      replace h31_24 : vs 24 = .bool S := h31_24
      replace h31_25 : vs 25 = .bool true := h31_25
      replace h31_26 : vs 26 = .bool true := h31_26
      replace h31_27 : vs 27 = .bool true := h31_27
      simp only [h31_0, h31_1, h31_2, h31_3, h31_4, h31_5, h31_6, h31_7, h31_8, h31_9, h31_10, h31_11, h31_12, h31_13, h31_14, h31_15, h31_16, h31_17, h31_18, h31_19, h31_20, h31_21, h31_22, h31_23, h31_24, h31_25, h31_26, h31_27]
      clear h31_0 h31_1 h31_2 h31_3 h31_4 h31_5 h31_6 h31_7 h31_8 h31_9 h31_10 h31_11 h31_12 h31_13 h31_14 h31_15 h31_16 h31_17 h31_18 h31_19 h31_20 h31_21 h31_22 h31_23 h31_24 h31_25 h31_26 h31_27
      have kp3_0 := p3.cell 0 (v := .bool b0) rfl
      have kp3_1 := p3.cell 1 (v := .slice a0 n0 c0) rfl
      have kp3_2 := p3.cell 2 (v := .bool b1) rfl
      have kp3_3 := p3.cell 3 (v := .slice a1 n1 c1) rfl
      have kp4_0 := p4.cell0
      have kp4_1 := p4.cell1
      have kp26_9_0 := p26_9.cell0
      have kp26_9_1 := p26_9.cell1
      have kp26_9_2 := p26_9.cell2
      have kp27_9_0 := p27_9.cell0
      have kp27_9_1 := p27_9.cell1
      have kp27_9_2 := p27_9.cell2
      have kp28_14_0 := p28_14.cell0
      have kp28_14_1 := p28_14.cell1
      have kp28_14_2 := p28_14.cell2
      have kp29_7_0 := p29_7.cell0
      have kp29_7_1 := p29_7.cell1
      have kp30_7_0 := p30_7.cell0
      have kp30_7_1 := p30_7.cell1
      go_wp2
      go_ret
      exact ⟨rfl, E0⟩

end Go.Rt
