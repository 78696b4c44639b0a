/-
 Rows of integers compared by definition; whether rows are few.
-/
import Derived.Test.YtfgmfhdcdhanbaaGreatSqz
import Derived.Test.YtfgmfhdcdhanbaaGreatAdamD
import Derived.Test.YtfgmfhdcdhanbaaGreatGS
import Derived.Test.YtfgmfhdcdhanbaaGreatBoxA
import Derived.Test.YtfgmfhdcdhanbaaGreatGG
import Derived.Test.YtfgmfhdcdhanbaaGreatGA
import Derived.ChangeKeysEq
import Derived.Test.YtfgmfhdcdhanbaaGreatOpenP
namespace Go.Rt
open Go Go.RowKit Go.Proofs

theorem atL_ext {l m : List Int} (h : l.length = m.length) (k : ∀ i, i < l.length → atL l i = atL m i) : l = m := by
 apply List.ext_getElem h
 intro i h1 h2
 have := k i h1
 rwa [atL_eq h1, atL_eq h2] at this

set_option maxRecDepth 100000 in
set_option maxHeartbeats 8000000 in
theorem Tryz.refSame09 {lo hi lo' hi' : Nat} {a a' : Option Addr} {n c n' c' : Nat} {l l' : List Int} {w : World} (h1 : Iw lo hi w a n c l) (h2 : Iw lo' hi' w a' n' c' l') :
  Calls Tryz.prog 9 #[.slice a n c, .slice a' n' c'] w fun e w' => e = .returned (.bool (decide (l = l'))) ∧ Ext w w' := by
 have hc := h1.cap
 have hl1 := h1.len
 have hl2 := h2.len
 have hn63 : n ≤ 9223372036854775807 := by omega
 have HL := Lib.hid (And.intro hl1 hl2)
 clear hc hl1 hl2
 by_cases hlen : n = n'
 ·subst hlen
  obtain ⟨W0, hW0⟩ : ∃ W0, W0 = w := ⟨_, rfl⟩
  have E0 : Ext w W0 := by rw [hW0]; exact Ext.refl w
  replace h1 : Iw lo hi W0 a n c (l) := h1.ext E0
  replace h2 : Iw lo' hi' W0 a' n c' (l') := h2.ext E0
  go_enter Tryz.func9, Tryz.ntmps9
  go_wp2_with fail
  try rw [← hW0]
  clear hW0
  go_loopw [5] (fun i wr => ∃ k : Nat, i = .int .i64 (k : Int) ∧ k ≤ n ∧ Hid (∀ j, j < k → atL l j = atL l' j) ∧ Ext w wr ∧ Iw lo hi wr a n c l ∧ Iw lo' hi' wr a' n c' l') (fun i _ => n - (intOf i).toNat)
  case atStart => exact ⟨0, rfl, by omega, Lib.hid (fun j hj => absurd hj (by omega)), E0, h1, h2⟩
  case round =>
   clear E0 h1 h2
   obtain ⟨k, rfl, hk, HA, E0, h1, h2⟩ := hrel
   by_cases hlt : k < n
   ·have hltI : (k : Int) < (n : Int) := by omega
    obtain ⟨ba, oa, rfl, -, -⟩ := h1.some (by omega)
    obtain ⟨bb, ob, rfl, -, -⟩ := h2.some (by omega)
    by_cases heq : atL l k = atL l' k
    ·have HEQ := Lib.hid heq
     clear heq
     have HNE : Hid ((atL l k != atL l' k) = false) := Lib.hid (by have := HEQ.out; simp_all)
     go_upto_region 6 with (fail)
     have szw1 := Ext.size E0
     refine region_gs [.one fun v _ => v = .slice (some ⟨ba, oa, none⟩) n c,
       .one fun v _ => v = .int .i64 (k : Int),
       .one fun v _ => v = .pointer (some ⟨ba, oa + k, none⟩),
       .one fun v _ => v = .int .i64 (atL l k),
       .one fun v _ => v = .slice (some ⟨bb, ob, none⟩) n c',
       .one fun v _ => v = .int .i64 (k : Int),
       .one fun v _ => v = .pointer (some ⟨bb, ob + k, none⟩),
       .one fun v _ => v = .int .i64 (atL l' k),
       .one fun v _ => v = .bool false]
      (fun W => Ext w W ∧ Iw lo hi W (some ⟨ba, oa, none⟩) n c (l) ∧ Iw lo' hi' W (some ⟨bb, ob, none⟩) n c' (l') ∧ wr.heap.size ≤ W.heap.size) ⟨Good.is _, Good.is _, Good.is _, Good.is _, Good.is _, Good.is _, Good.is _, Good.is _, Good.is _, trivial⟩
      ⟨E0, h1, h2, Nat.le_refl _⟩ (A := ?A1) ?hA1 ?howe1 ?hfin1
     case hA1 =>
      intro vs
      simp only [putAll, Act.put, sA, sZ, sS, Nat.zero_add, Nat.reduceAdd]
      exact rfl
     case howe1 =>
      clear E0 h1 h2
      intro hf
      refine ⟨oE 0 [] hf rfl ?_, oE 1 [] hf rfl ?_, oE 2 [0, 1] hf rfl ?_, oE 3 [2] hf rfl ?_, oE 4 [] hf rfl ?_, oE 5 [] hf rfl ?_, oE 6 [4, 5] hf rfl ?_, oE 7 [6] hf rfl ?_, oE 8 [3, 7] hf rfl ?_, trivial⟩
      all_goals intro vs W hS hp hx KO hKO
      all_goals simp only [Act.put, sA, sZ, sS] at hKO
      ·go_simp; exact hKO _ W (.refl W) rfl
      ·go_simp; exact hKO _ W (.refl W) rfl
      ·have e0 := isOf hp.1; have e1 := isOf hp.2.1; simp only [e0, e1] at hKO; go_simp; exact hKO _ W (.refl W) rfl
      ·have e2 := isOf hp.1; simp only [e2] at hKO
       have fc := Iw.cell (hS.2.1) (i := k) (by omega)
       go_simp; exact hKO _ W (.refl W) rfl
      ·go_simp; exact hKO _ W (.refl W) rfl
      ·go_simp; exact hKO _ W (.refl W) rfl
      ·have e4 := isOf hp.1; have e5 := isOf hp.2.1; simp only [e4, e5] at hKO; go_simp; exact hKO _ W (.refl W) rfl
      ·have e6 := isOf hp.1; simp only [e6] at hKO
       have fc := Iw.cell (hS.2.2.1) (i := k) (by omega)
       go_simp; exact hKO _ W (.refl W) rfl
      ·have e3 := isOf hp.1; have e7 := isOf hp.2.1; simp only [e3, e7] at hKO; go_simp; exact hKO _ W (Ext.refl W) (by first | rfl | exact congrArg Value.bool HNE.out)
     intro vs W1 hS hp
     clear szw1 E0 h1 h2
     obtain ⟨E0, h1, h2, sz1⟩ := hS
     obtain ⟨h1_0, h1_1, h1_2, h1_3, h1_4, h1_5, h1_6, h1_7, h1_8, -⟩ := hp
     replace h1_0 : vs 0 = .slice (some ⟨ba, oa, none⟩) n c := h1_0
     replace h1_1 : vs 1 = .int .i64 (k : Int) := h1_1
     replace h1_2 : vs 2 = .pointer (some ⟨ba, oa + k, none⟩) := h1_2
     replace h1_3 : vs 3 = .int .i64 (atL l k) := h1_3
     replace h1_4 : vs 4 = .slice (some ⟨bb, ob, none⟩) n c' := h1_4
     replace h1_5 : vs 5 = .int .i64 (k : Int) := h1_5
     replace h1_6 : vs 6 = .pointer (some ⟨bb, ob + k, none⟩) := h1_6
     replace h1_7 : vs 7 = .int .i64 (atL l' k) := h1_7
     replace h1_8 : vs 8 = .bool false := h1_8
     simp only [h1_0, h1_1, h1_2, h1_3, h1_4, h1_5, h1_6, h1_7, h1_8]
     clear h1_0 h1_1 h1_2 h1_3 h1_4 h1_5 h1_6 h1_7 h1_8; go_wp2
     go_roundw
     case rel => exact ⟨k + 1, by go_num, by omega, Lib.hid (grow_all HA.out HEQ.out), E0, h1, h2⟩
     case measure => simp [intOf]; omega
    ·have HEQ := Lib.hid heq
     clear heq
     have HNE : Hid ((atL l k != atL l' k) = true) := Lib.hid (by have := HEQ.out; simp_all)
     go_upto_region 6 with (fail)
     have szw2 := Ext.size E0
     refine region_gs [.one fun v _ => v = .slice (some ⟨ba, oa, none⟩) n c,
       .one fun v _ => v = .int .i64 (k : Int),
       .one fun v _ => v = .pointer (some ⟨ba, oa + k, none⟩),
       .one fun v _ => v = .int .i64 (atL l k),
       .one fun v _ => v = .slice (some ⟨bb, ob, none⟩) n c',
       .one fun v _ => v = .int .i64 (k : Int),
       .one fun v _ => v = .pointer (some ⟨bb, ob + k, none⟩),
       .one fun v _ => v = .int .i64 (atL l' k),
       .one fun v _ => v = .bool true]
      (fun W => Ext w W ∧ Iw lo hi W (some ⟨ba, oa, none⟩) n c (l) ∧ Iw lo' hi' W (some ⟨bb, ob, none⟩) n c' (l') ∧ wr.heap.size ≤ W.heap.size) ⟨Good.is _, Good.is _, Good.is _, Good.is _, Good.is _, Good.is _, Good.is _, Good.is _, Good.is _, trivial⟩
      ⟨E0, h1, h2, Nat.le_refl _⟩ (A := ?A2) ?hA2 ?howe2 ?hfin2
     case hA2 =>
      intro vs
      simp only [putAll, Act.put, sA, sZ, sS, Nat.zero_add, Nat.reduceAdd]
      exact rfl
     case howe2 =>
      clear E0 h1 h2
      intro hf
      refine ⟨oE 0 [] hf rfl ?_, oE 1 [] hf rfl ?_, oE 2 [0, 1] hf rfl ?_, oE 3 [2] hf rfl ?_, oE 4 [] hf rfl ?_, oE 5 [] hf rfl ?_, oE 6 [4, 5] hf rfl ?_, oE 7 [6] hf rfl ?_, oE 8 [3, 7] hf rfl ?_, trivial⟩
      all_goals intro vs W hS hp hx KO hKO
      all_goals simp only [Act.put, sA, sZ, sS] at hKO
      ·go_simp; exact hKO _ W (.refl W) rfl
      ·go_simp; exact hKO _ W (.refl W) rfl
      ·have e0 := isOf hp.1; have e1 := isOf hp.2.1; simp only [e0, e1] at hKO; go_simp; exact hKO _ W (.refl W) rfl
      ·have e2 := isOf hp.1; simp only [e2] at hKO
       have fc := Iw.cell (hS.2.1) (i := k) (by omega)
       go_simp; exact hKO _ W (.refl W) rfl
      ·go_simp; exact hKO _ W (.refl W) rfl
      ·go_simp; exact hKO _ W (.refl W) rfl
      ·have e4 := isOf hp.1; have e5 := isOf hp.2.1; simp only [e4, e5] at hKO; go_simp; exact hKO _ W (.refl W) rfl
      ·have e6 := isOf hp.1; simp only [e6] at hKO
       have fc := Iw.cell (hS.2.2.1) (i := k) (by omega)
       go_simp; exact hKO _ W (.refl W) rfl
      ·have e3 := isOf hp.1; have e7 := isOf hp.2.1; simp only [e3, e7] at hKO; go_simp; exact hKO _ W (Ext.refl W) (by first | rfl | exact congrArg Value.bool HNE.out)
     intro vs W2 hS hp
     clear szw2 E0 h1 h2
     obtain ⟨E0, h1, h2, sz2⟩ := hS
     obtain ⟨h2_0, h2_1, h2_2, h2_3, h2_4, h2_5, h2_6, h2_7, h2_8, -⟩ := hp
     replace h2_0 : vs 0 = .slice (some ⟨ba, oa, none⟩) n c := h2_0
     replace h2_1 : vs 1 = .int .i64 (k : Int) := h2_1
     replace h2_2 : vs 2 = .pointer (some ⟨ba, oa + k, none⟩) := h2_2
     replace h2_3 : vs 3 = .int .i64 (atL l k) := h2_3
     replace h2_4 : vs 4 = .slice (some ⟨bb, ob, none⟩) n c' := h2_4
     replace h2_5 : vs 5 = .int .i64 (k : Int) := h2_5
     replace h2_6 : vs 6 = .pointer (some ⟨bb, ob + k, none⟩) := h2_6
     replace h2_7 : vs 7 = .int .i64 (atL l' k) := h2_7
     replace h2_8 : vs 8 = .bool true := h2_8
     simp only [h2_0, h2_1, h2_2, h2_3, h2_4, h2_5, h2_6, h2_7, h2_8]
     clear h2_0 h2_1 h2_2 h2_3 h2_4 h2_5 h2_6 h2_7 h2_8
     have HR : Hid (decide (l = l') = false) := Lib.hid (decide_eq_false (fun h => HEQ.out (by rw [h])))
     go_wp2; go_ret
     exact ⟨ret_b HR.out.symm, E0⟩
   ·have hge : ¬ (k : Int) < (n : Int) := by omega
    have HR : Hid (decide (l = l') = true) := Lib.hid (decide_eq_true (atL_ext (by have := HL.out; omega) (fun i hi => HA.out i (by have := HL.out; omega))))
    clear h1 h2; go_wp2; go_ret
    exact ⟨ret_b HR.out.symm, E0⟩
 ·have hne : ((n : Int) != (n' : Int)) = true := bne_iff_ne.2 (by omega)
  have HR : Hid (decide (l = l') = false) := Lib.hid (decide_eq_false (fun h => hlen (by have := HL.out; rw [h] at this; omega)))
  clear hlen h1 h2
  go_enter Tryz.func9, Tryz.ntmps9
  go_wp2; go_ret
  exact ⟨ret_b HR.out.symm, Ext.refl _⟩


end Go.Rt
