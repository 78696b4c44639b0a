/-
  A row clipped, and a norm, by the document; the program's answers in one.
-/
import Derived.Test.YtfgmfhdcdhanbaaGreatGU
namespace Go.Rt
open Go Go.RowKit Go.Proofs

theorem Tryz.refSameE {lo hi lo' hi' : Nat} {a a' : Option Addr} {n c n' c' : Nat} {l : List Int} {w : World} (h1 : Iz lo hi w a n c l) (h2 : Iz lo' hi' w a' n' c' l) :
  Calls Tryz.prog 9 #[.slice a n c, .slice a' n' c'] w fun e w' => e = .returned (.bool true) ∧ Ext w w' := by
  have := Tryz.refSameZ h1 h2
  rwa [decide_eq_true rfl] at this

/-- what clipping answers: its code, its row -/
def clipC (k : Int) : Int := if k < 0 then 1 else 0

def clipS (N : Nat) (k : Int) (l : List Int) : List Int := if k < 0 then [] else clipL N k.toNat l

theorem clipZ (w : World) (lo hi : Nat) : Iz lo hi w none 0 0 [] := .inr ⟨rfl, rfl, rfl⟩

theorem Tryz.clipAny {lo hh n c nn cn N : Nat} {a an : Option Addr} {l : List Int} {w : World} (k : Int) (hk : I64 k) (h : Iz lo hh w a n c l) (hn : n ≤ 1000) (sN : Sm 4 N) (hN : Nw w (.slice an nn cn) N) :
    Calls Tryz.prog 13 #[.slice a n c, .slice an nn cn, .int .i64 k] w fun e w' => ∃ a' n' c', e = .returned (.tuple #[.slice a' n' c', .int .i64 (clipC k)]) ∧ Iz w.heap.size w'.heap.size w' a' n' c' (clipS N k l) ∧ Ext w w' := by
  by_cases hk0 : k < 0
  · refine (Tryz.clipNo k hk0 w).mono ?_
    rintro e W ⟨rfl, hE⟩
    unfold clipC clipS
    rw [if_pos hk0, if_pos hk0]
    exact ⟨_, _, _, rfl, clipZ _ _ _, hE⟩
  · obtain ⟨m, rfl⟩ := Int.eq_ofNat_of_zero_le (show 0 ≤ k by omega)
    refine (Tryz.clipYes h hn (by unfold I64 at hk; omega) sN hN).mono ?_
    rintro e W ⟨a', c', rfl, hi, hE⟩
    unfold clipC clipS
    rw [if_neg hk0, if_neg hk0]
    exact ⟨_, _, _, rfl, .inl hi, hE⟩

set_option maxRecDepth 100000 in
set_option maxHeartbeats 4000000 in
theorem Tryz.refNorm16 {lo hh n c : Nat} {a : Option Addr} {ls : List (List Int)} {w : World} (h : Mw lo hh w a n c ls) (hL : ls.flatten.length ≤ 100) :
  Calls Tryz.prog 12 #[.slice a n c] w fun e w' => ∃ v', e = .returned v' ∧ Nw w' v' (rootU (sqs ls.flatten) 2) ∧ Ext w w' := by
 have HS : Hid (Sm 3 (sqs ls.flatten)) := Lib.hid (sqs_sm h.i64 (by omega))
 go_enter Tryz.func12, Tryz.ntmps12
 go_wp2_with fail
 refine (Tryz.refSquares16 h hL).mono ?_
 rintro e W1 ⟨v1, rfl, hq, E0⟩
 clear h
 go_wp2_with fail
 refine (Tryz.refUp hq HS.out (by omega) 2).mono ?_
 rintro e W2 ⟨v2, rfl, hu, hE⟩
 replace E0 := E0.trans hE
 clear hq hE
 go_wp2; go_ret
 exact ⟨_, rfl, hu, E0⟩

set_option maxRecDepth 100000 in
set_option maxHeartbeats 4000000 in
theorem Tryz.refClipNo {a an : Option Addr} {n c nn cn : Nat} (k : Int) (hk : k < 0) (w : World) :
    Calls Tryz.prog 14 #[.slice a n c, .slice an nn cn, .int .i64 k] w fun e w' => e = .returned (.tuple #[.slice none 0 0, .int .i64 1]) ∧ Ext w w' := by
  go_enter Tryz.func14, Tryz.ntmps14
  go_wp2
  go_ret2
  exact ⟨rfl, Ext.refl _⟩

set_option maxRecDepth 100000 in
set_option maxHeartbeats 8000000 in
theorem Tryz.refClipAll {lo hh n c nn cn m N : Nat} {a an : Option Addr} {l : List Int} {w : World} (h : Iz lo hh w a n c l) (hn : n ≤ 1000) (hm : m < 9223372036854775808) (hN : Nw w (.slice an nn cn) N) (hcut : cutB N m = true) :
    Calls Tryz.prog 14 #[.slice a n c, .slice an nn cn, .int .i64 (m : Int)] w fun e w' => ∃ a' c', e = .returned (.tuple #[.slice a' n c', .int .i64 0]) ∧ Iw w.heap.size w'.heap.size w' a' n c' (clipL N m l) ∧ Ext w w' := by
 have HNN := Lib.hid hn
 have HLN := Lib.hid h.len
 have HIN := Lib.hid h.in64
 have HM : Hid (-9223372036854775808 ≤ (m : Int) ∧ (m : Int) < 9223372036854775808) := Lib.hid (by omega)
 have hm0 : ¬ ((m : Int) < 0) := by omega
 have HC : Hid (clipL N m l = l) := Lib.hid (if_pos hcut)
 have HCC : Hid (m = 0 ∨ N ≤ m) := Lib.hid (of_decide_eq_true hcut)
 clear hn hm hcut
 go_enter Tryz.func14, Tryz.ntmps14
 go_wp2_with fail
 refine (Tryz.refZOf (m : Int) _ HM.out.1 HM.out.2).mono ?_
 rintro e W1 ⟨v1, rfl, hz, E0⟩
 obtain ⟨bz, az, nz, cz, rfl, -, hz⟩ := hz
 have hfz := Tryz.fieldZ bz az nz cz
 rw [show ((m : Int)).natAbs = m from rfl] at hz
 replace h := h.ext E0
 replace hN := hN.ext E0
 by_cases h0 : m = 0
 ·have h0I : (m : Int) = 0 := by omega
  have hsz : w.heap.size ≤ W1.heap.size := E0.size
  have hE : Ext W1 (W1.alloc (.cells #[] 2)) := Ext.alloc1 _ _
  have hown : OwnI (W1.alloc (.cells #[] 2)) w.heap.size 2 (.slice (some ⟨W1.heap.size, 0, none⟩) 0 0) [] := ownsRow_mono (ownsRow_empty W1 _) hsz
  have hsz2 : w.heap.size ≤ (W1.alloc (.cells #[] 2)).heap.size := Nat.le_trans hsz hE.size
  replace h := h.ext hE
  replace E0 := E0.trans hE
  have hlz : ([] : List Int).length + n ≤ 1099511627776 := by have := HNN.out; simp; omega
  clear hE hsz h0 hz hN
  go_wp2_with (at_builtin; go_loud (refine append_row Tryz.underlying28 Tryz.infoI rfl _ _ rfl w.heap.size _ [] l lo hh n c a (by rfl) (by rfl) hown h hlz hsz2 ?_); intro v3 W3 ho3 hg3 hat3)
  obtain ⟨a3, c3, rfl, hi⟩ := ho3.iw (by rw [List.nil_append]; exact HIN.out) (fun g hg => (ho3.block g hg).2)
  have E9 := E0.grown hg3 (fun q e => (hown.block q e).1)
  rw [List.nil_append] at hi
  have hln := HLN.out
  rw [hln] at hi
  go_ret2
  have hv : ([] ++ l).length = n := by rw [List.nil_append, hln]
  exact ⟨_, _, by rw [← hv]; rfl, by rw [HC.out]; exact hi, E9⟩
 ·have h0J : ¬ (m : Int) = 0 := by omega
  have h0I : ((m : Int) == 0) = false := by simp; omega
  have HLE : Hid (N ≤ m) := Lib.hid (by have := HCC.out; omega)
  clear h0
  go_wp2_with fail
  refine (Tryz.refCmpLe hN hz HLE.out).mono ?_
  rintro e W4 ⟨q, rfl, hq, hE⟩
  have hqd : decide (q ≤ 0) = true := decide_eq_true hq
  replace h := h.ext hE
  replace E0 := E0.trans hE
  clear hE hN hz hq
  have hsz : w.heap.size ≤ W4.heap.size := E0.size
  have hE : Ext W4 (W4.alloc (.cells #[] 2)) := Ext.alloc1 _ _
  have hown : OwnI (W4.alloc (.cells #[] 2)) w.heap.size 2 (.slice (some ⟨W4.heap.size, 0, none⟩) 0 0) [] := ownsRow_mono (ownsRow_empty W4 _) hsz
  have hsz2 : w.heap.size ≤ (W4.alloc (.cells #[] 2)).heap.size := Nat.le_trans hsz hE.size
  replace h := h.ext hE
  replace E0 := E0.trans hE
  have hlz : ([] : List Int).length + n ≤ 1099511627776 := by have := HNN.out; simp; omega
  clear hE hsz
  go_wp2_with (at_builtin; go_loud (refine append_row Tryz.underlying28 Tryz.infoI rfl _ _ rfl w.heap.size _ [] l lo hh n c a (by rfl) (by rfl) hown h hlz hsz2 ?_); intro v3 W3 ho3 hg3 hat3)
  obtain ⟨a3, c3, rfl, hi⟩ := ho3.iw (by rw [List.nil_append]; exact HIN.out) (fun g hg => (ho3.block g hg).2)
  have E9 := E0.grown hg3 (fun q e => (hown.block q e).1)
  rw [List.nil_append] at hi
  have hln := HLN.out
  rw [hln] at hi
  go_ret2
  have hv : ([] ++ l).length = n := by rw [List.nil_append, hln]
  exact ⟨_, _, by rw [← hv]; rfl, by rw [HC.out]; exact hi, E9⟩

/-- a number's quotient as a Zed -/
theorem clipZed {w : World} {b : Bool} {a : Option Addr} {n c N m : Nat} {x : Int} (hq : Nw w (.slice a n c) (x.natAbs * m / N)) (hb : b = decide (x < 0)) : Zw w (.agg #[.bool (if b = true then decide (0 < n) else false), .slice a n c]) (clipV N m x) := by
  have hl := hq.lenS.1
  refine ⟨_, _, _, _, rfl, Lib.hid ?_, by rw [clipV_abs]; exact hq⟩
  obtain ⟨q, hqq⟩ : ∃ q, q = x.natAbs * m / N := ⟨_, rfl⟩
  rw [← hqq] at hl
  rcases Int.lt_or_le x 0 with h | h
  · rw [hb, decide_eq_true h, if_pos rfl, clipV_neg h, ← hqq, Bool.eq_iff_iff, decide_eq_true_iff, decide_eq_true_iff]
    omega
  · rw [hb, decide_eq_false (by omega), if_neg (by decide), clipV_nonneg h, ← hqq]
    exact (decide_eq_false (by omega)).symm

set_option maxRecDepth 100000 in
set_option maxHeartbeats 8000000 in
theorem Tryz.refClipEach {lo hh n c nn cn m N : Nat} {a an : Option Addr} {l : List Int} {w : World} (h : Iz lo hh w a n c l) (hn : n ≤ 1000) (hm : m < 9223372036854775808) (sN : Sm 4 N) (hN : Nw w (.slice an nn cn) N) (hcut : cutB N m = false) :
    Calls Tryz.prog 14 #[.slice a n c, .slice an nn cn, .int .i64 (m : Int)] w fun e w' => ∃ a' c', e = .returned (.tuple #[.slice a' n c', .int .i64 0]) ∧ Iw w.heap.size w'.heap.size w' a' n c' (clipL N m l) ∧ Ext w w' := by
 have HNN := Lib.hid hn
 have HLN := Lib.hid h.len
 have HIN := Lib.hid h.in64
 have HSN := Lib.hid sN
 have HM : Hid (-9223372036854775808 ≤ (m : Int) ∧ (m : Int) < 9223372036854775808) := Lib.hid (by omega)
 have HSM : Hid (Sm 1 m) := Lib.hid (by unfold Sm; rw [B64_eq]; omega)
 have hm0 : ¬ ((m : Int) < 0) := by omega
 have HC : Hid (clipL N m l = l.map (clipV N m)) := Lib.hid (if_neg (by rw [hcut]; decide))
 obtain ⟨hc1, hc2⟩ := cutB_pos hcut
 have HCC : Hid (m < N ∧ N ≠ 0) := Lib.hid ⟨hc2, by omega⟩
 have h0J : ¬ (m : Int) = 0 := by omega
 have h0I : ((m : Int) == 0) = false := by simp; omega
 have hn63 : n ≤ 1000 := hn
 clear hn hm hcut hc1 hc2 sN
 go_enter Tryz.func14, Tryz.ntmps14
 go_wp2_with fail
 refine (Tryz.refZOf (m : Int) _ HM.out.1 HM.out.2).mono ?_
 rintro e W1 ⟨v1, rfl, hz, E0⟩
 obtain ⟨bz, az, nz, cz, rfl, -, hz⟩ := hz
 have hfz := Tryz.fieldZ bz az nz cz
 rw [show ((m : Int)).natAbs = m from rfl] at hz
 replace h := h.ext E0
 replace hN := hN.ext E0
 go_wp2_with fail
 refine (Tryz.refCmpGt hN hz HCC.out.1).mono ?_
 rintro e W4 ⟨rfl, hE⟩
 replace h := h.ext hE
 replace hN := hN.ext hE
 replace hz := hz.ext hE
 replace E0 := E0.trans hE
 clear hE hfz
 have HSZ : Hid (w.heap.size ≤ W4.heap.size) := Lib.hid E0.size
 obtain ⟨g0, hg0⟩ : ∃ g, g = W4.heap.size := ⟨_, rfl⟩
 obtain ⟨W5, hW5⟩ : ∃ W5, W5 = W4.alloc (.cells #[] 2) := ⟨_, rfl⟩
 have hE : Ext W4 W5 := by rw [hW5]; exact Ext.alloc1 _ _
 have hown : OwnI W5 g0 2 (.slice (some ⟨W4.heap.size, 0, none⟩) 0 0) [] := by rw [hW5, hg0]; exact ownsRow_empty W4 _
 rw [← hg0] at hown
 have HG := Lib.hid hg0
 go_wp2_with fail
 rw [← hW5, ← hg0]
 clear hW5 hg0
 go_loopw [9, 10] (fun s i wr => ∃ j : Nat, i = .int .i64 (j : Int) ∧ j ≤ n ∧ OwnI wr g0 2 s ((l.take j).map (clipV N m)) ∧ Ext W4 wr) (fun _ i _ => n - (intOf i).toNat)
 case atStart => exact ⟨0, rfl, by omega, hown, hE⟩
 case round =>
  clear hown hE
  obtain ⟨j, rfl, hj, hown, E2⟩ := hrel
  by_cases hlt : j < n
  ·have hltI : (j : Int) < (n : Int) := by omega
   have hj63 : (j : Int) < 9223372036854775807 := by omega
   have hi2 := (h.iw (by omega)).ext E2
   obtain ⟨b, o, rfl, -, -⟩ := hi2.some (by omega)
   have hc := hi2.cell hlt
   have HX : Hid (I64 (atL l j)) := Lib.hid (hi2.i64 hlt)
   have HK : Hid (j < l.length) := Lib.hid (by have := HLN.out; omega)
   have hN2 := hN.ext E2
   have hm2 := hz.ext E2
   obtain ⟨x, hx⟩ : ∃ x, x = atL l j := ⟨_, rfl⟩
   rw [← hx] at hc HX
   have HXX := Lib.hid hx
   have HSX : Hid (Sm 1 x.natAbs) := Lib.hid (by have := HX.out; unfold I64 at this; unfold Sm; rw [B64_eq]; omega)
   have HFV : Hid (fitV (clipV N m x) = clipV N m x) := Lib.hid (clipV_fits HCC.out.1 HX.out)
   clear hx hi2
   go_wp2_with fail
   refine (Tryz.refZOf x _ HX.out.1 HX.out.2).mono ?_
   rintro e W6 ⟨v6, rfl, hy, hE⟩
   obtain ⟨by', ay, ny, cy, rfl, hby, hy⟩ := hy
   replace hN2 := hN2.ext hE
   replace hm2 := hm2.ext hE
   replace hown := hown.ext hE
   replace E2 := E2.trans hE
   clear hE hc
   obtain ⟨W7, hW7⟩ : ∃ W7, W7 = W6.alloc (.cells #[.bool by', .slice ay ny cy] 42) := ⟨_, rfl⟩
   obtain ⟨g7, hg7⟩ : ∃ g, g = W6.heap.size := ⟨_, rfl⟩
   have p7 : Bx2 W7 g7 42 (.bool by') (.slice ay ny cy) := by rw [hW7, hg7]; exact Bx2.new _ _ _ _
   have hE : Ext W6 W7 := by rw [hW7]; exact Ext.alloc1 _ _
   replace hN2 := hN2.ext hE
   replace hm2 := hm2.ext hE
   replace hy := hy.ext hE
   replace hown := hown.ext hE
   replace E2 := E2.trans hE
   clear hE
   go_upto_region 11 with (fail)
   rw [← hW7, ← hg7]
   clear hW7 hg7
   have kp0 := p7.cell0
   have kp1 := p7.cell1
   go_wp2_with fail
   refine (Tryz.refMul hy hm2 HSX.out HSM.out (by omega)).mono ?_
   rintro e W8 ⟨v8, rfl, hp, hE, -⟩
   replace hN2 := hN2.ext hE
   replace hown := hown.ext hE
   replace p7 := p7.ext hE
   replace E2 := E2.trans hE
   clear hE hy kp0 kp1 hm2
   have HP : Hid (Sm 4 (x.natAbs * m)) := Lib.hid ((HSX.out.mul HSM.out).mono (by omega))
   go_wp2_with fail
   refine (Tryz.refDivMod hp hN2 HP.out HSN.out (by omega)).mono ?_
   rintro e W9 ⟨vq, vr, rfl, hq, -, hE, -, -⟩
   replace hown := hown.ext hE
   replace p7 := p7.ext hE
   replace E2 := E2.trans hE
   clear hE hp hN2
   obtain ⟨aq, nq, cq, rfl⟩ := Nw.slice hq
   have hzq := clipZed hq hby.out
   have kp0 := p7.cell0
   have kp1 := p7.cell1
   have hfin : ∀ W', Ext W9 W' → Zw W' (.agg #[.bool (if by' = true then decide (0 < nq) else false), .slice aq nq cq]) (clipV N m x) := fun W' e => hzq.ext e
   have HST : Hid ((l.take j).map (clipV N m) ++ [clipV N m x] = (l.take (j + 1)).map (clipV N m)) := Lib.hid (by rw [List.take_succ_eq_append_getElem HK.out, List.map_append, HXX.out, atL_eq HK.out]; rfl)
   have hlz : ((l.take j).map (clipV N m)).length ≤ 1099511627776 := by simp; omega
   obtain ⟨L, hL⟩ : ∃ L, L = (l.take j).map (clipV N m) := ⟨_, rfl⟩
   rw [← hL] at hown HST hlz
   clear hL
   clear hq hfin
   have hbb : by' = false ∨ (by' = true ∧ nq = 0) ∨ (by' = true ∧ 0 < nq) := by cases by' <;> simp <;> omega
   have HBB := Lib.hid hbb
   clear hbb hby
   rcases HBB.out with e1 | ⟨e1, e2⟩ | ⟨e1, e2⟩
   ·subst e1
    rw [show (if false = true then decide (0 < nq) else false) = false by rfl] at hzq
    go_wp2_with fail
    refine (Tryz.refZInt hzq).mono ?_
    rintro e W10 ⟨rfl, hE⟩
    rw [HFV.out]
    replace hown := hown.ext hE
    replace E2 := E2.trans hE
    have hgz : g0 ≤ W10.heap.size := by rw [HG.out]; exact E2.size
    clear hE hzq p7 kp0 kp1
    go_wp2_with (at_builtin; go_loud (refine append_i Tryz.underlying28 Tryz.infoI rfl _ _ rfl g0 _ L (clipV N m x) (by rfl) (by rfl) hown hlz hgz ?_); intro gq cc W11 ho4 hg4 hat4 hlt4)
    go_roundw
    case rel =>
     have E9 := (E2.trans (Ext.alloc1 W10 (.cells #[.int .i64 (clipV N m x)] 2))).grown hg4 (fun q e => by have h1 := (hown.block q e).1; have h2 := HG.out; omega)
     refine ⟨j + 1, by go_num, by omega, ?_, E9⟩
     rw [← HST.out]
     exact ho4
    case measure => simp [intOf]; omega
   ·subst e1
    subst e2
    rw [show (if true = true then decide (0 < 0) else false) = false by rfl] at hzq
    go_wp2_with fail
    refine (Tryz.refZInt hzq).mono ?_
    rintro e W10 ⟨rfl, hE⟩
    rw [HFV.out]
    replace hown := hown.ext hE
    replace E2 := E2.trans hE
    have hgz : g0 ≤ W10.heap.size := by rw [HG.out]; exact E2.size
    clear hE hzq p7 kp0 kp1
    go_wp2_with (at_builtin; go_loud (refine append_i Tryz.underlying28 Tryz.infoI rfl _ _ rfl g0 _ L (clipV N m x) (by rfl) (by rfl) hown hlz hgz ?_); intro gq cc W11 ho4 hg4 hat4 hlt4)
    go_roundw
    case rel =>
     have E9 := (E2.trans (Ext.alloc1 W10 (.cells #[.int .i64 (clipV N m x)] 2))).grown hg4 (fun q e => by have h1 := (hown.block q e).1; have h2 := HG.out; omega)
     refine ⟨j + 1, by go_num, by omega, ?_, E9⟩
     rw [← HST.out]
     exact ho4
    case measure => simp [intOf]; omega
   ·subst e1
    have hqI : (0 : Int) < (nq : Int) := by omega
    rw [show (if true = true then decide (0 < nq) else false) = true by rw [if_pos rfl]; exact decide_eq_true e2] at hzq
    go_wp2_with fail
    refine (Tryz.refZInt hzq).mono ?_
    rintro e W10 ⟨rfl, hE⟩
    rw [HFV.out]
    replace hown := hown.ext hE
    replace E2 := E2.trans hE
    have hgz : g0 ≤ W10.heap.size := by rw [HG.out]; exact E2.size
    clear hE hzq p7 kp0 kp1
    go_wp2_with (at_builtin; go_loud (refine append_i Tryz.underlying28 Tryz.infoI rfl _ _ rfl g0 _ L (clipV N m x) (by rfl) (by rfl) hown hlz hgz ?_); intro gq cc W11 ho4 hg4 hat4 hlt4)
    go_roundw
    case rel =>
     have E9 := (E2.trans (Ext.alloc1 W10 (.cells #[.int .i64 (clipV N m x)] 2))).grown hg4 (fun q e => by have h1 := (hown.block q e).1; have h2 := HG.out; omega)
     refine ⟨j + 1, by go_num, by omega, ?_, E9⟩
     rw [← HST.out]
     exact ho4
    case measure => simp [intOf]; omega
  ·have hge : ¬ (j : Int) < (n : Int) := by omega
   have HE : Hid ((l.take j).map (clipV N m) = clipL N m l) := Lib.hid (by rw [List.take_of_length_le (by have := HLN.out; omega), HC.out])
   rw [HE.out] at hown
   obtain ⟨a', c', rfl, hi⟩ := hown.iw (clipL_i64 HIN.out) (fun g hg => (hown.block g hg).2)
   have hln : (clipL N m l).length = n := by rw [clipL_len, HLN.out]
   rw [hln] at hi ⊢
   have hsz : w.heap.size ≤ g0 := by rw [HG.out]; exact HSZ.out
   have hi9 := hi.mono hsz (Nat.le_refl _)
   have E9 := E0.trans E2
   clear hown hi h hN hz E0 E2
   go_wp2; go_ret2
   exact ⟨_, _, rfl, hi9, E9⟩

theorem Tryz.refClipAny {lo hh n c nn cn N : Nat} {a an : Option Addr} {l : List Int} {w : World} (k : Int) (hk : I64 k) (h : Iz lo hh w a n c l) (hn : n ≤ 1000) (sN : Sm 4 N) (hN : Nw w (.slice an nn cn) N) :
    Calls Tryz.prog 14 #[.slice a n c, .slice an nn cn, .int .i64 k] w fun e w' => ∃ a' n' c', e = .returned (.tuple #[.slice a' n' c', .int .i64 (clipC k)]) ∧ Iz w.heap.size w'.heap.size w' a' n' c' (clipS N k l) ∧ Ext w w' := by
  by_cases hk0 : k < 0
  · refine (Tryz.refClipNo k hk0 w).mono ?_
    rintro e W ⟨rfl, hE⟩
    unfold clipC clipS
    rw [if_pos hk0, if_pos hk0]
    exact ⟨_, _, _, rfl, clipZ _ _ _, hE⟩
  · obtain ⟨m, rfl⟩ := Int.eq_ofNat_of_zero_le (show 0 ≤ k by omega)
    unfold clipC clipS
    rw [if_neg hk0, if_neg hk0]
    have hm : m < 9223372036854775808 := by unfold I64 at hk; omega
    cases hc : cutB N m
    · refine (Tryz.refClipEach h hn hm sN hN hc).mono ?_
      rintro e W ⟨a', c', rfl, hi, hE⟩
      exact ⟨_, _, _, rfl, .inl hi, hE⟩
    · refine (Tryz.refClipAll h hn hm hN hc).mono ?_
      rintro e W ⟨a', c', rfl, hi, hE⟩
      exact ⟨_, _, _, rfl, .inl hi, hE⟩
end Go.Rt
