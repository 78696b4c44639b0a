/-
  Chapter 16: mean, norm and clipping are as the document says.
-/
import Derived.Test.YtfgmfhdcdhanbaaGreatClipG
namespace Go.Rt
open Go Go.RowKit Go.Proofs

set_option maxRecDepth 100000 in
set_option maxHeartbeats 8000000 in
theorem Tryz.lawClipTells {n c nn cn : Nat} {a an : Option Addr} {ls : List (List Int)} {xs : List Nat} {w : World} (k : Int) (hk : I64 k) (h : Mw 0 w.heap.size w a n c ls) (hn : n ≤ 140737488351232) (hl : ∀ l ∈ ls, l.length ≤ 140737488351232) (hN : Nt w (.slice an nn cn) xs) :
  Calls Tryz.prog 3 #[.slice a n c, .slice an nn cn, .int .i64 k] w fun e w' => e = .returned (.bool true) ∧ Ext w w' := by
 have HX : Hid (xs.length = nn ∧ Lim B64 xs) := by
  obtain ⟨_, _, _, _, hv, _, hl⟩ := hN
  cases hv
  exact Lib.hid ⟨rfl, hl⟩
 have HI := Lib.hid h.i64
 have HLN := Lib.hid h.len
 have HK := Lib.hid hk
 have HB := Lib.hid (And.intro hn hl)
 clear hk hl hn
 by_cases hf : n + ls.flatten.length ≤ 40
 ·have HF : Hid (decide (n + ls.flatten.length ≤ 40) = true) := Lib.hid (decide_eq_true hf)
  have HL : Hid (n ≤ 40 ∧ ls.flatten.length ≤ 40) := Lib.hid ⟨by omega, by omega⟩
  have hn40 : n ≤ 40 := by omega
  clear hf
  by_cases hnn : 4 < nn
  ·have hnnI : (nn : Int) > 4 := by omega
   clear hnn hN
   go_enter Tryz.func3, Tryz.ntmps3
   go_wp2_with fail
   refine (Tryz.refFew16 h HB.out.1 HB.out.2).mono ?_
   rintro e W ⟨rfl, rfl⟩
   rw [HF.out]; clear h; go_wp2_with fail
   refine (Tryz.alive16 _).mono ?_
   rintro e W7 ⟨rfl, hE⟩
   go_wp2; go_ret
   exact ⟨rfl, hE⟩
  have hnnI : ¬ (nn : Int) > 4 := by omega
  have HNN : Hid (nn ≤ 4) := Lib.hid (by omega)
  clear hnn
  cases hr : normB xs
  ·have HR := Lib.hid hr
   clear hr
   go_enter Tryz.func3, Tryz.ntmps3
   go_wp2_with fail
   refine (Tryz.refFew16 h HB.out.1 HB.out.2).mono ?_
   rintro e W ⟨rfl, rfl⟩
   rw [HF.out]; clear h; go_wp2_with fail
   refine (Tryz.refRight hN).mono ?_
   rintro e W ⟨rfl, rfl⟩
   rw [HR.out]; clear hN; go_wp2_with fail
   refine (Tryz.alive16 _).mono ?_
   rintro e W7 ⟨rfl, hE⟩
   go_wp2; go_ret
   exact ⟨rfl, hE⟩
  have HR := Lib.hid hr
  obtain ⟨N, hNN⟩ : ∃ N, N = ev B64 xs := ⟨_, rfl⟩
  have hv : Nw w (.slice an nn cn) N := ⟨xs, hN, normB_iff.1 hr, hNN.symm⟩
  have HSN : Hid (Sm 4 N) := Lib.hid (by rw [hNN]; exact Nat.lt_of_lt_of_le (ev_lt HX.out.2) (Nat.pow_le_pow_right B64_pos (by have := HX.out.1; have := HNN.out; omega)))
  clear hr hNN
  go_enter Tryz.func3, Tryz.ntmps3
  go_wp2_with fail
  refine (Tryz.refFew16 h HB.out.1 HB.out.2).mono ?_
  rintro e W ⟨rfl, rfl⟩
  rw [HF.out]; go_wp2_with fail
  refine (Tryz.refRight hN).mono ?_
  rintro e W ⟨rfl, rfl⟩
  rw [HR.out]; clear hN; go_wp2_with fail
  refine (Tryz.meanAny h (by have := HL.out; omega) (by have := HL.out; omega) (Nat.le_refl _)).mono ?_
  rintro e W1 ⟨a1, n1, c1, rfl, hm1, E0⟩
  have HW : Hid (W.heap.size = W.heap.size) := Lib.hid rfl
  have hsz := E0.size
  have h0 := h
  replace h := h.ext E0
  replace hv := hv.ext E0
  obtain ⟨s0, hs0⟩ : ∃ s, s = W.heap.size := ⟨_, rfl⟩
  rw [← hs0] at h hsz
  go_wp2_with fail
  refine (Tryz.refMeanAny h (by have := HL.out; omega) (by have := HL.out; omega) hsz).mono ?_
  rintro e W2 ⟨a2, n2, c2, rfl, hm2, hE⟩
  replace h := h.ext hE
  replace hv := hv.ext hE
  replace hm1 := hm1.ext hE
  replace E0 := E0.trans hE
  clear hE hsz h0
  obtain ⟨mc, hmc⟩ : ∃ mc, mc = meanC ls := ⟨_, rfl⟩
  rw [← hmc]
  have hbb : (mc != mc) = false := by simp
  clear hmc hs0
  go_wp2_with fail
  refine (Tryz.refSameE hm1 hm2).mono ?_
  rintro e W3 ⟨rfl, hE⟩
  replace h := h.ext hE
  replace hv := hv.ext hE
  replace E0 := E0.trans hE
  clear hE hm1 hm2
  go_wp2_with fail
  refine (Tryz.clipNorm h (by have := HL.out; omega)).mono ?_
  rintro e W4 ⟨v4, rfl, h4, hE⟩
  replace h := h.ext hE
  replace hv := hv.ext hE
  replace E0 := E0.trans hE
  clear hE
  go_wp2_with fail
  refine (Tryz.refNorm16 h (by have := HL.out; omega)).mono ?_
  rintro e W5 ⟨v5, rfl, h5, hE⟩
  replace h := h.ext hE
  replace hv := hv.ext hE
  replace h4 := h4.ext hE
  replace E0 := E0.trans hE
  clear hE
  go_wp2_with fail
  refine (Tryz.sameT h4 h5 rfl).mono ?_
  rintro e W6 ⟨rfl, hE⟩
  replace h := h.ext hE
  replace hv := hv.ext hE
  replace E0 := E0.trans hE
  clear hE h4 h5
  go_wp2_with fail
  go_loopw [11] (fun i wr => ∃ j : Nat, i = .int .i64 (j : Int) ∧ j ≤ n ∧ Mw 0 s0 wr a n c ls ∧ Nw wr (.slice an nn cn) N ∧ Ext W wr) (fun i _ => n - (intOf i).toNat)
  case atStart => exact ⟨0, rfl, by omega, h, hv, E0⟩
  case round =>
   clear h hv E0
   obtain ⟨j, rfl, hj, h, hv, E0⟩ := hrel
   by_cases hlt : j < n
   ·have hltI : (j : Int) < (n : Int) := by omega
    have HJ : Hid (j < ls.length) := Lib.hid (by have := HLN.out; omega)
    obtain ⟨b, o, rfl, -, -⟩ := h.some (by omega)
    obtain ⟨ai, ci, hc, hi⟩ := h.cell hlt
    obtain ⟨r, hr⟩ : ∃ r, r = (atR ls j).length := ⟨_, rfl⟩
    rw [← hr] at hc hi
    have hrr : r ≤ 1000 := by
     have h5 := flat_split HJ.out
     have := HL.out
     omega
    have hj63 : (j : Int) < 9223372036854775807 := by omega
    clear hr
    go_wp2_with fail
    refine (Tryz.clipAny k HK.out hi hrr HSN.out hv).mono ?_
    rintro e W7 ⟨a3, n3, c3, rfl, h3, hE⟩
    replace h := h.ext hE
    replace hv := hv.ext hE
    replace hi := hi.ext hE
    replace hc := hE.cell hc
    replace E0 := E0.trans hE
    clear hE
    go_wp2_with fail
    refine (Tryz.refClipAny k HK.out hi hrr HSN.out hv).mono ?_
    rintro e W8 ⟨a4, n4, c4, rfl, h4, hE⟩
    replace h := h.ext hE
    replace hv := hv.ext hE
    replace h3 := h3.ext hE
    replace E0 := E0.trans hE
    clear hE hi hc hrr
    obtain ⟨kc, hkc⟩ : ∃ kc, kc = clipC k := ⟨_, rfl⟩
    rw [← hkc]
    have hkb : (kc != kc) = false := by simp
    clear hkc
    go_wp2_with fail
    refine (Tryz.refSameE h3 h4).mono ?_
    rintro e W9 ⟨rfl, hE⟩
    replace h := h.ext hE
    replace hv := hv.ext hE
    replace E0 := E0.trans hE
    clear hE h3 h4
    go_wp2
    go_roundw
    case rel => exact ⟨j + 1, by go_num, by omega, h, hv, E0⟩
    case measure => simp [intOf]; omega
   ·have hge : ¬ (j : Int) < (n : Int) := by omega
    clear h hv
    go_wp2_with fail
    refine (Tryz.alive16 _).mono ?_
    rintro e W7 ⟨rfl, hE⟩
    replace E0 := E0.trans hE
    clear hE
    go_wp2; go_ret
    exact ⟨rfl, E0⟩
 ·have HF : Hid (decide (n + ls.flatten.length ≤ 40) = false) := Lib.hid (decide_eq_false hf)
  clear hf hN
  go_enter Tryz.func3, Tryz.ntmps3
  go_wp2_with fail
  refine (Tryz.refFew16 h HB.out.1 HB.out.2).mono ?_
  rintro e W ⟨rfl, rfl⟩
  rw [HF.out]; clear h; go_wp2_with fail
  refine (Tryz.alive16 _).mono ?_
  rintro e W7 ⟨rfl, hE⟩
  go_wp2; go_ret
  exact ⟨rfl, hE⟩
end Go.Rt
