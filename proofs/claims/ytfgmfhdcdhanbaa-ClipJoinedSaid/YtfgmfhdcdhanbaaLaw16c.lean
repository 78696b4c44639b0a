/-
  Chapter 16: a norm hangs on no order of rows, nor on how numbers are cut into rows.
-/
import Derived.Test.YtfgmfhdcdhanbaaLaw16
import Derived.Test.YtfgmfhdcdhanbaaOwnM
namespace Go.Rt
open Go Go.RowKit Go.Proofs

theorem sqs_flat (ls : List (List Int)) : sqs ls.flatten = (ls.map sqs).sum := by
  induction ls with
  | nil => rfl
  | cons l ls ih => rw [List.flatten_cons, sqs_append, ih]; rfl

theorem sqs_rev (ls : List (List Int)) : sqs ls.reverse.flatten = sqs ls.flatten := by
  rw [sqs_flat, sqs_flat, List.map_reverse, List.sum_reverse]

theorem atR_rev {ls : List (List Int)} {i : Nat} (h : i < ls.length) : atR ls.reverse i = atR ls (ls.length - 1 - i) := by
  rw [atR_eq (by simpa using h), atR_eq (by omega), List.getElem_reverse]

theorem flat_rev_len (ls : List (List Int)) : ls.reverse.flatten.length = ls.flatten.length := by
  simp [List.length_flatten, List.map_reverse, List.sum_reverse]

theorem sqs_one (k : Int) : sqs [k] = k.natAbs * k.natAbs := by rw [sqs_cons, sqs_nil, Nat.add_zero]

/-- the rows gathered so far, the last one first -/
def BackR (hh : Nat) (w : World) (n j : Nat) (ls : List (List Int)) (vs : List Value) : Prop :=
  vs.length = j ∧ ∀ q, q < j → ∃ ai ci, vs[q]? = some (.slice ai (atR ls (n - 1 - q)).length ci) ∧ Iz 0 hh w ai (atR ls (n - 1 - q)).length ci (atR ls (n - 1 - q))

theorem BackR.snoc {hh : Nat} {w : World} {n j : Nat} {ls : List (List Int)} {vs : List Value} (h : BackR hh w n j ls vs) {ai : Option Addr} {ci : Nat} (hi : Iz 0 hh w ai (atR ls (n - 1 - j)).length ci (atR ls (n - 1 - j))) : BackR hh w n (j + 1) ls (vs ++ [.slice ai (atR ls (n - 1 - j)).length ci]) := by
  refine ⟨by rw [List.length_append, h.1]; rfl, fun q hq => ?_⟩
  rcases Nat.lt_or_ge q j with h1 | h1
  · obtain ⟨a, c, e, k⟩ := h.2 q h1
    exact ⟨a, c, by rw [List.getElem?_append_left (by rw [h.1]; exact h1)]; exact e, k⟩
  · obtain rfl : q = j := by omega
    exact ⟨ai, ci, by rw [List.getElem?_append_right (by rw [h.1]; exact Nat.le_refl _), h.1, Nat.sub_self]; rfl, hi⟩

/-- two rows of the call's own do not share a block -/
def Twain (v1 v2 : Value) : Prop := ∀ g, v1.ownBlock = some g → v2.ownBlock ≠ some g

theorem Twain.l {v1 v2 : Value} (h : Twain v1 v2) : v1.ownBlock = none ∨ v1.ownBlock ≠ v2.ownBlock := by
  cases hq : v1.ownBlock with
  | none => exact .inl rfl
  | some g => exact .inr fun e => h g hq e.symm

theorem Twain.r {v1 v2 : Value} (h : Twain v1 v2) : v2.ownBlock = none ∨ v2.ownBlock ≠ v1.ownBlock := by
  cases hq : v2.ownBlock with
  | none => exact .inl rfl
  | some g => exact .inr fun e => h g e.symm hq

theorem Twain.left {v1 v2 v3 : Value} {N : Nat} (h : Twain v1 v2) (hat : v3.ownBlock = v1.ownBlock ∨ v3.ownBlock = some N) (hb : ∀ g, v2.ownBlock = some g → g < N) : Twain v3 v2 := by
  intro g hg e
  rcases hat with h1 | h1
  · exact h g (h1 ▸ hg) e
  · rw [h1] at hg
    cases hg
    exact Nat.lt_irrefl _ (hb _ e)

theorem Twain.right {v1 v2 : Value} {N b n c : Nat} (h : Twain v1 v2) (hat : v2.ownBlock = some b ∨ b = N + 1) (hb : ∀ g, v1.ownBlock = some g → g < N) : Twain v1 (.slice (some ⟨b, 0, none⟩) n c) := by
  intro g hg e
  have e1 : b = g := Option.some.inj e
  subst e1
  rcases hat with h1 | h1
  · exact h _ hg h1
  · have := hb _ hg
    omega

set_option maxRecDepth 100000 in
set_option maxHeartbeats 8000000 in
theorem Try.lawClipJoined {n c : Nat} {a : Option Addr} {ls : List (List Int)} {w : World} (k : Int) (hk : I64 k) (h : Mw 0 w.heap.size w a n c ls) (hn : n ≤ 140737488351232) (hl : ∀ l ∈ ls, l.length ≤ 140737488351232) :
  Calls Try.prog 7 #[.slice a n c, .int .i64 k] w fun e w' => e = .returned (.bool true) ∧ Ext w w' := by
 have HI := Lib.hid h.i64
 have HK := Lib.hid hk
 have HLN := Lib.hid h.len
 clear hk
 by_cases hf : n + ls.flatten.length ≤ 40
 ·have HF : Hid (decide (n + ls.flatten.length ≤ 40) = true) := Lib.hid (decide_eq_true hf)
  have HL : Hid (n ≤ 40 ∧ ls.flatten.length ≤ 40) := Lib.hid ⟨by omega, by omega⟩
  have HB := Lib.hid (And.intro hn hl)
  have hn63 : n ≤ 40 := by omega
  clear hf hn hl
  go_enter Try.func7, Try.ntmps7
  go_wp2_with fail
  refine (Try.refFew16 h HB.out.1 HB.out.2).mono ?_
  rintro e W ⟨rfl, rfl⟩
  rw [HF.out]
  obtain ⟨g0, hg0⟩ : ∃ g, g = W.heap.size := ⟨_, rfl⟩
  obtain ⟨W2, hW2⟩ : ∃ W2, W2 = (W.alloc (.cells #[] 2)).alloc (.cells #[] 31) := ⟨_, rfl⟩
  have E0 : Ext W W2 := by rw [hW2]; exact (Ext.alloc1 _ _).alloc _
  have hoa : OwnI W2 W.heap.size 2 (.slice (some ⟨W.heap.size, 0, none⟩) 0 0) [] := by rw [hW2]; exact OwnI.ext (ownsRow_empty W _) (Ext.alloc1 _ _)
  have hob : OwnV W2 W.heap.size 31 (.slice (some ⟨W.heap.size + 1, 0, none⟩) 0 0) [] := by
   rw [hW2]
   have h1 := ownsRow_empty (W.alloc (.cells #[] 2)) 31
   rw [show (W.alloc (.cells #[] 2)).heap.size = W.heap.size + 1 by simp] at h1
   exact ownsRow_mono h1 (Nat.le_succ _)
  have htw : Twain (.slice (some ⟨W.heap.size, 0, none⟩) 0 0) (.slice (some ⟨W.heap.size + 1, 0, none⟩) 0 0) := by
   intro g hg e
   cases hg
   simp [Value.ownBlock] at e
  have HG := Lib.hid hg0
  rw [← hg0] at hoa hob htw
  go_wp2_with fail
  rw [← hW2, ← hg0]
  clear hW2 hg0
  go_loopw [5, 6, 7] (fun sa sb i wr => ∃ j : Nat, ∃ vs : List Value, i = .int .i64 (j : Int) ∧ j ≤ n ∧ BackR W.heap.size W n j ls vs ∧ OwnI wr g0 2 sa (ls.take j).flatten ∧ OwnV wr g0 31 sb vs ∧ Twain sa sb ∧ Ext W wr) (fun _ _ i _ => n - (intOf i).toNat)
  case atStart => exact ⟨0, [], rfl, by omega, ⟨rfl, fun q hq => absurd hq (by omega)⟩, hoa, hob, htw, E0⟩
  case round =>
   clear hoa hob htw E0
   obtain ⟨j, vs, rfl, hj, hbk, hoa, hob, htw, hX⟩ := hrel
   have hsz0 := hX.size
   by_cases hlt : j < n
   ·have hltI : (j : Int) < (n : Int) := by omega
    have HJ : Hid (j < ls.length) := Lib.hid (by have := HLN.out; omega)
    obtain ⟨b, o, rfl, -, -⟩ := h.some (by omega)
    obtain ⟨p, hp⟩ : ∃ p, p = n - 1 := ⟨_, rfl⟩
    obtain ⟨q, hq⟩ : ∃ q, q = n - 1 - j := ⟨_, rfl⟩
    have hw1 : IntKind.i64.wrap ((n : Int) - 1) = (p : Int) := by rw [IntKind.wrap_i64]; omega
    have hw2 : IntKind.i64.wrap ((p : Int) - (j : Int)) = (q : Int) := by rw [IntKind.wrap_i64]; omega
    have hqn : q < n := by omega
    have hqI : (q : Int) < (n : Int) := by omega
    obtain ⟨ai, ci, hc, hi⟩ := (h.ext hX).cell hlt
    obtain ⟨aq, cq, hcq, hiq⟩ := h.cell hqn
    have hcq0 := hcq
    replace hcq := hX.cell hcq
    rw [hq] at hiq
    have hbk2 := hbk.snoc hiq
    rw [← hq] at hbk2
    have HVL := Lib.hid hbk.1
    obtain ⟨m, hm⟩ : ∃ m, m = (atR ls j).length := ⟨_, rfl⟩
    obtain ⟨mq, hmq⟩ : ∃ m, m = (atR ls q).length := ⟨_, rfl⟩
    rw [← hm] at hc hi
    rw [← hmq] at hcq hbk2
    have hsm : (ls.take j).flatten.length + m ≤ 1099511627776 := by
     have h5 := flat_split HJ.out
     have := HL.out
     omega
    have HM : Hid ((ls.take j).flatten ++ atR ls j = (ls.take (j + 1)).flatten) := Lib.hid (flat_take HJ.out).symm
    have hj63 : (j : Int) < 9223372036854775807 := by omega
    have HQ := Lib.hid hqn
    have szw : g0 ≤ wr.heap.size := by rw [HG.out]; exact hsz0
    clear hm hmq hbk hiq hp hq hqn
    go_upto_region 9 with (at_builtin; go_loud (refine append_row Try.underlying31 Try.infoI rfl _ _ rfl g0 _ (ls.take j).flatten (atR ls j) 0 wr.heap.size m ci ai (by rfl) (by rfl) hoa (hi.mono (Nat.le_refl _) hsz0) hsm szw ?_); intro va3 w3 ho3 hg3 hat3)
    have E3 := hX.grown hg3 (fun q e => by have := (hoa.block q e).1; have := HG.out; omega)
    have hob3 := hob.kept hg3 htw.r
    have htw3 := htw.left hat3 (fun g hg => (hob.block g hg).2)
    have hs3 := hg3.size
    have hcq3 := hg3.cell hcq (fun e => by have h1 := (hoa.block _ e.symm).1; have h2 := World.block_lt_of_cell? _ _ hcq0; have h3 := HG.out; simp at h1 h2; omega)
    clear hc hi hoa hob htw hX hcq
    go_wp2_with (at_builtin; go_loud (refine append_v Try.underlying22 Try.infoM rfl _ _ rfl g0 _ vs aq mq cq (by rfl) (by rfl) hob3 (by have := HVL.out; omega) (by omega) ?_); intro gb cb w4 ho4 hg4 hat4 hlt4)
    go_roundw
    case rel =>
     have h1 : Ext W (w3.alloc (.cells #[.slice aq mq cq] 31)) := E3.alloc _
     refine ⟨j + 1, _, by go_num, by omega, hbk2, ?_, ho4, ?_, h1.grown hg4 (fun q e => by have := (hob3.block q e).1; have := HG.out; omega)⟩
     ·rw [← HM.out]
      exact (OwnI.ext ho3 (Ext.alloc1 _ _)).kept hg4 htw3.l
     ·exact htw3.right hat4 (fun g hg => (ho3.block g hg).2)
    case measure => simp [intOf]; omega
   ·have hge : ¬ (j : Int) < (n : Int) := by omega
    have HE : Hid ((ls.take j).flatten = ls.flatten) := Lib.hid (by rw [List.take_of_length_le (by have := HLN.out; omega)])
    rw [HE.out] at hoa
    obtain ⟨f, hf⟩ : ∃ f, f = ls.flatten := ⟨_, rfl⟩
    have HFF := Lib.hid hf
    rw [← hf] at hoa
    obtain ⟨va, ca, rfl, hia⟩ := hoa.iw (by rw [hf]; exact HI.out) (fun g hg => (hoa.block g hg).2)
    obtain ⟨vb, cb, rfl, hmb⟩ := hob.mw (lo := 0) (hh := wr.heap.size) (ls := ls.reverse) (by rw [List.length_reverse, HLN.out, hbk.1]; omega) (fun g hg => ⟨Nat.zero_le _, (hob.block g hg).2⟩) (fun i hi => by
     have h1 := hbk.1
     have h2 := HLN.out
     obtain ⟨ai, ci, e, k⟩ := hbk.2 i (by omega)
     rw [atR_rev (by omega), HLN.out]
     exact ⟨ai, ci, e, (k.ext hX).mono (Nat.le_refl _) hsz0⟩)
    have h2 := h.ext hX
    have HS : Hid (f.length ≤ 40 ∧ ls.reverse.flatten.length ≤ 100) := Lib.hid ⟨by rw [hf]; exact HL.out.2, by rw [flat_rev_len]; have := HL.out; omega⟩
    have HQ : Hid (sqs ls.reverse.flatten = sqs f) := Lib.hid (by rw [hf, sqs_rev])
    obtain ⟨lr, hlr⟩ : ∃ lr, lr = ls.reverse := ⟨_, rfl⟩
    obtain ⟨nr, hnr⟩ : ∃ nr, nr = lr.length := ⟨_, rfl⟩
    rw [← hlr] at hmb HS HQ
    rw [← hnr] at hmb
    obtain ⟨fn, hfn⟩ : ∃ m, m = f.length := ⟨_, rfl⟩
    have HFN := Lib.hid hfn
    rw [← hfn] at hia
    rw [← hlr, ← hnr, ← hfn]
    clear hoa hob hbk htw hf hlr hnr hfn h
    go_wp2_with fail
    refine (Try.clipNorm h2 (by have := HL.out; omega)).mono ?_
    rintro e W1 ⟨v1, rfl, hN, hE⟩
    have E4 := hE
    rw [← HFF.out] at hN
    replace hmb := hmb.ext hE
    replace hia := hia.ext hE
    replace E0 := hX.trans hE
    clear hX h2 hE
    obtain ⟨S, hSS⟩ : ∃ S, S = sqs f := ⟨_, rfl⟩
    have HSS := Lib.hid hSS
    rw [← hSS] at hN
    clear hSS
    obtain ⟨W3, hW3⟩ : ∃ W3, W3 = (W1.alloc (.cells #[.int .i64 k] 2)).alloc (.cells #[.slice (some ⟨W1.heap.size, 0, none⟩) 1 1] 31) := ⟨_, rfl⟩
    have hE : Ext W1 W3 := by rw [hW3]; exact (Ext.alloc1 _ _).alloc _
    have hM : Mw W1.heap.size W3.heap.size W3 (some ⟨W1.heap.size + 1, 0, none⟩) 1 1 [[k]] := by
     have b0 : BxA W3 W1.heap.size 2 #[.int .i64 k] := by rw [hW3]; exact (BxA.new W1 _ _).ext (Ext.alloc1 _ _)
     have b2 : BxA W3 (W1.heap.size + 1) 31 #[.slice (some ⟨W1.heap.size, 0, none⟩) 1 1] := by rw [hW3]; simpa using BxA.new (W1.alloc (.cells #[.int .i64 k] 2)) 31 #[.slice (some ⟨W1.heap.size, 0, none⟩) 1 1]
     have hz : W3.heap.size = W1.heap.size + 1 + 1 := by rw [hW3]; simp
     exact mwOne b2 (by omega) ((izLit1 b0 HK.out).mono (by omega) (by omega))
    replace hmb := hmb.ext hE
    replace hia := hia.ext hE
    replace hN := hN.ext hE
    replace E0 := E0.trans hE
    replace E4 := E4.trans hE
    go_wp2_with fail
    rw [← hW3]
    clear hW3 hE
    refine (Try.clipNorm hM (by simp)).mono ?_
    rintro e W4 ⟨v4, rfl, h4, hE⟩
    rw [show ([[k]] : List (List Int)).flatten = [k] from rfl, sqs_one, norm_one] at h4
    replace hmb := hmb.ext hE
    replace hia := hia.ext hE
    replace hN := hN.ext hE
    replace E0 := E0.trans hE
    replace E4 := E4.trans hE
    clear hE hM
    obtain ⟨x, hx⟩ : ∃ x, x = k.natAbs := ⟨_, rfl⟩
    rw [← hx] at h4
    have HXB : Hid (x < B64) := Lib.hid (by have := HK.out; unfold I64 at this; rw [B64_eq]; omega)
    rcases Int.lt_or_le k 0 with hk | hk
    ·obtain ⟨y, hy1⟩ : ∃ y, y = k + 1 := ⟨_, rfl⟩
     obtain ⟨z, hz1⟩ : ∃ z, z = (-(k + 1)).toNat := ⟨_, rfl⟩
     have hw1 : IntKind.i64.wrap (k + 1) = y := by have := HK.out; unfold I64 at this; rw [IntKind.wrap_i64]; omega
     have hw2 : IntKind.i64.wrap (-y) = (z : Int) := by have := HK.out; unfold I64 at this; rw [IntKind.wrap_i64]; omega
     have hw3 : IntKind.u64.wrap (z : Int) = (z : Int) := by have := HK.out; unfold I64 at this; rw [IntKind.wrap_u64]; omega
     have hw4 : IntKind.u64.wrap ((z : Int) + 1) = (x : Int) := by have := HK.out; unfold I64 at this; rw [IntKind.wrap_u64]; omega
     clear hy1 hz1 hx
     obtain ⟨W5, hW5⟩ : ∃ W5, W5 = (W4.alloc (.cells #[.int .i64 k] 2)).alloc (.cells #[.slice va fn ca, .slice (some ⟨W4.heap.size, 0, none⟩) 1 1] 31) := ⟨_, rfl⟩
     have hE : Ext W4 W5 := by rw [hW5]; exact (Ext.alloc1 _ _).alloc _
     have hM : Mw 0 W5.heap.size W5 (some ⟨W4.heap.size + 1, 0, none⟩) 2 2 [f, [k]] := by
      have b0 : BxA W5 W4.heap.size 2 #[.int .i64 k] := by rw [hW5]; exact (BxA.new W4 _ _).ext (Ext.alloc1 _ _)
      have b2 : BxA W5 (W4.heap.size + 1) 31 #[.slice va fn ca, .slice (some ⟨W4.heap.size, 0, none⟩) 1 1] := by rw [hW5]; simpa using BxA.new (W4.alloc (.cells #[.int .i64 k] 2)) 31 #[.slice va fn ca, .slice (some ⟨W4.heap.size, 0, none⟩) 1 1]
      have hz : W5.heap.size = W4.heap.size + 1 + 1 := by rw [hW5]; simp
      have hz2 := E4.size
      exact mwTwo b2 (by omega) (.inl ((hia.ext hE).mono (Nat.zero_le _) (by omega))) ((izLit1 b0 HK.out).mono (by omega) (by omega))
     replace hmb := hmb.ext hE
     replace hia := hia.ext hE
     replace hN := hN.ext hE
     replace h4 := h4.ext hE
     replace E0 := E0.trans hE
     replace E4 := E4.trans hE
     go_wp2_with fail
     rw [← hW5]
     clear hW5 hE
     refine (Try.clipNorm hM (by have := HS.out; simp; omega)).mono ?_
     rintro e W6 ⟨v6, rfl, h6, hE⟩
     rw [show ([f, [k]] : List (List Int)).flatten = f ++ [k] by simp, sqs_append, sqs_one, ← HSS.out] at h6
     replace hmb := hmb.ext hE
     replace hia := hia.ext hE
     replace hN := hN.ext hE
     replace h4 := h4.ext hE
     replace E0 := E0.trans hE
     replace E4 := E4.trans hE
     clear hE hM
     go_wp2_with fail
     refine (Try.clipNorm hmb (by have := HS.out; omega)).mono ?_
     rintro e W7 ⟨v7, rfl, h7, hE⟩
     rw [HQ.out, ← HSS.out] at h7
     replace hia := hia.ext hE
     replace hN := hN.ext hE
     replace h4 := h4.ext hE
     replace h6 := h6.ext hE
     replace E0 := E0.trans hE
     replace E4 := E4.trans hE
     clear hE hmb
     go_wp2_with fail
     refine (Try.sameT hN h7 rfl).mono ?_
     rintro e W8 ⟨rfl, hE⟩
     replace hia := hia.ext hE
     replace hN := hN.ext hE
     replace h4 := h4.ext hE
     replace h6 := h6.ext hE
     replace E0 := E0.trans hE
     replace E4 := E4.trans hE
     clear hE h7
     obtain ⟨W9, hW9⟩ : ∃ W9, W9 = W8.alloc (.cells #[.slice va fn ca] 31) := ⟨_, rfl⟩
     have hE : Ext W8 W9 := by rw [hW9]; exact Ext.alloc1 _ _
     have hM : Mw 0 W9.heap.size W9 (some ⟨W8.heap.size, 0, none⟩) 1 1 [f] := by
      have b2 : BxA W9 W8.heap.size 31 #[.slice va fn ca] := by rw [hW9]; exact BxA.new W8 _ _
      have hz : W9.heap.size = W8.heap.size + 1 := by rw [hW9]; simp
      have hz2 := E4.size
      exact mwOne b2 (by omega) (.inl ((hia.ext hE).mono (Nat.zero_le _) (by omega)))
     replace hN := hN.ext hE
     replace h4 := h4.ext hE
     replace h6 := h6.ext hE
     replace E0 := E0.trans hE
     go_wp2_with fail
     rw [← hW9]
     clear hW9 hE hia E4
     refine (Try.clipNorm hM (by have := HS.out; simp; omega)).mono ?_
     rintro e W10 ⟨v7, rfl, h7, hE⟩
     rw [show ([f] : List (List Int)).flatten = f by simp, ← HSS.out] at h7
     replace hN := hN.ext hE
     replace h4 := h4.ext hE
     replace h6 := h6.ext hE
     replace E0 := E0.trans hE
     clear hE hM
     go_wp2_with fail
     refine (Try.sameT hN h7 rfl).mono ?_
     rintro e W11 ⟨rfl, hE⟩
     replace hN := hN.ext hE
     replace h4 := h4.ext hE
     replace h6 := h6.ext hE
     replace E0 := E0.trans hE
     clear hE h7
     go_wp2_with fail
     refine (Try.alive16 _).mono ?_
     rintro e W12 ⟨rfl, hE⟩
     replace hN := hN.ext hE
     replace h4 := h4.ext hE
     replace h6 := h6.ext hE
     replace E0 := E0.trans hE
     clear hE
     go_wp2_with fail
     refine (Try.refCmpLe hN h6 (norm_mono (Nat.le_add_right _ _))).mono ?_
     rintro e W13 ⟨y, rfl, hy, hE⟩
     replace h4 := h4.ext hE
     replace E0 := E0.trans hE
     clear hE hN h6
     go_wp2_with fail
     refine (Try.refOf x _ HXB.out).mono ?_
     rintro e W14 ⟨v9, rfl, h9, hE, -⟩
     replace h4 := h4.ext hE
     replace E0 := E0.trans hE
     clear hE
     go_wp2_with fail
     refine (Try.sameT h4 h9 rfl).mono ?_
     rintro e W15 ⟨rfl, hE⟩
     replace E0 := E0.trans hE
     clear hE h4 h9
     go_wp2; go_ret
     exact ⟨rfl, E0⟩
    ·have hk0 : ¬ k < 0 := by omega
     have hw1 : IntKind.u64.wrap k = (x : Int) := by have := HK.out; unfold I64 at this; rw [IntKind.wrap_u64]; omega
     clear hk hx
     obtain ⟨W5, hW5⟩ : ∃ W5, W5 = (W4.alloc (.cells #[.int .i64 k] 2)).alloc (.cells #[.slice va fn ca, .slice (some ⟨W4.heap.size, 0, none⟩) 1 1] 31) := ⟨_, rfl⟩
     have hE : Ext W4 W5 := by rw [hW5]; exact (Ext.alloc1 _ _).alloc _
     have hM : Mw 0 W5.heap.size W5 (some ⟨W4.heap.size + 1, 0, none⟩) 2 2 [f, [k]] := by
      have b0 : BxA W5 W4.heap.size 2 #[.int .i64 k] := by rw [hW5]; exact (BxA.new W4 _ _).ext (Ext.alloc1 _ _)
      have b2 : BxA W5 (W4.heap.size + 1) 31 #[.slice va fn ca, .slice (some ⟨W4.heap.size, 0, none⟩) 1 1] := by rw [hW5]; simpa using BxA.new (W4.alloc (.cells #[.int .i64 k] 2)) 31 #[.slice va fn ca, .slice (some ⟨W4.heap.size, 0, none⟩) 1 1]
      have hz : W5.heap.size = W4.heap.size + 1 + 1 := by rw [hW5]; simp
      have hz2 := E4.size
      exact mwTwo b2 (by omega) (.inl ((hia.ext hE).mono (Nat.zero_le _) (by omega))) ((izLit1 b0 HK.out).mono (by omega) (by omega))
     replace hmb := hmb.ext hE
     replace hia := hia.ext hE
     replace hN := hN.ext hE
     replace h4 := h4.ext hE
     replace E0 := E0.trans hE
     replace E4 := E4.trans hE
     go_wp2_with fail
     rw [← hW5]
     clear hW5 hE
     refine (Try.clipNorm hM (by have := HS.out; simp; omega)).mono ?_
     rintro e W6 ⟨v6, rfl, h6, hE⟩
     rw [show ([f, [k]] : List (List Int)).flatten = f ++ [k] by simp, sqs_append, sqs_one, ← HSS.out] at h6
     replace hmb := hmb.ext hE
     replace hia := hia.ext hE
     replace hN := hN.ext hE
     replace h4 := h4.ext hE
     replace E0 := E0.trans hE
     replace E4 := E4.trans hE
     clear hE hM
     go_wp2_with fail
     refine (Try.clipNorm hmb (by have := HS.out; omega)).mono ?_
     rintro e W7 ⟨v7, rfl, h7, hE⟩
     rw [HQ.out, ← HSS.out] at h7
     replace hia := hia.ext hE
     replace hN := hN.ext hE
     replace h4 := h4.ext hE
     replace h6 := h6.ext hE
     replace E0 := E0.trans hE
     replace E4 := E4.trans hE
     clear hE hmb
     go_wp2_with fail
     refine (Try.sameT hN h7 rfl).mono ?_
     rintro e W8 ⟨rfl, hE⟩
     replace hia := hia.ext hE
     replace hN := hN.ext hE
     replace h4 := h4.ext hE
     replace h6 := h6.ext hE
     replace E0 := E0.trans hE
     replace E4 := E4.trans hE
     clear hE h7
     obtain ⟨W9, hW9⟩ : ∃ W9, W9 = W8.alloc (.cells #[.slice va fn ca] 31) := ⟨_, rfl⟩
     have hE : Ext W8 W9 := by rw [hW9]; exact Ext.alloc1 _ _
     have hM : Mw 0 W9.heap.size W9 (some ⟨W8.heap.size, 0, none⟩) 1 1 [f] := by
      have b2 : BxA W9 W8.heap.size 31 #[.slice va fn ca] := by rw [hW9]; exact BxA.new W8 _ _
      have hz : W9.heap.size = W8.heap.size + 1 := by rw [hW9]; simp
      have hz2 := E4.size
      exact mwOne b2 (by omega) (.inl ((hia.ext hE).mono (Nat.zero_le _) (by omega)))
     replace hN := hN.ext hE
     replace h4 := h4.ext hE
     replace h6 := h6.ext hE
     replace E0 := E0.trans hE
     go_wp2_with fail
     rw [← hW9]
     clear hW9 hE hia E4
     refine (Try.clipNorm hM (by have := HS.out; simp; omega)).mono ?_
     rintro e W10 ⟨v7, rfl, h7, hE⟩
     rw [show ([f] : List (List Int)).flatten = f by simp, ← HSS.out] at h7
     replace hN := hN.ext hE
     replace h4 := h4.ext hE
     replace h6 := h6.ext hE
     replace E0 := E0.trans hE
     clear hE hM
     go_wp2_with fail
     refine (Try.sameT hN h7 rfl).mono ?_
     rintro e W11 ⟨rfl, hE⟩
     replace hN := hN.ext hE
     replace h4 := h4.ext hE
     replace h6 := h6.ext hE
     replace E0 := E0.trans hE
     clear hE h7
     go_wp2_with fail
     refine (Try.alive16 _).mono ?_
     rintro e W12 ⟨rfl, hE⟩
     replace hN := hN.ext hE
     replace h4 := h4.ext hE
     replace h6 := h6.ext hE
     replace E0 := E0.trans hE
     clear hE
     go_wp2_with fail
     refine (Try.refCmpLe hN h6 (norm_mono (Nat.le_add_right _ _))).mono ?_
     rintro e W13 ⟨y, rfl, hy, hE⟩
     replace h4 := h4.ext hE
     replace E0 := E0.trans hE
     clear hE hN h6
     go_wp2_with fail
     refine (Try.refOf x _ HXB.out).mono ?_
     rintro e W14 ⟨v9, rfl, h9, hE, -⟩
     replace h4 := h4.ext hE
     replace E0 := E0.trans hE
     clear hE
     go_wp2_with fail
     refine (Try.sameT h4 h9 rfl).mono ?_
     rintro e W15 ⟨rfl, hE⟩
     replace E0 := E0.trans hE
     clear hE h4 h9
     go_wp2; go_ret
     exact ⟨rfl, E0⟩
 ·have HF : Hid (decide (n + ls.flatten.length ≤ 40) = false) := Lib.hid (decide_eq_false hf)
  have HB := Lib.hid (And.intro hn hl)
  clear hf hn hl
  go_enter Try.func7, Try.ntmps7
  go_wp2_with fail
  refine (Try.refFew16 h HB.out.1 HB.out.2).mono ?_
  rintro e W ⟨rfl, rfl⟩
  rw [HF.out]; clear h; go_wp2_with fail
  refine (Try.alive16 _).mono ?_
  rintro e W7 ⟨rfl, hE⟩
  go_wp2; go_ret
  exact ⟨rfl, hE⟩
end Go.Rt
