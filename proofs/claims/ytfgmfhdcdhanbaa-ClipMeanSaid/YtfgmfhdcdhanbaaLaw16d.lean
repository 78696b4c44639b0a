/-
  Chapter 16: rows that are clipped by their own norm.
-/
import Derived.Test.YtfgmfhdcdhanbaaLaw16
import Derived.Test.YtfgmfhdcdhanbaaOwnM
import Derived.Test.YtfgmfhdcdhanbaaAdamH
namespace Go.Rt
open Go Go.RowKit Go.Proofs

set_option maxRecDepth 100000 in
set_option maxHeartbeats 4000000 in
theorem Try.refSameZ {lo hi lo' hi' : Nat} {a a' : Option Addr} {n c n' c' : Nat} {l l' : List Int} {w : World} (h1 : Iz lo hi w a n c l) (h2 : Iz lo' hi' w a' n' c' l') :
  Calls Try.prog 14 #[.slice a n c, .slice a' n' c'] w fun e w' => e = .returned (.bool (decide (l = l'))) ∧ Ext w w' := by
 have hl1 := h1.len
 have hl2 := h2.len
 by_cases hlen : n = n'
 ·subst hlen
  rcases Nat.eq_zero_or_pos n with h0 | h0
  ·have HR : Hid (decide (l = l') = true) := Lib.hid (decide_eq_true (by rw [List.length_eq_zero_iff.1 (by omega : l.length = 0), List.length_eq_zero_iff.1 (by omega : l'.length = 0)]))
   subst h0
   clear h1 h2 hl1 hl2
   go_enter Try.func14, Try.ntmps14
   go_wp2_with fail
   go_loopw [5] (fun i wr => i = .int .i64 0 ∧ w = wr) (fun i _ => 0)
   case atStart => exact ⟨rfl, rfl⟩
   case round =>
    obtain ⟨rfl, rfl⟩ := hrel
    go_wp2; go_ret
    exact ⟨ret_b HR.out.symm, Ext.refl _⟩
  ·exact Try.refSame09 (h1.iw h0) (h2.iw h0)
 ·have hne : ((n : Int) != (n' : Int)) = true := bne_iff_ne.2 (by omega)
  have HR : Hid (decide (l = l') = false) := Lib.hid (decide_eq_false (fun h => hlen (by rw [h] at hl1; omega)))
  clear hlen h1 h2 hl1 hl2
  go_enter Try.func14, Try.ntmps14
  go_wp2; go_ret
  exact ⟨ret_b HR.out.symm, Ext.refl _⟩

theorem Try.refCmpGt {v1 v2 : Value} {N M : Nat} {w : World} (h1 : Nw w v1 N) (h2 : Nw w v2 M) (h : M < N) :
    Calls Try.prog 13 #[v1, v2] w fun e w' => e = .returned (.int .i64 1) ∧ Ext w w' := by
  have := Try.refCmp h1 h2
  rwa [cmpI_nat_gt h] at this

theorem clipV_abs (N m : Nat) (x : Int) : (clipV N m x).natAbs = x.natAbs * m / N := by
  rcases Int.lt_or_le x 0 with h | h
  · rw [clipV_neg h, Int.natAbs_neg, Int.natAbs_natCast]
  · rw [clipV_nonneg h, Int.natAbs_natCast]

theorem sqs_clip {N m : Nat} (h : cutB N m = false) (l : List Int) : sqs (clipL N m l) * (N * N) ≤ sqs l * (m * m) := by
  rw [show clipL N m l = l.map (clipV N m) by unfold clipL; rw [h]; rfl]
  induction l with
  | nil => simp [sqs]
  | cons x l ih =>
    rw [List.map_cons, sqs_cons, sqs_cons, clipV_abs, Nat.add_mul, Nat.add_mul]
    obtain ⟨q, hq⟩ : ∃ q, q = x.natAbs * m / N := ⟨_, rfl⟩
    have h1 : q * N ≤ x.natAbs * m := by rw [hq]; exact Nat.div_mul_le_self _ _
    rw [← hq]
    have h2 : (q * N) * (q * N) ≤ (x.natAbs * m) * (x.natAbs * m) := Nat.mul_le_mul h1 h1
    have e1 : q * q * (N * N) = (q * N) * (q * N) := by simp only [Nat.mul_assoc, Nat.mul_left_comm]
    have e2 : x.natAbs * x.natAbs * (m * m) = (x.natAbs * m) * (x.natAbs * m) := by simp only [Nat.mul_assoc, Nat.mul_left_comm]
    omega

theorem sqs_clips {N m : Nat} (h : cutB N m = false) (ls : List (List Int)) : sqs (ls.map (clipL N m)).flatten * (N * N) ≤ sqs ls.flatten * (m * m) := by
  induction ls with
  | nil => simp [sqs]
  | cons l ls ih =>
    rw [List.map_cons, List.flatten_cons, List.flatten_cons, sqs_append, sqs_append, Nat.add_mul, Nat.add_mul]
    have := sqs_clip h l
    omega

theorem clip_norm {N m S : Nat} {ls : List (List Int)} (h : cutB N m = false) (hS : S = sqs ls.flatten) (hN : S ≤ N * N) : sqs (ls.map (clipL N m)).flatten ≤ m * m := by
  have h1 := sqs_clips h ls
  have h2 : sqs ls.flatten * (m * m) ≤ (N * N) * (m * m) := Nat.mul_le_mul_right _ (hS ▸ hN)
  have h3 := cutB_pos h
  have h4 : 0 < N * N := Nat.mul_pos (by omega) (by omega)
  rw [Nat.mul_comm (N * N)] at h2
  exact Nat.le_of_mul_le_mul_right (Nat.le_trans h1 h2) h4

theorem clips_len (N m : Nat) (ls : List (List Int)) : (ls.map (clipL N m)).flatten.length = ls.flatten.length := by
  induction ls with
  | nil => rfl
  | cons l ls ih => rw [List.map_cons, List.flatten_cons, List.flatten_cons, List.length_append, List.length_append, clipL_len, ih]

theorem atR_map {ls : List (List Int)} {f : List Int → List Int} {i : Nat} (h : i < ls.length) : atR (ls.map f) i = f (atR ls i) := by
  rw [atR_eq (by simpa using h), atR_eq h, List.getElem_map]

/-- the clipped rows that are gathered so far -/
def LessR (W : World) (s : Value) (N m j : Nat) (ls : List (List Int)) (vs : List Value) : Prop :=
  vs.length = j ∧ ∀ q, q < j → ∃ ai ci l0 h0, vs[q]? = some (.slice ai (atR ls q).length ci) ∧ Iz l0 h0 W ai (atR ls q).length ci (clipL N m (atR ls q)) ∧ h0 ≤ W.heap.size ∧ ∀ g, s.ownBlock = some g → g < l0 ∨ h0 ≤ g

theorem LessR.ext {W W' : World} {s : Value} {N m j : Nat} {ls : List (List Int)} {vs : List Value} (h : LessR W s N m j ls vs) (hE : Ext W W') : LessR W' s N m j ls vs :=
  ⟨h.1, fun q hq => let ⟨a, c, l0, h0, e, k, k1, k2⟩ := h.2 q hq; ⟨a, c, l0, h0, e, k.ext hE, Nat.le_trans k1 hE.size, k2⟩⟩

theorem LessR.snoc {W W' : World} {s : Value} {N m j : Nat} {ls : List (List Int)} {vs : List Value} (h : LessR W s N m j ls vs) {ai : Option Addr} {ci lo hh gb nb cb : Nat} {o : Obj} (hi : Iz lo hh W ai (atR ls j).length ci (clipL N m (atR ls j))) (hs : hh ≤ W.heap.size) (hlo : ∀ g, s.ownBlock = some g → g < lo)
    (hg : (W.alloc o).grownBy W' s.ownBlock) (hat : s.ownBlock = some gb ∨ gb = W.heap.size + 1) : LessR W' (.slice (some ⟨gb, 0, none⟩) nb cb) N m (j + 1) ls (vs ++ [.slice ai (atR ls j).length ci]) := by
  have hz : W.heap.size + 1 ≤ W'.heap.size := by
    have := hg.size
    simpa using this
  refine ⟨by rw [List.length_append, h.1]; rfl, fun q hq => ?_⟩
  rcases Nat.lt_or_ge q j with h1 | h1
  · obtain ⟨a, c, l0, h0, e, k, k1, k2⟩ := h.2 q h1
    refine ⟨a, c, l0, h0, by rw [List.getElem?_append_left (by rw [h.1]; exact h1)]; exact e, (k.ext (Ext.alloc1 W o)).grown hg k2, by omega, fun g e1 => ?_⟩
    have e2 : gb = g := Option.some.inj e1
    subst e2
    rcases hat with h3 | h3
    · exact k2 _ h3
    · omega
  · obtain rfl : q = j := by omega
    refine ⟨ai, ci, lo, hh, by rw [List.getElem?_append_right (by rw [h.1]; exact Nat.le_refl _), h.1, Nat.sub_self]; rfl, (hi.ext (Ext.alloc1 W o)).grown hg (fun g e => .inl (hlo g e)), by omega, fun g e1 => ?_⟩
    have e2 : gb = g := Option.some.inj e1
    subst e2
    rcases hat with h3 | h3
    · exact .inl (hlo _ h3)
    · omega

theorem LessR.mw {W : World} {base N m : Nat} {e : TypeId} {s : Value} {ls : List (List Int)} {vs : List Value} (h : LessR W s N m ls.length ls vs) (ho : OwnV W base e s vs) :
    ∃ a c, s = .slice a ls.length c ∧ Mw 0 W.heap.size W a ls.length c (ls.map (clipL N m)) := by
  obtain ⟨a, c, e1, h1⟩ := ho.mw (lo := 0) (hh := W.heap.size) (ls := ls.map (clipL N m)) (by rw [List.length_map, h.1]) (fun g hg => ⟨Nat.zero_le _, (ho.block g hg).2⟩) (fun i hi => by
    have h2 := h.1
    obtain ⟨ai, ci, l0, h0, e, k, k1, -⟩ := h.2 i (by omega)
    rw [atR_map (by omega), clipL_len]
    exact ⟨ai, ci, e, k.mono (Nat.zero_le _) k1⟩)
  rw [List.length_map] at e1 h1
  exact ⟨a, c, e1, h1⟩

set_option maxRecDepth 100000 in
set_option maxHeartbeats 8000000 in
theorem Try.clipNormAll {n c : Nat} {a : Option Addr} {ls : List (List Int)} {w : World} (m : Nat) (hm1 : 1 ≤ m) (hm2 : m < 9223372036854775808) (h : Mw 0 w.heap.size w a n c ls) (hn : n ≤ 140737488351232) (hl : ∀ l ∈ ls, l.length ≤ 140737488351232) (hf : n + ls.flatten.length ≤ 40) (hcut : rootU (sqs ls.flatten) 2 ≤ m) :
  Calls Try.prog 3 #[.slice a n c, .int .i64 (m : Int)] w fun e w' => e = .returned (.bool true) ∧ Ext w w' := by
 have HI := Lib.hid h.i64
 have HLN := Lib.hid h.len
 have HF : Hid (decide (n + ls.flatten.length ≤ 40) = true) := Lib.hid (decide_eq_true hf)
 have HL : Hid (n ≤ 40 ∧ ls.flatten.length ≤ 40) := Lib.hid ⟨by omega, by omega⟩
 have HB := Lib.hid (And.intro hn hl)
 have HM := Lib.hid (And.intro hm1 hm2)
 have hm0 : ¬ (m : Int) < 1 := by omega
 have HIM : Hid (-9223372036854775808 ≤ (m : Int) ∧ (m : Int) < 9223372036854775808) := Lib.hid (by omega)
 obtain ⟨S, hSS⟩ : ∃ S, S = sqs ls.flatten := ⟨_, rfl⟩
 have HSS := Lib.hid hSS
 obtain ⟨N, hNN⟩ : ∃ N, N = rootU S 2 := ⟨_, rfl⟩
 have HNN := Lib.hid hNN
 rw [← hSS, ← hNN] at hcut
 have HSN : Hid (Sm 4 N ∧ S ≤ N * N) := Lib.hid (by rw [hNN]; exact ⟨norm_sm (by rw [hSS]; exact sqs_sm HI.out (by have := HL.out; omega)), norm_sq _⟩)
 have HC := Lib.hid hcut
 have HCB : Hid (cutB N m = true) := Lib.hid (by unfold cutB; exact decide_eq_true (.inr hcut))
 clear hf hn hl hm1 hm2 hcut hSS hNN
 go_enter Try.func3, Try.ntmps3
 go_wp2_with fail
 refine (Try.refFew16 h HB.out.1 HB.out.2).mono ?_
 rintro e W ⟨rfl, rfl⟩
 rw [HF.out]
 go_wp2_with fail
 refine (Try.clipNorm h (by have := HL.out; omega)).mono ?_
 rintro e W1 ⟨v1, rfl, hN, E0⟩
 rw [← HSS.out, ← HNN.out] at hN
 obtain ⟨an, nn, cn, rfl⟩ := Nw.slice hN
 have HZ : Hid (W.heap.size = W.heap.size) := Lib.hid rfl
 replace h := h.ext E0
 go_wp2_with fail
 refine (Try.refZOf (m : Int) _ HIM.out.1 HIM.out.2).mono ?_
 rintro e W2 ⟨v2, rfl, hm, hE⟩
 obtain ⟨bz, az, nz, cz, rfl, -, hm⟩ := hm
 have hfz := Try.fieldZ bz az nz cz
 rw [show ((m : Int)).natAbs = m from rfl] at hm
 replace h := h.ext hE
 replace hN := hN.ext hE
 replace E0 := E0.trans hE
 clear hE
 obtain ⟨g0, hg0⟩ : ∃ g, g = W2.heap.size := ⟨_, rfl⟩
 obtain ⟨W3, hW3⟩ : ∃ W3, W3 = W2.alloc (.cells #[] 31) := ⟨_, rfl⟩
 have hE : Ext W2 W3 := by rw [hW3]; exact Ext.alloc1 _ _
 have hown : OwnV W3 g0 31 (.slice (some ⟨W2.heap.size, 0, none⟩) 0 0) [] := by rw [hW3, hg0]; exact ownsRow_empty W2 _
 rw [← hg0] at hown
 have HG := Lib.hid hg0
 have hh0 := h
 have hN0 := hN
 have hmm0 := hm
 go_wp2_with fail
 rw [← hW3, ← hg0]
 clear hW3 hg0
 go_loopw [7, 8] (fun s i wr => ∃ j : Nat, ∃ vs : List Value, i = .int .i64 (j : Int) ∧ j ≤ n ∧ LessR wr s N m j ls vs ∧ OwnV wr g0 31 s vs ∧ Ext W2 wr) (fun _ i _ => n - (intOf i).toNat)
 case atStart => exact ⟨0, [], rfl, by omega, ⟨rfl, fun q hq => absurd hq (by omega)⟩, hown, hE⟩
 case round =>
  clear hown h hN hm hE
  obtain ⟨j, vs, rfl, hj, hls, hown, E2⟩ := hrel
  have h := hh0.ext E2
  have hN := hN0.ext E2
  have hm := hmm0.ext E2
  have HVL := Lib.hid hls.1
  by_cases hlt : j < n
  ·have hltI : (j : Int) < (n : Int) := by omega
   have HJ : Hid (j < ls.length) := Lib.hid (by have := HLN.out; omega)
   obtain ⟨b, o, rfl, -, -⟩ := h.some (by omega)
   obtain ⟨ai, ci, hc, hi⟩ := h.cell hlt
   have HD := Lib.hid (fun g hg => (hown.block g hg).2)
   obtain ⟨r, hr⟩ : ∃ r, r = (atR ls j).length := ⟨_, rfl⟩
   have HR := Lib.hid hr
   rw [← hr] at hc hi
   have hrr : r ≤ 1000 := by
    have h5 := flat_split HJ.out
    have := HL.out
    omega
   have hj63 : (j : Int) < 9223372036854775807 := by have := HL.out.1; omega
   have hEr : Ext wr wr := Ext.refl _
   clear hr
   go_wp2_with fail
   refine (Try.clipYes hi hrr HM.out.2 HSN.out.1 hN).mono ?_
   rintro e W4 ⟨a4, c4, rfl, h4, hE⟩
   replace h := h.ext hE
   replace hN := hN.ext hE
   replace hm := hm.ext hE
   replace hls := hls.ext hE
   replace hown := hown.ext hE
   replace E2 := E2.trans hE
   replace hc := hE.cell hc
   replace hi := hi.ext hE
   have hsz4 := hE.size
   replace hEr := hEr.trans hE
   clear hE
   have h4z : Iz wr.heap.size W4.heap.size W4 a4 r c4 (clipL N m (atR ls j)) := .inl h4
   have hs4 : W4.heap.size ≤ W4.heap.size := Nat.le_refl _
   clear h4
   obtain ⟨H4, hH4⟩ : ∃ H, H = W4.heap.size := ⟨_, rfl⟩
   rw [← hH4] at h4z
   have hs4 : H4 ≤ W4.heap.size := by rw [hH4]; exact Nat.le_refl _
   clear hH4
   go_wp2_with fail
   refine (Try.refCmpLe hN hm HC.out).mono ?_
   rintro e W5 ⟨q, rfl, hq, hE⟩
   replace h := h.ext hE
   replace hN := hN.ext hE
   replace hm := hm.ext hE
   replace hls := hls.ext hE
   replace hown := hown.ext hE
   replace E2 := E2.trans hE
   replace hc := hE.cell hc
   replace hi := hi.ext hE
   replace h4z := h4z.ext hE
   replace hs4 := Nat.le_trans hs4 hE.size
   clear hE
   have HQ : Hid (decide (clipL N m (atR ls j) = atR ls j) = true) := Lib.hid (decide_eq_true (by unfold clipL; rw [HCB.out]; rfl))
   go_wp2_with fail
   refine (Try.refSameZ h4z hi).mono ?_
   rintro e W6 ⟨rfl, hE⟩
   rw [HQ.out]
   replace h := h.ext hE
   replace hN := hN.ext hE
   replace hm := hm.ext hE
   replace hls := hls.ext hE
   replace hown := hown.ext hE
   replace E2 := E2.trans hE
   replace h4z := h4z.ext hE
   replace hs4 := Nat.le_trans hs4 hE.size
   clear hE hc hi
   have hgz : g0 ≤ W6.heap.size := by rw [HG.out]; exact E2.size
   rw [HR.out] at h4z
   have hrw := HR.out
   clear HR
   subst hrw
   go_wp2_with (at_builtin; go_loud (refine append_v Try.underlying22 Try.infoM rfl _ _ rfl g0 _ vs a4 (atR ls j).length c4 (by rfl) (by rfl) hown (by have := HVL.out; have := HL.out.1; omega) hgz ?_); intro gb cb w4 ho4 hg4 hat4 hlt4)
   go_roundw
   case rel =>
    have hA := Ext.alloc1 W6 (.cells #[.slice a4 (atR ls j).length c4] 31)
    have hlow := fun q e => (hown.block q e).1
    exact ⟨j + 1, _, by go_num, by omega, hls.snoc h4z hs4 HD.out hg4 hat4, ho4, (E2.trans hA).grown hg4 (fun q e => by have := hlow q e; have := HG.out; omega)⟩
   case measure => simp [intOf]; omega
  ·have hge : ¬ (j : Int) < (n : Int) := by omega
   obtain rfl : j = n := by omega
   rw [← HLN.out] at hls
   replace E0 := E0.trans E2
   clear hls hown h E2
   go_wp2_with fail
   refine (Try.refCmpLe hN hm HC.out).mono ?_
   rintro e W4 ⟨q, rfl, hq, hE⟩
   replace E0 := E0.trans hE
   clear hE hN hm
   go_wp2_with fail
   refine (Try.alive16 _).mono ?_
   rintro e W5 ⟨rfl, hE⟩
   replace E0 := E0.trans hE
   clear hE
   go_wp2; go_ret
   exact ⟨rfl, E0⟩

set_option maxRecDepth 100000 in
set_option maxHeartbeats 8000000 in
theorem Try.clipNormCut {n c : Nat} {a : Option Addr} {ls : List (List Int)} {w : World} (m : Nat) (hm1 : 1 ≤ m) (hm2 : m < 9223372036854775808) (h : Mw 0 w.heap.size w a n c ls) (hn : n ≤ 140737488351232) (hl : ∀ l ∈ ls, l.length ≤ 140737488351232) (hf : n + ls.flatten.length ≤ 40) (hcut : m < rootU (sqs ls.flatten) 2) :
  Calls Try.prog 3 #[.slice a n c, .int .i64 (m : Int)] w fun e w' => e = .returned (.bool true) ∧ Ext w w' := by
 have HI := Lib.hid h.i64
 have HLN := Lib.hid h.len
 have HF : Hid (decide (n + ls.flatten.length ≤ 40) = true) := Lib.hid (decide_eq_true hf)
 have HL : Hid (n ≤ 40 ∧ ls.flatten.length ≤ 40) := Lib.hid ⟨by omega, by omega⟩
 have HB := Lib.hid (And.intro hn hl)
 have HM := Lib.hid (And.intro hm1 hm2)
 have hm0 : ¬ (m : Int) < 1 := by omega
 have HIM : Hid (-9223372036854775808 ≤ (m : Int) ∧ (m : Int) < 9223372036854775808) := Lib.hid (by omega)
 obtain ⟨S, hSS⟩ : ∃ S, S = sqs ls.flatten := ⟨_, rfl⟩
 have HSS := Lib.hid hSS
 obtain ⟨N, hNN⟩ : ∃ N, N = rootU S 2 := ⟨_, rfl⟩
 have HNN := Lib.hid hNN
 rw [← hSS, ← hNN] at hcut
 have HSN : Hid (Sm 4 N ∧ S ≤ N * N) := Lib.hid (by rw [hNN]; exact ⟨norm_sm (by rw [hSS]; exact sqs_sm HI.out (by have := HL.out; omega)), norm_sq _⟩)
 have HC := Lib.hid hcut
 have HCB : Hid (cutB N m = false) := Lib.hid (by unfold cutB; exact decide_eq_false (by omega))
 clear hf hn hl hm1 hm2 hcut hSS hNN
 go_enter Try.func3, Try.ntmps3
 go_wp2_with fail
 refine (Try.refFew16 h HB.out.1 HB.out.2).mono ?_
 rintro e W ⟨rfl, rfl⟩
 rw [HF.out]
 go_wp2_with fail
 refine (Try.clipNorm h (by have := HL.out; omega)).mono ?_
 rintro e W1 ⟨v1, rfl, hN, E0⟩
 rw [← HSS.out, ← HNN.out] at hN
 obtain ⟨an, nn, cn, rfl⟩ := Nw.slice hN
 have HZ : Hid (W.heap.size = W.heap.size) := Lib.hid rfl
 replace h := h.ext E0
 go_wp2_with fail
 refine (Try.refZOf (m : Int) _ HIM.out.1 HIM.out.2).mono ?_
 rintro e W2 ⟨v2, rfl, hm, hE⟩
 obtain ⟨bz, az, nz, cz, rfl, -, hm⟩ := hm
 have hfz := Try.fieldZ bz az nz cz
 rw [show ((m : Int)).natAbs = m from rfl] at hm
 replace h := h.ext hE
 replace hN := hN.ext hE
 replace E0 := E0.trans hE
 clear hE
 obtain ⟨g0, hg0⟩ : ∃ g, g = W2.heap.size := ⟨_, rfl⟩
 obtain ⟨W3, hW3⟩ : ∃ W3, W3 = W2.alloc (.cells #[] 31) := ⟨_, rfl⟩
 have hE : Ext W2 W3 := by rw [hW3]; exact Ext.alloc1 _ _
 have hown : OwnV W3 g0 31 (.slice (some ⟨W2.heap.size, 0, none⟩) 0 0) [] := by rw [hW3, hg0]; exact ownsRow_empty W2 _
 rw [← hg0] at hown
 have HG := Lib.hid hg0
 have hh0 := h
 have hN0 := hN
 have hmm0 := hm
 go_wp2_with fail
 rw [← hW3, ← hg0]
 clear hW3 hg0
 go_loopw [7, 8] (fun s i wr => ∃ j : Nat, ∃ vs : List Value, i = .int .i64 (j : Int) ∧ j ≤ n ∧ LessR wr s N m j ls vs ∧ OwnV wr g0 31 s vs ∧ Ext W2 wr) (fun _ i _ => n - (intOf i).toNat)
 case atStart => exact ⟨0, [], rfl, by omega, ⟨rfl, fun q hq => absurd hq (by omega)⟩, hown, hE⟩
 case round =>
  clear hown h hN hm hE
  obtain ⟨j, vs, rfl, hj, hls, hown, E2⟩ := hrel
  have h := hh0.ext E2
  have hN := hN0.ext E2
  have hm := hmm0.ext E2
  have HVL := Lib.hid hls.1
  by_cases hlt : j < n
  ·have hltI : (j : Int) < (n : Int) := by omega
   have HJ : Hid (j < ls.length) := Lib.hid (by have := HLN.out; omega)
   obtain ⟨b, o, rfl, -, -⟩ := h.some (by omega)
   obtain ⟨ai, ci, hc, hi⟩ := h.cell hlt
   have HD := Lib.hid (fun g hg => (hown.block g hg).2)
   obtain ⟨r, hr⟩ : ∃ r, r = (atR ls j).length := ⟨_, rfl⟩
   have HR := Lib.hid hr
   rw [← hr] at hc hi
   have hrr : r ≤ 1000 := by
    have h5 := flat_split HJ.out
    have := HL.out
    omega
   have hj63 : (j : Int) < 9223372036854775807 := by have := HL.out.1; omega
   have hEr : Ext wr wr := Ext.refl _
   clear hr
   go_wp2_with fail
   refine (Try.clipYes hi hrr HM.out.2 HSN.out.1 hN).mono ?_
   rintro e W4 ⟨a4, c4, rfl, h4, hE⟩
   replace h := h.ext hE
   replace hN := hN.ext hE
   replace hm := hm.ext hE
   replace hls := hls.ext hE
   replace hown := hown.ext hE
   replace E2 := E2.trans hE
   replace hc := hE.cell hc
   replace hi := hi.ext hE
   have hsz4 := hE.size
   replace hEr := hEr.trans hE
   clear hE
   have h4z : Iz wr.heap.size W4.heap.size W4 a4 r c4 (clipL N m (atR ls j)) := .inl h4
   have hs4 : W4.heap.size ≤ W4.heap.size := Nat.le_refl _
   clear h4
   obtain ⟨H4, hH4⟩ : ∃ H, H = W4.heap.size := ⟨_, rfl⟩
   rw [← hH4] at h4z
   have hs4 : H4 ≤ W4.heap.size := by rw [hH4]; exact Nat.le_refl _
   clear hH4
   go_wp2_with fail
   refine (Try.refCmpGt hN hm HC.out).mono ?_
   rintro e W5 ⟨rfl, hE⟩
   replace h := h.ext hE
   replace hN := hN.ext hE
   replace hm := hm.ext hE
   replace hls := hls.ext hE
   replace hown := hown.ext hE
   replace E2 := E2.trans hE
   replace hc := hE.cell hc
   replace hi := hi.ext hE
   replace h4z := h4z.ext hE
   replace hs4 := Nat.le_trans hs4 hE.size
   clear hE
   clear hi hrr
   have hgz : g0 ≤ W5.heap.size := by rw [HG.out]; exact E2.size
   rw [HR.out] at h4z
   have hrw := HR.out
   clear HR
   subst hrw
   go_wp2_with (at_builtin; go_loud (refine append_v Try.underlying22 Try.infoM rfl _ _ rfl g0 _ vs a4 (atR ls j).length c4 (by rfl) (by rfl) hown (by have := HVL.out; have := HL.out.1; omega) hgz ?_); intro gb cb w4 ho4 hg4 hat4 hlt4)
   go_roundw
   case rel =>
    have hA := Ext.alloc1 W5 (.cells #[.slice a4 (atR ls j).length c4] 31)
    have hlow := fun q e => (hown.block q e).1
    exact ⟨j + 1, _, by go_num, by omega, hls.snoc h4z hs4 HD.out hg4 hat4, ho4, (E2.trans hA).grown hg4 (fun q e => by have := hlow q e; have := HG.out; omega)⟩
   case measure => simp [intOf]; omega
  ·have hge : ¬ (j : Int) < (n : Int) := by omega
   obtain rfl : j = n := by omega
   rw [← HLN.out] at hls
   replace E0 := E0.trans E2
   obtain ⟨al, cl, rfl, hml⟩ := hls.mw hown
   rw [HLN.out] at hml
   rw [HLN.out]
   have HSL : Hid (sqs (ls.map (clipL N m)).flatten ≤ m * m ∧ (ls.map (clipL N m)).flatten.length ≤ 100) := Lib.hid ⟨clip_norm HCB.out HSS.out HSN.out.2, by rw [clips_len]; have := HL.out; omega⟩
   obtain ⟨lc, hlc⟩ : ∃ lc, lc = ls.map (clipL N m) := ⟨_, rfl⟩
   rw [← hlc] at hml HSL
   clear hlc
   clear hls hown h E2
   go_wp2_with fail
   refine (Try.refCmpGt hN hm HC.out).mono ?_
   rintro e W4 ⟨rfl, hE⟩
   replace E0 := E0.trans hE
   replace hm := hm.ext hE
   replace hml := hml.ext hE
   clear hE hN
   go_wp2_with fail
   refine (Try.alive16 _).mono ?_
   rintro e W5 ⟨rfl, hE⟩
   replace E0 := E0.trans hE
   replace hm := hm.ext hE
   replace hml := hml.ext hE
   clear hE
   go_wp2_with fail
   refine (Try.refSquares16 hml HSL.out.2).mono ?_
   rintro e W6 ⟨v6, rfl, h6, hE⟩
   replace hm := hm.ext hE
   replace E0 := E0.trans hE
   clear hE hml
   have HSM : Hid (Sm 1 m) := Lib.hid (by have := HM.out; unfold Sm; rw [B64_eq]; omega)
   go_wp2_with fail
   refine (Try.refMul hm hm HSM.out HSM.out (by omega)).mono ?_
   rintro e W7 ⟨v7, rfl, h7, hE, -⟩
   replace h6 := h6.ext hE
   replace E0 := E0.trans hE
   clear hE hm
   go_wp2_with fail
   refine (Try.refCmpLe h6 h7 HSL.out.1).mono ?_
   rintro e W8 ⟨y, rfl, hy, hE⟩
   replace E0 := E0.trans hE
   clear hE h6 h7
   go_wp2; go_ret
   exact ⟨rfl, E0⟩

set_option maxRecDepth 100000 in
set_option maxHeartbeats 8000000 in
theorem Try.lawClipNorm {n c : Nat} {a : Option Addr} {ls : List (List Int)} {w : World} (k : Int) (hk : I64 k) (h : Mw 0 w.heap.size w a n c ls) (hn : n ≤ 140737488351232) (hl : ∀ l ∈ ls, l.length ≤ 140737488351232) :
  Calls Try.prog 3 #[.slice a n c, .int .i64 k] w fun e w' => e = .returned (.bool true) ∧ Ext w w' := by
 by_cases hf : n + ls.flatten.length ≤ 40
 ·by_cases hk1 : k < 1
  ·have HF : Hid (decide (n + ls.flatten.length ≤ 40) = true) := Lib.hid (decide_eq_true hf)
   have HB := Lib.hid (And.intro hn hl)
   clear hf hn hl hk
   go_enter Try.func3, Try.ntmps3
   go_wp2_with fail
   refine (Try.refFew16 h HB.out.1 HB.out.2).mono ?_
   rintro e W ⟨rfl, rfl⟩
   rw [HF.out]
   clear h; go_wp2_with fail
   refine (Try.alive16 _).mono ?_
   rintro e W7 ⟨rfl, hE⟩
   go_wp2; go_ret
   exact ⟨rfl, hE⟩
  ·obtain ⟨m, rfl⟩ := Int.eq_ofNat_of_zero_le (show 0 ≤ k by omega)
   have hm2 : m < 9223372036854775808 := by unfold I64 at hk; omega
   rcases Nat.lt_or_ge m (rootU (sqs ls.flatten) 2) with hc | hc
   ·exact Try.clipNormCut m (by omega) hm2 h hn hl hf hc
   ·exact Try.clipNormAll m (by omega) hm2 h hn hl hf hc
 ·have HF : Hid (decide (n + ls.flatten.length ≤ 40) = false) := Lib.hid (decide_eq_false hf)
  have HB := Lib.hid (And.intro hn hl)
  clear hf hn hl hk
  go_enter Try.func3, Try.ntmps3
  go_wp2_with fail
  refine (Try.refFew16 h HB.out.1 HB.out.2).mono ?_
  rintro e W ⟨rfl, rfl⟩
  rw [HF.out]
  clear h; go_wp2_with fail
  refine (Try.alive16 _).mono ?_
  rintro e W7 ⟨rfl, hE⟩
  go_wp2; go_ret
  exact ⟨rfl, hE⟩
end Go.Rt
