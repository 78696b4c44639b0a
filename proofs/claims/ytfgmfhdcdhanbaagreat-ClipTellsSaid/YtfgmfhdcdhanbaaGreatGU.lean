/-
  A mean in plain numbers: between the least and the greatest; half a step from what is exact.
  Chapter 16: a norm's square; the sides of what is clipped.
  Chapter 16: rows that are clipped by their own norm.
  Chapter 16: the mean of rows.
-/
import Derived.Test.YtfgmfhdcdhanbaaGreatClipD
import Derived.Test.YtfgmfhdcdhanbaaGreatGT
import Derived.Test.YtfgmfhdcdhanbaaGreatOwnM
import Derived.Test.YtfgmfhdcdhanbaaGreatAdamH
import Derived.Test.YtfgmfhdcdhanbaaGreatSqz
import Derived.Deep.QuietTactic
import Derived.BigQuiet
namespace Go.Rt

open Go Go.RowKit Go.Proofs

end Go.Rt

namespace Go.Rt

open Go Go.RowKit Go.Proofs

theorem Tryz.refCmpLe {v1 v2 : Value} {N M : Nat} {w : World} (h1 : Nw w v1 N) (h2 : Nw w v2 M) (h : N ≤ M) :
    Calls Tryz.prog 26 #[v1, v2] w fun e w' => ∃ q : Int, e = .returned (.int .i64 q) ∧ q ≤ 0 ∧ Ext w w' :=
  (Tryz.refCmp h1 h2).mono fun e w' ⟨he, hE⟩ => ⟨_, he, by rcases Nat.lt_or_eq_of_le h with q | q; (rw [cmpI_nat_lt q]; omega); (rw [cmpI_nat_eq q]; omega), hE⟩

end Go.Rt

namespace Go.Rt

open Go Go.RowKit Go.Proofs

set_option maxRecDepth 100000 in
set_option maxHeartbeats 4000000 in
theorem Tryz.refSameZ {lo hi lo' hi' : Nat} {a a' : Option Addr} {n c n' c' : Nat} {l l' : List Int} {w : World} (h1 : Iz lo hi w a n c l) (h2 : Iz lo' hi' w a' n' c' l') :
  Calls Tryz.prog 9 #[.slice a n c, .slice a' n' c'] w fun e w' => e = .returned (.bool (decide (l = l'))) ∧ Ext w w' := by
 have hl1 := h1.len
 have hl2 := h2.len
 by_cases hlen : n = n'
 ·subst hlen
  rcases Nat.eq_zero_or_pos n with h0 | h0
  ·have HR : Hid (decide (l = l') = true) := Lib.hid (decide_eq_true (by rw [List.length_eq_zero_iff.1 (by omega : l.length = 0), List.length_eq_zero_iff.1 (by omega : l'.length = 0)]))
   subst h0
   clear h1 h2 hl1 hl2
   go_enter Tryz.func9, Tryz.ntmps9
   go_wp2_with fail
   go_loopw [5] (fun i wr => i = .int .i64 0 ∧ w = wr) (fun i _ => 0)
   case atStart => exact ⟨rfl, rfl⟩
   case round =>
    obtain ⟨rfl, rfl⟩ := hrel
    go_wp2; go_ret
    exact ⟨ret_b HR.out.symm, Ext.refl _⟩
  ·exact Tryz.refSame09 (h1.iw h0) (h2.iw h0)
 ·have hne : ((n : Int) != (n' : Int)) = true := bne_iff_ne.2 (by omega)
  have HR : Hid (decide (l = l') = false) := Lib.hid (decide_eq_false (fun h => hlen (by rw [h] at hl1; omega)))
  clear hlen h1 h2 hl1 hl2
  go_enter Tryz.func9, Tryz.ntmps9
  go_wp2; go_ret
  exact ⟨ret_b HR.out.symm, Ext.refl _⟩

theorem Tryz.refCmpGt {v1 v2 : Value} {N M : Nat} {w : World} (h1 : Nw w v1 N) (h2 : Nw w v2 M) (h : M < N) :
    Calls Tryz.prog 26 #[v1, v2] w fun e w' => e = .returned (.int .i64 1) ∧ Ext w w' := by
  have := Tryz.refCmp h1 h2
  rwa [cmpI_nat_gt h] at this

theorem clipV_abs (N m : Nat) (x : Int) : (clipV N m x).natAbs = x.natAbs * m / N := by
  rcases Int.lt_or_le x 0 with h | h
  · rw [clipV_neg h, Int.natAbs_neg, Int.natAbs_natCast]
  · rw [clipV_nonneg h, Int.natAbs_natCast]

/-- the clipped rows that are gathered so far -/
def LessR (W : World) (s : Value) (N m j : Nat) (ls : List (List Int)) (vs : List Value) : Prop :=
  vs.length = j ∧ ∀ q, q < j → ∃ ai ci l0 h0, vs[q]? = some (.slice ai (atR ls q).length ci) ∧ Iz l0 h0 W ai (atR ls q).length ci (clipL N m (atR ls q)) ∧ h0 ≤ W.heap.size ∧ ∀ g, s.ownBlock = some g → g < l0 ∨ h0 ≤ g

theorem LessR.ext {W W' : World} {s : Value} {N m j : Nat} {ls : List (List Int)} {vs : List Value} (h : LessR W s N m j ls vs) (hE : Ext W W') : LessR W' s N m j ls vs :=
  ⟨h.1, fun q hq => let ⟨a, c, l0, h0, e, k, k1, k2⟩ := h.2 q hq; ⟨a, c, l0, h0, e, k.ext hE, Nat.le_trans k1 hE.size, k2⟩⟩

theorem LessR.snoc {W W' : World} {s : Value} {N m j : Nat} {ls : List (List Int)} {vs : List Value} (h : LessR W s N m j ls vs) {ai : Option Addr} {ci lo hh gb nb cb : Nat} {o : Obj} (hi : Iz lo hh W ai (atR ls j).length ci (clipL N m (atR ls j))) (hs : hh ≤ W.heap.size) (hlo : ∀ g, s.ownBlock = some g → g < lo)
    (hg : (W.alloc o).grownBy W' s.ownBlock) (hat : s.ownBlock = some gb ∨ gb = W.heap.size + 1) : LessR W' (.slice (some ⟨gb, 0, none⟩) nb cb) N m (j + 1) ls (vs ++ [.slice ai (atR ls j).length ci]) := by
  have hz : W.heap.size + 1 ≤ W'.heap.size := by
    have := hg.size
    simpa using this
  refine ⟨by rw [List.length_append, h.1]; rfl, fun q hq => ?_⟩
  rcases Nat.lt_or_ge q j with h1 | h1
  · obtain ⟨a, c, l0, h0, e, k, k1, k2⟩ := h.2 q h1
    refine ⟨a, c, l0, h0, by rw [List.getElem?_append_left (by rw [h.1]; exact h1)]; exact e, (k.ext (Ext.alloc1 W o)).grown hg k2, by omega, fun g e1 => ?_⟩
    have e2 : gb = g := Option.some.inj e1
    subst e2
    rcases hat with h3 | h3
    · exact k2 _ h3
    · omega
  · obtain rfl : q = j := by omega
    refine ⟨ai, ci, lo, hh, by rw [List.getElem?_append_right (by rw [h.1]; exact Nat.le_refl _), h.1, Nat.sub_self]; rfl, (hi.ext (Ext.alloc1 W o)).grown hg (fun g e => .inl (hlo g e)), by omega, fun g e1 => ?_⟩
    have e2 : gb = g := Option.some.inj e1
    subst e2
    rcases hat with h3 | h3
    · exact .inl (hlo _ h3)
    · omega

end Go.Rt

namespace Go.Rt

open Go Go.RowKit Go.Proofs

set_option maxRecDepth 100000 in
set_option maxHeartbeats 4000000 in
theorem Tryz.meanEmpty {a : Option Addr} {c : Nat} (w : World) :
  Calls Tryz.prog 7 #[.slice a 0 c] w fun e w' => e = .returned (.tuple #[.slice none 0 0, .int .i64 9]) ∧ Ext w w' := by
 go_enter Tryz.func7, Tryz.ntmps7
 go_wp2; go_ret2
 exact ⟨rfl, Ext.alloc1 _ _⟩

end Go.Rt
