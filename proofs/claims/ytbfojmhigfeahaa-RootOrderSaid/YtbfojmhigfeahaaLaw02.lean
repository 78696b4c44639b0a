/-
  The laws of chapter 02: their walks.
-/
import Derived.Test.YtbfojmhigfeahaaGiven
namespace Go.Rt
open Go.RowKit Go.Shelf Go.Proofs

theorem gvn1 {xs : List Nat} (h : gvn [xs] = true) : xs.length ≤ 20 ∧ Norm xs := by
  simp [gvn] at h
  exact ⟨h.1, normB_iff.1 h.2⟩
theorem gvn2 {xs ys : List Nat} (h : gvn [xs, ys] = true) : xs.length ≤ 20 ∧ Norm xs ∧ ys.length ≤ 20 ∧ Norm ys := by
  simp [gvn] at h
  exact ⟨h.1.1, normB_iff.1 h.1.2, h.2.1, normB_iff.1 h.2.2⟩
theorem gvn3 {xs ys zs : List Nat} (h : gvn [xs, ys, zs] = true) : xs.length ≤ 20 ∧ Norm xs ∧ ys.length ≤ 20 ∧ Norm ys ∧ zs.length ≤ 20 ∧ Norm zs := by
  simp [gvn] at h
  exact ⟨h.1.1, normB_iff.1 h.1.2, h.2.1.1, normB_iff.1 h.2.1.2, h.2.2.1, normB_iff.1 h.2.2.2⟩
theorem Sm.of_len {L : Nat} {xs : List Nat} (hl : Lim B64 xs) (h : xs.length ≤ L) : Sm L (ev B64 xs) :=
  Nat.lt_of_lt_of_le (ev_lt hl) (Nat.pow_le_pow_right B64_pos h)

/-- a row of these values, as '...' makes it -/
theorem row1 {w : World} {v0 : Value} {x0 : List Nat} (t : TypeId) (h0 : Nt w v0 x0) : ∀ i (hi : i < [x0].length), ∃ v, (w.alloc (.cells #[v0] t)).cell? ⟨w.heap.size, i, none⟩ = some v ∧ Nt (w.alloc (.cells #[v0] t)) v [x0][i] := fun i hi => by
  match i, hi with
  | 0, _ => exact ⟨v0, by rw [World.cell?_alloc_at _ _ _ _ rfl]; rfl, h0.ext (Ext.alloc1 _ _)⟩
theorem row2 {w : World} {v0 v1 : Value} {x0 x1 : List Nat} (t : TypeId) (h0 : Nt w v0 x0) (h1 : Nt w v1 x1) : ∀ i (hi : i < [x0, x1].length), ∃ v, (w.alloc (.cells #[v0, v1] t)).cell? ⟨w.heap.size, i, none⟩ = some v ∧ Nt (w.alloc (.cells #[v0, v1] t)) v [x0, x1][i] := fun i hi => by
  match i, hi with
  | 0, _ => exact ⟨v0, by rw [World.cell?_alloc_at _ _ _ _ rfl]; rfl, h0.ext (Ext.alloc1 _ _)⟩
  | 1, _ => exact ⟨v1, by rw [World.cell?_alloc_at _ _ _ _ rfl]; rfl, h1.ext (Ext.alloc1 _ _)⟩
theorem row3 {w : World} {v0 v1 v2 : Value} {x0 x1 x2 : List Nat} (t : TypeId) (h0 : Nt w v0 x0) (h1 : Nt w v1 x1) (h2 : Nt w v2 x2) : ∀ i (hi : i < [x0, x1, x2].length), ∃ v, (w.alloc (.cells #[v0, v1, v2] t)).cell? ⟨w.heap.size, i, none⟩ = some v ∧ Nt (w.alloc (.cells #[v0, v1, v2] t)) v [x0, x1, x2][i] := fun i hi => by
  match i, hi with
  | 0, _ => exact ⟨v0, by rw [World.cell?_alloc_at _ _ _ _ rfl]; rfl, h0.ext (Ext.alloc1 _ _)⟩
  | 1, _ => exact ⟨v1, by rw [World.cell?_alloc_at _ _ _ _ rfl]; rfl, h1.ext (Ext.alloc1 _ _)⟩
  | 2, _ => exact ⟨v2, by rw [World.cell?_alloc_at _ _ _ _ rfl]; rfl, h2.ext (Ext.alloc1 _ _)⟩

theorem Try.sameT {v1 v2 : Value} {N M : Nat} {w : World} (h1 : Nw w v1 N) (h2 : Nw w v2 M) (he : N = M) :
    Calls Try.prog 47 #[v1, v2] w fun e w' => e = .returned (.bool true) ∧ Ext w w' := by
  have := Try.refSame h1 h2
  rwa [decide_eq_true he] at this

theorem Try.rightT {v : Value} {N : Nat} {w : World} (h : Nw w v N) : Calls Try.prog 48 #[v] w fun e w' => e = .returned (.bool true) ∧ w = w' := by
  obtain ⟨xs, h1, h2, -⟩ := h
  have := Try.refRight h1
  rwa [normB_iff.2 h2] at this
theorem Try.ltT {v1 v2 : Value} {N M : Nat} {w : World} (h1 : Nw w v1 N) (h2 : Nw w v2 M) (hlt : N < M) :
    Calls Try.prog 52 #[v1, v2] w fun e w' => e = .returned (.int .i64 (-1)) ∧ Ext w w' := by
  have := Try.refCmp h1 h2
  rwa [cmpI_nat_lt hlt] at this
theorem Nw.lenS {w : World} {a : Option Addr} {n cap N : Nat} (h : Nw w (.slice a n cap) N) : (n = 0 ↔ N = 0) ∧ (∀ L, n ≤ L ↔ N < B64 ^ L) ∧ n ≤ cap ∧ cap ≤ 9223372036854775807 := by
  obtain ⟨xs, ⟨a', b, o, cap', hv, hs, hl⟩, hn, he⟩ := h
  cases hv
  refine ⟨?_, fun L => ?_, hs.le, hs.max⟩
  · rw [← he]; exact (hn.zero_iff B64_pos).symm
  · rw [← he]; exact len_le_iff (by rw [B64_eq]; omega) hl hn L

theorem Sm8 {L : Nat} {xs : List Nat} (hl : Lim B64 xs) (h : ¬ (L : Int) < (xs.length : Int)) : Sm L (ev B64 xs) := Sm.of_len hl (by omega)

end Go.Rt
