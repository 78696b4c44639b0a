/-
  A box of any number of cells: what it holds, and that it stays.
-/
import Derived.Test.YtkbalokicnogbaaGreatGK

namespace Go.Rt

open Go Go.RowKit Go.Proofs

def BxA (W : World) (b : Nat) (t : TypeId) (xs : Array Value) : Prop := W.heap[b]? = some (.cells xs t (0, 0))

theorem BxA.new (W : World) (t : TypeId) (xs : Array Value) : BxA (W.alloc (.cells xs t)) W.heap.size t xs := World.alloc_heap_new W _

theorem BxA.ext {W W' : World} {b : Nat} {t : TypeId} {xs : Array Value} (h : BxA W b t xs) (hx : Ext W W') : BxA W' b t xs := (Below.block hx b (Array.getElem?_eq_some_iff.1 h).1).trans h

theorem BxA.cell {W : World} {b : Nat} {t : TypeId} {xs : Array Value} (h : BxA W b t xs) (i : Nat) {v : Value} (hv : xs[i]? = some v) : W.cell? ⟨b, i, none⟩ = some v := by simp [World.cell?, show W.heap[b]? = _ from h, hv]

theorem BxA.lt {W : World} {b : Nat} {t : TypeId} {xs : Array Value} (h : BxA W b t xs) : b < W.heap.size := (Array.getElem?_eq_some_iff.1 h).1

theorem BxA.apart {g : List Nat} {W W' : World} {b : Nat} {t : TypeId} {xs : Array Value} (h : BxA W b t xs) (hx : Apart g W W') (hb : b ∉ g) : BxA W' b t xs := (hx.block b (Array.getElem?_eq_some_iff.1 h).1 hb).trans h

theorem BxA.wr {W W' : World} {g k : Nat} {t : TypeId} {xs : Array Value} (h : BxA W k t xs) (hw : Wr g W W') (hn : k ≠ g) : BxA W' k t xs := h.apart hw.apart (by simpa using hn)

theorem BxA.c4 {W : World} {b : Nat} {t : TypeId} {x0 x1 x2 x3 : Value} (h : BxA W b t #[x0, x1, x2, x3]) : W.cell? ⟨b, 0, none⟩ = some x0 ∧ W.cell? ⟨b, 1, none⟩ = some x1 ∧ W.cell? ⟨b, 2, none⟩ = some x2 ∧ W.cell? ⟨b, 3, none⟩ = some x3 :=
  ⟨h.cell 0 rfl, h.cell 1 rfl, h.cell 2 rfl, h.cell 3 rfl⟩

theorem BxA.c6 {W : World} {b : Nat} {t : TypeId} {x0 x1 x2 x3 x4 x5 : Value} (h : BxA W b t #[x0, x1, x2, x3, x4, x5]) : W.cell? ⟨b, 0, none⟩ = some x0 ∧ W.cell? ⟨b, 1, none⟩ = some x1 ∧ W.cell? ⟨b, 2, none⟩ = some x2 ∧ W.cell? ⟨b, 3, none⟩ = some x3 ∧ W.cell? ⟨b, 4, none⟩ = some x4 ∧ W.cell? ⟨b, 5, none⟩ = some x5 :=
  ⟨h.cell 0 rfl, h.cell 1 rfl, h.cell 2 rfl, h.cell 3 rfl, h.cell 4 rfl, h.cell 5 rfl⟩

end Go.Rt
