/-
  A row of rows that a call lets grow.
-/
import Derived.Test.YtfgmfhdcdhanbaaGreatClipD

namespace Go.Rt

open Go Go.RowKit Go.Proofs

def InfoM (P : Program) (e : TypeId) : Prop := (P.info? e).map (fun i => (i.zero, i.size, i.bytes)) = some (some (.slice none 0 0), 1, 24)

theorem InfoM.get {P : Program} {e : TypeId} (hi : InfoM P e) : ∃ i, P.info? e = some i ∧ i.zero = some (.slice none 0 0) ∧ i.size = 1 ∧ i.bytes = 24 := by
  unfold InfoM at hi
  cases hq : P.info? e with
  | none => rw [hq] at hi; cases hi
  | some i => rw [hq] at hi; simp at hi; exact ⟨i, rfl, hi.1, hi.2.1, hi.2.2⟩

def OwnV (W : World) (base : Nat) (e : TypeId) (v : Value) (vs : List Value) : Prop := W.ownsRow base e 1 v vs.length vs

theorem ownsRow_empty (w : World) (e : TypeId) : (w.alloc (.cells #[] e)).ownsRow w.heap.size e 1 (.slice (some ⟨w.heap.size, 0, none⟩) 0 0) 0 [] :=
  ⟨rfl, .inr ⟨w.heap.size, 0, #[], rfl, Nat.le_refl _, BxA.new w e #[], Nat.le_refl _, Nat.zero_le _, rfl, rfl⟩⟩

theorem ownsRow_mono {w : World} {b b' n : Nat} {e : TypeId} {v : Value} {xs : List Value} (h : w.ownsRow b e 1 v n xs) (hb : b' ≤ b) : w.ownsRow b' e 1 v n xs :=
  ⟨h.1, h.2.imp id fun ⟨g, cap, cur, e1, e2, r⟩ => ⟨g, cap, cur, e1, Nat.le_trans hb e2, r⟩⟩

theorem OwnV.ext {w w' : World} {base : Nat} {e : TypeId} {v : Value} {l : List Value} (h : OwnV w base e v l) (hx : Ext w w') : OwnV w' base e v l := by
  refine ⟨h.1, ?_⟩
  rcases h.2 with hn | ⟨g, cap, cur, rfl, hb, hg, rest⟩
  · exact .inl hn
  · exact .inr ⟨g, cap, cur, rfl, hb, (Below.block hx g (Array.getElem?_eq_some_iff.1 hg).1).trans hg, rest⟩

theorem OwnV.kept {w w' : World} {base : Nat} {e : TypeId} {v : Value} {l : List Value} {row : Option Nat} (h : OwnV w base e v l) (hg : w.grownBy w' row) (hn : v.ownBlock = none ∨ v.ownBlock ≠ row) : OwnV w' base e v l := World.ownsRow.kept h hg hn

theorem OwnI.kept {w w' : World} {base : Nat} {e : TypeId} {v : Value} {l : List Int} {row : Option Nat} (h : OwnI w base e v l) (hg : w.grownBy w' row) (hn : v.ownBlock = none ∨ v.ownBlock ≠ row) : OwnI w' base e v l := World.ownsRow.kept h hg hn

theorem OwnV.block {W : World} {base : Nat} {e : TypeId} {v : Value} {l : List Value} (h : OwnV W base e v l) : ∀ g, v.ownBlock = some g → base ≤ g ∧ g < W.heap.size := by
  intro g hg
  rcases h.2 with ⟨rfl, -⟩ | ⟨b, cap, cur, rfl, hb, hk, -⟩
  · cases hg
  · cases hg
    exact ⟨hb, (Array.getElem?_eq_some_iff.1 hk).1⟩

theorem Iz.grown {lo hi : Nat} {w w' : World} {a : Option Addr} {n c : Nat} {l : List Int} {row : Option Nat} (h : Iz lo hi w a n c l) (hg : w.grownBy w' row) (hr : ∀ g, row = some g → g < lo ∨ hi ≤ g) : Iz lo hi w' a n c l := by
  rcases h with h | h
  · refine .inl ⟨h.len, ?_, h.in64⟩
    obtain ⟨b, o, h1, h2⟩ := h.lies
    refine ⟨b, o, ⟨h1.1, h1.2.1, h1.2.2.1, fun i hi' => ?_⟩, h2⟩
    have e := h2 (by omega)
    have hc := h1.cell hi'
    rw [← hc]
    exact (hg.cell hc (fun e => by have := hr b e.symm; omega)).trans hc.symm
  · exact .inr h

section

variable {P : Program} {t e : TypeId} (ht : P.underlying t = .some (.slice e)) (hi : InfoM P e)
include ht hi

end

end Go.Rt
