/-
  A number, clipped; each of a row; a row's copy; a row, clipped.
-/
import Derived.Test.YtkbalokicnogbaaGreatClipA
import Derived.Test.YtkbalokicnogbaaGreatGQ
import Derived.Test.YtkbalokicnogbaaGreatGM
import Derived.Test.YtkbalokicnogbaaGreatGL
import Derived.Test.YtkbalokicnogbaaGreatDyadP

namespace Go.Rt

open Go Go.RowKit Go.Proofs

/-- a box whose first cell is this Boolean -/
def HalfB (W : World) (g : Nat) (t : TypeId) (b : Bool) : Prop := ∃ a n c, Bx2 W g t (.bool b) (.slice a n c)

theorem HalfB.ext {W W' : World} {g : Nat} {t : TypeId} {b : Bool} (h : HalfB W g t b) (hE : Ext W W') : HalfB W' g t b := let ⟨a, n, c, k⟩ := h; ⟨a, n, c, k.ext hE⟩

theorem HalfB.wr {W W' : World} {g k : Nat} {t : TypeId} {b : Bool} (h : HalfB W k t b) (hw : Wr g W W') (hn : k ≠ g) : HalfB W' k t b := let ⟨a, n, c, q⟩ := h; ⟨a, n, c, q.wr hw hn⟩

theorem HalfB.lt {W : World} {g : Nat} {t : TypeId} {b : Bool} (h : HalfB W g t b) : g < W.heap.size := let ⟨_, _, _, k⟩ := h; k.lt

theorem noU_zed (b : Bool) (a : Option Addr) (n c : Nat) : NoU #[.bool b, .slice a n c] := fun i v h k q => by
  match i, h with
  | 0, h => simp at h; subst h; cases q
  | 1, h => simp at h; subst h; cases q
  | i + 2, h => simp at h

theorem HalfB.put {W : World} {g : Nat} {t : TypeId} {b : Bool} (h : HalfB W g t b) (a : Option Addr) (n c : Nat) :
    ∃ x, W.cell? ⟨g, 1, none⟩ = some x ∧ W.frozen? ⟨g, 1, none⟩ = false ∧ ∃ W', W' = W.setCell ⟨g, 1, none⟩ (.slice a n c) ∧ Wr g W W' ∧ Bx2 W' g t (.bool b) (.slice a n c) := by
  obtain ⟨a0, n0, c0, k⟩ := h
  exact ⟨_, k.cell1, BxA.frozN (xs := #[.bool b, .slice a0 n0 c0]) k 1, _, rfl, Wr.putN (xs := #[.bool b, .slice a0 n0 c0]) k (noU_zed b a0 n0 c0) 1 (.slice a n c) (noU_zed b a n c), BxA.putN (xs := #[.bool b, .slice a0 n0 c0]) k 1 (.slice a n c)⟩

theorem OwnI.made (w : World) (t : TypeId) : OwnI (w.alloc (.cells #[] t)) w.heap.size t (.slice (some ⟨w.heap.size, 0, none⟩) 0 0) [] :=
  ⟨rfl, .inr ⟨w.heap.size, 0, #[], rfl, Nat.le_refl _, heap_alloc_new w _, Nat.le_refl _, Nat.zero_le _, rfl, rfl⟩⟩

/-- what is made of the first k -/
def padL (f : Int → Int) (l : List Int) (k : Nat) : List Int := (l.take k).map f ++ List.replicate (l.length - k) 0

theorem padL_zero (f : Int → Int) (l : List Int) : padL f l 0 = List.replicate l.length 0 := by simp [padL]

theorem padL_len (f : Int → Int) {l : List Int} {k : Nat} (h : k ≤ l.length) : (padL f l k).length = l.length := by simp [padL]; omega

theorem padL_all (f : Int → Int) (l : List Int) : padL f l l.length = l.map f := by simp [padL]

theorem padL_set (f : Int → Int) {l : List Int} {k : Nat} (h : k < l.length) : (padL f l k).set k (f (atL l k)) = padL f l (k + 1) := by
  unfold padL
  have h1 : ((l.take k).map f).length = k := by simp; omega
  have h2 : l.length - k = (l.length - (k + 1)) + 1 := by omega
  rw [List.set_append_right _ _ (by omega), h1, Nat.sub_self, h2, List.replicate_succ, List.set_cons_zero, List.take_succ_eq_append_getElem h, List.map_append, List.append_assoc, ← atL_eq h]
  rfl

theorem Tryz.makeR (n : Nat) (hn : n ≤ 1000) (w : World) : (Instr.makeSlice 25 (.int .i64 (n : Int)) (.int .i64 (n : Int))).run Tryz.prog w = .ok (.slice (some ⟨w.heap.size, 0, none⟩) n n) (w.alloc (.cells (madeCells #[.int .i64 0] n) 2)) :=
 run_make_row' _ _ _ 8 Tryz.underlying25 (by kernel_rfl) rfl .i64 .i64 n (by omega) (by omega) w

end Go.Rt
