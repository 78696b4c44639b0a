/-
  Integers as structs: a side and a number.
  The reference's integers: Same, Cmp, Right, Few, Mul, Add.
  The reference's integers: Mul, Add.
-/
import Derived.Test.YtiebflipijcnfaaGF
import Derived.Test.YtiebflipijcnfaaGE
namespace Go.Rt

open Go.RowKit Go.Proofs

/-- a side and a size -/
def sgn (b : Bool) (N : Nat) : Int := if b then -(N : Int) else (N : Int)

theorem sgn_abs (b : Bool) (N : Nat) : (sgn b N).natAbs = N := by unfold sgn; cases b <;> simp

theorem sgn_neg (b : Bool) (N : Nat) : decide (sgn b N < 0) = (b && decide (0 < N)) := by
  unfold sgn
  cases b
  · simp
  · simp

/-- A struct value that reads as this integer: nought is not below nought. -/
def Zw (w : World) (v : Value) (z : Int) : Prop := ∃ b a n c, v = .agg #[.bool b, .slice a n c] ∧ Hid (b = decide (z < 0)) ∧ Nw w (.slice a n c) z.natAbs

theorem Zw.ext {w w' : World} (h : Ext w w') {v : Value} {z : Int} (s : Zw w v z) : Zw w' v z := let ⟨b, a, n, c, h1, hb, h2⟩ := s; ⟨b, a, n, c, h1, hb, h2.ext h⟩

theorem Nw.slice {w : World} {v : Value} {N : Nat} (h : Nw w v N) : ∃ a n c, v = .slice a n c := let ⟨a, n, c, h1, _⟩ := h.len; ⟨a, n, c, h1⟩

theorem Zw.mk {w : World} {a : Option Addr} {n c : Nat} {b : Bool} {N : Nat} (h : Nw w (.slice a n c) N) (hb : b = decide (sgn b N < 0)) : Zw w (.agg #[.bool b, .slice a n c]) (sgn b N) :=
  ⟨b, a, n, c, rfl, Lib.hid hb, by rw [sgn_abs]; exact h⟩

/-! boxes of two and of three cells -/

def Bx2 (W : World) (b : Nat) (t : TypeId) (x y : Value) : Prop := W.heap[b]? = some (.cells #[x, y] t (0, 0))

theorem Bx2.new (W : World) (t : TypeId) (x y : Value) : Bx2 (W.alloc (.cells #[x, y] t)) W.heap.size t x y := World.alloc_heap_new W _

theorem Bx2.ext {W W' : World} {b : Nat} {t : TypeId} {x y : Value} (h : Bx2 W b t x y) (hx : Ext W W') : Bx2 W' b t x y := (Below.block hx b (Array.getElem?_eq_some_iff.1 h).1).trans h

theorem Bx2.cell0 {W : World} {b : Nat} {t : TypeId} {x y : Value} (h : Bx2 W b t x y) : W.cell? ⟨b, 0, none⟩ = some x := by simp [World.cell?, show W.heap[b]? = _ from h]

theorem Bx2.cell1 {W : World} {b : Nat} {t : TypeId} {x y : Value} (h : Bx2 W b t x y) : W.cell? ⟨b, 1, none⟩ = some y := by simp [World.cell?, show W.heap[b]? = _ from h]

theorem Bx2.froz0 {W : World} {b : Nat} {t : TypeId} {x y : Value} (h : Bx2 W b t x y) : W.frozen? ⟨b, 0, none⟩ = false := by simp [World.frozen?, show W.heap[b]? = _ from h]

theorem Bx2.froz1 {W : World} {b : Nat} {t : TypeId} {x y : Value} (h : Bx2 W b t x y) : W.frozen? ⟨b, 1, none⟩ = false := by simp [World.frozen?, show W.heap[b]? = _ from h]

theorem Bx2.lt {W : World} {b : Nat} {t : TypeId} {x y : Value} (h : Bx2 W b t x y) : b < W.heap.size := (Array.getElem?_eq_some_iff.1 h).1

theorem Bx2.set {W : World} {b : Nat} {t : TypeId} {x y : Value} (h : Bx2 W b t x y) (x' y' : Value) : Bx2 ((W.setCell ⟨b, 0, none⟩ x').setCell ⟨b, 1, none⟩ y') b t x' y' := by
  obtain ⟨hlt, hk⟩ := Array.getElem?_eq_some_iff.1 h
  have e1 : (W.setCell ⟨b, 0, none⟩ x').heap[b]? = some (.cells #[x', y] t (0, 0)) := by
    show (W.heap.modify b _)[b]? = _
    rw [Array.getElem?_eq_getElem (by rw [Array.size_modify]; exact hlt), Array.getElem_modify_self, hk]
    rfl
  obtain ⟨hlt2, hk2⟩ := Array.getElem?_eq_some_iff.1 e1
  show ((W.setCell ⟨b, 0, none⟩ x').heap.modify b _)[b]? = _
  rw [Array.getElem?_eq_getElem (by rw [Array.size_modify]; exact hlt2), Array.getElem_modify_self, hk2]
  rfl

theorem Ext.set2 {W W' : World} {b : Nat} (h : Ext W W') (hb : W.heap.size ≤ b) (x y : Value) : Ext W ((W'.setCell ⟨b, 0, none⟩ x).setCell ⟨b, 1, none⟩ y) := (h.setCell (p := ⟨b, 0, none⟩) hb x).setCell (p := ⟨b, 1, none⟩) hb y

/-- cells that are no limbs -/
def NoU (cs : Array Value) : Prop := ∀ (i : Nat) (v : Value), cs[i]? = some v → ∀ n, v ≠ .int .u64 n

theorem noU2 (b : Bool) (a : Option Addr) (n c : Nat) : NoU #[.bool b, .slice a n c] := fun i v h k e => by
  match i, h with
  | 0, h => simp at h; subst h; cases e
  | 1, h => simp at h; subst h; cases e
  | i + 2, h => simp at h

theorem noU3 (b : Bool) (a : Option Addr) (n c : Nat) (a' : Option Addr) (n' c' : Nat) : NoU #[.bool b, .slice a n c, .slice a' n' c'] := fun i v h k e => by
  match i, h with
  | 0, h => simp at h; subst h; cases e
  | 1, h => simp at h; subst h; cases e
  | 2, h => simp at h; subst h; cases e
  | i + 3, h => simp at h

/-- a number does not hang on a block that holds no limbs -/
theorem Nw.off {w w' : World} {v : Value} {N b : Nat} {t : TypeId} {cs : Array Value} (h : Nw w v N) (hb : w.heap[b]? = some (.cells cs t (0, 0))) (hc : NoU cs) (hs : ∀ k, k ≠ b → w'.heap[k]? = w.heap[k]?) : Nw w' v N := by
  obtain ⟨xs, ⟨a, b', o, cap, rfl, hs1, hl⟩, hn, he⟩ := h
  refine ⟨xs, ⟨a, b', o, cap, rfl, ⟨hs1.1, hs1.2.1, hs1.2.2.1, fun i hi => ?_⟩, hl⟩, hn, he⟩
  have hcell := hs1.cell hi
  by_cases hbb : b' = b
  · exfalso
    subst hbb
    simp only [World.cell?, hb] at hcell
    exact hc _ _ (by simpa using hcell) _ rfl
  · rw [World.cell?_of_block (w := w) (hs b' hbb)]
    exact hcell

theorem off_set2 (w : World) (b : Nat) (x y : Value) : ∀ k, k ≠ b → ((w.setCell ⟨b, 0, none⟩ x).setCell ⟨b, 1, none⟩ y).heap[k]? = w.heap[k]? := fun k hk =>
  (Below.heap_setCell _ ⟨b, 1, none⟩ y k hk).trans (Below.heap_setCell _ ⟨b, 0, none⟩ x k hk)

theorem Zw.off {w w' : World} {v : Value} {z : Int} {b : Nat} {t : TypeId} {cs : Array Value} (h : Zw w v z) (hb : w.heap[b]? = some (.cells cs t (0, 0))) (hc : NoU cs) (hs : ∀ k, k ≠ b → w'.heap[k]? = w.heap[k]?) : Zw w' v z :=
  let ⟨b', a, n, c, h1, h2, h3⟩ := h; ⟨b', a, n, c, h1, h2, h3.off hb hc hs⟩

theorem pos_of {n N : Nat} (hz : n = 0 ↔ N = 0) (h : 0 < n) : decide (0 < N) = true := decide_eq_true (by
  rcases Nat.eq_zero_or_pos N with e | e
  · have := hz.2 e; omega
  · exact e)

theorem zero_of {n N : Nat} (hz : n = 0 ↔ N = 0) (h : ¬ 0 < n) : decide (0 < N) = false := decide_eq_false (by have := hz.1 (by omega); omega)

end Go.Rt

namespace Go.Rt

open Go.RowKit Go.Proofs

theorem Bx2.off {w : World} {b b' : Nat} {t : TypeId} {x0 y0 : Value} (h : Bx2 w b t x0 y0) (hne : b ≠ b') (x y : Value) : Bx2 ((w.setCell ⟨b', 0, none⟩ x).setCell ⟨b', 1, none⟩ y) b t x0 y0 := (off_set2 w b' x y b hne).trans h

theorem sgn_eq {z : Int} {b : Bool} (h : b = decide (z < 0)) : z = sgn b z.natAbs := by
  subst h; unfold sgn
  by_cases h : z < 0
  · rw [decide_eq_true h]; simp; omega
  · rw [decide_eq_false h]; simp; omega

end Go.Rt

namespace Go.Rt

open Go.RowKit Go.Proofs

theorem sgn_mul {x y : Int} {b1 b2 : Bool} (h1 : b1 = decide (x < 0)) (h2 : b2 = decide (y < 0)) : sgn (b1 != b2) (x.natAbs * y.natAbs) = x * y := by
 have e1 := sgn_eq h1
 have e2 := sgn_eq h2
 generalize x.natAbs = a at *
 generalize y.natAbs = b at *
 rw [e1, e2]
 unfold sgn
 cases b1 <;> cases b2 <;> simp [Int.neg_mul, Int.mul_neg]

theorem sgn_add_same {x y : Int} {b : Bool} (h1 : b = decide (x < 0)) (h2 : b = decide (y < 0)) : sgn b (x.natAbs + y.natAbs) = x + y := by
 have e1 := sgn_eq h1
 have e2 := sgn_eq h2
 generalize x.natAbs = a at *
 generalize y.natAbs = c at *
 rw [e1, e2]
 unfold sgn
 cases b <;> simp; omega

end Go.Rt
