/-
  Boxes of six cells (an interval of rationals): what they hold, and what a region's operations leave of them; intervals in memory.
-/
import Derived.Test.YthmncdhibcoiaaaGreatGK
import Derived.Test.YthmncdhibcoiaaaGreatBoxA
namespace Go.Rt
open Go Go.RowKit Go.Proofs

theorem BxA.put {W : World} {b : Nat} {t : TypeId} {xs : Array Value} (h : BxA W b t xs) (i : Nat) (v : Value) : BxA (W.setCell ⟨b, i, none⟩ v) b t (xs.setIfInBounds i v) := by
  unfold BxA at h ⊢
  simp [World.setCell, h, Array.getElem?_modify]

theorem BxA.froz {W : World} {b : Nat} {t : TypeId} {xs : Array Value} (h : BxA W b t xs) (i : Nat) : W.frozen? ⟨b, i, none⟩ = false := by simp [World.frozen?, show W.heap[b]? = _ from h]

theorem noU6 (b : Bool) (a : Option Addr) (n c : Nat) (d : Option Addr) (m o : Nat) (b2 : Bool) (a2 : Option Addr) (n2 c2 : Nat) (d2 : Option Addr) (m2 o2 : Nat) : NoU #[.bool b, .slice a n c, .slice d m o, .bool b2, .slice a2 n2 c2, .slice d2 m2 o2] := fun i v h k e => by
  match i, h with
  | 0, h => simp at h; subst h; cases e
  | 1, h => simp at h; subst h; cases e
  | 2, h => simp at h; subst h; cases e
  | 3, h => simp at h; subst h; cases e
  | 4, h => simp at h; subst h; cases e
  | 5, h => simp at h; subst h; cases e
  | i + 6, h => simp at h

def Bx6 (W : World) (b : Nat) (t : TypeId) (x0 x1 x2 x3 x4 x5 : Value) : Prop := BxA W b t #[x0, x1, x2, x3, x4, x5]

theorem Bx6.new (W : World) (t : TypeId) (x0 x1 x2 x3 x4 x5 : Value) : Bx6 (W.alloc (.cells #[x0, x1, x2, x3, x4, x5] t)) W.heap.size t x0 x1 x2 x3 x4 x5 := BxA.new W t _

theorem Bx6.ext {W W' : World} {b : Nat} {t : TypeId} {x0 x1 x2 x3 x4 x5 : Value} (h : Bx6 W b t x0 x1 x2 x3 x4 x5) (hx : Ext W W') : Bx6 W' b t x0 x1 x2 x3 x4 x5 := BxA.ext h hx

theorem Bx6.cell0 {W : World} {b : Nat} {t : TypeId} {x0 x1 x2 x3 x4 x5 : Value} (h : Bx6 W b t x0 x1 x2 x3 x4 x5) : W.cell? ⟨b, 0, none⟩ = some x0 := BxA.cell h 0 rfl

theorem Bx6.froz0 {W : World} {b : Nat} {t : TypeId} {x0 x1 x2 x3 x4 x5 : Value} (h : Bx6 W b t x0 x1 x2 x3 x4 x5) : W.frozen? ⟨b, 0, none⟩ = false := BxA.froz h 0

theorem Bx6.cell1 {W : World} {b : Nat} {t : TypeId} {x0 x1 x2 x3 x4 x5 : Value} (h : Bx6 W b t x0 x1 x2 x3 x4 x5) : W.cell? ⟨b, 1, none⟩ = some x1 := BxA.cell h 1 rfl

theorem Bx6.froz1 {W : World} {b : Nat} {t : TypeId} {x0 x1 x2 x3 x4 x5 : Value} (h : Bx6 W b t x0 x1 x2 x3 x4 x5) : W.frozen? ⟨b, 1, none⟩ = false := BxA.froz h 1

theorem Bx6.cell2 {W : World} {b : Nat} {t : TypeId} {x0 x1 x2 x3 x4 x5 : Value} (h : Bx6 W b t x0 x1 x2 x3 x4 x5) : W.cell? ⟨b, 2, none⟩ = some x2 := BxA.cell h 2 rfl

theorem Bx6.froz2 {W : World} {b : Nat} {t : TypeId} {x0 x1 x2 x3 x4 x5 : Value} (h : Bx6 W b t x0 x1 x2 x3 x4 x5) : W.frozen? ⟨b, 2, none⟩ = false := BxA.froz h 2

theorem Bx6.cell3 {W : World} {b : Nat} {t : TypeId} {x0 x1 x2 x3 x4 x5 : Value} (h : Bx6 W b t x0 x1 x2 x3 x4 x5) : W.cell? ⟨b, 3, none⟩ = some x3 := BxA.cell h 3 rfl

theorem Bx6.froz3 {W : World} {b : Nat} {t : TypeId} {x0 x1 x2 x3 x4 x5 : Value} (h : Bx6 W b t x0 x1 x2 x3 x4 x5) : W.frozen? ⟨b, 3, none⟩ = false := BxA.froz h 3

theorem Bx6.cell4 {W : World} {b : Nat} {t : TypeId} {x0 x1 x2 x3 x4 x5 : Value} (h : Bx6 W b t x0 x1 x2 x3 x4 x5) : W.cell? ⟨b, 4, none⟩ = some x4 := BxA.cell h 4 rfl

theorem Bx6.froz4 {W : World} {b : Nat} {t : TypeId} {x0 x1 x2 x3 x4 x5 : Value} (h : Bx6 W b t x0 x1 x2 x3 x4 x5) : W.frozen? ⟨b, 4, none⟩ = false := BxA.froz h 4

theorem Bx6.cell5 {W : World} {b : Nat} {t : TypeId} {x0 x1 x2 x3 x4 x5 : Value} (h : Bx6 W b t x0 x1 x2 x3 x4 x5) : W.cell? ⟨b, 5, none⟩ = some x5 := BxA.cell h 5 rfl

theorem Bx6.froz5 {W : World} {b : Nat} {t : TypeId} {x0 x1 x2 x3 x4 x5 : Value} (h : Bx6 W b t x0 x1 x2 x3 x4 x5) : W.frozen? ⟨b, 5, none⟩ = false := BxA.froz h 5

theorem Bx6.c6 {W : World} {b : Nat} {t : TypeId} {x0 x1 x2 x3 x4 x5 : Value} (h : Bx6 W b t x0 x1 x2 x3 x4 x5) : W.cell? ⟨b, 0, none⟩ = some x0 ∧ W.cell? ⟨b, 1, none⟩ = some x1 ∧ W.cell? ⟨b, 2, none⟩ = some x2 ∧ W.cell? ⟨b, 3, none⟩ = some x3 ∧ W.cell? ⟨b, 4, none⟩ = some x4 ∧ W.cell? ⟨b, 5, none⟩ = some x5 := ⟨h.cell0, h.cell1, h.cell2, h.cell3, h.cell4, h.cell5⟩

theorem Bx6.lt {W : World} {b : Nat} {t : TypeId} {x0 x1 x2 x3 x4 x5 : Value} (h : Bx6 W b t x0 x1 x2 x3 x4 x5) : b < W.heap.size := BxA.lt h

theorem Bx6.set {W : World} {b : Nat} {t : TypeId} {x0 x1 x2 x3 x4 x5 : Value} (h : Bx6 W b t x0 x1 x2 x3 x4 x5) (y0 y1 y2 y3 y4 y5 : Value) : Bx6 ((((((W.setCell ⟨b, 0, none⟩ y0).setCell ⟨b, 1, none⟩ y1).setCell ⟨b, 2, none⟩ y2).setCell ⟨b, 3, none⟩ y3).setCell ⟨b, 4, none⟩ y4).setCell ⟨b, 5, none⟩ y5) b t y0 y1 y2 y3 y4 y5 :=
  BxA.put (BxA.put (BxA.put (BxA.put (BxA.put (BxA.put h 0 y0) 1 y1) 2 y2) 3 y3) 4 y4) 5 y5

theorem Bx6.apart {g : List Nat} {W W' : World} {b : Nat} {t : TypeId} {x0 x1 x2 x3 x4 x5 : Value} (h : Bx6 W b t x0 x1 x2 x3 x4 x5) (hx : Apart g W W') (hb : b ∉ g) : Bx6 W' b t x0 x1 x2 x3 x4 x5 := BxA.apart h hx hb

theorem Bx6.wr {W W' : World} {g k : Nat} {t : TypeId} {x0 x1 x2 x3 x4 x5 : Value} (h : Bx6 W k t x0 x1 x2 x3 x4 x5) (hw : Wr g W W') (hn : k ≠ g) : Bx6 W' k t x0 x1 x2 x3 x4 x5 := BxA.wr h hw hn

theorem Form.bx6 {W : World} {g : Nat} {t : TypeId} (h : Form W g t 6) : ∃ x0 x1 x2 x3 x4 x5, Bx6 W g t x0 x1 x2 x3 x4 x5 ∧ NoU #[x0, x1, x2, x3, x4, x5] := by
  obtain ⟨cs, h1, h2, h3⟩ := h
  obtain ⟨l⟩ := cs
  match l, h3 with
  | [x0, x1, x2, x3, x4, x5], _ => exact ⟨x0, x1, x2, x3, x4, x5, h1, h2⟩

theorem Bx6.form {W : World} {g : Nat} {t : TypeId} {b : Bool} {a : Option Addr} {n c : Nat} {d : Option Addr} {m o : Nat} {b2 : Bool} {a2 : Option Addr} {n2 c2 : Nat} {d2 : Option Addr} {m2 o2 : Nat} (h : Bx6 W g t (.bool b) (.slice a n c) (.slice d m o) (.bool b2) (.slice a2 n2 c2) (.slice d2 m2 o2)) : Form W g t 6 := ⟨_, h, noU6 _ _ _ _ _ _ _ _ _ _ _ _ _ _, rfl⟩

theorem Wr.set6 {W : World} {g : Nat} {t : TypeId} {x0 x1 x2 x3 x4 x5 : Value} (h : Bx6 W g t x0 x1 x2 x3 x4 x5) (hn : NoU #[x0, x1, x2, x3, x4, x5]) (b : Bool) (a : Option Addr) (n c : Nat) (d : Option Addr) (m o : Nat) (b2 : Bool) (a2 : Option Addr) (n2 c2 : Nat) (d2 : Option Addr) (m2 o2 : Nat) : Wr g W ((((((W.setCell ⟨g, 0, none⟩ (.bool b)).setCell ⟨g, 1, none⟩ (.slice a n c)).setCell ⟨g, 2, none⟩ (.slice d m o)).setCell ⟨g, 3, none⟩ (.bool b2)).setCell ⟨g, 4, none⟩ (.slice a2 n2 c2)).setCell ⟨g, 5, none⟩ (.slice d2 m2 o2)) :=
  ⟨((((((Apart.setCell (p := ⟨g, 0, none⟩) _ (by simp) _).trans (Apart.setCell (p := ⟨g, 1, none⟩) _ (by simp) _)).trans (Apart.setCell (p := ⟨g, 2, none⟩) _ (by simp) _)).trans (Apart.setCell (p := ⟨g, 3, none⟩) _ (by simp) _)).trans (Apart.setCell (p := ⟨g, 4, none⟩) _ (by simp) _)).trans (Apart.setCell (p := ⟨g, 5, none⟩) _ (by simp) _)), ⟨_, t, h, hn⟩, fun cs t' hc => by
    rw [show W.heap[g]? = _ from h] at hc
    cases hc
    exact ⟨_, Bx6.set h _ _ _ _ _ _, noU6 _ _ _ _ _ _ _ _ _ _ _ _ _ _, rfl⟩⟩

def Put6 (B : Nat) (t : TypeId) (p r : Value) (W : World) : Prop := ∃ g b a n c d m o b2 a2 n2 c2 d2 m2 o2, p = .pointer (some ⟨g, 0, none⟩) ∧ r = .agg #[.bool b, .slice a n c, .slice d m o, .bool b2, .slice a2 n2 c2, .slice d2 m2 o2] ∧ B ≤ g ∧ Bx6 W g t (.bool b) (.slice a n c) (.slice d m o) (.bool b2) (.slice a2 n2 c2) (.slice d2 m2 o2)

def At6 (g : Nat) (t : TypeId) (r : Value) (W : World) : Prop := ∃ b a n c d m o b2 a2 n2 c2 d2 m2 o2, r = .agg #[.bool b, .slice a n c, .slice d m o, .bool b2, .slice a2 n2 c2, .slice d2 m2 o2] ∧ Bx6 W g t (.bool b) (.slice a n c) (.slice d m o) (.bool b2) (.slice a2 n2 c2) (.slice d2 m2 o2)

def New6 (B : Nat) (t : TypeId) (x0 x1 x2 x3 x4 x5 p : Value) (W : World) : Prop := ∃ g, p = .pointer (some ⟨g, 0, none⟩) ∧ B ≤ g ∧ Bx6 W g t x0 x1 x2 x3 x4 x5

theorem cert_put6 {B : Nat} {t : TypeId} {i j : Nat} : Cert (PS.three i j (fun p r _ W => Put6 B t p r W)) :=
  fun _ _ _ _ hE ⟨g, b, a, n, c, d, m, o, b2, a2, n2, c2, d2, m2, o2, h1, h2, h3, h4⟩ => ⟨g, b, a, n, c, d, m, o, b2, a2, n2, c2, d2, m2, o2, h1, h2, h3, Bx6.ext h4 hE⟩

theorem cert_at6 {g : Nat} {t : TypeId} {i : Nat} : Cert (PS.two i (fun r _ W => At6 g t r W)) := fun _ _ _ _ hE ⟨b, a, n, c, d, m, o, b2, a2, n2, c2, d2, m2, o2, h1, h2⟩ => ⟨b, a, n, c, d, m, o, b2, a2, n2, c2, d2, m2, o2, h1, Bx6.ext h2 hE⟩

theorem cert_bx6 {g : Nat} {t : TypeId} {x0 x1 x2 x3 x4 x5 : Value} : Cert (PS.own (fun W => Bx6 W g t x0 x1 x2 x3 x4 x5)) := fun _ _ _ _ hE h => Bx6.ext h hE

theorem cert_new6 {B : Nat} {t : TypeId} {x0 x1 x2 x3 x4 x5 : Value} {i : Nat} : Cert (PS.two i (fun p _ W => New6 B t x0 x1 x2 x3 x4 x5 p W)) := fun _ _ _ _ hE ⟨g, h1, h2, h3⟩ => ⟨g, h1, h2, Bx6.ext h3 hE⟩

/-- an interval in memory -/
def Sw (w : World) (v : Value) (p : Rat × Rat) : Prop := ∃ b a n c d m o b2 a2 n2 c2 d2 m2 o2, v = .agg #[.bool b, .slice a n c, .slice d m o, .bool b2, .slice a2 n2 c2, .slice d2 m2 o2] ∧ Rw w (.agg #[.bool b, .slice a n c, .slice d m o]) p.1 ∧ Rw w (.agg #[.bool b2, .slice a2 n2 c2, .slice d2 m2 o2]) p.2

theorem Sw.ext {w w' : World} {v : Value} {p : Rat × Rat} (s : Sw w v p) (h : Ext w w') : Sw w' v p := let ⟨b, a, n, c, d, m, o, b2, a2, n2, c2, d2, m2, o2, h1, h2, h3⟩ := s; ⟨b, a, n, c, d, m, o, b2, a2, n2, c2, d2, m2, o2, h1, Rw.ext h h2, Rw.ext h h3⟩

theorem Sw.wr {W W' : World} {g : Nat} {v : Value} {p : Rat × Rat} (s : Sw W v p) (hw : Wr g W W') : Sw W' v p := let ⟨b, a, n, c, d, m, o, b2, a2, n2, c2, d2, m2, o2, h1, h2, h3⟩ := s; ⟨b, a, n, c, d, m, o, b2, a2, n2, c2, d2, m2, o2, h1, h2.wr hw, h3.wr hw⟩

theorem Good.span (p : Rat × Rat) : Good (fun v W => Sw W v p) := ⟨fun _ _ _ hE h => h.ext hE, fun _ _ _ _ hw h => h.wr hw⟩

theorem Sw.lo {w : World} {b : Bool} {a : Option Addr} {n c : Nat} {d : Option Addr} {m o : Nat} {b2 : Bool} {a2 : Option Addr} {n2 c2 : Nat} {d2 : Option Addr} {m2 o2 : Nat} {p : Rat × Rat} (h : Sw w (.agg #[.bool b, .slice a n c, .slice d m o, .bool b2, .slice a2 n2 c2, .slice d2 m2 o2]) p) : Rw w (.agg #[.bool b, .slice a n c, .slice d m o]) p.1 := by
  obtain ⟨_, _, _, _, _, _, _, _, _, _, _, _, _, _, e, h1, -⟩ := h
  cases e
  exact h1

theorem Sw.hi {w : World} {b : Bool} {a : Option Addr} {n c : Nat} {d : Option Addr} {m o : Nat} {b2 : Bool} {a2 : Option Addr} {n2 c2 : Nat} {d2 : Option Addr} {m2 o2 : Nat} {p : Rat × Rat} (h : Sw w (.agg #[.bool b, .slice a n c, .slice d m o, .bool b2, .slice a2 n2 c2, .slice d2 m2 o2]) p) : Rw w (.agg #[.bool b2, .slice a2 n2 c2, .slice d2 m2 o2]) p.2 := by
  obtain ⟨_, _, _, _, _, _, _, _, _, _, _, _, _, _, e, -, h1⟩ := h
  cases e
  exact h1

theorem Sw.mk {w : World} {b : Bool} {a : Option Addr} {n c : Nat} {d : Option Addr} {m o : Nat} {b2 : Bool} {a2 : Option Addr} {n2 c2 : Nat} {d2 : Option Addr} {m2 o2 : Nat} {x y : Rat} (h1 : Rw w (.agg #[.bool b, .slice a n c, .slice d m o]) x) (h2 : Rw w (.agg #[.bool b2, .slice a2 n2 c2, .slice d2 m2 o2]) y) : Sw w (.agg #[.bool b, .slice a n c, .slice d m o, .bool b2, .slice a2 n2 c2, .slice d2 m2 o2]) (x, y) := ⟨_, _, _, _, _, _, _, _, _, _, _, _, _, _, rfl, h1, h2⟩

end Go.Rt
