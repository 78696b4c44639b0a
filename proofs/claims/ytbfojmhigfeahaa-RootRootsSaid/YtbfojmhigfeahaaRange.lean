/-
  A range over a function, by rounds that are counted: what the caller owes is an invariant told by how many rounds are over, its body walked once, and what follows. The iterator's word ('Iter') is told of whatever invariant.
-/
import Derived.RangeFuncNested
import Derived.RangeFuncBound
import Derived.RangeFuncCalls
import Derived.RangeFuncLeaves
import Derived.Shelf.Abstract
import Derived.Shelf.RegionOpen
import Derived.OwnWalkIn
import Derived.TacticsInMore
import Derived.LoopNIn
import Derived.LoopIn
import Derived.Test.YtbfojmhigfeahaaBase
namespace Go.Rt
open Go.RowKit Go.Shelf

/-- how a round's body may be left, k rounds being over ahead of it -/
def roundQ (B : Nat) (I : Nat → World → Prop) (Ix : Code → Nat → World → Prop) (k : Nat) (W : World) : Exit → Act → World → Prop
  | .normal, _, W' => KeepsFrom B W W' ∧ I (k + 1) W'
  | .ret, _, W' => KeepsFrom B W W' ∧ Ix .ret k W'
  | .exit id, _, W' => KeepsFrom B W W' ∧ Ix (.exit id) k W'
  | .goto t, _, W' => KeepsFrom B W W' ∧ Ix (.goto t) k W'
  | .panic _, _, _ => False
  | .outgrown, _, _ => False

/-- a turn of a block of book-keeping, none of them cells -/
def Turns (B : Nat) (J : World → Prop) : Prop := ∀ (W : World) (l : Nat) (o o' : Obj), B ≤ l → W.heap[l]? = some o → o.isCells = false → o'.isCells = false → J W → J (W.putObj l o')

/-- The iterator's word: n rounds at most, whatever is kept of the caller's invariant. 'vals k': what the k-th round is handed; 'can': what the iterator reads ahead of it. -/
def Iter (P : Program) (gf : Nat) (lb : Array Value) (n : Nat) (vals : Nat → Array Value) (can : Nat → World → Prop) : Prop :=
  ∀ (l : Nat) (J Jx : Nat → World → Prop) (W : World), (∀ k W, k ≤ n → J k W → can k W) → (∀ k W o, J k W → J k (W.alloc o)) → (∀ k W, J k W → J k W.drew) →
    (∀ k W1, k < n → J k W1 → YieldAt Fence.wide 8 P l (vals k) W1 fun e W' => (e = .returned (.bool true) ∧ J (k + 1) W') ∨ (e = .returned (.bool false) ∧ Jx k W')) →
    J 0 W →
    CallsIn Fence.wide 9 P gf (#[.func (.yield l) #[] #[]] ++ lb) W fun e W' => (∃ v, e = .returned v) ∧ (J n W' ∨ ∃ k, k < n ∧ Jx k W')

/-- behind the assignment to the loop's left sides: the body, from whatever world keeps the invariant -/
def roundThen (P : Program) (l B : Nat) (I : Nat → World → Prop) (Ix : Code → Nat → World → Prop) (k : Nat) (body : Code) (W : World) : Act → World → Prop :=
  fun a' W' => W = W' ∧ ∀ W2, I k W2 → body.wpIn (Fence.wide.inRound l) 8 P (roundQ B I Ix k W2) a' W2
theorem roundThen.mk {P : Program} {l B : Nat} {I : Nat → World → Prop} {Ix : Code → Nat → World → Prop} {k : Nat} {body : Code} {W : World} {a' : Act}
    (h : ∀ W2, I k W2 → body.wpIn (Fence.wide.inRound l) 8 P (roundQ B I Ix k W2) a' W2) : roundThen P l B I Ix k body W a' W := ⟨rfl, h⟩

theorem wpIn_range {P : Program} {g : Operand} {ps : Array Tmp} {assign body : Code} {Q : Exit → Act → World → Prop} {a : Act} {w : World}
    {gf : Nat} {lb : Array Value} (hg : a.eval g = .func (.func gf) #[] lb) (eg : ∀ args w, (callFunc gf args).run P w = .ok (.enter gf args) w)
    {n : Nat} {vals : Nat → Array Value} {can : Nat → World → Prop} (hit : Iter P gf lb n vals can) (hps : ∀ k, (vals k).size = ps.size)
    (I : Nat → World → Prop) (Ix : Code → Nat → World → Prop) (hI : ∀ k, Turns w.heap.size (I k)) (hIx : ∀ c k, Turns w.heap.size (Ix c k)) (hIa : ∀ k W o, I k W → I k (W.alloc o)) (hId : ∀ k W, I k W → I k W.drew) (h0 : I 0 w)
    (hcan : ∀ k W, k ≤ n → I k W → can k W)
    (hround : ∀ (l k : Nat) (W : World), k < n → I k W → assign.wpIn (Fence.wide.inRound l) 8 P
      (Exit.then (roundThen P l w.heap.size I Ix k body W) (fun _ _ _ => False))
      { tmps := (ps.zip (vals k)).foldl (fun t (p, v) => t.setIfInBounds p v) a.tmps, defers := [] } W)
    (hdone : ∀ (D : Nat) (W : World), w.heap.size ≤ D → I n W → W.heap[D]? = some (.deferred (some [])) → Q .normal { a with defers := { target := .collected D, args := #[] } :: a.defers } W)
    (hstop : ∀ (D : Nat) (c : Code) (k : Nat) (W : World), w.heap.size ≤ D → k < n → Ix c k W → W.heap[D]? = some (.deferred (some [])) → c.wpIn Fence.wide 10 P Q { a with defers := { target := .collected D, args := #[] } :: a.defers } W) :
    (Code.rangeFunc g ps assign body).wpIn Fence.wide 10 P Q a w := by
  refine wpIn_rangeFunc ?_
  intro fn hfn
  obtain ⟨rec, hrec⟩ : ∃ rec : LoopState → Option Code → Loop, rec = fun st pe => { state := st, pending := pe, fn, tmps := a.tmps, params := ps, assign, body, defers := w.heap.size } := ⟨_, rfl⟩
  obtain ⟨W1, hW1⟩ : ∃ W1, (w.alloc (.deferred (some []))).alloc (.loop (rec .ready none)) = W1 := ⟨_, rfl⟩
  have hL1 : W1.heap[w.heap.size + 1]? = some (.loop (rec .ready none)) := by
    rw [← hW1]; have := World.alloc_heap_new (w.alloc (.deferred (some []))) (.loop (rec .ready none)); rwa [World.size_alloc] at this
  have hK1 : W1.heap[w.heap.size]? = some (.deferred (some [])) := by
    rw [← hW1]; exact (Below.heap_alloc _ _ _ (by simp)).trans (World.alloc_heap_new w _)
  have hI1 : I 0 W1 := by rw [← hW1]; exact hIa _ _ _ (hIa _ _ _ h0)
  have old : ∀ (W : World) (i : Nat) (o o' : Obj), W.heap[i]? = some o → (W.alloc o').heap[i]? = some o := fun W i o o' h =>
    (Below.heap_alloc _ _ _ (Array.getElem?_eq_some_iff.1 h).1).trans h
  refine ⟨w.heap.size + 1, [{ target := .collected w.heap.size, args := #[] }], W1, { target := .fn (.func gf) lb, args := #[.func (.yield (w.heap.size + 1)) #[] #[]] }, W1, gf,
    #[.func (.yield (w.heap.size + 1)) #[] #[]] ++ lb, W1, ?_, ?_, ?_, ?_, fun _ => by omega, ?_⟩
  · rw [← hW1, hrec]; exact run_enterLoop_outer _ _ _ _ _
  · simp only [resolve, hg]
    simp [go_sem]
  · intro f' _; exact trivial
  · simp [invoke, go_sem, eg]
  · refine (hit (w.heap.size + 1)
      (fun k W => I k W ∧ W.heap[w.heap.size + 1]? = some (.loop (rec .ready none)) ∧ W.heap[w.heap.size]? = some (.deferred (some [])))
      (fun k W => ∃ c, Ix c k W ∧ W.heap[w.heap.size + 1]? = some (.loop (rec .done (some c))) ∧ W.heap[w.heap.size]? = some (.deferred (some [])))
      W1 (fun k W hk h => hcan k W hk h.1) (fun k W o h => ⟨hIa k W o h.1, old _ _ _ _ h.2.1, old _ _ _ _ h.2.2⟩) (fun k W h => ⟨hId k W h.1, h.2.1, h.2.2⟩) ?_ ⟨hI1, hL1, hK1⟩).mono ?_
    · rintro k W hkn ⟨hi, hl, hk⟩
      have hlt : w.heap.size + 1 < W.heap.size := (Array.getElem?_eq_some_iff.1 hl).1
      have hy := run_yield (P := P) (args := vals k) hl (by rw [hrec]; exact hps k)
      rw [hrec] at hy
      refine ⟨fn, _, assign, body, hy, roundIn_of_wpIn hfn (wpIn_mono (hround (w.heap.size + 1) k W hkn hi) ?_)⟩
      clear hy
      rintro e a' W' hq
      cases e with
      | exit id => exact hq.elim
      | goto t => exact hq.elim
      | ret => exact hq.elim
      | panic chain => exact hq.elim
      | outgrown => exact hq.elim
      | normal =>
      obtain ⟨rfl, hb⟩ := hq
      refine ⟨_, run_beginRound hl (by rw [hrec]), ?_⟩
      have hl2 : (W.putObj (w.heap.size + 1) (.loop { rec .ready none with state := .busy })).heap[w.heap.size + 1]? = some (.loop { rec .ready none with state := .busy }) := World.putObj_heap_same hlt
      have hk2 : (W.putObj (w.heap.size + 1) (.loop { rec .ready none with state := .busy })).heap[w.heap.size]? = some (.deferred (some [])) := (World.putObj_heap_other (by omega)).trans hk
      refine wpIn_mono (hb _ (hI k _ _ _ _ (by omega) hl rfl rfl hi)) ?_
      have fin : ∀ (jump : Option Code) (W3 : World), KeepsFrom w.heap.size (W.putObj (w.heap.size + 1) (.loop { rec .ready none with state := .busy })) W3 →
          (Instr.endRound (w.heap.size + 1) jump).run P W3 = .ok (.bool jump.isNone) (W3.putObj (w.heap.size + 1) (.loop (rec (if jump.isNone then .ready else .done) jump))) ∧
          W3.heap[w.heap.size + 1]? = some (.loop { rec .ready none with state := .busy }) ∧
          (W3.putObj (w.heap.size + 1) (.loop (rec (if jump.isNone then .ready else .done) jump))).heap[w.heap.size + 1]? = some (.loop (rec (if jump.isNone then .ready else .done) jump)) ∧
          (W3.putObj (w.heap.size + 1) (.loop (rec (if jump.isNone then .ready else .done) jump))).heap[w.heap.size]? = some (.deferred (some [])) := fun jump W3 hk3 => by
        have hl3 := hk3.same _ _ (by omega) hl2 rfl
        have := run_endRound (P := P) jump hl3
        rw [hrec] at this ⊢
        exact ⟨this, by rw [hrec] at hl3; exact hl3, World.putObj_heap_same (Array.getElem?_eq_some_iff.1 hl3).1, (World.putObj_heap_other (by omega)).trans (hk3.same _ _ (Nat.le_refl _) hk2 rfl)⟩
      rintro e a3 W3 hp
      cases e with
      | normal =>
        obtain ⟨hk3, hi3⟩ := hp
        obtain ⟨hr, hl3, hl4, hk4⟩ := fin none W3 hk3
        exact ⟨_, _, hr, .inl ⟨rfl, hI _ _ _ _ _ (by omega) hl3 rfl rfl hi3, hl4, hk4⟩⟩
      | ret =>
        obtain ⟨hk3, hi3⟩ := hp
        obtain ⟨hr, hl3, hl4, hk4⟩ := fin (some .ret) W3 hk3
        exact ⟨_, _, hr, .inr ⟨rfl, .ret, hIx _ _ _ _ _ _ (by omega) hl3 rfl rfl hi3, hl4, hk4⟩⟩
      | exit id =>
        obtain ⟨hk3, hi3⟩ := hp
        obtain ⟨hr, hl3, hl4, hk4⟩ := fin (some (.exit id)) W3 hk3
        exact ⟨_, _, hr, .inr ⟨rfl, .exit id, hIx _ _ _ _ _ _ (by omega) hl3 rfl rfl hi3, hl4, hk4⟩⟩
      | goto t =>
        obtain ⟨hk3, hi3⟩ := hp
        obtain ⟨hr, hl3, hl4, hk4⟩ := fin (some (.goto t)) W3 hk3
        exact ⟨_, _, hr, .inr ⟨rfl, .goto t, hIx _ _ _ _ _ _ (by omega) hl3 rfl rfl hi3, hl4, hk4⟩⟩
      | panic ch => exact hp.elim
      | outgrown => exact hp.elim
    · rintro e W2 ⟨⟨v, rfl⟩, (⟨hi, hl, hk⟩ | ⟨k, hkn, c, hi, hl, hk⟩)⟩
      · exact ⟨none, _, by have := run_endLoop (P := P) hl (by rw [hrec]; simp); rw [hrec] at this; exact this, hdone _ _ (Nat.le_refl _) (hI _ _ _ _ _ (by omega) hl rfl rfl hi) ((World.putObj_heap_other (by omega)).trans hk)⟩
      · exact ⟨some c, _, by have := run_endLoop (P := P) hl (by rw [hrec]; simp); rw [hrec] at this; exact this, hstop _ c k _ (Nat.le_refl _) hkn (hIx _ _ _ _ _ _ (by omega) hl rfl rfl hi) ((World.putObj_heap_other (by omega)).trans hk)⟩

/-! what a turn of book-keeping leaves -/
theorem Turns.and {B : Nat} {J K : World → Prop} (h : Turns B J) (k : Turns B K) : Turns B (fun W => J W ∧ K W) := fun W l o o' hl ho hc hc' hj => ⟨h W l o o' hl ho hc hc' hj.1, k W l o o' hl ho hc hc' hj.2⟩
theorem Turns.pure (B : Nat) (p : Prop) : Turns B (fun _ => p) := fun _ _ _ _ _ _ _ _ h => h
theorem Turns.ex {B : Nat} {α : Type} {J : α → World → Prop} (h : ∀ x, Turns B (J x)) : Turns B (fun W => ∃ x, J x W) := fun W l o o' hl ho hc hc' ⟨x, hx⟩ => ⟨x, h x W l o o' hl ho hc hc' hx⟩
theorem putObj_other {W : World} {l : Nat} {o' : Obj} {i : Nat} (h : i ≠ l) : (W.putObj l o').heap[i]? = W.heap[i]? := World.putObj_heap_other h
theorem Ext.putObj {a b : World} (h : Ext a b) {l : Nat} (hl : a.heap.size ≤ l) (o : Obj) : Ext a (b.putObj l o) :=
  Below.grown h (grownBy_putObj' b l o) h.size (fun k e => by cases e; exact hl)
theorem Turns.ext {B : Nat} {w : World} (h : w.heap.size ≤ B) : Turns B (fun W => Ext w W) := fun _ _ _ _ hl _ _ _ hj => hj.putObj (by omega) _
theorem putObj_cell {W : World} {l : Nat} {o o' : Obj} (ho : W.heap[l]? = some o) (hc : o.isCells = false) {p : Addr} {v : Value} (h : W.cell? p = some v) : (W.putObj l o').cell? p = some v := by
  obtain ⟨q, hq, hq'⟩ := cells_of_cell h
  have : p.block ≠ l := fun e => by rw [e, ho] at hq; cases hq; rw [hc] at hq'; cases hq'
  exact (World.cell?_of_block (World.putObj_heap_other this)).trans h
theorem Turns.cell (B : Nat) (p : Addr) (v : Value) : Turns B (fun W => W.cell? p = some v) := fun _ _ _ _ _ ho hc _ h => putObj_cell ho hc h
theorem Turns.row {B base e size : Nat} {v : Value} {n : Nat} {xs : List Value} : Turns B (fun W => W.ownsRow base e size v n xs) := fun W l o o' _ ho hc _ h => by
  refine h.kept (grownBy_putObj' W l o') ?_
  rcases h.2 with ⟨rfl, _⟩ | ⟨g, cap, cur, rfl, _, hg, _⟩
  · exact .inl rfl
  · right; intro e
    simp [Value.ownBlock] at e
    subst e
    rw [ho] at hg; cases hg; cases hc

theorem Turns.own {B base e : Nat} {v : Value} {xs : List Nat} : Turns B (fun W => Own W base e v xs) := Turns.row
theorem Turns.box (B b : Nat) (t : TypeId) (v : Value) : Turns B (fun W => Boxed W b t v) := fun W l o o' _ ho hc _ h =>
  (World.putObj_heap_other (fun e => by subst e; rw [show W.heap[b]? = _ from h] at ho; cases ho; cases hc)).trans h
theorem box_ext {W W' : World} (h : Ext W W') {B : Nat} {t : TypeId} {v : Value} (k : Boxed W B t v) : Boxed W' B t v := (Below.block h B k.lt).trans k
theorem box_other {W : World} {B : Nat} {t : TypeId} {v : Value} (k : Boxed W B t v) {p : Addr} (hp : p.block ≠ B) (u : Value) : Boxed (W.setCell p u) B t v := (Below.heap_setCell W p u B (fun e => hp e.symm)).trans k

/-- a function that held a range over a function returns: the block of its rounds' deferred calls is taken -/
theorem post_mark {n : Nat} {P : Program} {fn : Func} {R : Ending → World → Prop} {D : Nat} {tmps : Array Value} {W : World} {v : Value} (hK : W.heap[D]? = some (.deferred (some [])))
    (hr : (results fn tmps).run P (W.putObj D (.deferred none)) = .ok v (W.putObj D (.deferred none))) (hR : R (.returned v) (W.putObj D (.deferred none))) :
    bodyPostM Fence.wide n P fn R .ret { tmps := tmps, defers := [{ target := .collected D, args := #[] }] } W :=
  ⟨by simp, .inl ⟨_, _, rfl, run_takeDeferred hK, ⟨v, hr, hR⟩⟩⟩
theorem box_putObj {W : World} {D : Nat} {o o' : Obj} (hD : W.heap[D]? = some o) (hc : o.isCells = false) {B : Nat} {t : TypeId} {v : Value} (h : Boxed W B t v) : Boxed (W.putObj D o') B t v :=
  (World.putObj_heap_other (fun e => by subst e; rw [show W.heap[B]? = _ from h] at hD; cases hD; cases hc)).trans h
theorem keep_setCell {W : World} {D : Nat} {o : Obj} (h : W.heap[D]? = some o) (hc : o.isCells = false) (p : Addr) (v : Value) : (W.setCell p v).heap[D]? = some o := (KeepsOthers.setCell W p v).same D o h hc

theorem KeepsFrom.alloc1 (B : Nat) (W : World) (o : Obj) : KeepsFrom B W (W.alloc o) := (KeepsOthers.alloc W o).from B
theorem KeepsFrom.setCell1 (B : Nat) (W : World) (p : Addr) (v : Value) : KeepsFrom B W (W.setCell p v) := (KeepsOthers.setCell W p v).from B
theorem KeepsFrom.of_ext {W W' : World} (h : Ext W W') (B : Nat) : KeepsFrom B W W' := ⟨h.size, fun k _ _ hk _ => (Below.block h k (Array.getElem?_eq_some_iff.1 hk).1).trans hk⟩
theorem KeepsFrom.grown {B : Nat} {W W' : World} {row : Option Nat} (hg : W.grownBy W' row) (hr : ∀ k, row = some k → ∃ o : Obj, W.heap[k]? = some o ∧ o.isCells = true) : KeepsFrom B W W' :=
  (KeepsOthers.of_grownBy hg (fun j o e ho => by obtain ⟨q, hq, hc⟩ := hr j e; rw [hq] at ho; cases ho; exact hc)).from B

end Go.Rt
