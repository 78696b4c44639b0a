/-
  A region that draws its order, inside the wide fence (with a round or without): reads and quiet calls first, in whatever order, then a forced row of operations.
-/
import Derived.Test.YtbfojmhigfeahaaTail
namespace Go.Rt
open Go

/-- a fence in which every contract serves -/
def Open (F : Fence) : Prop := F.depth = none ∧ (∀ f, F.fn f) ∧ ∀ (n : Nat) (P : Program) (f : FuncId) (args : Array Value) (w : World) (R : Ending → World → Prop), Calls P f args w R → CallsIn F n P f args w R
theorem open_wide : Open Fence.wide := ⟨rfl, fun _ => trivial, fun _ _ _ _ _ _ h => callsIn_wide.2 h⟩
theorem open_round (l : Nat) : Open (Fence.wide.inRound l) := ⟨rfl, fun _ => trivial, fun _ _ _ _ _ _ h => CallsIn.inRound l (callsIn_wide.2 h)⟩

section
variable {F : Fence} {n : Nat} {P : Program} {ops : Array Oper} {Q' : Exit → Act → World → Prop} {w : World} {md : Region.Mode}

theorem wpIn_of_stillC (hF : Open F) {o : Oper} {a : Act} {K : Act → Prop} {K' : Act → World → Prop} (hd : calm o = true) (h : ∀ a, K a → K' a w) (hh : o.still P a w K) : o.wpIn F n P a w K' Q' := by
  refine ⟨fun f _ => hF.2.1 f, ?_⟩
  rw [Oper.semAt_plain _ _ _ (fun c hc => by unfold calm at hd; rw [hc] at hd; cases hd)]
  unfold Oper.still at hh
  generalize (execOp a.eval o).run P w = r at *
  cases r with
  | ok x w' =>
    cases x <;> simp only [Oper.stillUpon] at hh <;> simp only [Oper.uponIn]
    case enter f args =>
      obtain ⟨rfl, v, hc, hk⟩ := hh
      exact ⟨fun hx => (by rw [hF.1] at hx; cases hx), hF.2.2 _ _ _ _ _ _ (hc.mono fun e w'' ⟨he, hw⟩ => by subst he; subst hw; exact h _ hk)⟩
    all_goals (obtain ⟨rfl, h2⟩ := hh; exact h _ h2)
  | halt x w' => simp only [Oper.stillUpon] at hh

theorem wpOpIn_of_stOpC (hF : Open F) {i : Nat} {a : Act} {K : Act → Prop} {K' : Act → World → Prop} (ht : ∀ o, ops[i]? = some o → calm o = true) (h : ∀ a, K a → K' a w) (hh : stOp P ops w i K a) : wpOpIn F n P ops Q' i K' a w := by
  unfold stOp at hh
  unfold wpOpIn
  cases ho : ops[i]? with
  | none => simp only [ho] at hh; exact h _ hh
  | some o =>
    simp only [ho] at hh
    by_cases hw : Region.wanted o (yielded ops a.tmps)
    · simp only [hw, if_true] at hh ⊢; exact wpIn_of_stillC hF (ht o ho) h hh
    · simp only [hw] at hh ⊢; exact ⟨fun f _ => hF.2.1 f, h _ hh⟩

theorem anyIn_of_headC (hF : Open F) {m g : Nat} {L : Array Bool → Act → Prop} (ht : ∀ i o, i < m → ops[i]? = some o → calm o = true) (hL : ∀ listed a, L listed a → wpAnyIn F n P md ops Q' g listed a w) :
    ∀ (f : Nat) (listed : Array Bool) (a : Act), wpAnyL P md ops w m L f listed a → wpAnyIn F n P md ops Q' (f + g) listed a w
  | 0, listed, a, h => by rw [Nat.zero_add]; exact hL _ _ h
  | f + 1, listed, a, h => by
    rw [show f + 1 + g = (f + g) + 1 by omega]
    exact ⟨fun h0 => absurd h0 h.1, fun i hi => wpOpIn_of_stOpC hF (fun o ho => ht i o (h.2 i hi).1 ho) (fun a' h' => anyIn_of_headC hF ht hL f _ a' h') (h.2 i hi).2⟩

theorem wpIn_region_tailC (hF : Open F) {id : Nat} {a : Act} {l : List Oper} (m : Nat) (hm : P.follows .mixedOrders = true) (hB : Region.lexTailB .any l.toArray m = true) (hT : (l.take m).all calm = true)
    (h : wpStill P l.toArray { w with drawn := w.drawn + 1 } (fun a' => wpListIn F n P l.toArray Q' (l.drop m) a' { w with drawn := w.drawn + 1 }) (l.take m) a) : (Code.region id l.toArray true).wpIn F n P Q' a w := by
  simp only [Region.lexTailB, Bool.and_eq_true, decide_eq_true_eq] at hB
  obtain ⟨⟨⟨⟨hsel, hn⟩, hs⟩, hc⟩, hlex⟩ := hB
  have hn' : m < l.length := by simpa using hn
  have hsz : l.toArray.size = m + (l.drop m).length := by simp; omega
  have ht : ∀ i o, i < m → l.toArray[i]? = some o → calm o = true := fun i o hi ho => by
    refine List.all_eq_true.1 hT o ?_
    refine List.mem_of_getElem? (i := i) ?_
    rw [List.getElem?_take, if_pos hi]
    simpa using ho
  have H := wpAnyL_lex (P := P) (w := { w with drawn := w.drawn + 1 }) (Lq := fun a' => wpListIn F n P l.toArray Q' (l.drop m) a' { w with drawn := w.drawn + 1 }) (md := .any) (g := l.toArray.size - m) hsel hs hc hn (l.take m) 0 (Array.replicate l.toArray.size false) a
    (fun j hj => by rw [List.length_take] at hj; simp [show j < m by omega])
    (by rw [List.length_take]; omega)
    ⟨by simp, fun j oj _ hl => (by rw [getD_replicate_false] at hl; cases hl), fun t _ ht => getD_in (by simpa using ht) (getD_replicate_false _ _)⟩
    (by rw [List.length_take, Nat.min_eq_left (by omega)]; exact hlex) h
  refine wpIn_region_any hm ?_
  have hg : l.toArray.size - m = (l.drop m).length := by omega
  rw [hg] at H
  have := anyIn_of_headC (F := F) (n := n) (Q' := Q') hF (g := (l.drop m).length) ht (fun listed a' hL =>
    anyIn_of_seq (l.drop m) m listed a' _ (fun j => by simp [List.getElem?_drop]) hL.1 hL.2) _ _ _ H
  rw [List.length_take, Nat.min_eq_left (by omega), ← hsz] at this
  exact this
end
end Go.Rt
