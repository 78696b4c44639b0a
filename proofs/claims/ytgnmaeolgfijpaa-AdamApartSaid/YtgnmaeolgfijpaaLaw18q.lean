/-
  Adam: rows in two parts: a step of the whole has an answer just if both parts' have, and it is the one behind the other. A part of rows, as slices.
-/
import Derived.Test.YtgnmaeolgfijpaaAdamS
import Derived.Test.YtgnmaeolgfijpaaAppJ
import Derived.Test.YtgnmaeolgfijpaaGQ
namespace Go.Rt
open Go Go.RowKit Go.Proofs

/-- a part of a row -/
def cutL (l : List Int) (i j : Nat) : List Int := (l.take j).drop i

theorem cutL_len {l : List Int} {i j : Nat} (hj : j ≤ l.length) : (cutL l i j).length = j - i := by unfold cutL; simp; omega

theorem cutL_at {l : List Int} {i j t : Nat} (h : i + t < j) : atL (cutL l i j) t = atL l (i + t) := by
  unfold cutL atL
  simp only [List.getD_eq_getElem?_getD, List.getElem?_drop, List.getElem?_take]
  rw [if_pos h]

theorem negB_iff {l : List Int} : negB l = false ↔ ∀ i, i < l.length → 0 ≤ atL l i := by
  unfold negB
  rw [List.any_eq_false]
  constructor
  · intro h i hi
    have := h _ (atL_mem hi)
    simpa using this
  · intro h x hx
    obtain ⟨i, hi, rfl⟩ := List.mem_iff_getElem.1 hx
    have := h i hi
    rw [atL_eq hi] at this
    simpa using this

theorem outL_add (a b : Nat) (f : Nat → Int) : outL (a + b) f = outL a f ++ outL b (fun i => f (a + i)) := by
  unfold outL
  rw [List.range_add, List.map_append, List.map_map]
  rfl
section
variable {A : AdamP} {f p0 p1 : Int} {lw lm lv lg : List Int} {n k : Nat}
theorem stepP_cut {i j t : Nat} (h : i + t < j) : stepP A f p0 p1 (cutL lw i j) (cutL lm i j) (cutL lv i j) (cutL lg i j) t = stepP A f p0 p1 lw lm lv lg (i + t) := by
  unfold stepP
  rw [cutL_at h, cutL_at h, cutL_at h, cutL_at h]

theorem stepOk_part (hw : lw.length = n) (h : StepOk A f p0 p1 lw lm lv lg) {i j : Nat} (hij : i ≤ j) (hj : j ≤ n) : StepOk A f p0 p1 (cutL lw i j) (cutL lm i j) (cutL lv i j) (cutL lg i j) := by
  have lw' := cutL_len (l := lw) (i := i) (j := j) (by omega)
  have lv' := cutL_len (l := lv) (i := i) (j := j) (by rw [h.v]; omega)
  refine ⟨h.right, h.may0, h.may1, negB_iff.2 fun t ht => ?_, ?_, ?_, ?_, fun t ht => ?_⟩
  · rw [cutL_at (by omega)]
    exact negB_iff.1 h.neg (i + t) (by rw [h.v]; omega)
  · rw [lw', cutL_len (by rw [h.m]; omega)]
  · rw [lw', lv']
  · rw [lw', cutL_len (by rw [h.g]; omega)]
  · rw [stepP_cut (by omega)]
    exact h.all (i + t) (by omega)

theorem stepOk_join (hw : lw.length = n) (hm : lm.length = n) (hv : lv.length = n) (hg : lg.length = n) (hk : k ≤ n) (h1 : StepOk A f p0 p1 (cutL lw 0 k) (cutL lm 0 k) (cutL lv 0 k) (cutL lg 0 k))
    (h2 : StepOk A f p0 p1 (cutL lw k n) (cutL lm k n) (cutL lv k n) (cutL lg k n)) : StepOk A f p0 p1 lw lm lv lg := by
  have a1 := cutL_len (l := lw) (i := 0) (j := k) (by omega)
  have a2 := cutL_len (l := lw) (i := k) (j := n) (by omega)
  have b1 := cutL_len (l := lv) (i := 0) (j := k) (by omega)
  have b2 := cutL_len (l := lv) (i := k) (j := n) (by omega)
  refine ⟨h1.right, h1.may0, h1.may1, negB_iff.2 fun t ht => ?_, by omega, by omega, by omega, fun t ht => ?_⟩
  · by_cases q : t < k
    · have := negB_iff.1 h1.neg t (by omega)
      rwa [cutL_at (by omega), Nat.zero_add] at this
    · have := negB_iff.1 h2.neg (t - k) (by omega)
      rwa [cutL_at (by omega), show k + (t - k) = t by omega] at this
  · by_cases q : t < k
    · have := h1.all t (by omega)
      rwa [stepP_cut (by omega), Nat.zero_add] at this
    · have := h2.all (t - k) (by omega)
      rwa [stepP_cut (by omega), show k + (t - k) = t by omega] at this

theorem apart_yes (hw : lw.length = n) (hm : lm.length = n) (hv : lv.length = n) (hg : lg.length = n) (hk : k ≤ n) (h1 : stepE A f p0 p1 (cutL lw 0 k) (cutL lm 0 k) (cutL lv 0 k) (cutL lg 0 k) = 0)
    (h2 : stepE A f p0 p1 (cutL lw k n) (cutL lm k n) (cutL lv k n) (cutL lg k n) = 0) :
    stepE A f p0 p1 lw lm lv lg = 0 ∧ ∀ q, stepL q A f p0 p1 lw lm lv lg = stepL q A f p0 p1 (cutL lw 0 k) (cutL lm 0 k) (cutL lv 0 k) (cutL lg 0 k) ++ stepL q A f p0 p1 (cutL lw k n) (cutL lm k n) (cutL lv k n) (cutL lg k n) := by
  have h3 := stepE_zero.2 (stepOk_join hw hm hv hg hk (stepE_zero.1 h1) (stepE_zero.1 h2))
  refine ⟨h3, fun q => ?_⟩
  rw [stepL_ok h1, stepL_ok h2, stepL_ok h3, cutL_len (by omega), cutL_len (by omega), hw, show n = (k - 0) + (n - k) by omega, outL_add]
  have e : k - 0 + (n - k) = n := by omega
  rw [e]
  congr 1
  · exact outL_congr fun i hi => by rw [stepP_cut (by omega), Nat.zero_add]
  · exact outL_congr fun i hi => by rw [stepP_cut (by omega), Nat.sub_zero]

theorem apart_no (hw : lw.length = n) (hk : k ≤ n) (h : stepE A f p0 p1 lw lm lv lg = 0) : stepE A f p0 p1 (cutL lw 0 k) (cutL lm 0 k) (cutL lv 0 k) (cutL lg 0 k) = 0 ∧ stepE A f p0 p1 (cutL lw k n) (cutL lm k n) (cutL lv k n) (cutL lg k n) = 0 :=
  ⟨stepE_zero.2 (stepOk_part hw (stepE_zero.1 h) (Nat.zero_le _) hk), stepE_zero.2 (stepOk_part hw (stepE_zero.1 h) hk (Nat.le_refl _))⟩
end
/-- where a part of a slice lies -/
def cutA (a : Option Addr) (c k : Nat) : Option Addr := if c = k then a else a.map (fun p => p.add k)

theorem Iw.cut {lo hi : Nat} {w : World} {a : Option Addr} {n c i j : Nat} {l : List Int} (h : Iw lo hi w a n c l) (hij : i ≤ j) (hj : j ≤ n) : Iw lo hi w (cutA a c i) (j - i) (c - i) (cutL l i j) := by
  refine ⟨cutL_len (by rw [h.len]; exact hj), ?_, fun x hx => h.in64 x (List.mem_of_mem_take (List.mem_of_mem_drop hx))⟩
  have hc := h.cap
  obtain ⟨b, o, h1, h2⟩ := h.lies
  rcases h1.1 with rfl | ⟨rfl, h0, hc0⟩
  · by_cases q : c = i
    · refine ⟨b, o, ⟨.inl (by unfold cutA; rw [if_pos q]), by omega, by unfold maxLen; omega, fun t ht => by omega⟩, fun e => by omega⟩
    · refine ⟨b, o + i, ⟨.inl ?_, by omega, by unfold maxLen; omega, fun t ht => ?_⟩, fun e => h2 (by omega)⟩
      · unfold cutA
        rw [if_neg q]
        simp [Go.WideShapes.add_plain]
      · show w.cell? ⟨b, o + i + t, none⟩ = Option.some (.int .i64 (atL (cutL l i j) t))
        rw [show o + i + t = o + (i + t) by omega, cutL_at (by omega)]
        exact h.cell (by omega)
  · refine ⟨b, o, ⟨.inr ⟨by unfold cutA; simp, by omega, by omega⟩, by omega, by unfold maxLen; omega, fun t ht => by omega⟩, fun e => by omega⟩

theorem stepL_le {q : Option (Int × Int × Int) → Int} {A : AdamP} {f p0 p1 : Int} {lw lm lv lg : List Int} : (stepL q A f p0 p1 lw lm lv lg).length ≤ lw.length := by
  by_cases h : stepE A f p0 p1 lw lm lv lg = 0
  · rw [stepL_len h]; exact Nat.le_refl _
  · rw [stepL_no h]; exact Nat.zero_le _

theorem StepAt.ext {lo : Nat} {W W' : World} {v : Value} {E : Int} {xw xm xv : List Int} (h : StepAt lo W v E xw xm xv) (hE : Ext W W') : StepAt lo W' v E xw xm xv :=
  let ⟨x1, x2, x3, m, e, h1, h2, h3⟩ := h
  ⟨x1, x2, x3, m, e, (h1.ext hE).mono (Nat.le_refl _) (Ext.size hE), (h2.ext hE).mono (Nat.le_refl _) (Ext.size hE), (h3.ext hE).mono (Nat.le_refl _) (Ext.size hE)⟩

theorem Iw.far {lo hi g : Nat} {w w' : World} {a : Option Addr} {n c : Nat} {l : List Int} (h : Iw lo hi w a n c l) (hw : Wr g w w') (hg : 0 < n → ∀ o, a ≠ Option.some ⟨g, o, none⟩) : Iw lo hi w' a n c l := by
  refine ⟨h.len, ?_, h.in64⟩
  obtain ⟨b, o, h1, h2⟩ := h.lies
  refine ⟨b, o, ⟨h1.1, h1.2.1, h1.2.2.1, fun i hi' => ?_⟩, h2⟩
  have hb : b ≠ g := fun e => hg (by omega) o (by rw [h1.addr (by omega), e])
  exact hw.apart.cell (by simpa using hb) (h1.cell hi')

theorem StepAt.wr {lo g : Nat} {W W' : World} {v : Value} {E : Int} {xw xm xv : List Int} (h : StepAt lo W v E xw xm xv) (hw : Wr g W W') (hg : ¬ blks v g) : StepAt lo W' v E xw xm xv := by
  obtain ⟨x1, x2, x3, m, rfl, h1, h2, h3⟩ := h
  have hs := hw.apart.size
  exact ⟨x1, x2, x3, m, rfl, (h1.far hw fun hm o e => hg ⟨hm, .inl ⟨o, e⟩⟩).mono (Nat.le_refl _) hs, (h2.far hw fun hm o e => hg ⟨hm, .inr (.inl ⟨o, e⟩)⟩).mono (Nat.le_refl _) hs, (h3.far hw fun hm o e => hg ⟨hm, .inr (.inr ⟨o, e⟩)⟩).mono (Nat.le_refl _) hs⟩

theorem tag_stepAt {B k : Nat} {E : Int} {xw xm xv : List Int} : Tag4.ok (.on k) k (.one fun v W => StepAt B W v E xw xm xv) := ⟨fun _ _ _ hE h => StepAt.ext h hE, fun _ _ _ _ hw hg h => StepAt.wr h hw hg⟩

theorem StepAt.fresh {lo g : Nat} {W : World} {v : Value} {E : Int} {xw xm xv : List Int} (h : StepAt lo W v E xw xm xv) (hg : blks v g) : g < W.heap.size ∧ lo ≤ g := by
  obtain ⟨x1, x2, x3, m, rfl, h1, h2, h3⟩ := h
  obtain ⟨hm, ⟨o, e⟩ | ⟨o, e⟩ | ⟨o, e⟩⟩ := hg
  · obtain ⟨b, o', e', k1, k2⟩ := h1.some hm
    rw [e] at e'; cases e'; exact ⟨k2, k1⟩
  · obtain ⟨b, o', e', k1, k2⟩ := h2.some hm
    rw [e] at e'; cases e'; exact ⟨k2, k1⟩
  · obtain ⟨b, o', e', k1, k2⟩ := h3.some hm
    rw [e] at e'; cases e'; exact ⟨k2, k1⟩

theorem StepAt.low {lo lo' : Nat} {W : World} {v : Value} {E : Int} {xw xm xv : List Int} (h : StepAt lo W v E xw xm xv) (hl : lo' ≤ lo) : StepAt lo' W v E xw xm xv :=
  let ⟨x1, x2, x3, m, e, h1, h2, h3⟩ := h; ⟨x1, x2, x3, m, e, h1.mono hl (Nat.le_refl _), h2.mono hl (Nat.le_refl _), h3.mono hl (Nat.le_refl _)⟩

theorem agg_inj {x1 x2 x3 y1 y2 y3 : Option Addr} {m n : Nat} (h : Value.agg #[.slice x1 m m, .slice x2 m m, .slice x3 m m, .slice none 0 0] = .agg #[.slice y1 n n, .slice y2 n n, .slice y3 n n, .slice none 0 0]) : y1 = x1 ∧ y2 = x2 ∧ y3 = x3 ∧ n = m := by
  simp at h
  exact ⟨h.1.1.symm, h.2.1.1.symm, h.2.2.1.symm, h.1.2.symm⟩

theorem step_inj {x1 x2 x3 y1 y2 y3 : Option Addr} {m n : Nat} {u v : Value} (h : Value.tuple #[.agg #[.slice x1 m m, .slice x2 m m, .slice x3 m m, .slice none 0 0], u] = .tuple #[.agg #[.slice y1 n n, .slice y2 n n, .slice y3 n n, .slice none 0 0], v]) : y1 = x1 ∧ y2 = x2 ∧ y3 = x3 ∧ n = m := by
  have h2 : Value.agg #[.slice x1 m m, .slice x2 m m, .slice x3 m m, .slice none 0 0] = .agg #[.slice y1 n n, .slice y2 n n, .slice y3 n n, .slice none 0 0] := by
    simp only [Value.tuple.injEq] at h
    have := congrArg (fun a : Array Value => a[0]?) h
    simpa using this
  exact agg_inj h2

theorem StepAt.shape {lo : Nat} {W : World} {v : Value} {E : Int} {xw xm xv : List Int} (h : StepAt lo W v E xw xm xv) : ∃ (x1 x2 x3 : Option Addr) (m : Nat), v = .tuple #[.agg #[.slice x1 m m, .slice x2 m m, .slice x3 m m, .slice none 0 0], .int .i64 E] :=
  let ⟨x1, x2, x3, m, e, _⟩ := h; ⟨x1, x2, x3, m, e⟩

/-- a new box with what a step gave -/
def NewS (B : Nat) (t : TypeId) (p v : Value) (W : World) : Prop := ∃ (g : Nat) (x1 x2 x3 : Option Addr) (m : Nat), v = .agg #[.slice x1 m m, .slice x2 m m, .slice x3 m m, .slice none 0 0] ∧ p = .pointer (some ⟨g, 0, none⟩) ∧ B ≤ g ∧ BxA W g t #[.slice x1 m m, .slice x2 m m, .slice x3 m m, .slice none 0 0]

theorem tag_newS {B i j k : Nat} {t : TypeId} : Tag4.ok (.on i) k (.three i j fun p v _ W => NewS B t p v W) :=
  ⟨fun _ _ _ hE ⟨g, x1, x2, x3, m, h1, h2, h3, h4⟩ => ⟨g, x1, x2, x3, m, h1, h2, h3, BxA.ext h4 hE⟩, fun vs _ _ g' hw hg ⟨g, x1, x2, x3, m, h1, h2, h3, h4⟩ => ⟨g, x1, x2, x3, m, h1, h2, h3, BxA.wr h4 hw (fun q => hg (by rw [h2, ← q]; rfl))⟩⟩

theorem tag_bxA {B g0 : Nat} {t : TypeId} {xs : Array Value} : Tag.ok B (.old g0) (PS.own (fun W => BxA W g0 t xs)) := ⟨fun _ _ _ _ hE h => BxA.ext h hE, fun _ _ _ _ _ hw hg h => BxA.wr h hw hg⟩

theorem wf_u8c {n : Int} (h : (Lit.int .u8 n).wf = true) : 0 ≤ n ∧ n < 256 := by
  simp [Lit.wf, IntKind.min, IntKind.max, IntKind.signed, IntKind.bits] at h
  omega
section
variable {P : Program} {t e : TypeId} (ht : P.underlying t = .some (.slice e)) (hi : InfoI P e)
include ht hi

/-- 'append(s, x...)' at a step of a region that draws its order -/
theorem step_append_j {ops : Array Oper} {o : Oper} {a : Act} {K : Act → World → Prop} {Q : Exit → Act → World → Prop} {E : Prop} {w : World} (hwant : Region.wanted o (yielded ops a.tmps) = true) (s x : Operand)
    (ho : o.op = .call { callee := .builtin .append, args := #[s, x], argTypes := #[t, t] }) (B : Nat) {v : Value} {l l2 : List Int} {lo hi' m c : Nat} {a2 : Option Addr} (hs : a.eval s = v) (hx : a.eval x = .slice a2 m c) (h : OwnJ B e l v w) (hz : Iw lo hi' w a2 m c l2) (hlen : l.length + m ≤ 1099511627776) (hb : B ≤ w.heap.size)
    (hK : ∀ v' w', ((Ext w w' ∧ ∀ g, blks v' g → g < w'.heap.size ∧ (w.heap.size ≤ g ∨ blks v g)) ∨ ∃ g, blks v g ∧ B ≤ g ∧ Wr g w w' ∧ (∀ g', blks v' g' → g' = g) ∧ OwnJ B e l v w') → OwnJ B e (l ++ l2) v' w' → K (a.put o.dst v') w') :
    if Region.wanted o (yielded ops a.tmps) = true then Oper.wp P o a w K Q else E := by
  rw [if_pos hwant]
  obtain ⟨v', w', hr, h2, h3⟩ := run_append_j ht hi o.type B h hz hlen hb
  unfold Oper.wp execOp
  simp only [ho, resolve, invoke, builtin, Sem.run_bind, Sem.run_pure, Result.andThen_ok, List.map_toArray, List.map_cons, List.map_nil, hs, hx, hr]
  exact hK _ _ h3 h2
end
end Go.Rt
