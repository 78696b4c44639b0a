/-
 Adam: a step of rows in numbers: why there is none, or the three new rows; what every step answers.
-/
import Derived.Test.YtgnmaeolgfijpaaAdamH

namespace Go.Rt

open Go Go.RowKit Go.Proofs

noncomputable def stepP (A : AdamP) (f p0 p1 : Int) (lw lm lv lg : List Int) (i : Nat) : Option (Int × Int × Int) := placeO f.toNat A p0 p1 (atL lw i) (atL lm i) (atL lv i) (atL lg i)

/-- is a place without an answer? -/
noncomputable def stepB (A : AdamP) (f p0 p1 : Int) (lw lm lv lg : List Int) : Bool := (List.range lw.length).any fun i => (stepP A f p0 p1 lw lm lv lg i).isNone

/-- a step's error -/
noncomputable def stepE (A : AdamP) (f p0 p1 : Int) (lw lm lv lg : List Int) : Int :=
 if (rightA A f && mayB f.toNat p0 && mayB f.toNat p1 && !negB lv) = false then 1
 else if (lm.length == lw.length && lv.length == lw.length && lg.length == lw.length) = false then 5
 else if stepB A f p0 p1 lw lm lv lg = true then 2 else 0

/-- a step's new rows -/
noncomputable def stepL (q : Option (Int × Int × Int) → Int) (A : AdamP) (f p0 p1 : Int) (lw lm lv lg : List Int) : List Int :=
 if stepE A f p0 p1 lw lm lv lg = 0 then outL lw.length (fun i => q (stepP A f p0 p1 lw lm lv lg i)) else []

theorem stepB_false {A : AdamP} {f p0 p1 : Int} {lw lm lv lg : List Int} : stepB A f p0 p1 lw lm lv lg = false ↔ ∀ i, i < lw.length → stepP A f p0 p1 lw lm lv lg i ≠ none := by
 unfold stepB
 rw [List.any_eq_false]
 constructor
 ·intro h i hi e
  exact h i (List.mem_range.2 hi) (by rw [e]; rfl)
 ·intro h i hi e
  exact h i (List.mem_range.1 hi) (Option.isNone_iff_eq_none.1 e)

/-- what a step wants -/
structure StepOk (A : AdamP) (f p0 p1 : Int) (lw lm lv lg : List Int) : Prop where
 right : rightA A f = true
 may0 : mayB f.toNat p0 = true
 may1 : mayB f.toNat p1 = true
 neg : negB lv = false
 m : lm.length = lw.length
 v : lv.length = lw.length
 g : lg.length = lw.length
 all : ∀ i, i < lw.length → stepP A f p0 p1 lw lm lv lg i ≠ none

theorem stepE_zero {A : AdamP} {f p0 p1 : Int} {lw lm lv lg : List Int} : stepE A f p0 p1 lw lm lv lg = 0 ↔ StepOk A f p0 p1 lw lm lv lg := by
 unfold stepE
 constructor
 ·intro h
  split at h
  ·cases h
  ·rename_i h1
   split at h
   ·cases h
   ·rename_i h2
    split at h
    ·cases h
    ·rename_i h3
     simp only [Bool.not_eq_false, Bool.and_eq_true, Bool.not_eq_true', beq_iff_eq] at h1 h2
     exact ⟨h1.1.1.1, h1.1.1.2, h1.1.2, h1.2, h2.1.1, h2.1.2, h2.2, stepB_false.1 (Bool.not_eq_true _ |>.mp h3)⟩
 ·intro h
  rw [if_neg (by simp [h.right, h.may0, h.may1, h.neg]), if_neg (by simp [h.m, h.v, h.g]), if_neg (by rw [stepB_false.2 h.all]; decide)]

theorem stepL_ok {q : Option (Int × Int × Int) → Int} {A : AdamP} {f p0 p1 : Int} {lw lm lv lg : List Int} (h : stepE A f p0 p1 lw lm lv lg = 0) : stepL q A f p0 p1 lw lm lv lg = outL lw.length (fun i => q (stepP A f p0 p1 lw lm lv lg i)) := if_pos h

theorem stepL_no {q : Option (Int × Int × Int) → Int} {A : AdamP} {f p0 p1 : Int} {lw lm lv lg : List Int} (h : stepE A f p0 p1 lw lm lv lg ≠ 0) : stepL q A f p0 p1 lw lm lv lg = [] := if_neg h

theorem outL_congr {n : Nat} {f g : Nat → Int} (h : ∀ i, i < n → f i = g i) : outL n f = outL n g := by
 unfold outL
 exact List.map_congr_left (fun i hi => h i (List.mem_range.1 hi))

theorem outL_len (n : Nat) (f : Nat → Int) : (outL n f).length = n := by simp [outL]

theorem stepL_len {q : Option (Int × Int × Int) → Int} {A : AdamP} {f p0 p1 : Int} {lw lm lv lg : List Int} (h : stepE A f p0 p1 lw lm lv lg = 0) : (stepL q A f p0 p1 lw lm lv lg).length = lw.length := by rw [stepL_ok h, outL_len]

/-- a step's answer: three rows of the call's own, or none, and the error -/
def StepAt (lo : Nat) (W : World) (v : Value) (E : Int) (xw xm xv : List Int) : Prop :=
 ∃ (x1 x2 x3 : Option Addr) (m : Nat), v = .tuple #[.agg #[.slice x1 m m, .slice x2 m m, .slice x3 m m, .slice none 0 0], .int .i64 E] ∧ Iw lo W.heap.size W x1 m m xw ∧ Iw lo W.heap.size W x2 m m xm ∧ Iw lo W.heap.size W x3 m m xv

theorem Try.adamStepAll (lr b1 b2 eps wd p0 p1 : Int) (ap : Bool) (f : Int) {n0 n1 n2 n3 : Nat} {a0 a1 a2 a3 : Option Addr} {c0 c1 c2 c3 : Nat} {lw lm lv lg : List Int} (w : World) (hn : n0 ≤ 40) (q1 : I64 lr) (q2 : I64 eps) (q3 : I64 wd)
  (hi0 : Iw 0 w.heap.size w a0 n0 c0 lw) (hi1 : Iw 0 w.heap.size w a1 n1 c1 lm) (hiv : Iw 0 w.heap.size w a2 n2 c2 lv) (hi3 : Iw 0 w.heap.size w a3 n3 c3 lg) :
  Calls Try.prog 14 #[.agg #[.int .i64 lr, .int .i64 b1, .int .i64 b2, .int .i64 eps, .int .i64 wd, .bool ap], .int .i64 f, .agg #[.int .i64 p0, .int .i64 p1], .agg #[.slice a0 n0 c0, .slice a1 n1 c1, .slice a2 n2 c2, .slice a3 n3 c3]] w
   fun e w' => (∃ v, e = .returned v ∧ StepAt w.heap.size w' v (stepE ⟨lr, b1, b2, eps, wd, ap⟩ f p0 p1 lw lm lv lg) (stepL p1of ⟨lr, b1, b2, eps, wd, ap⟩ f p0 p1 lw lm lv lg) (stepL p2of ⟨lr, b1, b2, eps, wd, ap⟩ f p0 p1 lw lm lv lg) (stepL p3of ⟨lr, b1, b2, eps, wd, ap⟩ f p0 p1 lw lm lv lg)) ∧ Ext w w' := by
 have none_at : ∀ (W : World) (E : Int), stepE ⟨lr, b1, b2, eps, wd, ap⟩ f p0 p1 lw lm lv lg = E → E ≠ 0 →
   StepAt w.heap.size W (.tuple #[.agg #[.slice none 0 0, .slice none 0 0, .slice none 0 0, .slice none 0 0], .int .i64 E]) (stepE ⟨lr, b1, b2, eps, wd, ap⟩ f p0 p1 lw lm lv lg) (stepL p1of ⟨lr, b1, b2, eps, wd, ap⟩ f p0 p1 lw lm lv lg) (stepL p2of ⟨lr, b1, b2, eps, wd, ap⟩ f p0 p1 lw lm lv lg) (stepL p3of ⟨lr, b1, b2, eps, wd, ap⟩ f p0 p1 lw lm lv lg) := by
  intro W E hE h0
  rw [stepL_no (by rw [hE]; exact h0), stepL_no (by rw [hE]; exact h0), stepL_no (by rw [hE]; exact h0), hE]
  exact ⟨none, none, none, 0, rfl, Iw.nil _ _ _, Iw.nil _ _ _, Iw.nil _ _ _⟩
 cases hR : rightA ⟨lr, b1, b2, eps, wd, ap⟩ f
 ·refine (Try.adamStepNo lr b1 b2 eps wd p0 p1 ap f w hR).mono ?_
  rintro e W ⟨rfl, hE⟩
  exact ⟨⟨_, rfl, none_at W 1 (by unfold stepE; rw [if_pos (by rw [hR]; rfl)]) (by decide)⟩, hE⟩
 ·have hx := rightA_iff.1 hR
  obtain ⟨K, rfl⟩ := Int.eq_ofNat_of_zero_le hx.1
  clear hx
  by_cases hB : mayB K p0 = false ∨ mayB K p1 = false ∨ negB lv = true
  ·refine (Try.adamStepArg lr b1 b2 eps wd p0 p1 ap K w hR hiv hB).mono ?_
   rintro e W ⟨rfl, hE⟩
   refine ⟨⟨_, rfl, none_at W 1 ?_ (by decide)⟩, hE⟩
   unfold stepE
   rw [if_pos]
   rw [hR, Int.toNat_natCast]
   rcases hB with h | h | h <;> simp [h]
  ·have h0 : mayB K p0 = true := by cases h : mayB K p0; exact absurd (.inl h) hB; rfl
   have h1 : mayB K p1 = true := by cases h : mayB K p1; exact absurd (.inr (.inl h)) hB; rfl
   have h2 : negB lv = false := by cases h : negB lv; rfl; exact absurd (.inr (.inr h)) hB
   clear hB
   have e1 : ¬ (rightA ⟨lr, b1, b2, eps, wd, ap⟩ ((K : Nat) : Int) && mayB ((K : Nat) : Int).toNat p0 && mayB ((K : Nat) : Int).toNat p1 && !negB lv) = false := by rw [hR, Int.toNat_natCast, h0, h1, h2]; decide
   have l0 := hi0.len
   have l1 := hi1.len
   have l2 := hiv.len
   have l3 := hi3.len
   by_cases hN : n1 ≠ n0 ∨ n2 ≠ n0 ∨ n3 ≠ n0
   ·refine (Try.adamStepShape lr b1 b2 eps wd p0 p1 ap K w hR h0 h1 h2 hiv hN).mono ?_
    rintro e W ⟨rfl, hE⟩
    refine ⟨⟨_, rfl, none_at W 5 ?_ (by decide)⟩, hE⟩
    unfold stepE
    rw [if_neg e1, if_pos]
    rw [l0, l1, l2, l3, Bool.eq_false_iff]
    intro hc
    simp only [Bool.and_eq_true, beq_iff_eq] at hc
    omega
   ·obtain rfl : n1 = n0 := by omega
    obtain rfl : n2 = n1 := by omega
    obtain rfl : n3 = n2 := by omega
    have e2 : ¬ (lm.length == lw.length && lv.length == lw.length && lg.length == lw.length) = false := by rw [l0, l1, l2, l3]; simp
    have eP : ∀ i, stepP ⟨lr, b1, b2, eps, wd, ap⟩ (K : Int) p0 p1 lw lm lv lg i = placeO K ⟨lr, b1, b2, eps, wd, ap⟩ p0 p1 (atL lw i) (atL lm i) (atL lv i) (atL lg i) := fun i => by unfold stepP; rw [Int.toNat_natCast]
    refine (Try.adamStepGo lr b1 b2 eps wd p0 p1 ap K w hR h0 h1 h2 hn q1 q2 q3 hi0 hi1 hiv hi3).mono ?_
    rintro e W ⟨hE, ⟨hall, v, rfl, g1, g2, g3, rfl, j1, j2, j3⟩ | ⟨⟨i, hi, hnone⟩, rfl⟩⟩
    ·dsimp only at hall j1 j2 j3
     have hz : stepE ⟨lr, b1, b2, eps, wd, ap⟩ (K : Int) p0 p1 lw lm lv lg = 0 := by
      have hb : stepB ⟨lr, b1, b2, eps, wd, ap⟩ (K : Int) p0 p1 lw lm lv lg = false := stepB_false.2 (fun i hi => by rw [eP]; exact hall i (by omega))
      unfold stepE
      rw [if_neg e1, if_neg e2, if_neg (by rw [hb]; decide)]
     refine ⟨⟨_, rfl, ?_⟩, hE⟩
     rw [stepL_ok hz, stepL_ok hz, stepL_ok hz, hz, l0]
     simp only [eP]
     exact ⟨_, _, _, _, rfl, j1, j2, j3⟩
    ·refine ⟨⟨_, rfl, none_at W 2 ?_ (by decide)⟩, hE⟩
     unfold stepE
     rw [if_neg e1, if_neg e2, if_pos]
     cases hb : stepB ⟨lr, b1, b2, eps, wd, ap⟩ (K : Int) p0 p1 lw lm lv lg
     ·exact absurd ((eP i).trans hnone) (stepB_false.1 hb i (by omega))
     ·rfl

theorem Try.adamStepIs (lr b1 b2 eps wd p0 p1 : Int) (ap : Bool) (f : Int) {n0 n1 n2 n3 : Nat} {a0 a1 a2 a3 : Option Addr} {c0 c1 c2 c3 : Nat} {lw lm lv lg xw xm xv : List Int} {E : Int} (w : World)
  (hE : stepE ⟨lr, b1, b2, eps, wd, ap⟩ f p0 p1 lw lm lv lg = E ∧ stepL p1of ⟨lr, b1, b2, eps, wd, ap⟩ f p0 p1 lw lm lv lg = xw ∧ stepL p2of ⟨lr, b1, b2, eps, wd, ap⟩ f p0 p1 lw lm lv lg = xm ∧ stepL p3of ⟨lr, b1, b2, eps, wd, ap⟩ f p0 p1 lw lm lv lg = xv)
  (hn : n0 ≤ 40) (q1 : I64 lr) (q2 : I64 eps) (q3 : I64 wd) (hi0 : Iw 0 w.heap.size w a0 n0 c0 lw) (hi1 : Iw 0 w.heap.size w a1 n1 c1 lm) (hiv : Iw 0 w.heap.size w a2 n2 c2 lv) (hi3 : Iw 0 w.heap.size w a3 n3 c3 lg) :
  Calls Try.prog 14 #[.agg #[.int .i64 lr, .int .i64 b1, .int .i64 b2, .int .i64 eps, .int .i64 wd, .bool ap], .int .i64 f, .agg #[.int .i64 p0, .int .i64 p1], .agg #[.slice a0 n0 c0, .slice a1 n1 c1, .slice a2 n2 c2, .slice a3 n3 c3]] w
   fun e w' => (∃ v, e = .returned v ∧ StepAt w.heap.size w' v E xw xm xv) ∧ Ext w w' := by
 obtain ⟨rfl, rfl, rfl, rfl⟩ := hE
 exact Try.adamStepAll lr b1 b2 eps wd p0 p1 ap f w hn q1 q2 q3 hi0 hi1 hiv hi3

end Go.Rt
