/-
  A row of rows that a call lets grow.
-/
import Derived.Test.YtkbalokicnogbaaGreatClipC
import Derived.Test.YtkbalokicnogbaaGreatGT

namespace Go.Rt

open Go Go.RowKit Go.Proofs

def InfoM (P : Program) (e : TypeId) : Prop := (P.info? e).map (fun i => (i.zero, i.size, i.bytes)) = some (some (.slice none 0 0), 1, 24)

theorem Tryz.infoM : InfoM Go.Proofs.Tryz.prog 25 := by unfold InfoM; kernel_rfl

theorem InfoM.get {P : Program} {e : TypeId} (hi : InfoM P e) : ∃ i, P.info? e = some i ∧ i.zero = some (.slice none 0 0) ∧ i.size = 1 ∧ i.bytes = 24 := by
  unfold InfoM at hi
  cases hq : P.info? e with
  | none => rw [hq] at hi; cases hi
  | some i => rw [hq] at hi; simp at hi; exact ⟨i, rfl, hi.1, hi.2.1, hi.2.2⟩

def OwnV (W : World) (base : Nat) (e : TypeId) (v : Value) (vs : List Value) : Prop := W.ownsRow base e 1 v vs.length vs

theorem OwnV.ext {w w' : World} {base : Nat} {e : TypeId} {v : Value} {l : List Value} (h : OwnV w base e v l) (hx : Ext w w') : OwnV w' base e v l := by
  refine ⟨h.1, ?_⟩
  rcases h.2 with hn | ⟨g, cap, cur, rfl, hb, hg, rest⟩
  · exact .inl hn
  · exact .inr ⟨g, cap, cur, rfl, hb, (Below.block hx g (Array.getElem?_eq_some_iff.1 hg).1).trans hg, rest⟩

theorem OwnV.kept {w w' : World} {base : Nat} {e : TypeId} {v : Value} {l : List Value} {row : Option Nat} (h : OwnV w base e v l) (hg : w.grownBy w' row) (hn : v.ownBlock = none ∨ v.ownBlock ≠ row) : OwnV w' base e v l := World.ownsRow.kept h hg hn

theorem OwnI.kept {w w' : World} {base : Nat} {e : TypeId} {v : Value} {l : List Int} {row : Option Nat} (h : OwnI w base e v l) (hg : w.grownBy w' row) (hn : v.ownBlock = none ∨ v.ownBlock ≠ row) : OwnI w' base e v l := World.ownsRow.kept h hg hn

theorem OwnV.block {W : World} {base : Nat} {e : TypeId} {v : Value} {l : List Value} (h : OwnV W base e v l) : ∀ g, v.ownBlock = some g → base ≤ g ∧ g < W.heap.size := by
  intro g hg
  rcases h.2 with ⟨rfl, -⟩ | ⟨b, cap, cur, rfl, hb, hk, -⟩
  · cases hg
  · cases hg
    exact ⟨hb, (Array.getElem?_eq_some_iff.1 hk).1⟩

theorem Iz.grown {lo hi : Nat} {w w' : World} {a : Option Addr} {n c : Nat} {l : List Int} {row : Option Nat} (h : Iz lo hi w a n c l) (hg : w.grownBy w' row) (hr : ∀ g, row = some g → g < lo ∨ hi ≤ g) : Iz lo hi w' a n c l := by
  rcases h with h | h
  · refine .inl ⟨h.len, ?_, h.in64⟩
    obtain ⟨b, o, h1, h2⟩ := h.lies
    refine ⟨b, o, ⟨h1.1, h1.2.1, h1.2.2.1, fun i hi' => ?_⟩, h2⟩
    have e := h2 (by omega)
    have hc := h1.cell hi'
    rw [← hc]
    exact (hg.cell hc (fun e => by have := hr b e.symm; omega)).trans hc.symm
  · exact .inr h

/-- read as rows of rows -/
theorem OwnV.mw {W : World} {base lo hh : Nat} {e : TypeId} {v : Value} {vs : List Value} {ls : List (List Int)} (h : OwnV W base e v vs) (hl : ls.length = vs.length) (hb : ∀ g, v.ownBlock = some g → lo ≤ g ∧ g < hh)
    (hv : ∀ i, i < vs.length → ∃ ai ci, vs[i]? = some (.slice ai (atR ls i).length ci) ∧ Iz lo hh W ai (atR ls i).length ci (atR ls i)) : ∃ a c, v = .slice a ls.length c ∧ Mw lo hh W a ls.length c ls := by
  rcases h.2 with ⟨rfl, hn⟩ | ⟨g, cap, cur, rfl, hbg, hg, hc, hm, hs, ht⟩
  · obtain rfl : ls = [] := List.length_eq_zero_iff.1 (by omega)
    exact ⟨none, 0, rfl, Mw.nil _ _ _⟩
  · rw [← hl]
    refine ⟨_, _, rfl, ⟨rfl, ⟨g, 0, fun i => vs.getD i (.slice none 0 0), ⟨.inl rfl, by omega, hm, fun i hi => ?_⟩, fun _ => hb g rfl, fun i hi => ?_⟩⟩⟩
    · obtain ⟨ai, ci, hv1, -⟩ := hv i (by omega)
      have h2 : cur.toList[i]? = some (.slice ai (atR ls i).length ci) := by
        have h3 : (cur.toList.take (vs.length * 1))[i]? = some (.slice ai (atR ls i).length ci) := by rw [ht, hv1]
        rw [List.getElem?_take, if_pos (by omega)] at h3
        exact h3
      rw [Nat.zero_add]
      simp [World.cell?, hg]
      rw [← Array.getElem?_toList, h2, hv1]
      rfl
    · obtain ⟨ai, ci, hv1, k⟩ := hv i (by omega)
      refine ⟨ai, ci, ?_, k⟩
      show vs.getD i (.slice none 0 0) = _
      rw [List.getD_eq_getElem?_getD, hv1]
      rfl

section

variable {P : Program} {t e : TypeId} (ht : P.underlying t = .some (.slice e)) (hi : InfoM P e)
include ht hi

/-- 'append(s, y)': s the call's own, y a row -/
theorem append_v {w : World} {ops : Array Oper} {rest : List Oper} {o : Oper} {a : Act} {Q : Exit → Act → World → Prop} (hgd : o.guard = none) (s x : Operand)
    (ho : o.op = .call { callee := .builtin .append, args := #[s, x], argTypes := #[t, t] }) (base : Nat) (v : Value) (vs : List Value) (ay : Option Addr) (ny cy : Nat)
    (hs : a.eval s = v) (hx : a.eval x = .slice (.some ⟨w.heap.size, 0, none⟩) 1 1) (hown : OwnV w base e v vs) (hlen : vs.length ≤ 1099511627776) (hb : base ≤ w.heap.size)
    (h : ∀ g cap w', OwnV w' base e (.slice (.some ⟨g, 0, none⟩) (vs.length + 1) cap) (vs ++ [.slice ay ny cy]) → (w.alloc (.cells #[.slice ay ny cy] e)).grownBy w' v.ownBlock → (v.ownBlock = .some g ∨ g = w.heap.size + 1) → g < w'.heap.size → wpList P ops Q rest (a.put o.dst (.slice (.some ⟨g, 0, none⟩) (vs.length + 1) cap)) w') :
    wpList P ops Q (o :: rest) a (w.alloc (.cells #[.slice ay ny cy] e)) := by
  obtain ⟨i0, h1, h2, h3, h4⟩ := hi.get
  refine wpList_append_lies _ hgd s x t ho base e i0 (.slice none 0 0) 1 24 ht h1 h2 h3 h4 rfl (by decide) v vs.length vs hs (World.ownsRow.alloc hown _) ⟨w.heap.size, 0, none⟩ 1 1 [.slice ay ny cy] hx rfl ?_ ?_ (by decide) (by simp [maxLen]; omega) (by omega) (by simp; omega) (w.heap.size + 1) (by simp) ?_
  · intro j u hj
    match j, hj with
    | 0, hj => simp at hj; subst hj; simp [Addr.add]
  · intro u hu; simp at hu; subst hu; rfl
  · intro g cap w' ho' hg' hat hlt
    refine h g cap w' ?_ hg' hat hlt
    unfold OwnV
    rw [List.length_append]
    exact ho'

end

end Go.Rt
