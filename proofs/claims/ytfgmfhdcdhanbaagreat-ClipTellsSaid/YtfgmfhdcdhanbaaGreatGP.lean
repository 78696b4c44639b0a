/-
  Rows of integers as they are handed in: slices taken apart; their lengths bounded by what is read.
  Rows of rows as they are handed in: taken apart; their lengths bounded by what is read.
  A row, and rows of rows, as this program's laws are handed them.
-/
import Derived.Test.YtfgmfhdcdhanbaaGreatIrow
import Derived.Test.YtfgmfhdcdhanbaaGreatClose
import Derived.SizedLaws
import Derived.Test.YtfgmfhdcdhanbaaGreatGO
import Derived.Deep.Matrix
namespace Go.Rt

open Go Go.RowKit Go.Proofs Go.WideShapes Go.ChangeShapes

section

variable {H : Type} {enc : TypeId × Value → H} {P : Program} {W : World} {base : Nat}

end

end Go.Rt

namespace Go.Rt
open Go Go.RowKit Go.Proofs Go.WideShapes Go.ChangeShapes Go.Deep

section

variable {H : Type} {enc : TypeId × Value → H} {P : Program} {W : World} {base : Nat}

theorem weights_all {e : TypeId} {ds : List (DataW H)} {d : DataW H} (hd : d ∈ ds) {x : Nat} (hx : x ∈ d.weights P e) : x ∈ DataW.weightsAll P e ds := by
  induction ds with
  | nil => cases hd
  | cons c r ih =>
    rw [DataW.weightsAll]
    rcases List.mem_cons.1 hd with rfl | hd
    · exact List.mem_append_left _ hx
    · exact List.mem_append_right _ (ih hd)

theorem i64_of_wf {x : Int} (h : (Lit.int .i64 x).wf = true) : I64 x := by
  simp [Lit.wf, IntKind.min, IntKind.max, IntKind.signed, IntKind.bits] at h
  exact ⟨by omega, by omega⟩

theorem open_rows2 {t e q : TypeId} {v : Value} {d : DataW H} {ps : List MemPlace} (ht : P.underlying t = some (.slice e)) (he : P.underlying e = some (.slice q)) (hq : P.underlying q = some (.int .i64)) (ce : P.cellsOf e = 1) (cq : P.cellsOf q = 1) (hbe : 0 < P.bytesOf e) (hbq : 0 < P.bytesOf q)
    (ho : Value.okWide P W .any base t v) (h : DataW.Trod enc P W 0 (fun _ => true) true t v d ps) :
    ∃ a n c ls, v = .slice a n c ∧ Mw 0 W.heap.size W a n c ls ∧ ∀ M, (∀ x ∈ d.weights P t, x ≤ M) → n ≤ M ∧ ∀ l ∈ ls, l.length ≤ M := by
  obtain ⟨a0, len0, cap0, rfl⟩ := okWide_slice ht ho
  obtain ⟨fuel, hf⟩ := h
  rcases open_int_rows ht he hq ce cq hf with ⟨hcs, -⟩ | ⟨a, len, cap, A, L, C, Z, hcs, -, hl, hm, hd, hr⟩
  · obtain ⟨rfl, rfl, rfl⟩ : a0 = none ∧ len0 = 0 ∧ cap0 = 0 := by simpa [Value.cells] using hcs
    exact ⟨none, 0, 0, [], rfl, Mw.nil _ _ _, fun M _ => ⟨Nat.zero_le _, fun l hl => by cases hl⟩⟩
  · have hcs' : Value.slice a0 len0 cap0 = .slice (some a) len cap := by simpa [Value.cells] using hcs
    obtain ⟨rfl, rfl, rfl⟩ := Value.slice.inj hcs'
    have hsp : a.spot = none := by
      simp only [Value.okWide, ht, Cell.okWide, Cell.ok] at ho
      exact ho.2.2.2.1
    obtain ⟨b, o, sp⟩ := a
    obtain rfl : sp = none := hsp
    obtain ⟨ls, hls⟩ : ∃ ls, ls = (List.range len0).map fun r => (Z r).take (L r) := ⟨_, rfl⟩
    have hlen : ls.length = len0 := by rw [hls]; simp
    have hat : ∀ i, i < len0 → atR ls i = (Z i).take (L i) := fun i hi => by
      rw [atR_eq (by omega)]
      simp [hls]
    have hll : ∀ i, i < len0 → (atR ls i).length = L i := fun i hi => by
      obtain ⟨-, r1, -, r3, -⟩ := hr i (by omega)
      rw [hat i hi, List.length_take]
      omega
    refine ⟨_, _, _, ls, rfl, ⟨hlen, ⟨b, o, fun i => .slice (A i) (L i) (C i), ⟨.inl rfl, hl, hm, fun i hi => ?_⟩, fun hn => ⟨Nat.zero_le _, ?_⟩, fun i hi => ?_⟩⟩, fun M hM => ⟨?_, fun l hl' => ?_⟩⟩
    · have h1 := (hr i (by omega)).1
      rw [Go.WideShapes.add_plain] at h1
      exact h1
    · have h1 := (hr 0 (by omega)).1
      rw [Go.WideShapes.add_plain] at h1
      exact World.block_lt_of_cell? W _ h1
    · obtain ⟨-, r1, r2, r3, r4, r5, r6⟩ := hr i (by omega)
      refine ⟨A i, C i, by rw [hll i hi], ?_⟩
      rw [hll i hi]
      rcases Nat.eq_zero_or_pos (C i) with h0 | h0
      · exact .inr ⟨by omega, h0, by rw [hat i hi]; have : Z i = [] := List.length_eq_zero_iff.1 (by omega); rw [this, List.take_nil]⟩
      · left
        cases hA : A i with
        | none => have := r5 hA; omega
        | some a' =>
          obtain ⟨-, r7⟩ := r6 a' hA
          have c0 := r7 0 h0
          obtain ⟨b', o', sp'⟩ := a'
          have hsp' : sp' = none := by
            cases sp' with
            | none => rfl
            | some k =>
              exfalso
              simp only [Addr.add, if_true, World.cell?] at c0
              split at c0 <;> simp at c0
          subst hsp'
          rw [Go.WideShapes.add_plain] at c0
          have hlt := World.block_lt_of_cell? W _ c0
          refine ⟨by rw [← hll i hi], ⟨b', o', ⟨.inl rfl, r1, r2, fun j hj => ?_⟩, fun _ => ⟨Nat.zero_le _, hlt⟩⟩, fun x hx => ?_⟩
          · have h1 := r7 j (by omega)
            rw [Go.WideShapes.add_plain] at h1
            rw [h1, hat i hi]
            unfold atL
            simp only [List.getD_eq_getElem?_getD, List.getElem?_take, if_pos hj]
          · rw [hat i hi] at hx
            exact i64_of_wf (r4 x (List.mem_of_mem_take hx))
    · obtain ⟨hd, -⟩ := Prod.mk.inj hd
      have h1 := hM ((((List.range len0).map fun r => intRow (H := H) .i64 (A r) (L r) (Z r)).length + ((List.range (cap0 - len0)).map fun j => intRow (H := H) .i64 (A (len0 + j)) (L (len0 + j)) (Z (len0 + j))).length) * P.bytesOf e) (by rw [hd]; simp only [DataW.weights, ht]; exact List.mem_cons_self)
      have h2 : len0 * 1 ≤ (len0 + (cap0 - len0)) * P.bytesOf e := Nat.mul_le_mul (by omega) hbe
      simp only [List.length_map, List.length_range] at h1
      omega
    · obtain ⟨hd, -⟩ := Prod.mk.inj hd
      obtain ⟨i, hi, rfl⟩ := List.getElem_of_mem hl'
      rw [hlen] at hi
      rw [← atR_eq (by omega), hll i hi]
      obtain ⟨-, r1, r2, r3, -, r5, -⟩ := hr i (by omega)
      cases hA : A i with
      | none => have := r5 hA; omega
      | some a' =>
        have h1 := hM (((lits (H := H) .i64 ((Z i).take (L i))).length + (lits (H := H) .i64 ((Z i).drop (L i))).length) * P.bytesOf q) (by
          rw [hd]
          simp only [DataW.weights, ht]
          refine List.mem_cons_of_mem _ (List.mem_append_left _ (weights_all (List.mem_map.2 ⟨i, List.mem_range.2 hi, rfl⟩) ?_))
          rw [hA]
          simp only [intRow, DataW.weights, he]
          exact List.mem_cons_self)
        have h2 : L i * 1 ≤ ((lits (H := H) .i64 ((Z i).take (L i))).length + (lits (H := H) .i64 ((Z i).drop (L i))).length) * P.bytesOf q := Nat.mul_le_mul (by simp [lits]; omega) hbq
        omega
end
end Go.Rt

namespace Go.Rt

open Go Go.RowKit Go.Proofs Go.WideShapes Go.ChangeShapes

set_option maxRecDepth 100000 in
theorem Tryz.openRows2 {H : Type} {enc : TypeId × Value → H} {W : World} {base : Nat} {v : Value} {d : DataW H} {ps : List MemPlace} (ho : Value.okWide Go.Proofs.Tryz.prog W .any base 22 v) (h : DataW.Trod enc Go.Proofs.Tryz.prog W 0 (fun _ => true) true 22 v d ps) :
    ∃ a n c ls, v = .slice a n c ∧ Mw 0 W.heap.size W a n c ls ∧ ((∀ x ∈ d.weights Go.Proofs.Tryz.prog 22, x ≤ reachBytes) → n ≤ 140737488351232 ∧ ∀ l ∈ ls, l.length ≤ 140737488351232) := by
  obtain ⟨a, n, c, ls, e, hm, hb⟩ := open_rows2 Tryz.underlying22 Tryz.underlying28 Tryz.underlying2 (by kernel_rfl) (by kernel_rfl) (of_decide_eq_true (by kernel_rfl)) (of_decide_eq_true (by kernel_rfl)) ho h
  exact ⟨a, n, c, ls, e, hm, fun hM => hb reachBytes hM⟩

end Go.Rt
