/-
  Short words for printed walks: a region's law, told of less; a box's cells together.
-/
import Derived.Test.YtlkinepafpbhhaaGK

namespace Go.Rt

open Go Go.RowKit Go.Proofs

/-- what stays in a world that has only grown -/
def Lasts (S : World → Prop) : Prop := ∀ W W', S W → Ext W W' → S W'

instance lasts_and {p q : World → Prop} [hp : Nonempty (Lasts p)] [hq : Nonempty (Lasts q)] : Nonempty (Lasts (fun W => p W ∧ q W)) :=
  ⟨fun W W' h hE => ⟨hp.elim fun k => k W W' h.1 hE, hq.elim fun k => k W W' h.2 hE⟩⟩

instance lasts_ext {w : World} : Nonempty (Lasts (fun W => Ext w W)) := ⟨fun _ _ h hE => Ext.trans h hE⟩

instance lasts_size {n : Nat} : Nonempty (Lasts (fun W => n ≤ W.heap.size)) := ⟨fun _ _ h hE => Nat.le_trans h (Ext.size hE)⟩

instance lasts_nw {v : Value} {N : Nat} : Nonempty (Lasts (fun W => Nw W v N)) := ⟨fun _ _ h hE => h.ext hE⟩

instance lasts_nt {v : Value} {xs : List Nat} : Nonempty (Lasts (fun W => Nt W v xs)) := ⟨fun _ _ h hE => h.ext hE⟩

instance lasts_zw {v : Value} {z : Int} : Nonempty (Lasts (fun W => Zw W v z)) := ⟨fun _ _ h hE => h.ext hE⟩

instance lasts_rw {v : Value} {x : Rat} : Nonempty (Lasts (fun W => Rw W v x)) := ⟨fun _ _ h hE => h.ext hE⟩

instance lasts_bx2 {b : Nat} {t : TypeId} {x y : Value} : Nonempty (Lasts (fun W => Bx2 W b t x y)) := ⟨fun _ _ h hE => h.ext hE⟩

instance lasts_bx3 {b : Nat} {t : TypeId} {x y z : Value} : Nonempty (Lasts (fun W => Bx3 W b t x y z)) := ⟨fun _ _ h hE => h.ext hE⟩

instance lasts_form {b n : Nat} {t : TypeId} : Nonempty (Lasts (fun W => Form W b t n)) := ⟨fun _ _ h hE => h.ext hE⟩

theorem Bx2.c2 {W : World} {b : Nat} {t : TypeId} {x y : Value} (h : Bx2 W b t x y) : W.cell? ⟨b, 0, none⟩ = some x ∧ W.cell? ⟨b, 1, none⟩ = some y := ⟨h.cell0, h.cell1⟩

theorem Bx3.c3 {W : World} {b : Nat} {t : TypeId} {x y z : Value} (h : Bx3 W b t x y z) : W.cell? ⟨b, 0, none⟩ = some x ∧ W.cell? ⟨b, 1, none⟩ = some y ∧ W.cell? ⟨b, 2, none⟩ = some z := ⟨h.cell0, h.cell1, h.cell2⟩

section

variable {P : Program} {Q : Exit → Act → World → Prop} {md : Region.Mode} {l : List Oper} {a0 : Act} {S : World → Prop} {ps : List PS} {A : (Nat → Value) → Act}

end

end Go.Rt
