/-
  Short words for printed walks: a region's law, told of less; a box's cells together.
-/
import Derived.Test.YtkbalokicnogbaaGreatGK
import Derived.Test.YtkbalokicnogbaaGreatBoxA
namespace Go.Rt
open Go Go.RowKit Go.Proofs

/-- what stays in a world that has only grown -/
def Lasts (S : World → Prop) : Prop := ∀ W W', S W → Ext W W' → S W'

instance lasts_and {p q : World → Prop} [hp : Nonempty (Lasts p)] [hq : Nonempty (Lasts q)] : Nonempty (Lasts (fun W => p W ∧ q W)) :=
  ⟨fun W W' h hE => ⟨hp.elim fun k => k W W' h.1 hE, hq.elim fun k => k W W' h.2 hE⟩⟩

instance lasts_ext {w : World} : Nonempty (Lasts (fun W => Ext w W)) := ⟨fun _ _ h hE => Ext.trans h hE⟩

instance lasts_size {n : Nat} : Nonempty (Lasts (fun W => n ≤ W.heap.size)) := ⟨fun _ _ h hE => Nat.le_trans h (Ext.size hE)⟩

instance lasts_nw {v : Value} {N : Nat} : Nonempty (Lasts (fun W => Nw W v N)) := ⟨fun _ _ h hE => h.ext hE⟩

instance lasts_nt {v : Value} {xs : List Nat} : Nonempty (Lasts (fun W => Nt W v xs)) := ⟨fun _ _ h hE => h.ext hE⟩

instance lasts_zw {v : Value} {z : Int} : Nonempty (Lasts (fun W => Zw W v z)) := ⟨fun _ _ h hE => h.ext hE⟩

instance lasts_rw {v : Value} {x : Rat} : Nonempty (Lasts (fun W => Rw W v x)) := ⟨fun _ _ h hE => h.ext hE⟩

instance lasts_bx2 {b : Nat} {t : TypeId} {x y : Value} : Nonempty (Lasts (fun W => Bx2 W b t x y)) := ⟨fun _ _ h hE => h.ext hE⟩

instance lasts_bx3 {b : Nat} {t : TypeId} {x y z : Value} : Nonempty (Lasts (fun W => Bx3 W b t x y z)) := ⟨fun _ _ h hE => h.ext hE⟩

instance lasts_bxa {b : Nat} {t : TypeId} {xs : Array Value} : Nonempty (Lasts (fun W => BxA W b t xs)) := ⟨fun _ _ h hE => BxA.ext h hE⟩

instance lasts_form {b n : Nat} {t : TypeId} : Nonempty (Lasts (fun W => Form W b t n)) := ⟨fun _ _ h hE => h.ext hE⟩

theorem Bx2.c2 {W : World} {b : Nat} {t : TypeId} {x y : Value} (h : Bx2 W b t x y) : W.cell? ⟨b, 0, none⟩ = some x ∧ W.cell? ⟨b, 1, none⟩ = some y := ⟨h.cell0, h.cell1⟩

theorem Bx3.c3 {W : World} {b : Nat} {t : TypeId} {x y z : Value} (h : Bx3 W b t x y z) : W.cell? ⟨b, 0, none⟩ = some x ∧ W.cell? ⟨b, 1, none⟩ = some y ∧ W.cell? ⟨b, 2, none⟩ = some z := ⟨h.cell0, h.cell1, h.cell2⟩

theorem sA {α : Type} (l : List α) (i : Nat) (a : α) : l.toArray.setIfInBounds i a = (l.set i a).toArray := List.setIfInBounds_toArray l i a

theorem sZ {α : Type} (x : α) (xs : List α) (a : α) : (x :: xs).set 0 a = a :: xs := List.set_cons_zero

theorem sS {α : Type} (x : α) (xs : List α) (n : Nat) (a : α) : (x :: xs).set (n + 1) a = x :: xs.set n a := List.set_cons_succ

section

variable {P : Program} {Q : Exit → Act → World → Prop} {md : Region.Mode} {l : List Oper} {a0 : Act} {S : World → Prop} {ps : List PS} {A : (Nat → Value) → Act}

theorem oE {o : Oper} (k : Nat) (pre : List Nat) (hf : Firm S ps) (ho : l[k]? = some o)
    (h : ∀ (vs : Nat → Value) (w : World), S w → Pres ps pre vs w → Olds md l a0 k vs → ∀ K : Act → World → Prop, (∀ v w', Ext w w' → (psAt ps k).holds k (upd vs k v) w' → K ((A vs).put o.dst v) w') →
      if Region.wanted o (yielded l.toArray (A vs).tmps) = true then Oper.wp P o (A vs) w K Q else K ((A vs).put o.dst undef) w) (hpre : waitsB md o pre = true := by kernel_rfl) : OwesAt P md l Q a0 A S ps k := owesE k pre hf ho hpre h

theorem oW {o : Oper} (k : Nat) (pre : List Nat) (hf : Firm S ps) (ho : l[k]? = some o)
    (h : ∀ (vs : Nat → Value) (w : World), S w → Pres ps pre vs w → Olds md l a0 k vs → ∀ K : Act → World → Prop, (∀ w' g, Wr g w w' → S w' → (psAt ps k).holds k (upd vs k undef) w' → K ((A vs).put o.dst undef) w') →
      if Region.wanted o (yielded l.toArray (A vs).tmps) = true then Oper.wp P o (A vs) w K Q else K ((A vs).put o.dst undef) w) (hpre : waitsB md o pre = true := by kernel_rfl) (hon : onlyB k ps 0 = true := by kernel_rfl) : OwesAt P md l Q a0 A S ps k := owesW k pre hf ho hpre hon h

theorem region_gs {id : Nat} {w : World} {b : Bool} (ps : List PS) (S : World → Prop) [hL : Nonempty (Lasts S)] (hc : Certs ps) (hS : S w)
    (hA : ∀ vs, putAll l 0 vs a0 = A vs) (howe : Firm S ps → OwesAllAt P .any l Q a0 A S ps l 0)
    (hfin : ∀ (vs : Nat → Value) (w' : World), S w' → AllPosts ps 0 vs w' → Q .normal (A vs) w')
    (hm : P.follows .mixedOrders = true := by kernel_rfl) (honce : onceB l = true := by kernel_rfl) (hdown : downB .any l 0 = true := by kernel_rfl) (hdeps : depsB .any l ps = true := by kernel_rfl) :
    (Code.region id l.toArray b).wp P Q a0 w :=
  region_go ps S hc (hL.elim fun k => k) hS hm honce hdown hdeps hA howe hfin

end

end Go.Rt
