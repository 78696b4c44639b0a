/-
  Three rows of integers that a call lets grow, apart from one another: what an append and a store leave of them.
  A step of rows, or why there is none, by definition.
  A step of rows, or why there is none, by definition.
  A step of rows by definition: why there is none, or the three new rows; rows of numbers compared by definition.
-/
import Derived.Test.YtkbalokicnogbaaGreatGQ
import Derived.Test.YtkbalokicnogbaaGreatAdamS
import Derived.Test.YtkbalokicnogbaaGreatGO
import Derived.Test.YtkbalokicnogbaaGreatGY
import Derived.Test.YtkbalokicnogbaaGreatNumC
import Derived.Test.YtkbalokicnogbaaGreatAdamI
import Derived.Test.YtkbalokicnogbaaGreatAdamH
namespace Go.Rt
open Go Go.RowKit Go.Proofs

/-- three rows of the call's own, between B and H, apart from one another -/
structure Own3 (W : World) (B H : Nat) (e : TypeId) (v1 v2 v3 : Value) (l1 l2 l3 : List Int) : Prop where
  o1 : OwnI W B e v1 l1
  o2 : OwnI W B e v2 l2
  o3 : OwnI W B e v3 l3
  h1 : ∀ g, v1.ownBlock = some g → B ≤ g ∧ g < H
  h2 : ∀ g, v2.ownBlock = some g → B ≤ g ∧ g < H
  h3 : ∀ g, v3.ownBlock = some g → B ≤ g ∧ g < H
  d12 : ∀ g, v1.ownBlock = some g → v2.ownBlock ≠ some g
  d13 : ∀ g, v1.ownBlock = some g → v3.ownBlock ≠ some g
  d23 : ∀ g, v2.ownBlock = some g → v3.ownBlock ≠ some g

theorem Own3.nil (W : World) (B H : Nat) (e : TypeId) : Own3 W B H e (.slice none 0 0) (.slice none 0 0) (.slice none 0 0) [] [] [] :=
  ⟨OwnI.nil _ _ _, OwnI.nil _ _ _, OwnI.nil _ _ _, (fun _ h => by cases h), (fun _ h => by cases h), (fun _ h => by cases h), (fun _ h => by cases h), (fun _ h => by cases h), (fun _ h => by cases h)⟩

theorem Own3.ext {W W' : World} {B H : Nat} {e : TypeId} {v1 v2 v3 : Value} {l1 l2 l3 : List Int} (h : Own3 W B H e v1 v2 v3 l1 l2 l3) (hE : Ext W W') : Own3 W' B H e v1 v2 v3 l1 l2 l3 :=
  ⟨h.o1.ext hE, h.o2.ext hE, h.o3.ext hE, h.h1, h.h2, h.h3, h.d12, h.d13, h.d23⟩

theorem Own3.wr {W W' : World} {B H g : Nat} {e : TypeId} {v1 v2 v3 : Value} {l1 l2 l3 : List Int} (h : Own3 W B H e v1 v2 v3 l1 l2 l3) (hw : Wr g W W') (hg : g < B ∨ H ≤ g) : Own3 W' B H e v1 v2 v3 l1 l2 l3 :=
  ⟨h.o1.wr hw (fun q => by have := h.h1 g q; omega), h.o2.wr hw (fun q => by have := h.h2 g q; omega), h.o3.wr hw (fun q => by have := h.h3 g q; omega), h.h1, h.h2, h.h3, h.d12, h.d13, h.d23⟩

theorem Own3.rot {W : World} {B H : Nat} {e : TypeId} {v1 v2 v3 : Value} {l1 l2 l3 : List Int} (h : Own3 W B H e v1 v2 v3 l1 l2 l3) : Own3 W B H e v2 v3 v1 l2 l3 l1 :=
  ⟨h.o2, h.o3, h.o1, h.h2, h.h3, h.h1, h.d23, fun g q q' => h.d12 g q' q, fun g q q' => h.d13 g q' q⟩

instance lasts_own3 {B H : Nat} {e : TypeId} {v1 v2 v3 : Value} {l1 l2 l3 : List Int} : Nonempty (Lasts (fun W => Own3 W B H e v1 v2 v3 l1 l2 l3)) := ⟨fun _ _ h hE => h.ext hE⟩

/-- the first one has grown -/
theorem Own3.push {W W2 : World} {B H g cap n : Nat} {e : TypeId} {v1 v2 v3 : Value} {l1 l2 l3 : List Int} {y : Int} {o : Obj} (h : Own3 W B H e v1 v2 v3 l1 l2 l3) (hH : H ≤ W.heap.size) (hB : B ≤ W.heap.size)
    (ho : OwnI W2 B e (.slice (some ⟨g, 0, none⟩) n cap) (l1 ++ [y])) (hg : (W.alloc o).grownBy W2 v1.ownBlock) (hat : v1.ownBlock = some g ∨ g = W.heap.size + 1) (hlt : g < W2.heap.size) :
    Own3 W2 B W2.heap.size e (.slice (some ⟨g, 0, none⟩) n cap) v2 v3 (l1 ++ [y]) l2 l3 := by
  have hsz : W.heap.size + 1 ≤ W2.heap.size := by have := hg.size; simpa using this
  have kept : ∀ {v : Value} {l : List Int}, OwnI W B e v l → (∀ k, v1.ownBlock = some k → v.ownBlock ≠ some k) → OwnI W2 B e v l := fun {v l} hv hd => by
    refine World.ownsRow.kept (World.ownsRow.alloc hv o) hg ?_
    cases hq : v.ownBlock with
    | none => exact .inl rfl
    | some k => exact .inr (fun q => hd k q.symm hq)
  have far : ∀ {v : Value}, (∀ k, v1.ownBlock = some k → v.ownBlock ≠ some k) → (∀ k, v.ownBlock = some k → B ≤ k ∧ k < H) → v.ownBlock ≠ some g := fun {v} hd hh q => by
    rcases hat with hat | hat
    · exact hd g hat q
    · have := hh g q; omega
  refine ⟨ho, kept h.o2 h.d12, kept h.o3 h.d13, fun k q => ?_, fun k q => ?_, fun k q => ?_, fun k q => ?_, fun k q => ?_, h.d23⟩
  · cases q
    rcases hat with hat | hat
    · have := h.h1 g hat; exact ⟨this.1, hlt⟩
    · exact ⟨show B ≤ g by omega, hlt⟩
  · have := h.h2 k q; exact ⟨this.1, by omega⟩
  · have := h.h3 k q; exact ⟨this.1, by omega⟩
  · cases q; exact far h.d12 h.h2
  · cases q; exact far h.d13 h.h3

theorem OwnI.noU {W : World} {base : Nat} {e : TypeId} {v : Value} {l : List Int} (h : OwnI W base e v l) : ∃ a n c, v = .slice a n c := by
  rcases h.2 with ⟨rfl, -⟩ | ⟨g, cap, cur, rfl, -⟩
  · exact ⟨_, _, _, rfl⟩
  · exact ⟨_, _, _, rfl⟩

theorem noU_own {W1 W2 W3 : World} {base : Nat} {e : TypeId} {v1 v2 v3 : Value} {l1 l2 l3 : List Int} (h1 : OwnI W1 base e v1 l1) (h2 : OwnI W2 base e v2 l2) (h3 : OwnI W3 base e v3 l3) : NoU #[v1, v2, v3, .slice none 0 0] := by
  obtain ⟨a1, n1, c1, rfl⟩ := h1.noU
  obtain ⟨a2, n2, c2, rfl⟩ := h2.noU
  obtain ⟨a3, n3, c3, rfl⟩ := h3.noU
  exact noU4 _ _ _ _ _ _ _ _ _ _ _ _

theorem BxA.grown {W W' : World} {b : Nat} {t : TypeId} {xs : Array Value} {o : Obj} {row : Option Nat} (h : BxA W b t xs) (hg : (W.alloc o).grownBy W' row) (hr : ∀ k, row = some k → k ≠ b) : BxA W' b t xs := by
  have h1 : BxA (W.alloc o) b t xs := h.ext (Ext.alloc1 W o)
  unfold BxA at h1 ⊢
  rw [hg.block b (BxA.lt h1) (fun q => hr b q.symm rfl)]
  exact h1

theorem outL_snoc (k : Nat) (f : Nat → Int) : outL (k + 1) f = outL k f ++ [f k] := by
  unfold outL
  rw [List.range_succ, List.map_append]
  rfl

/-- three new rows, of whatever room -/
def RowsC (w w' : World) (v : Value) (n : Nat) (f1 f2 f3 : Nat → Int) : Prop :=
  ∃ a1 c1 a2 c2 a3 c3, v = .agg #[.slice a1 n c1, .slice a2 n c2, .slice a3 n c3, .slice none 0 0] ∧ Iw w.heap.size w'.heap.size w' a1 n c1 (outL n f1) ∧ Iw w.heap.size w'.heap.size w' a2 n c2 (outL n f2) ∧ Iw w.heap.size w'.heap.size w' a3 n c3 (outL n f3)

def StepAtC (lo : Nat) (W : World) (v : Value) (E : Int) (xw xm xv : List Int) : Prop :=
  ∃ (x1 : Option Addr) (n1 c1 : Nat) (x2 : Option Addr) (n2 c2 : Nat) (x3 : Option Addr) (n3 c3 : Nat), v = .tuple #[.agg #[.slice x1 n1 c1, .slice x2 n2 c2, .slice x3 n3 c3, .slice none 0 0], .int .i64 E] ∧ Iw lo W.heap.size W x1 n1 c1 xw ∧ Iw lo W.heap.size W x2 n2 c2 xm ∧ Iw lo W.heap.size W x3 n3 c3 xv

end Go.Rt

namespace Go.Rt
open Go Go.RowKit Go.Proofs


set_option maxRecDepth 100000 in
set_option maxHeartbeats 16000000 in
theorem Tryz.refStepNo18 (lr b1 b2 eps wd p0 p1 : Int) (ap : Bool) (f : Int) {n0 n1 n2 n3 : Nat} {a0 : Option Addr} {c0 : Nat} {a1 : Option Addr} {c1 : Nat} {a2 : Option Addr} {c2 : Nat} {a3 : Option Addr} {c3 : Nat} (w : World) (hR : rightA ⟨lr, b1, b2, eps, wd, ap⟩ f = false) :
  Calls Tryz.prog 9 #[.agg #[.int .i64 lr, .int .i64 b1, .int .i64 b2, .int .i64 eps, .int .i64 wd, .bool ap], .int .i64 f, .agg #[.int .i64 p0, .int .i64 p1], .agg #[.slice a0 n0 c0, .slice a1 n1 c1, .slice a2 n2 c2, .slice a3 n3 c3]] w fun e w' => e = .returned (.tuple #[.agg #[.slice none 0 0, .slice none 0 0, .slice none 0 0, .slice none 0 0], .int .i64 1]) ∧ Ext w w' := by
 obtain ⟨W0, hW0, E0, p4, p6, p7, p8⟩ := boxed4 w 23 #[.int .i64 lr, .int .i64 b1, .int .i64 b2, .int .i64 eps, .int .i64 wd, .bool ap] 24 #[.int .i64 p0, .int .i64 p1] 27 #[.slice a0 n0 c0, .slice a1 n1 c1, .slice a2 n2 c2, .slice a3 n3 c3] 27 #[.slice none 0 0, .slice none 0 0, .slice none 0 0, .slice none 0 0]
 replace p6 := p6.b2
 go_enter Tryz.func9, Tryz.ntmps9
 obtain ⟨k4a, k4b, k4c, k4d, k4e, k4f⟩ := p4.c6
 obtain ⟨k6a, k6b⟩ := p6.c2
 obtain ⟨k7a, k7b, k7c, k7d⟩ := p7.c4
 obtain ⟨k8a, k8b, k8c, k8d⟩ := p8.c4
 go_wp2_with fail
 rw [← hW0]
 clear hW0; clear k4a k4b k4c k4d k4e k4f k6a k6b k7a k7b k7c k7d k8a k8b k8c k8d
 refine (Tryz.refRight18 lr b1 b2 eps wd f ap _).mono ?_
 rintro e Wc ⟨rfl, hE⟩
 rw [hR]; replace E0 := (Ext.trans E0 hE); replace p4 := (p4.ext hE); replace p6 := (p6.ext hE); replace p7 := (p7.ext hE); replace p8 := (p8.ext hE); clear hE
 have fo8 : Form Wc (w.heap.size + 1 + 1 + 1) 27 4 := ⟨_, p8, noU4 none 0 0 none 0 0 none 0 0 none 0 0, rfl⟩
 have z80 := p8.frozN 0
 have z81 := p8.frozN 1
 have z82 := p8.frozN 2
 have z83 := p8.frozN 3
 obtain ⟨k4a, k4b, k4c, k4d, k4e, k4f⟩ := p4.c6
 obtain ⟨k6a, k6b⟩ := p6.c2
 obtain ⟨k7a, k7b, k7c, k7d⟩ := p7.c4
 obtain ⟨k8a, k8b, k8c, k8d⟩ := p8.c4
 go_wp2; clear k4a k4b k4c k4d k4e k4f k6a k6b k7a k7b k7c k7d k8a k8b k8c k8d
 obtain ⟨-, -, -, -, -, -, -, -, -, W2, hW2, hw, hq⟩ := fo8.put4 (.slice none 0 0) (.slice none 0 0) (.slice none 0 0) (.slice none 0 0) (noU4 none 0 0 none 0 0 none 0 0 none 0 0)
 rw [← hW2]
 have k80 := hq.cell 0 (v := .slice none 0 0) rfl
 have k81 := hq.cell 1 (v := .slice none 0 0) rfl
 have k82 := hq.cell 2 (v := .slice none 0 0) rfl
 have k83 := hq.cell 3 (v := .slice none 0 0) rfl
 exact bodyPost_ret (v := .tuple #[.agg #[.slice none 0 0, .slice none 0 0, .slice none 0 0, .slice none 0 0], .int .i64 1]) (by simp [results, Tryz.results9, go_sem, k80, k81, k82, k83]) rfl ⟨rfl, Ext.wr E0 hw (by omega)⟩

set_option maxRecDepth 100000 in
set_option maxHeartbeats 16000000 in
theorem Tryz.refStepArg18 (lr b1 b2 eps wd p0 p1 : Int) (ap : Bool) (K : Nat) {n0 n1 n2 n3 : Nat} {a0 : Option Addr} {c0 : Nat} {a1 : Option Addr} {c1 : Nat} {a2 : Option Addr} {c2 : Nat} {a3 : Option Addr} {c3 : Nat} {lv : List Int} (w : World) (hR : rightA ⟨lr, b1, b2, eps, wd, ap⟩ (K : Int) = true) (hiv : Iw 0 w.heap.size w a2 n2 c2 lv) (hB : mayB K p0 = false ∨ mayB K p1 = false ∨ negB lv = true) :
  Calls Tryz.prog 9 #[.agg #[.int .i64 lr, .int .i64 b1, .int .i64 b2, .int .i64 eps, .int .i64 wd, .bool ap], .int .i64 (K : Int), .agg #[.int .i64 p0, .int .i64 p1], .agg #[.slice a0 n0 c0, .slice a1 n1 c1, .slice a2 n2 c2, .slice a3 n3 c3]] w fun e w' => e = .returned (.tuple #[.agg #[.slice none 0 0, .slice none 0 0, .slice none 0 0, .slice none 0 0], .int .i64 1]) ∧ Ext w w' := by
 have HR := Lib.hid hR
 have HK : Hid (K ≤ 40) := Lib.hid (by have := rightA_iff.1 hR; omega)
 have HB : Hid ((!negB lv && (mayB K p0 && mayB K p1)) = false) := Lib.hid (by rcases hB with h | h | h <;> simp [h])
 clear hR hB
 obtain ⟨W0, hW0, E0, p4, p6, p7, p8⟩ := boxed4 w 23 #[.int .i64 lr, .int .i64 b1, .int .i64 b2, .int .i64 eps, .int .i64 wd, .bool ap] 24 #[.int .i64 p0, .int .i64 p1] 27 #[.slice a0 n0 c0, .slice a1 n1 c1, .slice a2 n2 c2, .slice a3 n3 c3] 27 #[.slice none 0 0, .slice none 0 0, .slice none 0 0, .slice none 0 0]
 replace p6 := p6.b2
 replace hiv : Iw 0 w.heap.size W0 a2 n2 c2 (lv) := hiv.ext E0
 go_enter Tryz.func9, Tryz.ntmps9
 obtain ⟨k4a, k4b, k4c, k4d, k4e, k4f⟩ := p4.c6
 obtain ⟨k6a, k6b⟩ := p6.c2
 obtain ⟨k7a, k7b, k7c, k7d⟩ := p7.c4
 obtain ⟨k8a, k8b, k8c, k8d⟩ := p8.c4
 go_wp2_with fail
 rw [← hW0]
 clear hW0; clear k4a k4b k4c k4d k4e k4f k6a k6b k7a k7b k7c k7d k8a k8b k8c k8d
 refine (Tryz.refRight18 lr b1 b2 eps wd (K : Int) ap _).mono ?_
 rintro e Wri ⟨rfl, hE⟩
 rw [HR.out]; replace E0 := (Ext.trans E0 hE); replace hiv := (hiv.ext hE); replace p4 := (p4.ext hE); replace p6 := (p6.ext hE); replace p7 := (p7.ext hE); replace p8 := (p8.ext hE); clear hE
 have szr := Ext.size E0
 obtain ⟨k4a, k4b, k4c, k4d, k4e, k4f⟩ := p4.c6
 obtain ⟨k6a, k6b⟩ := p6.c2
 obtain ⟨k7a, k7b, k7c, k7d⟩ := p7.c4
 obtain ⟨k8a, k8b, k8c, k8d⟩ := p8.c4
 go_wp2_with fail
 clear k4a k4b k4c k4d k4e k4f k6a k6b k7a k7b k7c k7d k8a k8b k8c k8d
 refine (Tryz.refMay18 K HK.out p0 p1 _ (hiv.mono (Nat.le_refl _) szr)).mono ?_
 rintro e Wm ⟨rfl, hE⟩
 rw [HB.out]; clear szr; replace E0 := (Ext.trans E0 hE); replace hiv := (hiv.ext hE); replace p4 := (p4.ext hE); replace p6 := (p6.ext hE); replace p7 := (p7.ext hE); replace p8 := (p8.ext hE); clear hE
 have fo8 : Form Wm (w.heap.size + 1 + 1 + 1) 27 4 := ⟨_, p8, noU4 none 0 0 none 0 0 none 0 0 none 0 0, rfl⟩
 have z80 := p8.frozN 0
 have z81 := p8.frozN 1
 have z82 := p8.frozN 2
 have z83 := p8.frozN 3
 obtain ⟨k4a, k4b, k4c, k4d, k4e, k4f⟩ := p4.c6
 obtain ⟨k6a, k6b⟩ := p6.c2
 obtain ⟨k7a, k7b, k7c, k7d⟩ := p7.c4
 obtain ⟨k8a, k8b, k8c, k8d⟩ := p8.c4
 go_wp2; clear k4a k4b k4c k4d k4e k4f k6a k6b k7a k7b k7c k7d k8a k8b k8c k8d
 obtain ⟨-, -, -, -, -, -, -, -, -, W2, hW2, hw, hq⟩ := fo8.put4 (.slice none 0 0) (.slice none 0 0) (.slice none 0 0) (.slice none 0 0) (noU4 none 0 0 none 0 0 none 0 0 none 0 0)
 rw [← hW2]
 have k80 := hq.cell 0 (v := .slice none 0 0) rfl
 have k81 := hq.cell 1 (v := .slice none 0 0) rfl
 have k82 := hq.cell 2 (v := .slice none 0 0) rfl
 have k83 := hq.cell 3 (v := .slice none 0 0) rfl
 exact bodyPost_ret (v := .tuple #[.agg #[.slice none 0 0, .slice none 0 0, .slice none 0 0, .slice none 0 0], .int .i64 1]) (by simp [results, Tryz.results9, go_sem, k80, k81, k82, k83]) rfl ⟨rfl, Ext.wr E0 hw (by omega)⟩

set_option maxRecDepth 100000 in
set_option maxHeartbeats 16000000 in
theorem Tryz.refStepShape18 (lr b1 b2 eps wd p0 p1 : Int) (ap : Bool) (K : Nat) {n0 n1 n2 n3 : Nat} {a0 : Option Addr} {c0 : Nat} {a1 : Option Addr} {c1 : Nat} {a2 : Option Addr} {c2 : Nat} {a3 : Option Addr} {c3 : Nat} {lv : List Int} (w : World) (hR : rightA ⟨lr, b1, b2, eps, wd, ap⟩ (K : Int) = true) (h0 : mayB K p0 = true) (h1 : mayB K p1 = true) (h2 : negB lv = false) (hiv : Iw 0 w.heap.size w a2 n2 c2 lv) (hN : n1 ≠ n0 ∨ n2 ≠ n0 ∨ n3 ≠ n0) :
  Calls Tryz.prog 9 #[.agg #[.int .i64 lr, .int .i64 b1, .int .i64 b2, .int .i64 eps, .int .i64 wd, .bool ap], .int .i64 (K : Int), .agg #[.int .i64 p0, .int .i64 p1], .agg #[.slice a0 n0 c0, .slice a1 n1 c1, .slice a2 n2 c2, .slice a3 n3 c3]] w fun e w' => e = .returned (.tuple #[.agg #[.slice none 0 0, .slice none 0 0, .slice none 0 0, .slice none 0 0], .int .i64 5]) ∧ Ext w w' := by
 have HR := Lib.hid hR
 have HK : Hid (K ≤ 40) := Lib.hid (by have := rightA_iff.1 hR; omega)
 have HB : Hid ((!negB lv && (mayB K p0 && mayB K p1)) = true) := Lib.hid (by rw [h0, h1, h2]; rfl)
 clear hR h0 h1 h2
 obtain ⟨W0, hW0, E0, p4, p6, p7, p8⟩ := boxed4 w 23 #[.int .i64 lr, .int .i64 b1, .int .i64 b2, .int .i64 eps, .int .i64 wd, .bool ap] 24 #[.int .i64 p0, .int .i64 p1] 27 #[.slice a0 n0 c0, .slice a1 n1 c1, .slice a2 n2 c2, .slice a3 n3 c3] 27 #[.slice none 0 0, .slice none 0 0, .slice none 0 0, .slice none 0 0]
 replace p6 := p6.b2
 replace hiv : Iw 0 w.heap.size W0 a2 n2 c2 (lv) := hiv.ext E0
 go_enter Tryz.func9, Tryz.ntmps9
 obtain ⟨k4a, k4b, k4c, k4d, k4e, k4f⟩ := p4.c6
 obtain ⟨k6a, k6b⟩ := p6.c2
 obtain ⟨k7a, k7b, k7c, k7d⟩ := p7.c4
 obtain ⟨k8a, k8b, k8c, k8d⟩ := p8.c4
 go_wp2_with fail
 rw [← hW0]
 clear hW0; clear k4a k4b k4c k4d k4e k4f k6a k6b k7a k7b k7c k7d k8a k8b k8c k8d
 refine (Tryz.refRight18 lr b1 b2 eps wd (K : Int) ap _).mono ?_
 rintro e Wri ⟨rfl, hE⟩
 rw [HR.out]; replace E0 := (Ext.trans E0 hE); replace hiv := (hiv.ext hE); replace p4 := (p4.ext hE); replace p6 := (p6.ext hE); replace p7 := (p7.ext hE); replace p8 := (p8.ext hE); clear hE
 have szr := Ext.size E0
 obtain ⟨k4a, k4b, k4c, k4d, k4e, k4f⟩ := p4.c6
 obtain ⟨k6a, k6b⟩ := p6.c2
 obtain ⟨k7a, k7b, k7c, k7d⟩ := p7.c4
 obtain ⟨k8a, k8b, k8c, k8d⟩ := p8.c4
 go_wp2_with fail
 clear k4a k4b k4c k4d k4e k4f k6a k6b k7a k7b k7c k7d k8a k8b k8c k8d
 refine (Tryz.refMay18 K HK.out p0 p1 _ (hiv.mono (Nat.le_refl _) szr)).mono ?_
 rintro e Wm ⟨rfl, hE⟩
 rw [HB.out]; clear szr; replace E0 := (Ext.trans E0 hE); replace hiv := (hiv.ext hE); replace p4 := (p4.ext hE); replace p6 := (p6.ext hE); replace p7 := (p7.ext hE); replace p8 := (p8.ext hE); clear hE
 by_cases e0 : n1 = n0
 ·subst e0
  by_cases e1 : n2 = n1
  ·subst e1
   have NE : ((n3 : Int) != (n2 : Int)) = true := bne_iff_ne.2 (by omega)
   clear hN
   have fo8 : Form Wm (w.heap.size + 1 + 1 + 1) 27 4 := ⟨_, p8, noU4 none 0 0 none 0 0 none 0 0 none 0 0, rfl⟩
   have z80 := p8.frozN 0
   have z81 := p8.frozN 1
   have z82 := p8.frozN 2
   have z83 := p8.frozN 3
   obtain ⟨k4a, k4b, k4c, k4d, k4e, k4f⟩ := p4.c6
   obtain ⟨k6a, k6b⟩ := p6.c2
   obtain ⟨k7a, k7b, k7c, k7d⟩ := p7.c4
   obtain ⟨k8a, k8b, k8c, k8d⟩ := p8.c4
   go_wp2; clear k4a k4b k4c k4d k4e k4f k6a k6b k7a k7b k7c k7d k8a k8b k8c k8d
   obtain ⟨-, -, -, -, -, -, -, -, -, W2, hW2, hw, hq⟩ := fo8.put4 (.slice none 0 0) (.slice none 0 0) (.slice none 0 0) (.slice none 0 0) (noU4 none 0 0 none 0 0 none 0 0 none 0 0)
   rw [← hW2]
   have k80 := hq.cell 0 (v := .slice none 0 0) rfl
   have k81 := hq.cell 1 (v := .slice none 0 0) rfl
   have k82 := hq.cell 2 (v := .slice none 0 0) rfl
   have k83 := hq.cell 3 (v := .slice none 0 0) rfl
   exact bodyPost_ret (v := .tuple #[.agg #[.slice none 0 0, .slice none 0 0, .slice none 0 0, .slice none 0 0], .int .i64 5]) (by simp [results, Tryz.results9, go_sem, k80, k81, k82, k83]) rfl ⟨rfl, Ext.wr E0 hw (by omega)⟩
  ·have NE : ((n2 : Int) != (n1 : Int)) = true := bne_iff_ne.2 (by omega)
   clear e1 hN
   have fo8 : Form Wm (w.heap.size + 1 + 1 + 1) 27 4 := ⟨_, p8, noU4 none 0 0 none 0 0 none 0 0 none 0 0, rfl⟩
   have z80 := p8.frozN 0
   have z81 := p8.frozN 1
   have z82 := p8.frozN 2
   have z83 := p8.frozN 3
   obtain ⟨k4a, k4b, k4c, k4d, k4e, k4f⟩ := p4.c6
   obtain ⟨k6a, k6b⟩ := p6.c2
   obtain ⟨k7a, k7b, k7c, k7d⟩ := p7.c4
   obtain ⟨k8a, k8b, k8c, k8d⟩ := p8.c4
   go_wp2; clear k4a k4b k4c k4d k4e k4f k6a k6b k7a k7b k7c k7d k8a k8b k8c k8d
   obtain ⟨-, -, -, -, -, -, -, -, -, W2, hW2, hw, hq⟩ := fo8.put4 (.slice none 0 0) (.slice none 0 0) (.slice none 0 0) (.slice none 0 0) (noU4 none 0 0 none 0 0 none 0 0 none 0 0)
   rw [← hW2]
   have k80 := hq.cell 0 (v := .slice none 0 0) rfl
   have k81 := hq.cell 1 (v := .slice none 0 0) rfl
   have k82 := hq.cell 2 (v := .slice none 0 0) rfl
   have k83 := hq.cell 3 (v := .slice none 0 0) rfl
   exact bodyPost_ret (v := .tuple #[.agg #[.slice none 0 0, .slice none 0 0, .slice none 0 0, .slice none 0 0], .int .i64 5]) (by simp [results, Tryz.results9, go_sem, k80, k81, k82, k83]) rfl ⟨rfl, Ext.wr E0 hw (by omega)⟩
 ·have NE : ((n1 : Int) != (n0 : Int)) = true := bne_iff_ne.2 (by omega)
  clear e0 hN
  have fo8 : Form Wm (w.heap.size + 1 + 1 + 1) 27 4 := ⟨_, p8, noU4 none 0 0 none 0 0 none 0 0 none 0 0, rfl⟩
  have z80 := p8.frozN 0
  have z81 := p8.frozN 1
  have z82 := p8.frozN 2
  have z83 := p8.frozN 3
  obtain ⟨k4a, k4b, k4c, k4d, k4e, k4f⟩ := p4.c6
  obtain ⟨k6a, k6b⟩ := p6.c2
  obtain ⟨k7a, k7b, k7c, k7d⟩ := p7.c4
  obtain ⟨k8a, k8b, k8c, k8d⟩ := p8.c4
  go_wp2; clear k4a k4b k4c k4d k4e k4f k6a k6b k7a k7b k7c k7d k8a k8b k8c k8d
  obtain ⟨-, -, -, -, -, -, -, -, -, W2, hW2, hw, hq⟩ := fo8.put4 (.slice none 0 0) (.slice none 0 0) (.slice none 0 0) (.slice none 0 0) (noU4 none 0 0 none 0 0 none 0 0 none 0 0)
  rw [← hW2]
  have k80 := hq.cell 0 (v := .slice none 0 0) rfl
  have k81 := hq.cell 1 (v := .slice none 0 0) rfl
  have k82 := hq.cell 2 (v := .slice none 0 0) rfl
  have k83 := hq.cell 3 (v := .slice none 0 0) rfl
  exact bodyPost_ret (v := .tuple #[.agg #[.slice none 0 0, .slice none 0 0, .slice none 0 0, .slice none 0 0], .int .i64 5]) (by simp [results, Tryz.results9, go_sem, k80, k81, k82, k83]) rfl ⟨rfl, Ext.wr E0 hw (by omega)⟩


end Go.Rt

namespace Go.Rt
open Go Go.RowKit Go.Proofs

set_option maxRecDepth 100000 in
set_option maxHeartbeats 16000000 in
theorem Tryz.refStepGo18 (lr b1 b2 eps wd p0 p1 : Int) (ap : Bool) (K : Nat) {n : Nat} {a0 : Option Addr} {c0 : Nat} {a1 : Option Addr} {c1 : Nat} {a2 : Option Addr} {c2 : Nat} {a3 : Option Addr} {c3 : Nat} {lw lm lv lg : List Int} (w : World) (hR : rightA ⟨lr, b1, b2, eps, wd, ap⟩ (K : Int) = true) (h0 : mayB K p0 = true) (h1 : mayB K p1 = true) (h2 : negB lv = false) (hn : n ≤ 40) (q1 : I64 lr) (q2 : I64 eps) (q3 : I64 wd) (hi0 : Iw 0 w.heap.size w a0 n c0 lw) (hi1 : Iw 0 w.heap.size w a1 n c1 lm) (hiv : Iw 0 w.heap.size w a2 n c2 lv) (hi3 : Iw 0 w.heap.size w a3 n c3 lg) :
  Calls Tryz.prog 9 #[.agg #[.int .i64 lr, .int .i64 b1, .int .i64 b2, .int .i64 eps, .int .i64 wd, .bool ap], .int .i64 (K : Int), .agg #[.int .i64 p0, .int .i64 p1], .agg #[.slice a0 n c0, .slice a1 n c1, .slice a2 n c2, .slice a3 n c3]] w fun e w' => Ext w w' ∧ (((∀ i, i < n → (fun i : Nat => placeO K ⟨lr, b1, b2, eps, wd, ap⟩ p0 p1 (atL lw i) (atL lm i) (atL lv i) (atL lg i)) i ≠ none) ∧ ∃ v, e = .returned (.tuple #[v, .int .i64 0]) ∧ RowsC w w' v n (fun i => p1of ((fun i : Nat => placeO K ⟨lr, b1, b2, eps, wd, ap⟩ p0 p1 (atL lw i) (atL lm i) (atL lv i) (atL lg i)) i)) (fun i => p2of ((fun i : Nat => placeO K ⟨lr, b1, b2, eps, wd, ap⟩ p0 p1 (atL lw i) (atL lm i) (atL lv i) (atL lg i)) i)) (fun i => p3of ((fun i : Nat => placeO K ⟨lr, b1, b2, eps, wd, ap⟩ p0 p1 (atL lw i) (atL lm i) (atL lv i) (atL lg i)) i))) ∨
   ((∃ i, i < n ∧ (fun i : Nat => placeO K ⟨lr, b1, b2, eps, wd, ap⟩ p0 p1 (atL lw i) (atL lm i) (atL lv i) (atL lg i)) i = none) ∧ e = .returned (.tuple #[.agg #[.slice none 0 0, .slice none 0 0, .slice none 0 0, .slice none 0 0], .int .i64 2]))) := by
 have HIN : Hid (∀ i, i < n → PlaceIn K ⟨lr, b1, b2, eps, wd, ap⟩ p0 p1 (atL lw i) (atL lm i) (atL lv i) (atL lg i)) := Lib.hid (fun i hi => placeIn hR q1 q2 q3 h0 h1 (hi0.i64 hi) (hi1.i64 hi) (negB_at h2 (by rw [hiv.len]; exact hi)) (hiv.i64 hi) (hi3.i64 hi))
 obtain ⟨pl, hpl⟩ : ∃ pl : Nat → Option (Int × Int × Int), pl = (fun i : Nat => placeO K ⟨lr, b1, b2, eps, wd, ap⟩ p0 p1 (atL lw i) (atL lm i) (atL lv i) (atL lg i)) := ⟨_, rfl⟩
 rw [← hpl]
 have HPL : ∀ i, pl i = placeO K ⟨lr, b1, b2, eps, wd, ap⟩ p0 p1 (atL lw i) (atL lm i) (atL lv i) (atL lg i) := fun i => by rw [hpl]
 have HPLH := Lib.hid HPL
 have HG : Hid (∀ i, I64 (p1of (pl i)) ∧ I64 (p2of (pl i)) ∧ I64 (p3of (pl i))) := Lib.hid (fun i => getD_i64 (fun x y z h => by rw [HPL] at h; exact place_i64 h))
 clear hpl HPL
 have HRR := Lib.hid (rightA_iff.1 hR)
 have HM0 := Lib.hid (mayB_iff.1 h0)
 have HM1 := Lib.hid (mayB_iff.1 h1)
 have HQ := Lib.hid (And.intro q1 (And.intro q2 q3))
 have HNN := Lib.hid hn
 have HMAY := Lib.hid (And.intro h0 h1)
 have HNEG : Hid (∀ i, i < n → 0 ≤ atL lv i) := Lib.hid (fun i hi => negB_at h2 (by rw [hiv.len]; exact hi))
 have HR := Lib.hid hR
 have HK : Hid (K ≤ 40) := Lib.hid (by have := rightA_iff.1 hR; omega)
 have HB : Hid ((!negB lv && (mayB K p0 && mayB K p1)) = true) := Lib.hid (by rw [h0, h1, h2]; rfl)
 clear hR h0 h1 h2 hn q1 q2 q3
 obtain ⟨W0, hW0, E0, p4, p6, p7, p8⟩ := boxed4 w 23 #[.int .i64 lr, .int .i64 b1, .int .i64 b2, .int .i64 eps, .int .i64 wd, .bool ap] 24 #[.int .i64 p0, .int .i64 p1] 27 #[.slice a0 n c0, .slice a1 n c1, .slice a2 n c2, .slice a3 n c3] 27 #[.slice none 0 0, .slice none 0 0, .slice none 0 0, .slice none 0 0]
 replace p6 := p6.b2
 replace hi0 : Iw 0 w.heap.size W0 a0 n c0 (lw) := hi0.ext E0
 replace hi1 : Iw 0 w.heap.size W0 a1 n c1 (lm) := hi1.ext E0
 replace hiv : Iw 0 w.heap.size W0 a2 n c2 (lv) := hiv.ext E0
 replace hi3 : Iw 0 w.heap.size W0 a3 n c3 (lg) := hi3.ext E0
 go_enter Tryz.func9, Tryz.ntmps9
 obtain ⟨k4a, k4b, k4c, k4d, k4e, k4f⟩ := p4.c6
 obtain ⟨k6a, k6b⟩ := p6.c2
 obtain ⟨k7a, k7b, k7c, k7d⟩ := p7.c4
 obtain ⟨k8a, k8b, k8c, k8d⟩ := p8.c4
 go_wp2_with fail
 rw [← hW0]
 clear hW0; clear k4a k4b k4c k4d k4e k4f k6a k6b k7a k7b k7c k7d k8a k8b k8c k8d
 refine (Tryz.refRight18 lr b1 b2 eps wd (K : Int) ap _).mono ?_
 rintro e Wri ⟨rfl, hE⟩
 rw [HR.out]; replace E0 := (Ext.trans E0 hE); replace hi0 := (hi0.ext hE); replace hi1 := (hi1.ext hE); replace hiv := (hiv.ext hE); replace hi3 := (hi3.ext hE); replace p4 := (p4.ext hE); replace p6 := (p6.ext hE); replace p7 := (p7.ext hE); replace p8 := (p8.ext hE); clear hE
 have szr := Ext.size E0
 obtain ⟨k4a, k4b, k4c, k4d, k4e, k4f⟩ := p4.c6
 obtain ⟨k6a, k6b⟩ := p6.c2
 obtain ⟨k7a, k7b, k7c, k7d⟩ := p7.c4
 obtain ⟨k8a, k8b, k8c, k8d⟩ := p8.c4
 go_wp2_with fail
 clear k4a k4b k4c k4d k4e k4f k6a k6b k7a k7b k7c k7d k8a k8b k8c k8d
 refine (Tryz.refMay18 K HK.out p0 p1 _ (hiv.mono (Nat.le_refl _) szr)).mono ?_
 rintro e Wm ⟨rfl, hE⟩
 rw [HB.out]; clear szr; replace E0 := (Ext.trans E0 hE); replace hi0 := (hi0.ext hE); replace hi1 := (hi1.ext hE); replace hiv := (hiv.ext hE); replace hi3 := (hi3.ext hE); replace p4 := (p4.ext hE); replace p6 := (p6.ext hE); replace p7 := (p7.ext hE); replace p8 := (p8.ext hE); clear hE
 obtain ⟨k4a, k4b, k4c, k4d, k4e, k4f⟩ := p4.c6
 obtain ⟨k6a, k6b⟩ := p6.c2
 obtain ⟨k7a, k7b, k7c, k7d⟩ := p7.c4
 obtain ⟨k8a, k8b, k8c, k8d⟩ := p8.c4
 go_upto_region 7 with (fail)
 clear k4a k4b k4c k4d k4e k4f k6a k6b k7a k7b k7c k7d k8a k8b k8c k8d
 have p11 := BxA.new Wm 27 #[.slice none 0 0, .slice none 0 0, .slice none 0 0, .slice none 0 0]
 have hEx := Ext.alloc1 Wm (.cells #[.slice none 0 0, .slice none 0 0, .slice none 0 0, .slice none 0 0] 27)
 obtain ⟨U11, hU⟩ : ∃ U, U = Wm.alloc (.cells #[.slice none 0 0, .slice none 0 0, .slice none 0 0, .slice none 0 0] 27) := ⟨_, rfl⟩
 have hsU : U11.heap.size = Wm.heap.size + 1 := by rw [hU]; simp
 rw [← hU] at p11 hEx ⊢
 clear hU
 have lt0 := Ext.size E0
 have ltp4 := p4.lt; have ltp6 := p6.lt; have ltp7 := p7.lt; have ltp8 := p8.lt
 obtain ⟨g11, hg11⟩ : ∃ g, Wm.heap.size = g := ⟨_, rfl⟩
 rw [hg11] at p11 hsU lt0 ltp4 ltp6 ltp7 ltp8 ⊢
 have HGB := Lib.hid hg11
 skip
 have HLT0 := Lib.hid lt0
 have HLT_p4 := Lib.hid ltp4
 have HLT_p6 := Lib.hid ltp6
 have HLT_p7 := Lib.hid ltp7
 have HLT_p8 := Lib.hid ltp8
 have HSU := Lib.hid hsU
 clear lt0 hsU hg11 ltp4 ltp6 ltp7 ltp8
 have uE0 := (Ext.trans E0 hEx)
 have uhi0 := (hi0.ext hEx)
 have uhi1 := (hi1.ext hEx)
 have uhiv := (hiv.ext hEx)
 have uhi3 := (hi3.ext hEx)
 have up4 := (p4.ext hEx)
 have up6 := (p6.ext hEx)
 have up7 := (p7.ext hEx)
 have up8 := (p8.ext hEx)
 obtain ⟨kup4_0, kup4_1, kup4_2, kup4_3, kup4_4, kup4_5⟩ := up4.c6
 obtain ⟨kup6_0, kup6_1⟩ := up6.c2
 obtain ⟨kup7_0, kup7_1, kup7_2, kup7_3⟩ := up7.c4
 obtain ⟨kup8_0, kup8_1, kup8_2, kup8_3⟩ := up8.c4
 obtain ⟨k11a, k11b, k11c, k11d⟩ := p11.c4
 go_wp2_with fail
 clear kup4_0 kup4_1 kup4_2 kup4_3 kup4_4 kup4_5 kup6_0 kup6_1 kup7_0 kup7_1 kup7_2 kup7_3 kup8_0 kup8_1 kup8_2 kup8_3 k11a k11b k11c k11d; clear uE0 uhi0 uhi1 uhiv uhi3 up4 up6 up7 up8
 go_loopw [12] (fun i wr => ∃ (k : Nat) (y1 y2 y3 : Value), i = .int .i64 (k : Int) ∧ k ≤ n ∧ Hid (∀ j, j < k → pl j ≠ none) ∧ Ext Wm wr ∧ U11.heap.size ≤ wr.heap.size ∧ BxA wr g11 27 #[y1, y2, y3, .slice none 0 0] ∧ Own3 wr (g11 + 1) wr.heap.size 2 y1 y2 y3 (outL k fun i => p1of (pl i)) (outL k fun i => p2of (pl i)) (outL k fun i => p3of (pl i))) (fun i _ => n - (intOf i).toNat)
 case atStart => exact ⟨0, _, _, _, rfl, by omega, Lib.hid (fun j hj => absurd hj (by omega)), hEx, Nat.le_refl _, p11, Own3.nil _ _ _ _⟩
 case round =>
  clear hEx p11
  obtain ⟨k, y1, y2, y3, rfl, hk, HA, hEx, hUs, p11, ow⟩ := hrel
  have HUS := Lib.hid hUs
  clear hUs; replace E0 := (Ext.trans E0 hEx); replace hi0 := (hi0.ext hEx); replace hi1 := (hi1.ext hEx); replace hiv := (hiv.ext hEx); replace hi3 := (hi3.ext hEx); replace p4 := (p4.ext hEx); replace p6 := (p6.ext hEx); replace p7 := (p7.ext hEx); replace p8 := (p8.ext hEx)
  by_cases hlt : k < n
  ·have hltI : (k : Int) < (n : Int) := by omega
   have hk63 : (k : Int) < 9223372036854775807 := by have := HNN.out; omega
   obtain ⟨H, hH⟩ : ∃ H, wr.heap.size = H := ⟨_, rfl⟩
   rw [hH] at ow
   have szH := Nat.le_of_eq hH.symm
   have HHW := Lib.hid hH
   clear hH
   obtain ⟨⟨O1, O2⟩, hO⟩ : ∃ r : NumP, outP K ⟨lr, b1, b2, eps, wd, ap⟩ p0 p1 (atL lw k) (atL lm k) (atL lv k) (atL lg k) = r := ⟨_, rfl⟩
   obtain ⟨⟨M1, M2⟩, hM⟩ : ∃ r : NumP, momM K ⟨lr, b1, b2, eps, wd, ap⟩ (atL lw k) (atL lm k) (atL lg k) = r := ⟨_, rfl⟩
   obtain ⟨⟨V1, V2⟩, hV⟩ : ∃ r : NumP, momV K ⟨lr, b1, b2, eps, wd, ap⟩ (atL lw k) (atL lv k) (atL lg k) = r := ⟨_, rfl⟩
   have HPK : Hid (pl k = if (O2 && M2 && V2) = true then some (O1, M1, V1) else none) := Lib.hid (by rw [HPLH.out, place_told HMAY.out.1 HMAY.out.2 (by have := HRR.out; dsimp only at this ⊢; omega) (by have := HRR.out; dsimp only at this ⊢; omega) (by have := HRR.out; rw [Int.toNat_natCast] at this; dsimp only at this ⊢; omega) (HNEG.out k hlt), hO, hM, hV])
   have HO := Lib.hid hO
   have HM := Lib.hid hM
   have HV := Lib.hid hV
   have HBB : Hid ((0 ≤ b1 ∧ b1 < oneZ K) ∧ (0 ≤ b2 ∧ b2 < oneZ K)) := Lib.hid (by have := HRR.out; rw [Int.toNat_natCast] at this; omega)
   have HV0 := Lib.hid (hi0.i64 hlt)
   have HV1 := Lib.hid (hi1.i64 hlt)
   have HV2 := Lib.hid (hiv.i64 hlt)
   have HV3 := Lib.hid (hi3.i64 hlt)
   clear hO hM hV
   obtain ⟨ba0, oa0, rfl, -, -⟩ := hi0.some (by omega)
   obtain ⟨ba1, oa1, rfl, -, -⟩ := hi1.some (by omega)
   obtain ⟨ba2, oa2, rfl, -, -⟩ := hiv.some (by omega)
   obtain ⟨ba3, oa3, rfl, -, -⟩ := hi3.some (by omega)
   obtain ⟨k4a, k4b, k4c, k4d, k4e, k4f⟩ := p4.c6
   obtain ⟨k6a, k6b⟩ := p6.c2
   obtain ⟨k7a, k7b, k7c, k7d⟩ := p7.c4
   obtain ⟨k8a, k8b, k8c, k8d⟩ := p8.c4
   obtain ⟨k11a, k11b, k11c, k11d⟩ := p11.c4
   go_upto_region 10 with (fail)
   clear k4a k4b k4c k4d k4e k4f k6a k6b k7a k7b k7c k7d k8a k8b k8c k8d k11a k11b k11c k11d
   have HB10_p4 := Lib.hid p4.lt
   have HB10_p6 := Lib.hid p6.lt
   have HB10_p7 := Lib.hid p7.lt
   have HB10_p8 := Lib.hid p8.lt
   have HB10_p11 := Lib.hid p11.lt
   have sHGB := HGB.out
   have sHLT0 := HLT0.out
   have sHSU := HSU.out
   have sHLT_p4 := HLT_p4.out
   have sHLT_p6 := HLT_p6.out
   have sHLT_p7 := HLT_p7.out
   have sHLT_p8 := HLT_p8.out
   have sHHW := HHW.out
   have sHUS := HUS.out
   have sHB10_p4 := HB10_p4.out
   have sHB10_p6 := HB10_p6.out
   have sHB10_p7 := HB10_p7.out
   have sHB10_p8 := HB10_p8.out
   have sHB10_p11 := HB10_p11.out
   have ltp4 := p4.lt; have ltp6 := p6.lt; have ltp7 := p7.lt; have ltp8 := p8.lt; have ltp11 := p11.lt
   have ltszH := szH
   have szw1 := Ext.size E0
   refine region_gs [isV (.agg #[.int .i64 lr, .int .i64 b1, .int .i64 b2, .int .i64 eps, .int .i64 wd, .bool ap]), isV (.int .i64 (K : Int)), isV (.agg #[.int .i64 p0, .int .i64 p1]), isV (.pointer (some ⟨w.heap.size + 1 + 1, 0, none⟩)), isV (.slice (some ⟨ba0, oa0, none⟩) n c0), isV (.int .i64 (k : Int)), isV (.pointer (some ⟨ba0, oa0 + k, none⟩)), isV (.int .i64 (atL lw k)), isV (.pointer (some ⟨w.heap.size + 1 + 1, 1, none⟩)), isV (.slice (some ⟨ba1, oa1, none⟩) n c1), isV (.int .i64 (k : Int)), isV (.pointer (some ⟨ba1, oa1 + k, none⟩)), isV (.int .i64 (atL lm k)), isV (.pointer (some ⟨w.heap.size + 1 + 1, 2, none⟩)), isV (.slice (some ⟨ba2, oa2, none⟩) n c2), isV (.int .i64 (k : Int)), isV (.pointer (some ⟨ba2, oa2 + k, none⟩)), isV (.int .i64 (atL lv k)), isV (.pointer (some ⟨w.heap.size + 1 + 1, 3, none⟩)), isV (.slice (some ⟨ba3, oa3, none⟩) n c3), isV (.int .i64 (k : Int)), isV (.pointer (some ⟨ba3, oa3 + k, none⟩)), isV (.int .i64 (atL lg k)), isV (.agg #[.int .i64 (atL lw k), .int .i64 (atL lm k), .int .i64 (atL lv k), .int .i64 (atL lg k)]), isV (.agg #[.int .i64 O1, .bool O2, .int .i64 M1, .bool M2, .int .i64 V1, .bool V2]),
     .one fun v W => ∃ g, v = .pointer (some ⟨g, 0, none⟩) ∧ wr.heap.size ≤ g ∧ Form W g 74 6,
     .two 25 (fun p _ W => NewA wr.heap.size 74 #[.int .i64 O1, .bool O2, .int .i64 M1, .bool M2, .int .i64 V1, .bool V2] p W)]
    (fun W => Ext w W ∧ Iw 0 w.heap.size W (some ⟨ba0, oa0, none⟩) n c0 (lw) ∧ Iw 0 w.heap.size W (some ⟨ba1, oa1, none⟩) n c1 (lm) ∧ Iw 0 w.heap.size W (some ⟨ba2, oa2, none⟩) n c2 (lv) ∧ Iw 0 w.heap.size W (some ⟨ba3, oa3, none⟩) n c3 (lg) ∧ BxA W w.heap.size 23 #[.int .i64 lr, .int .i64 b1, .int .i64 b2, .int .i64 eps, .int .i64 wd, .bool ap] ∧ Bx2 W (w.heap.size + 1) 24 (.int .i64 p0) (.int .i64 p1) ∧ BxA W (w.heap.size + 1 + 1) 27 #[.slice (some ⟨ba0, oa0, none⟩) n c0, .slice (some ⟨ba1, oa1, none⟩) n c1, .slice (some ⟨ba2, oa2, none⟩) n c2, .slice (some ⟨ba3, oa3, none⟩) n c3] ∧ BxA W (w.heap.size + 1 + 1 + 1) 27 #[.slice none 0 0, .slice none 0 0, .slice none 0 0, .slice none 0 0] ∧ Ext Wm W ∧ BxA W g11 27 #[y1, y2, y3, .slice none 0 0] ∧ H ≤ W.heap.size ∧ Own3 W (g11 + 1) H 2 y1 y2 y3 (outL k fun i => p1of (pl i)) (outL k fun i => p2of (pl i)) (outL k fun i => p3of (pl i)) ∧ wr.heap.size ≤ W.heap.size) ⟨Good.is _, Good.is _, Good.is _, Good.is _, Good.is _, Good.is _, Good.is _, Good.is _, Good.is _, Good.is _, Good.is _, Good.is _, Good.is _, Good.is _, Good.is _, Good.is _, Good.is _, Good.is _, Good.is _, Good.is _, Good.is _, Good.is _, Good.is _, Good.is _, Good.is _, Good.box _ _ _, cert_newA, trivial⟩
    ⟨E0, hi0, hi1, hiv, hi3, p4, p6, p7, p8, hEx, p11, szH, ow, Nat.le_refl _⟩ (A := ?A1) ?hA1 ?howe1 ?hfin1
   case hA1 =>
    intro vs
    simp only [putAll, Act.put, sA, sZ, sS, Nat.zero_add, Nat.reduceAdd]
    exact rfl
   case howe1 =>
    clear E0 hi0 hi1 hiv hi3 p4 p6 p7 p8 hEx p11 szH ow
    intro hf
    refine ⟨oE 0 [] hf rfl ?_, oP0 1 [] hf rfl, oE 2 [] hf rfl ?_, oP0 3 [] hf rfl, oE 4 [3] hf rfl ?_, oP0 5 [] hf rfl, oP2 6 [4, 5] hf rfl, oE 7 [6] hf rfl ?_, oP0 8 [] hf rfl, oE 9 [8] hf rfl ?_, oP0 10 [] hf rfl, oP2 11 [9, 10] hf rfl, oE 12 [11] hf rfl ?_, oP0 13 [] hf rfl, oE 14 [13] hf rfl ?_, oP0 15 [] hf rfl, oP2 16 [14, 15] hf rfl, oE 17 [16] hf rfl ?_, oP0 18 [] hf rfl, oE 19 [18] hf rfl ?_, oP0 20 [] hf rfl, oP2 21 [19, 20] hf rfl, oE 22 [21] hf rfl ?_, oP4 23 [7, 12, 17, 22] hf rfl, oE 24 [0, 1, 2, 23] hf rfl ?_, oE 25 [] hf rfl ?_, oW 26 [25, 24] hf rfl ?_, trivial⟩
    all_goals intro vs W hS hp hx KO hKO
    all_goals simp only [Act.put, sA, sZ, sS] at hKO
    ·have fc0 := BxA.cell (hS.2.2.2.2.2.1) 0 (v := .int .i64 lr) rfl; have fc1 := BxA.cell (hS.2.2.2.2.2.1) 1 (v := .int .i64 b1) rfl; have fc2 := BxA.cell (hS.2.2.2.2.2.1) 2 (v := .int .i64 b2) rfl; have fc3 := BxA.cell (hS.2.2.2.2.2.1) 3 (v := .int .i64 eps) rfl; have fc4 := BxA.cell (hS.2.2.2.2.2.1) 4 (v := .int .i64 wd) rfl; have fc5 := BxA.cell (hS.2.2.2.2.2.1) 5 (v := .bool ap) rfl; go_simp; exact hKO _ W (.refl W) rfl
    ·have fc0 := hS.2.2.2.2.2.2.1.cell0; have fc1 := hS.2.2.2.2.2.2.1.cell1; go_simp; exact hKO _ W (.refl W) rfl
    ·have e3 := isOf hp.1; simp only [e3] at hKO; have fc0 := BxA.cell (hS.2.2.2.2.2.2.2.1) 0 (v := .slice (some ⟨ba0, oa0, none⟩) n c0) rfl; go_simp; exact hKO _ W (.refl W) rfl
    ·have e6 := isOf hp.1; simp only [e6] at hKO
     have fc := Iw.cell (hS.2.1) (i := k) (by omega)
     go_simp; exact hKO _ W (.refl W) rfl
    ·have e8 := isOf hp.1; simp only [e8] at hKO; have fc1 := BxA.cell (hS.2.2.2.2.2.2.2.1) 1 (v := .slice (some ⟨ba1, oa1, none⟩) n c1) rfl; go_simp; exact hKO _ W (.refl W) rfl
    ·have e11 := isOf hp.1; simp only [e11] at hKO
     have fc := Iw.cell (hS.2.2.1) (i := k) (by omega)
     go_simp; exact hKO _ W (.refl W) rfl
    ·have e13 := isOf hp.1; simp only [e13] at hKO; have fc2 := BxA.cell (hS.2.2.2.2.2.2.2.1) 2 (v := .slice (some ⟨ba2, oa2, none⟩) n c2) rfl; go_simp; exact hKO _ W (.refl W) rfl
    ·have e16 := isOf hp.1; simp only [e16] at hKO
     have fc := Iw.cell (hS.2.2.2.1) (i := k) (by omega)
     go_simp; exact hKO _ W (.refl W) rfl
    ·have e18 := isOf hp.1; simp only [e18] at hKO; have fc3 := BxA.cell (hS.2.2.2.2.2.2.2.1) 3 (v := .slice (some ⟨ba3, oa3, none⟩) n c3) rfl; go_simp; exact hKO _ W (.refl W) rfl
    ·have e21 := isOf hp.1; simp only [e21] at hKO
     have fc := Iw.cell (hS.2.2.2.2.1) (i := k) (by omega)
     go_simp; exact hKO _ W (.refl W) rfl
    ·have e0 := isOf hp.1; have e1 := isOf hp.2.1; have e2 := isOf hp.2.2.1; have e23 := isOf hp.2.2.2.1; simp only [e0, e1, e2, e23] at hKO; go_simp
     refine (Tryz.refStepAt18 lr b1 b2 eps wd p0 p1 (atL lm k) (atL lv k) (atL lg k) (atL lw k) ap K HK.out (O := (O1, O2)) (M := (M1, M2)) (V := (V1, V2)) _ HO.out HM.out HV.out HBB.out.1 HBB.out.2 HM0.out HM1.out HQ.out.1 HQ.out.2.1 HQ.out.2.2 HV1.out HV2.out HV3.out HV0.out).mono ?_
     rintro e W1 ⟨rfl, hE⟩
     exact hKO _ W1 hE rfl
    ·have hn := BxA.new W 74 #[.int .i64 0, .bool false, .int .i64 0, .bool false, .int .i64 0, .bool false]
     have hE := Ext.alloc1 W (.cells #[.int .i64 0, .bool false, .int .i64 0, .bool false, .int .i64 0, .bool false] 74)
     have hsz := hS.2.2.2.2.2.2.2.2.2.2.2.2.2
     go_simp
     exact hKO _ _ hE ⟨_, rfl, hsz, ⟨_, hn, (noU_num3 _ _ _ _ _ _), rfl⟩⟩
    ·have q25 := hp.1; have e24 := isOf hp.2.1; simp only [e24] at hKO
     obtain ⟨g, ev, hg, hfo⟩ := q25
     replace ev : vs 25 = _ := ev
     obtain ⟨x0, x1, x2, x3, x4, x5, c0, c1, c2, c3, c4, c5, hfz, W2, hW2, hw, hq⟩ := hfo.put6 (.int .i64 O1) (.bool O2) (.int .i64 M1) (.bool M2) (.int .i64 V1) (.bool V2) (noU_num3 _ _ _ _ _ _)
     have z0 := hfz 0
     have z1 := hfz 1
     have z2 := hfz 2
     have z3 := hfz 3
     have z4 := hfz 4
     have z5 := hfz 5
     simp only [ev] at hKO; go_simp
     rw [← hW2]
     exact hKO _ _ hw ⟨(Ext.wr hS.1 hw (by omega)), (hS.2.1.wr hw (by omega)), (hS.2.2.1.wr hw (by omega)), (hS.2.2.2.1.wr hw (by omega)), (hS.2.2.2.2.1.wr hw (by omega)), (hS.2.2.2.2.2.1.wr hw (by omega)), (hS.2.2.2.2.2.2.1.wr hw (by omega)), (hS.2.2.2.2.2.2.2.1.wr hw (by omega)), (hS.2.2.2.2.2.2.2.2.1.wr hw (by omega)), (Ext.wr hS.2.2.2.2.2.2.2.2.2.1 hw (by omega)), (hS.2.2.2.2.2.2.2.2.2.2.1.wr hw (by omega)), (Nat.le_trans hS.2.2.2.2.2.2.2.2.2.2.2.1 hw.apart.size), (hS.2.2.2.2.2.2.2.2.2.2.2.2.1.wr hw (by omega)), (Nat.le_trans hS.2.2.2.2.2.2.2.2.2.2.2.2.2 hw.apart.size)⟩ ⟨g, ev, hg, hq⟩
   intro vs W1 hS hp
   clear ltszH szw1 E0 hi0 hi1 hiv hi3 p4 p6 p7 p8 hEx p11 szH ow
   obtain ⟨E0, hi0, hi1, hiv, hi3, p4, p6, p7, p8, hEx, p11, szH, ow, sz1⟩ := hS
   obtain ⟨h1_0, h1_1, h1_2, h1_3, h1_4, h1_5, h1_6, h1_7, h1_8, h1_9, h1_10, h1_11, h1_12, h1_13, h1_14, h1_15, h1_16, h1_17, h1_18, h1_19, h1_20, h1_21, h1_22, h1_23, h1_24, h1_25, h1_26, -⟩ := hp
   skip
   have hh := h1_26
   obtain ⟨g13, ev13, hg13, p13⟩ := hh
   replace ev13 : vs 25 = _ := ev13
   simp only [ev13, isOf h1_0, isOf h1_1, isOf h1_2, isOf h1_3, isOf h1_4, isOf h1_5, isOf h1_6, isOf h1_7, isOf h1_8, isOf h1_9, isOf h1_10, isOf h1_11, isOf h1_12, isOf h1_13, isOf h1_14, isOf h1_15, isOf h1_16, isOf h1_17, isOf h1_18, isOf h1_19, isOf h1_20, isOf h1_21, isOf h1_22, isOf h1_23, isOf h1_24]
   clear ev13 h1_0 h1_1 h1_2 h1_3 h1_4 h1_5 h1_6 h1_7 h1_8 h1_9 h1_10 h1_11 h1_12 h1_13 h1_14 h1_15 h1_16 h1_17 h1_18 h1_19 h1_20 h1_21 h1_22 h1_23 h1_24 h1_25 h1_26; clear sHGB sHLT0 sHSU sHLT_p4 sHLT_p6 sHLT_p7 sHLT_p8 sHHW sHUS sHB10_p4 sHB10_p6 sHB10_p7 sHB10_p8 sHB10_p11
   have HG13 := Lib.hid hg13
   clear hg13
   obtain ⟨k4a, k4b, k4c, k4d, k4e, k4f⟩ := p4.c6
   obtain ⟨k6a, k6b⟩ := p6.c2
   obtain ⟨k7a, k7b, k7c, k7d⟩ := p7.c4
   obtain ⟨k8a, k8b, k8c, k8d⟩ := p8.c4
   obtain ⟨k11a, k11b, k11c, k11d⟩ := p11.c4
   obtain ⟨k13a, k13b, k13c, k13d, k13e, k13f⟩ := p13.c6
   cases O2
   ·have HNO : Hid (∃ i, i < n ∧ pl i = none) := Lib.hid ⟨k, hlt, by rw [HPK.out]; simp⟩
    have fo8 : Form W1 (w.heap.size + 1 + 1 + 1) 27 4 := ⟨_, p8, noU4 none 0 0 none 0 0 none 0 0 none 0 0, rfl⟩
    have z80 := p8.frozN 0
    have z81 := p8.frozN 1
    have z82 := p8.frozN 2
    have z83 := p8.frozN 3
    obtain ⟨k4a, k4b, k4c, k4d, k4e, k4f⟩ := p4.c6
    obtain ⟨k6a, k6b⟩ := p6.c2
    obtain ⟨k7a, k7b, k7c, k7d⟩ := p7.c4
    obtain ⟨k8a, k8b, k8c, k8d⟩ := p8.c4
    obtain ⟨k11a, k11b, k11c, k11d⟩ := p11.c4
    obtain ⟨k13a, k13b, k13c, k13d, k13e, k13f⟩ := p13.c6
    go_wp2; clear k4a k4b k4c k4d k4e k4f k6a k6b k7a k7b k7c k7d k8a k8b k8c k8d k11a k11b k11c k11d k13a k13b k13c k13d k13e k13f
    obtain ⟨-, -, -, -, -, -, -, -, -, W2, hW2, hw, hq⟩ := fo8.put4 (.slice none 0 0) (.slice none 0 0) (.slice none 0 0) (.slice none 0 0) (noU4 none 0 0 none 0 0 none 0 0 none 0 0)
    rw [← hW2]
    have k80 := hq.cell 0 (v := .slice none 0 0) rfl
    have k81 := hq.cell 1 (v := .slice none 0 0) rfl
    have k82 := hq.cell 2 (v := .slice none 0 0) rfl
    have k83 := hq.cell 3 (v := .slice none 0 0) rfl
    exact bodyPost_ret (v := .tuple #[.agg #[.slice none 0 0, .slice none 0 0, .slice none 0 0, .slice none 0 0], .int .i64 2]) (by simp [results, Tryz.results9, go_sem, k80, k81, k82, k83]) rfl ⟨Ext.wr E0 hw (by omega), .inr ⟨HNO.out, rfl⟩⟩
   ·cases M2
    ·have HNO : Hid (∃ i, i < n ∧ pl i = none) := Lib.hid ⟨k, hlt, by rw [HPK.out]; simp⟩
     have fo8 : Form W1 (w.heap.size + 1 + 1 + 1) 27 4 := ⟨_, p8, noU4 none 0 0 none 0 0 none 0 0 none 0 0, rfl⟩
     have z80 := p8.frozN 0
     have z81 := p8.frozN 1
     have z82 := p8.frozN 2
     have z83 := p8.frozN 3
     obtain ⟨k4a, k4b, k4c, k4d, k4e, k4f⟩ := p4.c6
     obtain ⟨k6a, k6b⟩ := p6.c2
     obtain ⟨k7a, k7b, k7c, k7d⟩ := p7.c4
     obtain ⟨k8a, k8b, k8c, k8d⟩ := p8.c4
     obtain ⟨k11a, k11b, k11c, k11d⟩ := p11.c4
     obtain ⟨k13a, k13b, k13c, k13d, k13e, k13f⟩ := p13.c6
     go_wp2; clear k4a k4b k4c k4d k4e k4f k6a k6b k7a k7b k7c k7d k8a k8b k8c k8d k11a k11b k11c k11d k13a k13b k13c k13d k13e k13f
     obtain ⟨-, -, -, -, -, -, -, -, -, W2, hW2, hw, hq⟩ := fo8.put4 (.slice none 0 0) (.slice none 0 0) (.slice none 0 0) (.slice none 0 0) (noU4 none 0 0 none 0 0 none 0 0 none 0 0)
     rw [← hW2]
     have k80 := hq.cell 0 (v := .slice none 0 0) rfl
     have k81 := hq.cell 1 (v := .slice none 0 0) rfl
     have k82 := hq.cell 2 (v := .slice none 0 0) rfl
     have k83 := hq.cell 3 (v := .slice none 0 0) rfl
     exact bodyPost_ret (v := .tuple #[.agg #[.slice none 0 0, .slice none 0 0, .slice none 0 0, .slice none 0 0], .int .i64 2]) (by simp [results, Tryz.results9, go_sem, k80, k81, k82, k83]) rfl ⟨Ext.wr E0 hw (by omega), .inr ⟨HNO.out, rfl⟩⟩
    ·cases V2
     ·have HNO : Hid (∃ i, i < n ∧ pl i = none) := Lib.hid ⟨k, hlt, by rw [HPK.out]; simp⟩
      have fo8 : Form W1 (w.heap.size + 1 + 1 + 1) 27 4 := ⟨_, p8, noU4 none 0 0 none 0 0 none 0 0 none 0 0, rfl⟩
      have z80 := p8.frozN 0
      have z81 := p8.frozN 1
      have z82 := p8.frozN 2
      have z83 := p8.frozN 3
      obtain ⟨k4a, k4b, k4c, k4d, k4e, k4f⟩ := p4.c6
      obtain ⟨k6a, k6b⟩ := p6.c2
      obtain ⟨k7a, k7b, k7c, k7d⟩ := p7.c4
      obtain ⟨k8a, k8b, k8c, k8d⟩ := p8.c4
      obtain ⟨k11a, k11b, k11c, k11d⟩ := p11.c4
      obtain ⟨k13a, k13b, k13c, k13d, k13e, k13f⟩ := p13.c6
      go_wp2; clear k4a k4b k4c k4d k4e k4f k6a k6b k7a k7b k7c k7d k8a k8b k8c k8d k11a k11b k11c k11d k13a k13b k13c k13d k13e k13f
      obtain ⟨-, -, -, -, -, -, -, -, -, W2, hW2, hw, hq⟩ := fo8.put4 (.slice none 0 0) (.slice none 0 0) (.slice none 0 0) (.slice none 0 0) (noU4 none 0 0 none 0 0 none 0 0 none 0 0)
      rw [← hW2]
      have k80 := hq.cell 0 (v := .slice none 0 0) rfl
      have k81 := hq.cell 1 (v := .slice none 0 0) rfl
      have k82 := hq.cell 2 (v := .slice none 0 0) rfl
      have k83 := hq.cell 3 (v := .slice none 0 0) rfl
      exact bodyPost_ret (v := .tuple #[.agg #[.slice none 0 0, .slice none 0 0, .slice none 0 0, .slice none 0 0], .int .i64 2]) (by simp [results, Tryz.results9, go_sem, k80, k81, k82, k83]) rfl ⟨Ext.wr E0 hw (by omega), .inr ⟨HNO.out, rfl⟩⟩
     ·have HP : Hid (pl k = some (O1, M1, V1)) := Lib.hid (by rw [HPK.out]; rfl)
      have sHGB := HGB.out
      have sHLT0 := HLT0.out
      have sHSU := HSU.out
      have sHLT_p4 := HLT_p4.out
      have sHLT_p6 := HLT_p6.out
      have sHLT_p7 := HLT_p7.out
      have sHLT_p8 := HLT_p8.out
      have sHHW := HHW.out
      have sHUS := HUS.out
      have sHB10_p4 := HB10_p4.out
      have sHB10_p6 := HB10_p6.out
      have sHB10_p7 := HB10_p7.out
      have sHB10_p8 := HB10_p8.out
      have sHB10_p11 := HB10_p11.out
      have sHG13 := HG13.out
      have sz13 : H ≤ g13 := by omega
      have lt11 := p11.lt
      have HB2 := Lib.hid ow.h2
      have HB3 := Lib.hid ow.h3
      have HL13 := Lib.hid (And.intro sz13 (And.intro sHGB (by omega : g11 < H)))
      clear sHGB sHLT0 sHSU sHLT_p4 sHLT_p6 sHLT_p7 sHLT_p8 sHHW sHUS sHB10_p4 sHB10_p6 sHB10_p7 sHB10_p8 sHB10_p11 sHG13; clear sz13 lt11
      have HL := Lib.hid (show (outL k fun i => p1of (pl i)).length ≤ 1099511627776 ∧ g11 + 1 ≤ W1.heap.size ∧ H ≤ W1.heap.size by have := p11.lt; have := HNN.out; exact ⟨by rw [outL_len]; omega, by omega, szH⟩)
      obtain ⟨k4a, k4b, k4c, k4d, k4e, k4f⟩ := p4.c6
      obtain ⟨k6a, k6b⟩ := p6.c2
      obtain ⟨k7a, k7b, k7c, k7d⟩ := p7.c4
      obtain ⟨k8a, k8b, k8c, k8d⟩ := p8.c4
      obtain ⟨k11a, k11b, k11c, k11d⟩ := p11.c4
      obtain ⟨k13a, k13b, k13c, k13d, k13e, k13f⟩ := p13.c6
      go_upto_region 14 with (at_builtin; go_loud (refine append_i Tryz.underlying25 Tryz.infoI rfl _ _ rfl (g11 + 1) y1 (outL k fun i => p1of (pl i)) O1 (by rfl) (by rfl) ow.o1 HL.out.1 HL.out.2.1 ?_); intro g cap w2 ho hg hat hl2; have q11 := p11.grown hg (fun q e => by have := ow.h1 q e; omega); have HX := Lib.hid (And.intro ho (And.intro hg (And.intro hat (And.intro hl2 q11)))); have zq := q11.frozN 0; have kq := q11.cell 0 (v := y1) rfl; clear ho hg hat hl2 q11); clear k4a k4b k4c k4d k4e k4f k6a k6b k7a k7b k7c k7d k8a k8b k8c k8d k11a k11b k11c k11d k13a k13b k13c k13d k13e k13f; clear zq kq
      obtain ⟨ho, hg, hat, hl2, q11⟩ := HX.out
      clear HX
      obtain ⟨T1, hT⟩ : ∃ T, T = w2.setCell ⟨g11, 0, none⟩ (.slice (some ⟨g, 0, none⟩) ((outL k fun i => p1of (pl i)).length + 1) cap) := ⟨_, rfl⟩
      rw [← hT]
      have hw : Wr g11 w2 T1 := by rw [hT]; exact Wr.putN q11 (noU_own ow.o1 ow.o2 ow.o3) 0 _ (noU_own ho ow.o2 ow.o3)
      have hEx2 : Ext Wm T1 := by rw [hT]; exact ((hEx.trans (Ext.alloc1 W1 (.cells #[.int .i64 O1] 2))).grown hg (fun q e => by have := ow.h1 q e; have := HL13.out.2.1; omega)).setCell (by have := HL13.out.2.1; simp; omega) _
      have p112 : BxA T1 g11 27 #[.slice (some ⟨g, 0, none⟩) ((outL k fun i => p1of (pl i)).length + 1) cap, y2, y3, .slice none 0 0] := by rw [hT]; exact q11.putN 0 _
      have p132 := (BxA.grown p13 hg (fun q e => by have := ow.h1 q e; have := HL13.out.1; omega)).wr hw (by have := HL13.out; omega)
      have ow2 := (Own3.push ow HL.out.2.2 HL.out.2.1 ho hg hat hl2)
      have szU : U11.heap.size ≤ T1.heap.size := by have h1 := hg.size; have h2 := hw.apart.size; have h3 := HL.out.2.1; have h4 := HSU.out; simp at h1; omega
      obtain ⟨H2, hH2⟩ : ∃ H, w2.heap.size = H := ⟨_, rfl⟩
      rw [hH2] at ow2
      replace ow2 := ow2.wr hw (.inl (by omega))
      have szH2 : H2 ≤ T1.heap.size := by rw [← hH2]; exact hw.apart.size
      clear hT hw hEx p11 p13 ow q11 ho hg hat hl2 HL szH hH2 szU
      have hEx := hEx2
      have p11 := p112
      have p13 := p132
      have ow := ow2
      have szH := szH2
      clear hEx2 p112 p132 ow2 szH2
      generalize hy1 : Value.slice (some ⟨g, 0, none⟩) ((outL k fun i => p1of (pl i)).length + 1) cap = z1 at p11 ow ⊢
      clear hy1; clear E0 hi0 hi1 hiv hi3 p4 p6 p7 p8
      have HL := Lib.hid (show (outL k fun i => p2of (pl i)).length ≤ 1099511627776 ∧ g11 + 1 ≤ T1.heap.size ∧ H2 ≤ T1.heap.size by have := p11.lt; have := HNN.out; exact ⟨by rw [outL_len]; omega, by omega, szH⟩)
      obtain ⟨k11a, k11b, k11c, k11d⟩ := p11.c4
      obtain ⟨k13a, k13b, k13c, k13d, k13e, k13f⟩ := p13.c6
      go_upto_region 15 with (at_builtin; go_loud (refine append_i Tryz.underlying25 Tryz.infoI rfl _ _ rfl (g11 + 1) y2 (outL k fun i => p2of (pl i)) M1 (by rfl) (by rfl) ow.o2 HL.out.1 HL.out.2.1 ?_); intro g cap w2 ho hg hat hl2; have q11 := p11.grown hg (fun q e => by have := HB2.out q e; omega); have HX := Lib.hid (And.intro ho (And.intro hg (And.intro hat (And.intro hl2 q11)))); have zq := q11.frozN 1; have kq := q11.cell 1 (v := y2) rfl; clear ho hg hat hl2 q11); clear k11a k11b k11c k11d k13a k13b k13c k13d k13e k13f; clear zq kq
      obtain ⟨ho, hg, hat, hl2, q11⟩ := HX.out
      clear HX
      obtain ⟨T2, hT⟩ : ∃ T, T = w2.setCell ⟨g11, 1, none⟩ (.slice (some ⟨g, 0, none⟩) ((outL k fun i => p2of (pl i)).length + 1) cap) := ⟨_, rfl⟩
      rw [← hT]
      have hw : Wr g11 w2 T2 := by rw [hT]; exact Wr.putN q11 (noU_own ow.o1 ow.o2 ow.o3) 1 _ (noU_own ow.o1 ho ow.o3)
      have hEx2 : Ext Wm T2 := by rw [hT]; exact ((hEx.trans (Ext.alloc1 T1 (.cells #[.int .i64 M1] 2))).grown hg (fun q e => by have := ow.h2 q e; have := HL13.out.2.1; omega)).setCell (by have := HL13.out.2.1; simp; omega) _
      have p112 : BxA T2 g11 27 #[z1, .slice (some ⟨g, 0, none⟩) ((outL k fun i => p2of (pl i)).length + 1) cap, y3, .slice none 0 0] := by rw [hT]; exact q11.putN 1 _
      have p132 := (BxA.grown p13 hg (fun q e => by have := HB2.out q e; have := HL13.out.1; omega)).wr hw (by have := HL13.out; omega)
      have ow2 := (Own3.push ow.rot HL.out.2.2 HL.out.2.1 ho hg hat hl2).rot.rot
      have szU : U11.heap.size ≤ T2.heap.size := by have h1 := hg.size; have h2 := hw.apart.size; have h3 := HL.out.2.1; have h4 := HSU.out; simp at h1; omega
      obtain ⟨H3, hH3⟩ : ∃ H, w2.heap.size = H := ⟨_, rfl⟩
      rw [hH3] at ow2
      replace ow2 := ow2.wr hw (.inl (by omega))
      have szH2 : H3 ≤ T2.heap.size := by rw [← hH3]; exact hw.apart.size
      clear hT hw hEx p11 p13 ow q11 ho hg hat hl2 HL szH hH3 szU
      have hEx := hEx2
      have p11 := p112
      have p13 := p132
      have ow := ow2
      have szH := szH2
      clear hEx2 p112 p132 ow2 szH2
      generalize hy2 : Value.slice (some ⟨g, 0, none⟩) ((outL k fun i => p2of (pl i)).length + 1) cap = z2 at p11 ow ⊢
      clear hy2
      have HL := Lib.hid (show (outL k fun i => p3of (pl i)).length ≤ 1099511627776 ∧ g11 + 1 ≤ T2.heap.size ∧ H3 ≤ T2.heap.size by have := p11.lt; have := HNN.out; exact ⟨by rw [outL_len]; omega, by omega, szH⟩)
      obtain ⟨k11a, k11b, k11c, k11d⟩ := p11.c4
      obtain ⟨k13a, k13b, k13c, k13d, k13e, k13f⟩ := p13.c6
      go_upto_region 9 with (at_builtin; go_loud (refine append_i Tryz.underlying25 Tryz.infoI rfl _ _ rfl (g11 + 1) y3 (outL k fun i => p3of (pl i)) V1 (by rfl) (by rfl) ow.o3 HL.out.1 HL.out.2.1 ?_); intro g cap w2 ho hg hat hl2; have q11 := p11.grown hg (fun q e => by have := HB3.out q e; omega); have HX := Lib.hid (And.intro ho (And.intro hg (And.intro hat (And.intro hl2 q11)))); have zq := q11.frozN 2; have kq := q11.cell 2 (v := y3) rfl; clear ho hg hat hl2 q11); clear k11a k11b k11c k11d k13a k13b k13c k13d k13e k13f; clear zq kq
      obtain ⟨ho, hg, hat, hl2, q11⟩ := HX.out
      clear HX
      obtain ⟨T3, hT⟩ : ∃ T, T = w2.setCell ⟨g11, 2, none⟩ (.slice (some ⟨g, 0, none⟩) ((outL k fun i => p3of (pl i)).length + 1) cap) := ⟨_, rfl⟩
      rw [← hT]
      have hw : Wr g11 w2 T3 := by rw [hT]; exact Wr.putN q11 (noU_own ow.o1 ow.o2 ow.o3) 2 _ (noU_own ow.o1 ow.o2 ho)
      have hEx2 : Ext Wm T3 := by rw [hT]; exact ((hEx.trans (Ext.alloc1 T2 (.cells #[.int .i64 V1] 2))).grown hg (fun q e => by have := ow.h3 q e; have := HL13.out.2.1; omega)).setCell (by have := HL13.out.2.1; simp; omega) _
      have p112 : BxA T3 g11 27 #[z1, z2, .slice (some ⟨g, 0, none⟩) ((outL k fun i => p3of (pl i)).length + 1) cap, .slice none 0 0] := by rw [hT]; exact q11.putN 2 _
      have p132 := (BxA.grown p13 hg (fun q e => by have := HB3.out q e; have := HL13.out.1; omega)).wr hw (by have := HL13.out; omega)
      have ow2 := (Own3.push ow.rot.rot HL.out.2.2 HL.out.2.1 ho hg hat hl2).rot
      have szU : U11.heap.size ≤ T3.heap.size := by have h1 := hg.size; have h2 := hw.apart.size; have h3 := HL.out.2.1; have h4 := HSU.out; simp at h1; omega
      obtain ⟨H4, hH4⟩ : ∃ H, w2.heap.size = H := ⟨_, rfl⟩
      rw [hH4] at ow2
      replace ow2 := ow2.wr hw (.inl (by omega))
      have szH2 : H4 ≤ T3.heap.size := by rw [← hH4]; exact hw.apart.size
      clear hT hw hEx p11 p13 ow q11 ho hg hat hl2 HL szH hH4
      have hEx := hEx2
      have p11 := p112
      have p13 := p132
      have ow := ow2
      have szH := szH2
      clear hEx2 p112 p132 ow2 szH2
      generalize hy3 : Value.slice (some ⟨g, 0, none⟩) ((outL k fun i => p3of (pl i)).length + 1) cap = z3 at p11 ow ⊢
      clear hy3
      have e1 : outL (k + 1) (fun i => p1of (pl i)) = (outL k fun i => p1of (pl i)) ++ [O1] := by rw [outL_snoc, HP.out]; rfl
      have e2 : outL (k + 1) (fun i => p2of (pl i)) = (outL k fun i => p2of (pl i)) ++ [M1] := by rw [outL_snoc, HP.out]; rfl
      have e3 : outL (k + 1) (fun i => p3of (pl i)) = (outL k fun i => p3of (pl i)) ++ [V1] := by rw [outL_snoc, HP.out]; rfl
      rw [← e1, ← e2, ← e3] at ow
      clear e1 e2 e3
      have owF : Own3 T3 (g11 + 1) T3.heap.size 2 z1 z2 z3 (outL (k + 1) fun i => p1of (pl i)) (outL (k + 1) fun i => p2of (pl i)) (outL (k + 1) fun i => p3of (pl i)) := ⟨ow.o1, ow.o2, ow.o3, fun q e => by have := ow.h1 q e; omega, fun q e => by have := ow.h2 q e; omega, fun q e => by have := ow.h3 q e; omega, ow.d12, ow.d13, ow.d23⟩
      clear ow p13; go_wp2
      go_roundw
      case rel => exact ⟨k + 1, z1, z2, z3, by go_num, by omega, Lib.hid (grow_some HA.out HP.out), hEx, szU, p11, owF⟩
      case measure => simp [intOf]; omega
  ·have hge : ¬ (k : Int) < (n : Int) := by omega
   obtain rfl : k = n := by omega
   have hall := HA.out
   have HALL := Lib.hid hall
   clear hall
   have l11 := p11.lt
   have sHGB := HGB.out
   have sHLT0 := HLT0.out
   have sHSU := HSU.out
   have sHLT_p4 := HLT_p4.out
   have sHLT_p6 := HLT_p6.out
   have sHLT_p7 := HLT_p7.out
   have sHLT_p8 := HLT_p8.out
   have HZ := Lib.hid (And.intro sHLT0 (And.intro sHGB (And.intro l11 (by omega : w.heap.size + 3 < g11 + 1))))
   clear sHGB sHLT0 sHSU sHLT_p4 sHLT_p6 sHLT_p7 sHLT_p8; clear l11
   obtain ⟨A1, C1, hy1, j1⟩ := ow.o1.iw (outL_i64 (fun i => (HG.out i).1)) (fun q e => (ow.h1 q e).2)
   rw [outL_len] at hy1 j1
   obtain ⟨A2, C2, hy2, j2⟩ := ow.o2.iw (outL_i64 (fun i => (HG.out i).2.1)) (fun q e => (ow.h2 q e).2)
   rw [outL_len] at hy2 j2
   obtain ⟨A3, C3, hy3, j3⟩ := ow.o3.iw (outL_i64 (fun i => (HG.out i).2.2)) (fun q e => (ow.h3 q e).2)
   rw [outL_len] at hy3 j3
   clear ow
   subst hy1
   subst hy2
   subst hy3
   have fo8 : Form wr (w.heap.size + 1 + 1 + 1) 27 4 := ⟨_, p8, noU4 none 0 0 none 0 0 none 0 0 none 0 0, rfl⟩
   have z80 := p8.frozN 0
   have z81 := p8.frozN 1
   have z82 := p8.frozN 2
   have z83 := p8.frozN 3
   obtain ⟨k4a, k4b, k4c, k4d, k4e, k4f⟩ := p4.c6
   obtain ⟨k6a, k6b⟩ := p6.c2
   obtain ⟨k7a, k7b, k7c, k7d⟩ := p7.c4
   obtain ⟨k8a, k8b, k8c, k8d⟩ := p8.c4
   obtain ⟨k11a, k11b, k11c, k11d⟩ := p11.c4
   go_wp2; clear k4a k4b k4c k4d k4e k4f k6a k6b k7a k7b k7c k7d k8a k8b k8c k8d k11a k11b k11c k11d
   obtain ⟨-, -, -, -, -, -, -, -, -, W2, hW2, hw, hq⟩ := fo8.put4 (.slice A1 k C1) (.slice A2 k C2) (.slice A3 k C3) (.slice none 0 0) (noU4 _ _ _ _ _ _ _ _ _ none 0 0)
   rw [← hW2]
   have k80 := hq.cell 0 (v := .slice A1 k C1) rfl
   have k81 := hq.cell 1 (v := .slice A2 k C2) rfl
   have k82 := hq.cell 2 (v := .slice A3 k C3) rfl
   have k83 := hq.cell 3 (v := .slice none 0 0) rfl
   have hz := HZ.out
   have szw := hw.apart.size
   exact bodyPost_ret (v := .tuple #[.agg #[.slice A1 k C1, .slice A2 k C2, .slice A3 k C3, .slice none 0 0], .int .i64 0]) (by simp [results, Tryz.results9, go_sem, k80, k81, k82, k83]) rfl ⟨Ext.wr E0 hw (by omega), .inl ⟨HALL.out, _, rfl, A1, C1, A2, C2, A3, C3, rfl, (j1.wr hw (by omega)).mono (by omega) szw, (j2.wr hw (by omega)).mono (by omega) szw, (j3.wr hw (by omega)).mono (by omega) szw⟩⟩


end Go.Rt

namespace Go.Rt
open Go Go.RowKit Go.Proofs

theorem Tryz.refStepAll18 (lr b1 b2 eps wd p0 p1 : Int) (ap : Bool) (f : Int) {n0 n1 n2 n3 : Nat} {a0 a1 a2 a3 : Option Addr} {c0 c1 c2 c3 : Nat} {lw lm lv lg : List Int} (w : World) (hn : n0 ≤ 40) (q1 : I64 lr) (q2 : I64 eps) (q3 : I64 wd)
  (hi0 : Iw 0 w.heap.size w a0 n0 c0 lw) (hi1 : Iw 0 w.heap.size w a1 n1 c1 lm) (hiv : Iw 0 w.heap.size w a2 n2 c2 lv) (hi3 : Iw 0 w.heap.size w a3 n3 c3 lg) :
  Calls Tryz.prog 9 #[.agg #[.int .i64 lr, .int .i64 b1, .int .i64 b2, .int .i64 eps, .int .i64 wd, .bool ap], .int .i64 f, .agg #[.int .i64 p0, .int .i64 p1], .agg #[.slice a0 n0 c0, .slice a1 n1 c1, .slice a2 n2 c2, .slice a3 n3 c3]] w
   fun e w' => (∃ v, e = .returned v ∧ StepAtC w.heap.size w' v (stepE ⟨lr, b1, b2, eps, wd, ap⟩ f p0 p1 lw lm lv lg) (stepL p1of ⟨lr, b1, b2, eps, wd, ap⟩ f p0 p1 lw lm lv lg) (stepL p2of ⟨lr, b1, b2, eps, wd, ap⟩ f p0 p1 lw lm lv lg) (stepL p3of ⟨lr, b1, b2, eps, wd, ap⟩ f p0 p1 lw lm lv lg)) ∧ Ext w w' := by
 have none_at : ∀ (W : World) (E : Int), stepE ⟨lr, b1, b2, eps, wd, ap⟩ f p0 p1 lw lm lv lg = E → E ≠ 0 →
   StepAtC w.heap.size W (.tuple #[.agg #[.slice none 0 0, .slice none 0 0, .slice none 0 0, .slice none 0 0], .int .i64 E]) (stepE ⟨lr, b1, b2, eps, wd, ap⟩ f p0 p1 lw lm lv lg) (stepL p1of ⟨lr, b1, b2, eps, wd, ap⟩ f p0 p1 lw lm lv lg) (stepL p2of ⟨lr, b1, b2, eps, wd, ap⟩ f p0 p1 lw lm lv lg) (stepL p3of ⟨lr, b1, b2, eps, wd, ap⟩ f p0 p1 lw lm lv lg) := by
  intro W E hE h0
  rw [stepL_no (by rw [hE]; exact h0), stepL_no (by rw [hE]; exact h0), stepL_no (by rw [hE]; exact h0), hE]
  exact ⟨none, 0, 0, none, 0, 0, none, 0, 0, rfl, Iw.nil _ _ _, Iw.nil _ _ _, Iw.nil _ _ _⟩
 cases hR : rightA ⟨lr, b1, b2, eps, wd, ap⟩ f
 ·refine (Tryz.refStepNo18 lr b1 b2 eps wd p0 p1 ap f w hR).mono ?_
  rintro e W ⟨rfl, hE⟩
  exact ⟨⟨_, rfl, none_at W 1 (by unfold stepE; rw [if_pos (by rw [hR]; rfl)]) (by decide)⟩, hE⟩
 ·have hx := rightA_iff.1 hR
  obtain ⟨K, rfl⟩ := Int.eq_ofNat_of_zero_le hx.1
  clear hx
  by_cases hB : mayB K p0 = false ∨ mayB K p1 = false ∨ negB lv = true
  ·refine (Tryz.refStepArg18 lr b1 b2 eps wd p0 p1 ap K w hR hiv hB).mono ?_
   rintro e W ⟨rfl, hE⟩
   refine ⟨⟨_, rfl, none_at W 1 ?_ (by decide)⟩, hE⟩
   unfold stepE
   rw [if_pos]
   rw [hR, Int.toNat_natCast]
   rcases hB with h | h | h <;> simp [h]
  ·have h0 : mayB K p0 = true := by cases h : mayB K p0; exact absurd (.inl h) hB; rfl
   have h1 : mayB K p1 = true := by cases h : mayB K p1; exact absurd (.inr (.inl h)) hB; rfl
   have h2 : negB lv = false := by cases h : negB lv; rfl; exact absurd (.inr (.inr h)) hB
   clear hB
   have e1 : ¬ (rightA ⟨lr, b1, b2, eps, wd, ap⟩ ((K : Nat) : Int) && mayB ((K : Nat) : Int).toNat p0 && mayB ((K : Nat) : Int).toNat p1 && !negB lv) = false := by rw [hR, Int.toNat_natCast, h0, h1, h2]; decide
   have l0 := hi0.len
   have l1 := hi1.len
   have l2 := hiv.len
   have l3 := hi3.len
   by_cases hN : n1 ≠ n0 ∨ n2 ≠ n0 ∨ n3 ≠ n0
   ·refine (Tryz.refStepShape18 lr b1 b2 eps wd p0 p1 ap K w hR h0 h1 h2 hiv hN).mono ?_
    rintro e W ⟨rfl, hE⟩
    refine ⟨⟨_, rfl, none_at W 5 ?_ (by decide)⟩, hE⟩
    unfold stepE
    rw [if_neg e1, if_pos]
    rw [l0, l1, l2, l3, Bool.eq_false_iff]
    intro hc
    simp only [Bool.and_eq_true, beq_iff_eq] at hc
    omega
   ·obtain rfl : n1 = n0 := by omega
    obtain rfl : n2 = n1 := by omega
    obtain rfl : n3 = n2 := by omega
    have e2 : ¬ (lm.length == lw.length && lv.length == lw.length && lg.length == lw.length) = false := by rw [l0, l1, l2, l3]; simp
    have eP : ∀ i, stepP ⟨lr, b1, b2, eps, wd, ap⟩ (K : Int) p0 p1 lw lm lv lg i = placeO K ⟨lr, b1, b2, eps, wd, ap⟩ p0 p1 (atL lw i) (atL lm i) (atL lv i) (atL lg i) := fun i => by unfold stepP; rw [Int.toNat_natCast]
    refine (Tryz.refStepGo18 lr b1 b2 eps wd p0 p1 ap K w hR h0 h1 h2 hn q1 q2 q3 hi0 hi1 hiv hi3).mono ?_
    rintro e W ⟨hE, ⟨hall, v, rfl, a1', c1', a2', c2', a3', c3', rfl, j1, j2, j3⟩ | ⟨⟨i, hi, hnone⟩, rfl⟩⟩
    ·dsimp only at hall j1 j2 j3
     have hz : stepE ⟨lr, b1, b2, eps, wd, ap⟩ (K : Int) p0 p1 lw lm lv lg = 0 := by
      have hb : stepB ⟨lr, b1, b2, eps, wd, ap⟩ (K : Int) p0 p1 lw lm lv lg = false := stepB_false.2 (fun i hi => by rw [eP]; exact hall i (by omega))
      unfold stepE
      rw [if_neg e1, if_neg e2, if_neg (by rw [hb]; decide)]
     refine ⟨⟨_, rfl, ?_⟩, hE⟩
     rw [stepL_ok hz, stepL_ok hz, stepL_ok hz, hz, l0]
     simp only [eP]
     exact ⟨_, _, _, _, _, _, _, _, _, rfl, j1, j2, j3⟩
    ·refine ⟨⟨_, rfl, none_at W 2 ?_ (by decide)⟩, hE⟩
     unfold stepE
     rw [if_neg e1, if_neg e2, if_pos]
     cases hb : stepB ⟨lr, b1, b2, eps, wd, ap⟩ (K : Int) p0 p1 lw lm lv lg
     ·exact absurd ((eP i).trans hnone) (stepB_false.1 hb i (by omega))
     ·rfl

theorem Tryz.refStepIs18 (lr b1 b2 eps wd p0 p1 : Int) (ap : Bool) (f : Int) {n0 n1 n2 n3 : Nat} {a0 a1 a2 a3 : Option Addr} {c0 c1 c2 c3 : Nat} {lw lm lv lg xw xm xv : List Int} {E : Int} (w : World)
  (hE : stepE ⟨lr, b1, b2, eps, wd, ap⟩ f p0 p1 lw lm lv lg = E ∧ stepL p1of ⟨lr, b1, b2, eps, wd, ap⟩ f p0 p1 lw lm lv lg = xw ∧ stepL p2of ⟨lr, b1, b2, eps, wd, ap⟩ f p0 p1 lw lm lv lg = xm ∧ stepL p3of ⟨lr, b1, b2, eps, wd, ap⟩ f p0 p1 lw lm lv lg = xv)
  (hn : n0 ≤ 40) (q1 : I64 lr) (q2 : I64 eps) (q3 : I64 wd) (hi0 : Iw 0 w.heap.size w a0 n0 c0 lw) (hi1 : Iw 0 w.heap.size w a1 n1 c1 lm) (hiv : Iw 0 w.heap.size w a2 n2 c2 lv) (hi3 : Iw 0 w.heap.size w a3 n3 c3 lg) :
  Calls Tryz.prog 9 #[.agg #[.int .i64 lr, .int .i64 b1, .int .i64 b2, .int .i64 eps, .int .i64 wd, .bool ap], .int .i64 f, .agg #[.int .i64 p0, .int .i64 p1], .agg #[.slice a0 n0 c0, .slice a1 n1 c1, .slice a2 n2 c2, .slice a3 n3 c3]] w
   fun e w' => (∃ v, e = .returned v ∧ StepAtC w.heap.size w' v E xw xm xv) ∧ Ext w w' := by
 obtain ⟨rfl, rfl, rfl, rfl⟩ := hE
 exact Tryz.refStepAll18 lr b1 b2 eps wd p0 p1 ap f w hn q1 q2 q3 hi0 hi1 hiv hi3

set_option maxRecDepth 100000 in
set_option maxHeartbeats 8000000 in
theorem Tryz.refSame17 {a0 b0 : Option Addr} {n0 c0 m0 d0 : Nat} {l0 k0 : List Int} {lo0 hi0 lp0 hp0 : Nat} {a1 b1 : Option Addr} {n1 c1 m1 d1 : Nat} {l1 k1 : List Int} {lo1 hi1 lp1 hp1 : Nat} {a2 b2 : Option Addr} {n2 c2 m2 d2 : Nat} {l2 k2 : List Int} {lo2 hi2 lp2 hp2 : Nat} {a3 b3 : Option Addr} {n3 c3 m3 d3 : Nat} {l3 k3 : List Int} {lo3 hi3 lp3 hp3 : Nat} {w : World} (x0 : Iw lo0 hi0 w a0 n0 c0 l0) (y0 : Iw lp0 hp0 w b0 m0 d0 k0) (x1 : Iw lo1 hi1 w a1 n1 c1 l1) (y1 : Iw lp1 hp1 w b1 m1 d1 k1) (x2 : Iw lo2 hi2 w a2 n2 c2 l2) (y2 : Iw lp2 hp2 w b2 m2 d2 k2) (x3 : Iw lo3 hi3 w a3 n3 c3 l3) (y3 : Iw lp3 hp3 w b3 m3 d3 k3) :
  Calls Tryz.prog 12 #[.agg #[.slice a0 n0 c0, .slice a1 n1 c1, .slice a2 n2 c2, .slice a3 n3 c3], .agg #[.slice b0 m0 d0, .slice b1 m1 d1, .slice b2 m2 d2, .slice b3 m3 d3]] w fun e w' => e = .returned (.bool (decide (l0 = k0) && decide (l1 = k1) && decide (l2 = k2) && decide (l3 = k3))) ∧ Ext w w' := by
 obtain ⟨W0, hW0, E0, p2, p3⟩ := boxed2 w 27 #[.slice a0 n0 c0, .slice a1 n1 c1, .slice a2 n2 c2, .slice a3 n3 c3] 27 #[.slice b0 m0 d0, .slice b1 m1 d1, .slice b2 m2 d2, .slice b3 m3 d3]
 replace x0 : Iw lo0 hi0 W0 a0 n0 c0 (l0) := x0.ext E0
 replace y0 : Iw lp0 hp0 W0 b0 m0 d0 (k0) := y0.ext E0
 replace x1 : Iw lo1 hi1 W0 a1 n1 c1 (l1) := x1.ext E0
 replace y1 : Iw lp1 hp1 W0 b1 m1 d1 (k1) := y1.ext E0
 replace x2 : Iw lo2 hi2 W0 a2 n2 c2 (l2) := x2.ext E0
 replace y2 : Iw lp2 hp2 W0 b2 m2 d2 (k2) := y2.ext E0
 replace x3 : Iw lo3 hi3 W0 a3 n3 c3 (l3) := x3.ext E0
 replace y3 : Iw lp3 hp3 W0 b3 m3 d3 (k3) := y3.ext E0
 go_enter Tryz.func12, Tryz.ntmps12
 obtain ⟨k2a, k2b, k2c, k2d⟩ := p2.c4
 obtain ⟨k3a, k3b, k3c, k3d⟩ := p3.c4
 go_wp2_with fail
 rw [← hW0]
 clear hW0; clear k2a k2b k2c k2d k3a k3b k3c k3d
 refine (Tryz.refSame09 x0 y0).mono ?_
 rintro e Wa ⟨rfl, hE⟩
 replace E0 := (Ext.trans E0 hE)
 replace x0 := (x0.ext hE)
 replace y0 := (y0.ext hE)
 replace x1 := (x1.ext hE)
 replace y1 := (y1.ext hE)
 replace x2 := (x2.ext hE)
 replace y2 := (y2.ext hE)
 replace x3 := (x3.ext hE)
 replace y3 := (y3.ext hE)
 replace p2 := (p2.ext hE); replace p3 := (p3.ext hE); clear hE
 cases g0 : decide (l0 = k0)
 ·obtain ⟨k2a, k2b, k2c, k2d⟩ := p2.c4
  obtain ⟨k3a, k3b, k3c, k3d⟩ := p3.c4
  go_wp2; go_ret
  exact ⟨ret_b (by rw [g0]; rfl), E0⟩
 ·obtain ⟨k2a, k2b, k2c, k2d⟩ := p2.c4
  obtain ⟨k3a, k3b, k3c, k3d⟩ := p3.c4
  go_wp2_with fail
  clear k2a k2b k2c k2d k3a k3b k3c k3d
  refine (Tryz.refSame09 x1 y1).mono ?_
  rintro e Wb ⟨rfl, hE⟩
  replace E0 := (Ext.trans E0 hE)
  replace x0 := (x0.ext hE)
  replace y0 := (y0.ext hE)
  replace x1 := (x1.ext hE)
  replace y1 := (y1.ext hE)
  replace x2 := (x2.ext hE)
  replace y2 := (y2.ext hE)
  replace x3 := (x3.ext hE)
  replace y3 := (y3.ext hE)
  replace p2 := (p2.ext hE); replace p3 := (p3.ext hE); clear hE
  cases g1 : decide (l1 = k1)
  ·obtain ⟨k2a, k2b, k2c, k2d⟩ := p2.c4
   obtain ⟨k3a, k3b, k3c, k3d⟩ := p3.c4
   go_wp2; go_ret
   exact ⟨ret_b (by rw [g0, g1]; rfl), E0⟩
  ·obtain ⟨k2a, k2b, k2c, k2d⟩ := p2.c4
   obtain ⟨k3a, k3b, k3c, k3d⟩ := p3.c4
   go_wp2_with fail
   clear k2a k2b k2c k2d k3a k3b k3c k3d
   refine (Tryz.refSame09 x2 y2).mono ?_
   rintro e Wc ⟨rfl, hE⟩
   replace E0 := (Ext.trans E0 hE)
   replace x0 := (x0.ext hE)
   replace y0 := (y0.ext hE)
   replace x1 := (x1.ext hE)
   replace y1 := (y1.ext hE)
   replace x2 := (x2.ext hE)
   replace y2 := (y2.ext hE)
   replace x3 := (x3.ext hE)
   replace y3 := (y3.ext hE)
   replace p2 := (p2.ext hE); replace p3 := (p3.ext hE); clear hE
   cases g2 : decide (l2 = k2)
   ·obtain ⟨k2a, k2b, k2c, k2d⟩ := p2.c4
    obtain ⟨k3a, k3b, k3c, k3d⟩ := p3.c4
    go_wp2; go_ret
    exact ⟨ret_b (by rw [g0, g1, g2]; rfl), E0⟩
   ·obtain ⟨k2a, k2b, k2c, k2d⟩ := p2.c4
    obtain ⟨k3a, k3b, k3c, k3d⟩ := p3.c4
    go_wp2_with fail
    clear k2a k2b k2c k2d k3a k3b k3c k3d
    refine (Tryz.refSame09 x3 y3).mono ?_
    rintro e Wd ⟨rfl, hE⟩
    replace E0 := (Ext.trans E0 hE)
    replace x0 := (x0.ext hE)
    replace y0 := (y0.ext hE)
    replace x1 := (x1.ext hE)
    replace y1 := (y1.ext hE)
    replace x2 := (x2.ext hE)
    replace y2 := (y2.ext hE)
    replace x3 := (x3.ext hE)
    replace y3 := (y3.ext hE)
    replace p2 := (p2.ext hE); replace p3 := (p3.ext hE); clear hE
    cases g3 : decide (l3 = k3)
    ·obtain ⟨k2a, k2b, k2c, k2d⟩ := p2.c4
     obtain ⟨k3a, k3b, k3c, k3d⟩ := p3.c4
     go_wp2; go_ret
     exact ⟨ret_b (by rw [g0, g1, g2, g3]; rfl), E0⟩
    ·obtain ⟨k2a, k2b, k2c, k2d⟩ := p2.c4
     obtain ⟨k3a, k3b, k3c, k3d⟩ := p3.c4
     go_wp2; go_ret
     exact ⟨ret_b (by rw [g0, g1, g2, g3]; rfl), E0⟩

end Go.Rt
