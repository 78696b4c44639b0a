/-
  The laws of chapter 02: their walks.
-/
import Derived.Test.YtlknbbehjcklmaaGiven
namespace Go.Rt
open Go.RowKit Go.Shelf Go.Proofs

theorem gvn1 {xs : List Nat} (h : gvn [xs] = true) : xs.length ≤ 20 ∧ Norm xs := by
  simp [gvn] at h
  exact ⟨h.1, normB_iff.1 h.2⟩
theorem gvn2 {xs ys : List Nat} (h : gvn [xs, ys] = true) : xs.length ≤ 20 ∧ Norm xs ∧ ys.length ≤ 20 ∧ Norm ys := by
  simp [gvn] at h
  exact ⟨h.1.1, normB_iff.1 h.1.2, h.2.1, normB_iff.1 h.2.2⟩
theorem gvn3 {xs ys zs : List Nat} (h : gvn [xs, ys, zs] = true) : xs.length ≤ 20 ∧ Norm xs ∧ ys.length ≤ 20 ∧ Norm ys ∧ zs.length ≤ 20 ∧ Norm zs := by
  simp [gvn] at h
  exact ⟨h.1.1, normB_iff.1 h.1.2, h.2.1.1, normB_iff.1 h.2.1.2, h.2.2.1, normB_iff.1 h.2.2.2⟩
theorem Sm.of_len {L : Nat} {xs : List Nat} (hl : Lim B64 xs) (h : xs.length ≤ L) : Sm L (ev B64 xs) :=
  Nat.lt_of_lt_of_le (ev_lt hl) (Nat.pow_le_pow_right B64_pos h)

/-- a row of these values, as '...' makes it -/
theorem row1 {w : World} {v0 : Value} {x0 : List Nat} (t : TypeId) (h0 : Nt w v0 x0) : ∀ i (hi : i < [x0].length), ∃ v, (w.alloc (.cells #[v0] t)).cell? ⟨w.heap.size, i, none⟩ = some v ∧ Nt (w.alloc (.cells #[v0] t)) v [x0][i] := fun i hi => by
  match i, hi with
  | 0, _ => exact ⟨v0, by rw [World.cell?_alloc_at _ _ _ _ rfl]; rfl, h0.ext (Ext.alloc1 _ _)⟩
theorem row2 {w : World} {v0 v1 : Value} {x0 x1 : List Nat} (t : TypeId) (h0 : Nt w v0 x0) (h1 : Nt w v1 x1) : ∀ i (hi : i < [x0, x1].length), ∃ v, (w.alloc (.cells #[v0, v1] t)).cell? ⟨w.heap.size, i, none⟩ = some v ∧ Nt (w.alloc (.cells #[v0, v1] t)) v [x0, x1][i] := fun i hi => by
  match i, hi with
  | 0, _ => exact ⟨v0, by rw [World.cell?_alloc_at _ _ _ _ rfl]; rfl, h0.ext (Ext.alloc1 _ _)⟩
  | 1, _ => exact ⟨v1, by rw [World.cell?_alloc_at _ _ _ _ rfl]; rfl, h1.ext (Ext.alloc1 _ _)⟩
theorem row3 {w : World} {v0 v1 v2 : Value} {x0 x1 x2 : List Nat} (t : TypeId) (h0 : Nt w v0 x0) (h1 : Nt w v1 x1) (h2 : Nt w v2 x2) : ∀ i (hi : i < [x0, x1, x2].length), ∃ v, (w.alloc (.cells #[v0, v1, v2] t)).cell? ⟨w.heap.size, i, none⟩ = some v ∧ Nt (w.alloc (.cells #[v0, v1, v2] t)) v [x0, x1, x2][i] := fun i hi => by
  match i, hi with
  | 0, _ => exact ⟨v0, by rw [World.cell?_alloc_at _ _ _ _ rfl]; rfl, h0.ext (Ext.alloc1 _ _)⟩
  | 1, _ => exact ⟨v1, by rw [World.cell?_alloc_at _ _ _ _ rfl]; rfl, h1.ext (Ext.alloc1 _ _)⟩
  | 2, _ => exact ⟨v2, by rw [World.cell?_alloc_at _ _ _ _ rfl]; rfl, h2.ext (Ext.alloc1 _ _)⟩

theorem Try.sameT {v1 v2 : Value} {N M : Nat} {w : World} (h1 : Nw w v1 N) (h2 : Nw w v2 M) (he : N = M) :
    Calls Try.prog 16 #[v1, v2] w fun e w' => e = .returned (.bool true) ∧ Ext w w' := by
  have := Try.refSame h1 h2
  rwa [decide_eq_true he] at this

set_option maxHeartbeats 1000000 in
theorem Try.lawShifts {v : Value} {xs : List Nat} {w : World} (h : Nt w v xs) (n : Int) :
    Calls Try.prog 3 #[v, .int .i64 n] w fun e w' => e = .returned (.bool true) ∧ Ext w w' := by
  have h' := h
  obtain ⟨a, b, o, cap, rfl, hs, hl⟩ := h
  have hcap := hs.le
  have hmx := hs.max
  clear hs
  go_enter Try.func3, Try.ntmps3
  go_wp2_with fail
  refine (Try.given (xss := [xs]) (by simp) (row1 _ h')).mono ?_
  rintro e w' ⟨rfl, rfl⟩
  cases hgv : gvn [xs]
  · clear hgv
    go_wp2_with fail
    refine (Try.alive _).mono ?_
    rintro e w1 ⟨rfl, hE1⟩
    go_wp2
    go_ret
    exact ⟨rfl, (Ext.alloc1 _ _).trans hE1⟩
  · obtain ⟨g1, g2⟩ := gvn1 hgv
    have hs := Sm.of_len hl g1
    have hN : Nw w (.slice a xs.length cap) (ev B64 xs) := ⟨xs, h', g2, rfl⟩
    clear hgv
    go_wp2_with fail
    refine (Try.divShl (hN.ext (Ext.alloc1 _ _)) hs (by omega) n).mono ?_
    rintro e w1 ⟨v1, rfl, hx1, hE1, -⟩
    have E1 := (Ext.alloc1 w _).trans hE1
    go_wp2_with fail
    refine (Try.refShl (hN.ext E1) hs (by omega) n).mono ?_
    rintro e w2 ⟨v2, rfl, hx2, hE2, -⟩
    have E2 := E1.trans hE2
    have hx1' := hx1.ext hE2
    go_wp2_with fail
    refine (Try.divShr (hN.ext E2) hs (by omega) n).mono ?_
    rintro e w3 ⟨v3, rfl, hy1, hE3, -⟩
    have E3 := E2.trans hE3
    go_wp2_with fail
    refine (Try.refShr (hN.ext E3) hs (by omega) n).mono ?_
    rintro e w4 ⟨v4, rfl, hy2, hE4, -⟩
    have E4 := E3.trans hE4
    go_wp2_with fail
    refine (Try.alive _).mono ?_
    rintro e w5 ⟨rfl, hE5⟩
    have E35 := (hE3.trans hE4).trans hE5
    have E5 := E4.trans hE5
    go_wp2_with fail
    refine (Try.sameT (hx1'.ext E35) (hx2.ext E35) rfl).mono ?_
    rintro e w6 ⟨rfl, hE6⟩
    go_wp2_with fail
    refine (Try.sameT (hy1.ext ((hE4.trans hE5).trans hE6)) (hy2.ext (hE5.trans hE6)) rfl).mono ?_
    rintro e w7 ⟨rfl, hE7⟩
    have E7 := (E5.trans hE6).trans hE7
    go_wp2
    go_ret
    exact ⟨rfl, E7⟩
end Go.Rt
