/-
 The reference's dyads: odd, Near.
-/
import Derived.Test.YtkmilnnbmamknaaSqz
import Derived.Test.YtkmilnnbmamknaaDyadA

namespace Go.Rt

open Go.RowKit Go.Proofs

/-- the lowest limb -/
theorem Nw.limb0 {W : World} {a : Option Addr} {n c N : Nat} (h : Nw W (.slice a n c) N) (hn : 0 < n) :
  ∃ b o l, a = some ⟨b, o, none⟩ ∧ W.cell? ⟨b, o, none⟩ = some (.int .u64 ((l : Nat) : Int)) ∧ l < B64 ∧ l % 2 = N % 2 := by
 obtain ⟨xs, ⟨a', b, o, cap, e, hs, hl⟩, -, he⟩ := h
 cases e
 obtain rfl := hs.addr hn
 refine ⟨b, o, lg xs 0, rfl, ?_, lg_lt hl 0, ?_⟩
 ·have := hs.cell (i := 0) hn
  simpa using this
 ·rw [← he]
  match xs, hn with
  | x :: r, _ =>
   show lg (x :: r) 0 % 2 = (x + B64 * ev B64 r) % 2
   rw [show lg (x :: r) 0 = x from rfl, B64_eq]
   omega

end Go.Rt
