/-
 Which integers and fractions are right, and of few limbs.
-/
import Derived.Test.YtiebflipijcnfaaGY
import Derived.Test.YtiebflipijcnfaaGM
import Derived.Test.YtiebflipijcnfaaGJ

namespace Go.Rt

open Go.RowKit Go.Proofs

theorem Nt.slice {W : World} {a : Option Addr} {n c : Nat} {xs : List Nat} (h : Nt W (.slice a n c) xs) : n = xs.length := by
 obtain ⟨_, _, _, _, e, _⟩ := h
 cases e
 rfl

theorem Nt.nw {W : World} {v : Value} {xs : List Nat} (h : Nt W v xs) (hn : normB xs = true) : Nw W v (ev B64 xs) := ⟨xs, h, normB_iff.1 hn, rfl⟩

/-- a small number -/
def smallN (N : Nat) : Nat := if N < B64 then N else 0

def smallB (N : Nat) : Bool := decide (N < B64)

set_option maxHeartbeats 400000 in
theorem Try.natSmall {v : Value} {N : Nat} {w : World} (h : Nw w v N) :
  Calls Try.prog 23 #[v] w fun e w' => e = .returned (.tuple #[.int .u64 ((smallN N : Nat) : Int), .bool (smallB N)]) ∧ w = w' := by
 obtain ⟨xs, ⟨a, b, o, cap, rfl, hs, hl⟩, hn, he⟩ := h
 have hlen := fun L => len_le_iff (by rw [B64_eq]; omega) hl hn L
 match xs, hs, hl, hn, he, hlen with
 | [], hs, hl, hn, he, hlen =>
  have H1 : Hid (smallN N = 0) := Lib.hid (by rw [← he]; unfold smallN; split <;> rfl)
  have H2 : Hid (smallB N = true) := Lib.hid (by rw [← he]; exact decide_eq_true B64_pos)
  clear hs hl hn he hlen
  go_enter Try.func23, Try.ntmps23
  go_wp2; go_ret2
  exact ⟨by rw [H1.out, H2.out]; rfl, rfl⟩
 | [x], hs, hl, hn, he, hlen =>
  obtain rfl := hs.addr (by simp)
  have hc := hs.cell (i := 0) (by simp)
  have hxb := lg_lt hl 0
  have hx : ev B64 [x] = lg [x] 0 := ev_single _ _
  have H1 : Hid (smallN N = lg [x] 0) := Lib.hid (by rw [← he, hx]; unfold smallN; rw [if_pos hxb])
  have H2 : Hid (smallB N = true) := Lib.hid (by rw [← he, hx]; exact decide_eq_true hxb)
  generalize lg [x] 0 = y at *
  clear hs hl hn he hlen hx hxb
  simp only [Nat.add_zero] at hc
  go_enter Try.func23, Try.ntmps23
  go_wp2; go_ret2
  exact ⟨by rw [H1.out, H2.out]; rfl, rfl⟩
 | x :: y :: r, hs, hl, hn, he, hlen =>
  have hbig : ¬ N < B64 := fun hlt => by
   have := (hlen 1).2 (by rw [he, Nat.pow_one]; exact hlt)
   simp at this
  have H1 : Hid (smallN N = 0) := Lib.hid (if_neg hbig)
  have H2 : Hid (smallB N = false) := Lib.hid (decide_eq_false hbig)
  have l1 : (((x :: y :: r).length : Int) == 0) = false := beq_eq_false_iff_ne.2 (by simp; omega)
  have l2 : (((x :: y :: r).length : Int) == 1) = false := beq_eq_false_iff_ne.2 (by simp; omega)
  generalize (x :: y :: r).length = n at *
  clear hs hl hn he hlen hbig
  go_enter Try.func23, Try.ntmps23
  go_wp2; go_ret2
  exact ⟨by rw [H1.out, H2.out]; rfl, rfl⟩

end Go.Rt
