/-
  The reference's Gcd and Goes.
-/
import Derived.Test.YtbfojmhigfeahaaRefG
namespace Go.Rt
open Go.RowKit Go.Proofs

theorem Nt.unique {w : World} {v : Value} {xs ys : List Nat} (h : Nt w v xs) (k : Nt w v ys) : xs = ys := by
  obtain ⟨a, b, o, cap, rfl, hs, hl⟩ := h
  obtain ⟨a', b', o', cap', e, hs', hl'⟩ := k
  simp only [Value.slice.injEq] at e
  obtain ⟨rfl, e2, rfl⟩ := e
  apply List.ext_getElem e2
  intro i h1 h2
  have c1 := hs.cell h1
  have c2 := hs'.cell h2
  have ea : (⟨b, o, none⟩ : Addr) = ⟨b', o', none⟩ := by
    have := (hs.addr (by omega)).symm.trans (hs'.addr (by omega))
    simpa using this
  simp only [Addr.mk.injEq, and_true] at ea
  obtain ⟨rfl, rfl⟩ := ea
  rw [c1] at c2
  simp only [Option.some.injEq, Value.int.injEq, true_and, Int.natCast_inj] at c2
  rwa [lg_eq h1, lg_eq h2] at c2
theorem Nw.unique {w : World} {v : Value} {N M : Nat} (h : Nw w v N) (k : Nw w v M) : N = M := by
  obtain ⟨xs, h1, _, rfl⟩ := h
  obtain ⟨ys, k1, _, rfl⟩ := k
  rw [h1.unique k1]
/-- the number that a slice reads as: for a loop's measure -/
noncomputable def numOf (w : World) (v : Value) : Nat := Classical.epsilon (Nw w v)
theorem numOf_eq {w : World} {v : Value} {N : Nat} (h : Nw w v N) : numOf w v = N := (Classical.epsilon_spec (p := Nw w v) ⟨N, h⟩).unique h

theorem gcd_step {A B : Nat} : Nat.gcd A B = Nat.gcd B (A % B) := by rw [Nat.gcd_comm A B, Nat.gcd_rec B A, Nat.gcd_comm]

set_option maxHeartbeats 1000000 in
theorem Try.refGcd {v1 v2 : Value} {N M L : Nat} {w : World} (h1 : Nw w v1 N) (h2 : Nw w v2 M) (s1 : Sm L N) (s2 : Sm L M) (hL : L ≤ 300) :
    Calls Try.prog 71 #[v1, v2] w fun e w' => ∃ v', e = .returned v' ∧ Nw w' v' (Nat.gcd N M) ∧ Ext w w' := by
  go_enter Try.func71, Try.ntmps71
  go_wp2
  go_loopw [0, 1, 5, 6, 7] (fun a b _ _ _ wr => ∃ A B, Nw wr a A ∧ Nw wr b B ∧ Sm L A ∧ Sm L B ∧ Hid (Nat.gcd A B = Nat.gcd N M) ∧ Ext w wr) (fun _ b _ _ _ wr => numOf wr b)
  case atStart => exact ⟨N, M, h1, h2, s1, s2, Lib.hid rfl, Ext.refl _⟩
  case round =>
    obtain ⟨A, B, hA, hB, sA, sB, hg, hE⟩ := hrel
    clear h1 h2
    have hB' := hB
    obtain ⟨a, n, cap, rfl, hn0, -⟩ := hB.len
    rcases Nat.eq_zero_or_pos n with rfl | hpos
    · have hB0 : B = 0 := hn0.1 rfl
      have HR : Hid (A = Nat.gcd N M) := Lib.hid (by rw [← hg.out, hB0, Nat.gcd_zero_right])
      clear hn0 hB0 hB hB'
      go_wp2
      go_ret
      exact ⟨_, rfl, by rw [← HR.out]; exact hA, hE⟩
    · have hBp : 0 < B := by
        rcases Nat.eq_zero_or_pos B with h | h
        · have := hn0.2 h; omega
        · exact h
      have HM : Hid (numOf wr (.slice a n cap) = B) := Lib.hid (numOf_eq hB)
      clear hn0
      go_wp2_with fail
      refine (Try.refDivMod hA hB sA sB hL).mono ?_
      rintro e w2 ⟨vq, vr, rfl, hq, hr, hE2, _, _⟩
      have hB2 := hB'.ext hE2
      rw [dvR_pos hBp] at hr
      have hrlt : A % B < B := Nat.mod_lt _ hBp
      have HMR : Hid (numOf w2 vr = A % B) := Lib.hid (numOf_eq hr)
      go_wp2
      go_roundw
      case rel => exact ⟨B, A % B, hB2, hr, sB, sB.le (Nat.le_of_lt hrlt), Lib.hid (by rw [← gcd_step]; exact hg.out), hE.trans hE2⟩
      case measure =>
        rw [HM.out]
        show numOf w2 vr < B
        rw [HMR.out]; exact hrlt

end Go.Rt
