/-
  div.DivMod and div.Gcd, whatever the numbers.
-/
import Derived.Test.YtbfojmhigfeahaaDivG
namespace Go.Rt
open Go.RowKit Go.Shelf Go.Proofs

theorem Try.divDivMod {v1 v2 : Value} {N M L : Nat} {w : World} (h1 : Nw w v1 N) (h2 : Nw w v2 M) (s1 : Sm L N) (hL : L ≤ 300000) :
    Calls Try.prog 75 #[v1, v2] w fun e w' => ∃ vq vr, e = .returned (.tuple #[vq, vr, .int .i64 (dvE M)]) ∧ Nw w' vq (N / M) ∧ Nw w' vr (dvR N M) ∧ Ext w w' ∧ Fr w vq ∧ Fr w vr := by
  rcases Nat.eq_zero_or_pos M with rfl | hM
  · exact Try.divDivMod0 h2
  · rcases Nat.lt_or_ge N M with hlt | hle
    · exact Try.divDivModL h1 h2 s1 (by omega) hlt
    · rcases Nat.lt_or_ge M B64 with h | h
      · exact Try.divDivMod1 h1 h2 s1 (by omega) hle hM h
      · exact Try.divDivModN h1 h2 s1 hL hle h

set_option maxHeartbeats 1000000 in
theorem Try.divGcd {v1 v2 : Value} {N M L : Nat} {w : World} (h1 : Nw w v1 N) (h2 : Nw w v2 M) (s1 : Sm L N) (s2 : Sm L M) (hL : L ≤ 300000) :
    Calls Try.prog 93 #[v1, v2] w fun e w' => ∃ v', e = .returned v' ∧ Nw w' v' (Nat.gcd N M) ∧ Ext w w' := by
  go_enter Try.func93, Try.ntmps93
  go_wp2
  go_loopw [0, 1, 5, 6, 7] (fun a b _ _ _ wr => ∃ A B, Nw wr a A ∧ Nw wr b B ∧ Sm L A ∧ Sm L B ∧ Hid (Nat.gcd A B = Nat.gcd N M) ∧ Ext w wr) (fun _ b _ _ _ wr => numOf wr b)
  case atStart => exact ⟨N, M, h1, h2, s1, s2, Lib.hid rfl, Ext.refl _⟩
  case round =>
    obtain ⟨A, B, hA, hB, sA, sB, hg, hE⟩ := hrel
    clear h1 h2
    have hB' := hB
    obtain ⟨a, n, cap, rfl, hn0, -⟩ := hB.len
    rcases Nat.eq_zero_or_pos n with rfl | hpos
    · have hB0 : B = 0 := hn0.1 rfl
      have HR : Hid (A = Nat.gcd N M) := Lib.hid (by rw [← hg.out, hB0, Nat.gcd_zero_right])
      clear hn0 hB0 hB hB'
      go_wp2
      go_ret
      exact ⟨_, rfl, by rw [← HR.out]; exact hA, hE⟩
    · have hBp : 0 < B := by
        rcases Nat.eq_zero_or_pos B with h | h
        · have := hn0.2 h; omega
        · exact h
      have HM : Hid (numOf wr (.slice a n cap) = B) := Lib.hid (numOf_eq hB)
      clear hn0
      go_wp2_with fail
      refine (Try.divDivMod hA hB sA hL).mono ?_
      rintro e w2 ⟨vq, vr, rfl, hq, hr, hE2, _, _⟩
      have hB2 := hB'.ext hE2
      rw [dvR_pos hBp] at hr
      have hrlt : A % B < B := Nat.mod_lt _ hBp
      have HMR : Hid (numOf w2 vr = A % B) := Lib.hid (numOf_eq hr)
      go_wp2
      go_roundw
      case rel => exact ⟨B, A % B, hB2, hr, sB, sB.le (Nat.le_of_lt hrlt), Lib.hid (by rw [← gcd_step]; exact hg.out), hE.trans hE2⟩
      case measure =>
        rw [HM.out]
        show numOf w2 vr < B
        rw [HMR.out]; exact hrlt

/-- a number's cells -/
theorem Nw.cells {w : World} {v : Value} {N L : Nat} (h : Nw w v N) (h1 : N < B64 ^ (L + 1)) (h2 : B64 ^ L ≤ N) :
    ∃ b o cap, v = .slice (some ⟨b, o, none⟩) (L + 1) cap ∧ L + 1 ≤ cap ∧ cap ≤ 9223372036854775807 ∧ ∀ i, i < L + 1 → w.cell? ⟨b, o + i, none⟩ = some (.int .u64 ((N / B64 ^ i % B64 : Nat) : Int)) := by
  obtain ⟨xs, ⟨a, b, o, cap, rfl, hs, hl⟩, hn, he⟩ := h
  have hb : 1 < B64 := by rw [B64_eq]; omega
  have l1 : xs.length ≤ L + 1 := (len_le_iff hb hl hn _).2 (he ▸ h1)
  have l2 : ¬ xs.length ≤ L := fun hh => by have := (len_le_iff hb hl hn _).1 hh; omega
  have l3 : xs.length = L + 1 := by omega
  have hc := hs.le
  have hm := hs.max
  obtain rfl := hs.addr (by omega)
  refine ⟨b, o, cap, by rw [l3], by omega, hm, fun i hi => ?_⟩
  rw [hs.cell (by omega)]
  unfold lg
  rw [limb_div hl i, he]

/-- a literal of one limb -/
theorem Nw.lit1 (w : World) (x : Nat) (e : TypeId) (hx : x < B64) (h0 : 0 < x) :
    Nw (w.alloc (.cells #[.int .u64 (x : Int)] e)) (.slice (some ⟨w.heap.size, 0, none⟩) 1 1) x :=
  ⟨[x], Nt.lit1 w x e hx, .inr (by show x ≠ 0; omega), ev_single _ _⟩

end Go.Rt
