/-
  The reference's Shr.
-/
import Derived.Test.YtbfojmhigfeahaaRefE
namespace Go.Rt
open Go.RowKit Go.Proofs

theorem shr_val {x y : Nat} (hx : x < B64) : IntKind.u64.wrap (IntKind.u64.wrap ((x : Int) / 2) + ((y : Int) % 2) * 9223372036854775808) = ((x / 2 + y % 2 * 9223372036854775808 : Nat) : Int) := by
  rw [B64_eq] at hx
  simp only [IntKind.wrap_u64]
  omega

set_option maxHeartbeats 2000000 in
theorem Try.refShr {v : Value} {N L : Nat} {w : World} (h : Nw w v N) (s : Sm L N) (hL : L ≤ 10000000) (n : Int) :
    Calls Try.prog 38 #[v, .int .i64 n] w fun e w' => ∃ v', e = .returned (.tuple #[v', .int .i64 (shE n)]) ∧ Nw w' v' (shrV N n) ∧ Ext w w' ∧ Fr w v' := by
  by_cases hr : n < 0 ∨ 20000 < n
  · have H1 : Hid (shE n = 1) := Lib.hid (if_pos hr)
    have H2 : Hid (shrV N n = 0) := Lib.hid (if_pos hr)
    rcases hr with hr | hr
    · go_enter Try.func38, Try.ntmps38
      go_wp2
      go_ret2
      exact ⟨_, by rw [H1.out]; rfl, by rw [H2.out]; exact Nw.nil _, Ext.refl _, Fr.nil _⟩
    · have hr0 : ¬ n < 0 := by omega
      go_enter Try.func38, Try.ntmps38
      go_wp2
      go_ret2
      exact ⟨_, by rw [H1.out]; rfl, by rw [H2.out]; exact Nw.nil _, Ext.refl _, Fr.nil _⟩
  · have H1 : Hid (shE n = 0) := Lib.hid (if_neg hr)
    have H2 : Hid (shrV N n = N / 2 ^ n.toNat) := Lib.hid (if_neg hr)
    have hr0 : ¬ n < 0 := by omega
    have hr1 : ¬ 20000 < n := by omega
    obtain ⟨k, rfl⟩ := Int.eq_ofNat_of_zero_le (show 0 ≤ n by omega)
    have hk : k ≤ 20000 := by omega
    have hk0 : 0 ≤ (k : Int) := by omega
    clear hr
    obtain ⟨xs, ⟨a, b, o, cap, rfl, hs, hl⟩, hn, rfl, l1⟩ := h.lens s
    clear h s hn
    have hmx := hs.max
    have hle := hs.le
    go_enter Try.func38, Try.ntmps38
    go_wp2_with fail
    go_loopw [6, 7, 8, 9, 10] (fun v i _ _ _ wr => ∃ (j : Nat) (l : List Nat), i = .int .i64 (j : Int) ∧ k / 64 ≤ j ∧ j ≤ k / 64 + xs.length ∧ Own wr w.heap.size 43 v l ∧ Lim B64 l ∧ l.length ≤ j ∧ Hid (l.length = j - k / 64) ∧ Hid (ev B64 l = ev B64 xs / 2 ^ k % B64 ^ (j - k / 64)) ∧ Ext w wr) (fun _ i _ _ _ _ => k / 64 + xs.length + 1 - (intOf i).toNat)
    case atStart => exact ⟨k / 64, [], by go_num, Nat.le_refl _, by omega, Own.lit w [] w.heap.size 43 (Nat.le_refl _) (Nat.zero_le _), Lim.nil _, Nat.zero_le _, Lib.hid (by simp), Lib.hid (by simp [Nat.mod_one]), Ext.alloc1 _ _⟩
    case round =>
      obtain ⟨j, l, rfl, hj1, hj2, hown, hlim, hlj, hll, hev, hEr⟩ := hrel
      have hEs := hEr.size
      by_cases hlt : j < xs.length
      · obtain rfl : a = some ⟨b, o, none⟩ := hs.addr (by omega)
        have hc := (hs.ext hEr).cell hlt
        have hx64 := lg_lt hl j
        have hy64 := lg_lt hl (j + 1)
        by_cases hlt2 : j + 1 < xs.length
        · have hc2 := (hs.ext hEr).cell hlt2
          clear hs
          go_wp2_with fail
          go_loop [8, 9, 10] (fun xx yy q => ∃ (x y t : Nat), xx = .int .u64 (x : Int) ∧ yy = .int .u64 (y : Int) ∧ q = .int .i64 (t : Int) ∧ t ≤ k % 64 ∧ x < B64 ∧ y < B64 ∧ Hid (x + B64 * y = (xs.getD j 0 + B64 * xs.getD (j + 1) 0) / 2 ^ t)) (fun _ _ q => k % 64 - (intOf q).toNat)
          case atStart => exact ⟨lg xs j, lg xs (j + 1), 0, rfl, rfl, rfl, by omega, hx64, hy64, Lib.hid (by rw [Nat.pow_zero, Nat.div_one]; rfl)⟩
          case round =>
            obtain ⟨x, y, t, rfl, rfl, rfl, ht, hx, hy, hT⟩ := hrel
            by_cases htl : t < k % 64
            · have hsh := shr_half hT.out hx
              have hw : IntKind.u64.wrap (IntKind.u64.wrap ((x : Int) / 2) + ((y : Int) % 2) * 9223372036854775808) = ((x / 2 + y % 2 * 9223372036854775808 : Nat) : Int) := shr_val hx
              have hw2 : IntKind.u64.wrap ((y : Int) / 2) = ((y / 2 : Nat) : Int) := wrap_u64 (y / 2) (Nat.lt_of_le_of_lt (Nat.div_le_self _ _) hy)
              have HSH := Lib.hid hsh; have HW := Lib.hid hw; have HW2 := Lib.hid hw2
              clear hsh hw hw2 hown hEr hx64 hy64 hc hc2
              go_wp2
              go_round
              case rel => exact ⟨x / 2 + y % 2 * 9223372036854775808, y / 2, t + 1, congrArg (Value.int .u64) HW.out, congrArg (Value.int .u64) HW2.out, by go_num, by omega, HSH.out.2, Nat.lt_of_le_of_lt (Nat.div_le_self _ _) hy, Lib.hid HSH.out.1⟩
              case measure => simp [intOf]; omega
            · obtain rfl : t = k % 64 := by omega
              have hxd : x = ev B64 xs / 2 ^ (64 * j + k % 64) % B64 := by
                rw [← shr_limb hl j (k % 64) (by omega), ← hT.out, Nat.add_mul_mod_self_left, Nat.mod_eq_of_lt hx]
              have HXD := Lib.hid hxd; clear hxd
              go_wp2_with (at_builtin; go_loud (refine append_one Try.underlying23 Try.infoU rfl _ _ rfl w.heap.size _ l x _ (by rfl) (by rfl) hown rfl (by omega) hEs ?_); intro v' w1 hown1 hgrow)
              go_roundw
              case rel =>
                refine ⟨j + 1, l ++ [x], by go_num, by omega, by omega, hown1, hlim.snoc hx, by simp; omega, Lib.hid ?_, Lib.hid ?_, ?_⟩
                · have := hll.out; simp; omega
                · rw [show j + 1 - k / 64 = (j - k / 64) + 1 from by omega]
                  exact shr_step hll.out hev.out (by rw [HXD.out]; congr 3; omega)
                · exact (hEr.trans (Ext.alloc1 wr _)).grown hgrow (fun j e => (hown.lt j e).1)
              case measure => simp [intOf]; omega
        · have hy0 : lg xs (j + 1) = 0 := by unfold lg; rw [List.getD_eq_getElem?_getD, List.getElem?_eq_none (by omega)]; rfl
          have HY0 := Lib.hid hy0
          clear hs hy0
          go_wp2_with fail
          go_loop [8, 9, 10] (fun xx yy q => ∃ (x y t : Nat), xx = .int .u64 (x : Int) ∧ yy = .int .u64 (y : Int) ∧ q = .int .i64 (t : Int) ∧ t ≤ k % 64 ∧ x < B64 ∧ y < B64 ∧ Hid (x + B64 * y = (xs.getD j 0 + B64 * xs.getD (j + 1) 0) / 2 ^ t)) (fun _ _ q => k % 64 - (intOf q).toNat)
          case atStart => exact ⟨lg xs j, 0, 0, rfl, rfl, rfl, by omega, hx64, B64_pos, Lib.hid (by rw [show xs.getD (j + 1) 0 = 0 from HY0.out, Nat.pow_zero, Nat.div_one]; rfl)⟩
          case round =>
            obtain ⟨x, y, t, rfl, rfl, rfl, ht, hx, hy, hT⟩ := hrel
            by_cases htl : t < k % 64
            · have hsh := shr_half hT.out hx
              have hw : IntKind.u64.wrap (IntKind.u64.wrap ((x : Int) / 2) + ((y : Int) % 2) * 9223372036854775808) = ((x / 2 + y % 2 * 9223372036854775808 : Nat) : Int) := shr_val hx
              have hw2 : IntKind.u64.wrap ((y : Int) / 2) = ((y / 2 : Nat) : Int) := wrap_u64 (y / 2) (Nat.lt_of_le_of_lt (Nat.div_le_self _ _) hy)
              have HSH := Lib.hid hsh; have HW := Lib.hid hw; have HW2 := Lib.hid hw2
              clear hsh hw hw2 hown hEr hx64 hy64 hc 
              go_wp2
              go_round
              case rel => exact ⟨x / 2 + y % 2 * 9223372036854775808, y / 2, t + 1, congrArg (Value.int .u64) HW.out, congrArg (Value.int .u64) HW2.out, by go_num, by omega, HSH.out.2, Nat.lt_of_le_of_lt (Nat.div_le_self _ _) hy, Lib.hid HSH.out.1⟩
              case measure => simp [intOf]; omega
            · obtain rfl : t = k % 64 := by omega
              have hxd : x = ev B64 xs / 2 ^ (64 * j + k % 64) % B64 := by
                rw [← shr_limb hl j (k % 64) (by omega), ← hT.out, Nat.add_mul_mod_self_left, Nat.mod_eq_of_lt hx]
              have HXD := Lib.hid hxd; clear hxd
              go_wp2_with (at_builtin; go_loud (refine append_one Try.underlying23 Try.infoU rfl _ _ rfl w.heap.size _ l x _ (by rfl) (by rfl) hown rfl (by omega) hEs ?_); intro v' w1 hown1 hgrow)
              go_roundw
              case rel =>
                refine ⟨j + 1, l ++ [x], by go_num, by omega, by omega, hown1, hlim.snoc hx, by simp; omega, Lib.hid ?_, Lib.hid ?_, ?_⟩
                · have := hll.out; simp; omega
                · rw [show j + 1 - k / 64 = (j - k / 64) + 1 from by omega]
                  exact shr_step hll.out hev.out (by rw [HXD.out]; congr 3; omega)
                · exact (hEr.trans (Ext.alloc1 wr _)).grown hgrow (fun j e => (hown.lt j e).1)
              case measure => simp [intOf]; omega
      · have hfin : ev B64 l = ev B64 xs / 2 ^ k := by rw [hev.out]; exact shr_end hl hj1 (by omega)
        have HF := Lib.hid hfin
        clear hs hfin
        go_wp2_with (go_at_call 72; refine (Try.refBare (hown.nt hlim) (by omega)).mono ?_; rintro e w' ⟨v', rfl, hn, hx, hf⟩)
        go_ret2
        rw [HF.out] at hn
        rw [H1.out, H2.out]
        exact ⟨_, rfl, hn, hEr.trans hx, hf.back hEr⟩

end Go.Rt
