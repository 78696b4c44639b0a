/-
  div.Shl.
-/
import Derived.Test.YtbfojmhigfeahaaRefH
namespace Go.Rt
open Go.RowKit Go.Proofs

/-- a part ahead of a row of the call's own -/
theorem Own.take {w : World} {base e g n cap : Nat} {l : List Nat} (h : Own w base e (.slice (.some ⟨g, 0, none⟩) n cap) l) (k : Nat) (hk : k ≤ l.length) :
    Own w base e (.slice (.some ⟨g, 0, none⟩) k cap) (l.take k) := by
  obtain ⟨_, h2⟩ := h
  rcases h2 with ⟨h2, _⟩ | ⟨g', cap', cur, hv, hb, hg, hc, hm, hz, ht⟩
  · cases h2
  · cases hv
    have hl : (l.take k).length = k := by rw [List.length_take]; omega
    refine ⟨by simp, .inr ⟨g, cap, cur, by rw [hl], hb, hg, by rw [hl]; omega, hm, hz, ?_⟩⟩
    rw [hl, List.map_take, ← ht, List.take_take]
    congr 1; omega

/-- what is handed back: a row of the call's own, of these limbs -/
def OwnNum (w0 w : World) (e : Nat) (v : Value) (N : Nat) : Prop := ∃ ys, Own w w0.heap.size e v ys ∧ Lim B64 ys ∧ Norm ys ∧ ev B64 ys = N
theorem OwnNum.nil (w0 w : World) (e : Nat) : OwnNum w0 w e (.slice none 0 0) 0 := ⟨[], Own.nil _ _ _, Lim.nil _, .inl rfl, rfl⟩
theorem OwnNum.nw {w0 w : World} {e : Nat} {v : Value} {N : Nat} (h : OwnNum w0 w e v N) : Nw w v N := let ⟨ys, h1, h2, h3, h4⟩ := h; ⟨ys, h1.nt h2, h3, h4⟩
theorem OwnNum.fr {w0 w : World} {e : Nat} {v : Value} {N : Nat} (h : OwnNum w0 w e v N) : Fr w0 v := let ⟨_, h1, _⟩ := h; h1.fr

set_option maxHeartbeats 2000000 in
theorem Try.divShlO {v : Value} {N L : Nat} {w : World} (h : Nw w v N) (s : Sm L N) (hL : L ≤ 1000000) (n : Int) :
    Calls Try.prog 65 #[v, .int .i64 n] w fun e w' => ∃ v', e = .returned (.tuple #[v', .int .i64 (shE n)]) ∧ OwnNum w w' 43 v' (shlV N n) ∧ Ext w w' := by
  by_cases hr : n < 0 ∨ 20000 < n
  · have H1 : Hid (shE n = 1) := Lib.hid (if_pos hr)
    have H2 : Hid (shlV N n = 0) := Lib.hid (if_pos hr)
    rcases hr with hr | hr
    · go_enter Try.func65, Try.ntmps65
      go_wp2
      go_ret2
      exact ⟨_, by rw [H1.out]; rfl, by rw [H2.out]; exact OwnNum.nil _ _ _, Ext.refl _⟩
    · have hr0 : ¬ n < 0 := by omega
      go_enter Try.func65, Try.ntmps65
      go_wp2
      go_ret2
      exact ⟨_, by rw [H1.out]; rfl, by rw [H2.out]; exact OwnNum.nil _ _ _, Ext.refl _⟩
  · have H1 : Hid (shE n = 0) := Lib.hid (if_neg hr)
    have H2 : Hid (shlV N n = N * 2 ^ n.toNat) := Lib.hid (if_neg hr)
    have hr0 : ¬ n < 0 := by omega
    have hr1 : ¬ 20000 < n := by omega
    obtain ⟨k, rfl⟩ := Int.eq_ofNat_of_zero_le (show 0 ≤ n by omega)
    have hk : k ≤ 20000 := by omega
    have hk0 : 0 ≤ (k : Int) := by omega
    clear hr
    obtain ⟨xs, ⟨a, b, o, cap, rfl, hs, hl⟩, hn, rfl, l1⟩ := h.lens s
    clear h s hn
    have hmx := hs.max
    have hle := hs.le
    go_enter Try.func65, Try.ntmps65
    go_wp2_with (at_make; go_loud (refine make_part Try.underlying23 Try.infoU rfl _ _ rfl w.heap.size (k / 64) (k / 64 + xs.length + 1) _ _ (by rfl) (by rfl) (by omega) (by omega) (by omega) (by omega) (by omega) ?_); intro w1 hown0 hgrow0)
    have hE1 : Ext w w1 := (Ext.refl w).grown hgrow0 (fun k e => by cases e)
    go_loopw [6, 8, 10, 30] (fun v c _ i wr => ∃ (j cc : Nat) (l : List Nat), i = .int .i64 (j : Int) ∧ c = .int .u64 (cc : Int) ∧ j ≤ xs.length ∧ cc < 2 ^ (k % 64) ∧ Own wr w.heap.size 43 v l ∧ Lim B64 l ∧ l.length ≤ k / 64 + j ∧ Hid (l.length = k / 64 + j) ∧ Hid (ev B64 l + B64 ^ (k / 64 + j) * cc = ev B64 (xs.take j) * 2 ^ k) ∧ Ext w wr) (fun _ _ _ i _ => xs.length - (intOf i).toNat)
    case atStart => exact ⟨0, 0, _, rfl, rfl, by omega, Nat.two_pow_pos _, hown0, Lim.zeros B64_pos _, by simp, Lib.hid (by simp), Lib.hid (by simp [ev_zeros]), hE1⟩
    case round =>
      obtain ⟨j, cc, l, rfl, rfl, hj, hcc, hown, hlim, hlj, hll, hev, hEr⟩ := hrel
      have hEs := hEr.size
      by_cases hlt : j < xs.length
      · obtain rfl : a = some ⟨b, o, none⟩ := hs.addr (by omega)
        have hc := (hs.ext hEr).cell hlt
        have hx64 := lg_lt hl j
        have hjI : (j : Int) < (xs.length : Int) := by omega
        clear hs
        obtain ⟨f1, f2, f3, f4⟩ := shl_fig (c := cc) (b := k % 64) hx64 hcc (by omega)
        have hv := w_shl_or hcc (show k % 64 ≤ 64 by omega) f4
        have HV := Lib.hid hv
        have HF := Lib.hid f1
        obtain ⟨y, hy⟩ : ∃ y, y = lg xs j * 2 ^ (k % 64) % B64 + cc := ⟨_, rfl⟩
        rw [← hy] at f2
        have HY := Lib.hid hy
        have HC := Lib.hid hcc
        clear f1 f3 f4 hv hcc hy
        go_wp2_with (at_builtin; go_loud (refine append_one Try.underlying23 Try.infoU rfl _ _ rfl w.heap.size _ l y _ (by rfl) (by rfl) hown (by rw [HV.out, HY.out]) (by omega) hEs ?_); intro v' w2 hown1 hgrow)
        go_roundw
        case rel =>
          have hy := HY.out
          obtain ⟨f1, _, f3, _⟩ := shl_fig (c := cc) (b := k % 64) hx64 HC.out (by omega)
          refine ⟨j + 1, lg xs j / 2 ^ (64 - k % 64), l ++ [y], by go_num, congrArg (Value.int .u64) (w_shr _ _), by omega, f3, hown1, hlim.snoc f2, by simp; omega, Lib.hid ?_, Lib.hid ?_, ?_⟩
          · have := hll.out; simp; omega
          · exact shl_step hll.out hev.out (by rw [hy]; exact HF.out)
          · exact (hEr.trans (Ext.alloc1 wr _)).grown hgrow (fun j e => (hown.lt j e).1)
        case measure => simp [intOf]; omega
      · obtain rfl : j = xs.length := by omega
        have hcc64 : cc < B64 := Nat.lt_of_lt_of_le hcc (by rw [B64_two]; exact Nat.pow_le_pow_right (by omega) (by omega))
        have HFI := Lib.hid (shl_end hll.out hev.out)
        clear hs hcc
        go_wp2_with (at_builtin; go_loud (refine append_one Try.underlying23 Try.infoU rfl _ _ rfl w.heap.size _ l cc _ (by rfl) (by rfl) hown rfl (by omega) hEs ?_); intro v' w2 hown1 hgrow)
        have hE2 := (hEr.trans (Ext.alloc1 wr (.cells #[.int .u64 (cc : Int)] 43))).grown hgrow (fun j e => (hown.lt j e).1)
        obtain ⟨g2, cap2, rfl, -, -, -⟩ := hown1.some (by simp)
        have hnt := hown1.nt (hlim.snoc hcc64)
        obtain ⟨a2, b2, o2, cap2', hv2, hs2, hl2⟩ := hnt
        cases hv2
        refine (Try.divBare_loop _ b2 o2 cap2 _ _ hs2).mono ?_
        rintro e w' ⟨rfl, k2, rfl, hk2, hk0, hz2⟩
        have HO : Hid (OwnNum w w2 43 (.slice (some ⟨g2, 0, none⟩) k2 cap2) (ev B64 xs * 2 ^ k)) := Lib.hid ⟨_, hown1.take k2 hk2, hl2.take k2, norm_take hk2 hk0, by rw [bare_take hk2 hz2]; exact HFI.out⟩
        clear hz2 hs2 hgrow hk0
        go_wp2
        go_ret2
        rw [H1.out, H2.out]
        exact ⟨_, rfl, HO.out, hE2⟩

theorem Try.divShl {v : Value} {N L : Nat} {w : World} (h : Nw w v N) (s : Sm L N) (hL : L ≤ 1000000) (n : Int) :
    Calls Try.prog 65 #[v, .int .i64 n] w fun e w' => ∃ v', e = .returned (.tuple #[v', .int .i64 (shE n)]) ∧ Nw w' v' (shlV N n) ∧ Ext w w' ∧ Fr w v' :=
  (Try.divShlO h s hL n).mono fun _ _ ⟨v', h1, h2, h3⟩ => ⟨v', h1, h2.nw, h3, h2.fr⟩

end Go.Rt
