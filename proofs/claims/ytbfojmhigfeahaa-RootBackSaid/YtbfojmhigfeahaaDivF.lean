/-
  div.DivMod: by nought, a lesser one, by one limb.
-/
import Derived.Test.YtbfojmhigfeahaaMathF
import Derived.Test.YtbfojmhigfeahaaDivE
import Derived.Test.YtbfojmhigfeahaaDivB
namespace Go.Rt
open Go.RowKit Go.Shelf Go.Proofs

def DM (w : World) (N M : Nat) (e : Ending) (w' : World) : Prop :=
  ∃ vq vr, e = .returned (.tuple #[vq, vr, .int .i64 (dvE M)]) ∧ Nw w' vq (N / M) ∧ Nw w' vr (dvR N M) ∧ Ext w w' ∧ Fr w vq ∧ Fr w vr

set_option maxHeartbeats 1000000 in
theorem Try.divDivMod0 {v1 v2 : Value} {N : Nat} {w : World} (h2 : Nw w v2 0) : Calls Try.prog 75 #[v1, v2] w (DM w N 0) := by
  obtain ⟨a, n, cap, rfl, hn0, -⟩ := h2.len
  obtain rfl : n = 0 := hn0.2 rfl
  have HE : Hid (dvE 0 = 4) := Lib.hid rfl
  have HQ : Hid (N / 0 = 0) := Lib.hid (Nat.div_zero _)
  have HR : Hid (dvR N 0 = 0) := Lib.hid (if_pos rfl)
  clear h2 hn0
  go_enter Try.func75, Try.ntmps75
  go_wp2
  go_ret3
  exact ⟨_, _, by rw [HE.out]; rfl, by rw [HQ.out]; exact Nw.nil _, by rw [HR.out]; exact Nw.nil _, Ext.alloc1 _ _, Fr.nil _, Fr.nil _⟩

set_option maxHeartbeats 1000000 in
theorem Try.divDivModL {v1 v2 : Value} {N M L : Nat} {w : World} (h1 : Nw w v1 N) (h2 : Nw w v2 M) (s1 : Sm L N) (hL : L ≤ 1000000) (hlt : N < M) : Calls Try.prog 75 #[v1, v2] w (DM w N M) := by
  have h2' := h2
  obtain ⟨a, n, cap, rfl, hn0, -⟩ := h2.len
  obtain ⟨xs, hx, hxn, hxe, hxl⟩ := h1.lens s1
  have hn1 : 1 ≤ n := by
    rcases Nat.eq_zero_or_pos n with h | h
    · have := hn0.1 h; omega
    · exact h
  have hnb : ((n : Int) == 0) = false := beq_eq_false_iff_ne.2 (by omega)
  have HE : Hid (dvE M = 0) := Lib.hid (dvE_pos (by omega))
  have HQ : Hid (N / M = 0) := Lib.hid (Nat.div_eq_of_lt hlt)
  have HR : Hid (dvR N M = ev B64 xs) := Lib.hid (by rw [dvR_pos (by omega), Nat.mod_eq_of_lt hlt, hxe])
  have HC : Hid (cmpI N M = -1) := Lib.hid (cmpI_nat_lt hlt)
  have HX := Lib.hid hxe
  have HN := Lib.hid hxn
  clear h2 hn0 hxe hlt hxn
  go_enter Try.func75, Try.ntmps75
  go_wp2_with fail
  refine (Try.natCmp (h1.ext (Ext.alloc1 _ _)) (h2'.ext (Ext.alloc1 _ _))).mono ?_
  rintro e w1 ⟨rfl, hE1⟩
  rw [HC.out]
  have hE2 := (Ext.alloc1 w _).trans hE1
  go_wp2_with fail
  refine (Try.clone (hx.ext hE2) (by omega)).mono ?_
  rintro e w2 ⟨v', rfl, hown, hE3⟩
  have hlim := (hx.lim)
  have hnt := hown.nt hlim
  have hfr := hown.fr
  have HF := Lib.hid (Fr.back hfr hE2)
  go_wp2
  go_ret3
  exact ⟨_, _, by rw [HE.out]; rfl, by rw [HQ.out]; exact Nw.nil _, by rw [HR.out]; exact ⟨xs, hnt, HN.out, rfl⟩, hE2.trans hE3, Fr.nil _, HF.out⟩

set_option maxHeartbeats 1000000 in
theorem Try.divDivMod1 {v1 v2 : Value} {N M L : Nat} {w : World} (h1 : Nw w v1 N) (h2 : Nw w v2 M) (s1 : Sm L N) (hL : L ≤ 1000000) (hle : M ≤ N) (hM : 0 < M) (hM1 : M < B64) : Calls Try.prog 75 #[v1, v2] w (DM w N M) := by
  have h2' := h2
  obtain ⟨ys, ⟨a, b, o, cap, rfl, hs, hl⟩, hyn, hye, hyl⟩ := h2.lens (Sm.one hM1)
  have hy1 : ys.length = 1 := by
    rcases Nat.eq_zero_or_pos ys.length with h | h
    · have := (hyn.zero_iff B64_pos).2 h; omega
    · omega
  have hc0 := hs.cell (i := 0) (by omega)
  obtain rfl := hs.addr (by omega)
  have hlg : lg ys 0 = M := by
    match ys, hy1, hye with
    | [y], _, hye => simpa [lg, ev_single] using hye
  rw [hlg, Nat.add_zero] at hc0
  rw [hy1] at h2'
  rw [hy1]
  have HE : Hid (dvE M = 0) := Lib.hid (dvE_pos hM)
  have HR : Hid (dvR N M = N % M) := Lib.hid (dvR_pos hM)
  obtain ⟨cc, hcc⟩ : ∃ c, c = cmpI N M := ⟨_, rfl⟩
  have hc2 : ¬ (cc < 0) := by
    rw [hcc]
    rcases Nat.lt_or_ge M N with h | h
    · rw [cmpI_nat_gt h]; omega
    · rw [cmpI_nat_eq (by omega)]; omega
  have HC := Lib.hid hcc
  have hNM : N % M < B64 := Nat.lt_trans (Nat.mod_lt _ hM) hM1
  have hcap := hs.le
  have hcap2 := hs.max
  rw [hy1] at hcap
  clear h2 hyn hye hyl hcc hs hy1 hlg hl
  have hcw := (Ext.alloc1 w (.cells #[.int .i64 1] 3)).cell hc0
  go_enter Try.func75, Try.ntmps75
  go_wp2_with fail
  refine (Try.natCmp (h1.ext (Ext.alloc1 _ _)) (h2'.ext (Ext.alloc1 _ _))).mono ?_
  rintro e w1 ⟨rfl, hE1⟩
  rw [← HC.out]
  have hE2 := (Ext.alloc1 w _).trans hE1
  have hbox := (box_ext hE1 (Boxed.new w 3 (.int .i64 1))).cell
  have hc1 := hE1.cell hcw
  go_wp2_with fail
  refine (Try.divShort (h1.ext hE2) s1 hL hM hM1).mono ?_
  rintro e w2 ⟨vq, rfl, hq, hE3, hfq⟩
  go_wp2_with fail
  refine (Try.natOf (N % M) _ hNM).mono ?_
  rintro e w3 ⟨vr, rfl, hr, hE4, hfr⟩
  have hE23 := hE2.trans hE3
  have hq4 := hq.ext hE4
  have f1 := Fr.back hfq hE2
  have f2 := Fr.back hfr hE23
  go_wp2
  go_ret3
  exact ⟨_, _, by rw [HE.out]; rfl, hq4, by rw [HR.out]; exact hr, hE23.trans hE4, f1, f2⟩
end Go.Rt
