/-
  The reference's product.
-/
import Derived.Test.YtbfojmhigfeahaaRefC
namespace Go.Rt
open Go.RowKit Go.Proofs

set_option maxHeartbeats 2000000 in
theorem Try.refMul {v1 v2 : Value} {N M L1 L2 : Nat} {w : World} (h1 : Nw w v1 N) (h2 : Nw w v2 M) (s1 : Sm L1 N) (s2 : Sm L2 M) (hL : L1 + L2 ≤ 10000000) :
    Calls Try.prog 51 #[v1, v2] w fun e w' => ∃ v', e = .returned v' ∧ Nw w' v' (N * M) ∧ Ext w w' ∧ Fr w v' := by
  obtain ⟨xs, t1, n1, rfl, l1⟩ := h1.lens s1
  obtain ⟨ys, t2, n2, rfl, l2⟩ := h2.lens s2
  clear h1 h2 n1 n2 s1 s2
  go_enter Try.func51, Try.ntmps51
  go_wp2_with fail
  refine (Try.halves t1 (by omega)).mono ?_
  rintro e w1 ⟨v1', x, rfl, hx, hxl, hxe, hE1⟩
  have HX := Lib.hid hxl; have HXE := Lib.hid hxe
  have t2 := t2.ext hE1
  have lx : x.length ≤ 2 * xs.length := by omega
  clear hxl hxe
  go_wp2_with fail
  refine (Try.halves t2 (by omega)).mono ?_
  rintro e w2 ⟨v2', y, rfl, hy, hyl, hye, hE2⟩
  have HY := Lib.hid hyl; have HYE := Lib.hid hye
  have hx := hx.ext hE2
  have ly : y.length ≤ 2 * ys.length := by omega
  clear hyl hye t1 t2
  obtain ⟨⟨a1, b1, o1, c1, rfl, hs1, hl1⟩, hx2⟩ := hx
  obtain ⟨⟨a2, b2, o2, c2, rfl, hs2, hl2⟩, hy2⟩ := hy
  have hm1 := hs1.max
  have hle1 := hs1.le
  have hm2 := hs2.max
  have hle2 := hs2.le
  have hE := hE1.trans hE2
  clear hE1 hE2
  go_wp2_with (at_make; go_loud (refine make_full Try.underlying22 Try.infoU rfl _ _ rfl w2.heap.size (x.length + y.length + 1) _ _ (by rfl) (by rfl) (by omega) (by omega) (by omega) (by omega) ?_); intro w3 hown0 hgrow0)
  have hE3 : Ext w2 w3 := (Ext.refl w2).grown hgrow0 (fun k e => by cases e)
  go_loopw [8, 9, 10, 11] (fun i _ _ _ wr => ∃ (k : Nat) (out : List Nat), i = .int .i64 (k : Int) ∧ k ≤ x.length ∧ Own wr w2.heap.size 43 (.slice (some ⟨w2.heap.size, 0, none⟩) (x.length + y.length + 1) (x.length + y.length + 1)) out ∧ Lim B32 out ∧ Hid (out.length = x.length + y.length + 1) ∧ Hid (∀ j, k + y.length ≤ j → out.getD j 0 = 0) ∧ Hid (ev B32 out = ev B32 (x.take k) * ev B32 y) ∧ Ext w2 wr) (fun i _ _ _ _ => x.length - (intOf i).toNat)
  case atStart => exact ⟨0, _, rfl, by omega, hown0, Lim.zeros B32_pos _, Lib.hid (by simp), Lib.hid (fun j _ => by simp [List.getElem?_replicate]; split <;> simp), Lib.hid (by rw [ev_zeros]; simp), hE3⟩
  case round =>
    obtain ⟨i, out, rfl, hi, hown, hlim, hlen, hz, hev, hEr⟩ := hrel
    by_cases hlt : i < x.length
    · obtain rfl : a1 = some ⟨b1, o1, none⟩ := hs1.addr (by omega)
      have bx : lg x i < B32 := hx2.getD B32_pos _
      go_wp2_with fail
      go_loopw [9, 10, 11] (fun c q _ wq => ∃ (k cc : Nat) (ou : List Nat), q = .int .i64 (k : Int) ∧ c = .int .u64 (cc : Int) ∧ k ≤ y.length ∧ cc < B32 ∧ Own wq w2.heap.size 43 (.slice (some ⟨w2.heap.size, 0, none⟩) (x.length + y.length + 1) (x.length + y.length + 1)) ou ∧ Lim B32 ou ∧ Hid (ou.length = x.length + y.length + 1) ∧ Hid (∀ j, i + y.length ≤ j → ou.getD j 0 = 0) ∧ Hid (ev B32 ou + B32 ^ (i + k) * cc = ev B32 (x.take i) * ev B32 y + B32 ^ i * (x.getD i 0 * ev B32 (y.take k))) ∧ Ext w2 wq) (fun _ q _ _ => y.length - (intOf q).toNat)
      case atStart => exact ⟨0, 0, out, rfl, rfl, by omega, B32_pos, hown, hlim, hlen, hz, Lib.hid (by rw [hev.out]; simp), hEr⟩
      case round =>
        obtain ⟨k, cc, ou, rfl, rfl, hk, hcc, hown2, hlim2, hlen2, hz2, hev2, hEq⟩ := hrel
        by_cases hlk : k < y.length
        · obtain rfl : a2 = some ⟨b2, o2, none⟩ := hs2.addr (by omega)
          have hcx := (hs1.ext hEq).cell hlt
          have hcy := (hs2.ext hEq).cell hlk
          have hco := hown2.cellAt (i := i + k) (by rw [hlen2.out]; omega)
          have hfo := hown2.frozenAt (i + k)
          have bo : lg ou (i + k) < B32 := hlim2.getD B32_pos _
          have by' : lg y k < B32 := hy2.getD B32_pos _
          obtain ⟨n, hn⟩ : ∃ n : Nat, n = lg ou (i + k) + lg x i * lg y k + cc := ⟨_, rfl⟩
          have hnB := mul_lt bo bx by' hcc hn
          rw [← B64_sq] at hnB
          have hv : IntKind.u64.wrap (IntKind.u64.wrap (((lg ou (i + k) : Nat) : Int) + IntKind.u64.wrap (((lg x i : Nat) : Int) * ((lg y k : Nat) : Int))) + (cc : Int)) = (n : Int) := by
            rw [wmul _ _ (by omega), wadd _ _ (by omega), wadd _ _ (by omega), hn]
          obtain ⟨d, hd⟩ : ∃ d : Nat, d = n / B32 := ⟨_, rfl⟩
          have hdv : IntKind.u64.wrap ((n : Int) / 4294967296) = (d : Int) := by rw [hd]; exact wdiv32 n hnB.1
          have hd1 : d < B32 := by rw [hd]; exact hnB.2
          have HN := Lib.hid hn; have HD := Lib.hid hd
          have hi0 : (0 : Int) ≤ (i : Int) := by omega
          have hiI : (i : Int) < (x.length : Int) := by omega
          have hk0 : (0 : Int) ≤ (k : Int) := by omega
          have hkI : (k : Int) < (y.length : Int) := by omega
          clear hn hd hnB hs1 hs2
          go_wp2
          go_quiet (fail)
          go_wp2
          go_roundw
          case rel =>
            refine ⟨k + 1, d, ou.set (i + k) (n % B32), by go_num, rfl, by omega, hd1, ?_, hlim2.set (Nat.mod_lt _ B32_pos) _, Lib.hid (by rw [List.length_set]; exact hlen2.out), Lib.hid (fun j hj => ?_), Lib.hid ?_, ?_⟩
            · exact Own.stored (xs := ou) (w := wr.drewN nq) hown2 (i + k) (n % B32) rfl
            · rw [getD_set_ne (by omega)]; exact hz2.out j hj
            · have h := mul_step (by rw [hlen2.out]; omega) hev2.out HN.out
              rw [← HD.out] at h
              exact h
            · exact (hEq.drewN _).setCell (Nat.le_refl _) _
          case measure => simp [intOf]; omega
        · obtain rfl : k = y.length := by omega
          have hco := hown2.cellAt (i := i + y.length) (by rw [hlen2.out]; omega)
          have hfo := hown2.frozenAt (i + y.length)
          clear hs1 hs2
          go_wp2
          go_roundw
          case rel =>
            have hl := hlen2.out
            refine ⟨i + 1, ou.set (i + y.length) cc, by go_num, by omega, ?_, hlim2.set hcc _, Lib.hid (by rw [List.length_set]; exact hl), Lib.hid (fun j hj => ?_), Lib.hid ?_, ?_⟩
            · exact Own.stored (xs := ou) hown2 (i + y.length) cc rfl
            · rw [getD_set_ne (by omega)]; exact hz2.out j (by omega)
            · exact mul_row (by omega) (hz2.out _ (Nat.le_refl _)) hev2.out
            · exact hEq.setCell (Nat.le_refl _) _
          case measure => simp [intOf]; omega
    · obtain rfl : i = x.length := by omega
      have hfin : ev B32 out = ev B64 xs * ev B64 ys := by
        have h := hev.out
        rw [List.take_length] at h
        rw [h, HXE.out, HYE.out]
      have HF := Lib.hid hfin
      have hol : out.length ≤ x.length + y.length + 1 := by rw [hlen.out]; omega
      have hn0 : Nt wr (.slice (some ⟨w2.heap.size, 0, none⟩) (x.length + y.length + 1) (x.length + y.length + 1)) out := hown.nt (hlim.mono (Nat.le_of_lt B32_lt))
      clear hfin hs1 hs2
      go_wp2_with (go_at_call 83; refine (Try.whole ⟨hn0, hlim⟩ (by omega)).mono ?_; rintro e w' ⟨v', rfl, hn, hx3, hf⟩)
      go_ret
      rw [HF.out] at hn
      exact ⟨_, rfl, hn, (hE.trans hEr).trans hx3, hf.back (hE.trans hEr)⟩

end Go.Rt
