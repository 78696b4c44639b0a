/-
  Contracts of the references' sums, differences, products.
-/
import Derived.Test.YtbfojmhigfeahaaRefB
namespace Go.Rt
open Go.RowKit Go.Proofs

set_option maxHeartbeats 1000000 in
theorem Try.refAdd {v1 v2 : Value} {N M L : Nat} {w : World} (h1 : Nw w v1 N) (h2 : Nw w v2 M) (s1 : Sm L N) (s2 : Sm L M) (hL : L ≤ 10000000) :
    Calls Try.prog 49 #[v1, v2] w fun e w' => ∃ v', e = .returned v' ∧ Nw w' v' (N + M) ∧ Ext w w' ∧ Fr w v' := by
  obtain ⟨xs, t1, n1, rfl, l1⟩ := h1.lens s1
  obtain ⟨ys, t2, n2, rfl, l2⟩ := h2.lens s2
  clear h1 h2 n1 n2 s1 s2
  go_enter Try.func49, Try.ntmps49
  go_wp2_with fail
  refine (Try.halves t1 (by omega)).mono ?_
  rintro e w1 ⟨v1', x, rfl, hx, hxl, hxe, hE1⟩
  have HX := Lib.hid hxl; have HXE := Lib.hid hxe
  have t2 := t2.ext hE1
  have lx : x.length ≤ 2 * xs.length := by omega
  clear hxl hxe
  go_wp2_with fail
  refine (Try.halves t2 (by omega)).mono ?_
  rintro e w2 ⟨v2', y, rfl, hy, hyl, hye, hE2⟩
  have HY := Lib.hid hyl; have HYE := Lib.hid hye
  have hx := hx.ext hE2
  have ly : y.length ≤ 2 * ys.length := by omega
  clear hyl hye t1 t2
  obtain ⟨⟨a1, b1, o1, c1, rfl, hs1, hl1⟩, hx2⟩ := hx
  obtain ⟨⟨a2, b2, o2, c2, rfl, hs2, hl2⟩, hy2⟩ := hy
  have hx' : Hv w2 (.slice a1 x.length c1) x := ⟨⟨a1, b1, o1, c1, rfl, hs1, hl1⟩, hx2⟩
  have hy' : Hv w2 (.slice a2 y.length c2) y := ⟨⟨a2, b2, o2, c2, rfl, hs2, hl2⟩, hy2⟩
  have hE := hE1.trans hE2
  clear hs1 hs2 hE1 hE2
  go_wp2_with fail
  go_loopw [7, 8, 9, 10] (fun v c i _ wr => ∃ (k cc : Nat) (l : List Nat), i = .int .i64 (k : Int) ∧ c = .int .u64 (cc : Int) ∧ k ≤ max x.length y.length + 1 ∧ cc ≤ 1 ∧ Own wr w2.heap.size 43 v l ∧ Lim B32 l ∧ l.length ≤ k ∧ Hid (l.length = k) ∧ Hid (ev B32 l + B32 ^ k * cc = ev B32 (x.take k) + ev B32 (y.take k)) ∧ Ext w2 wr) (fun _ _ i _ _ => max x.length y.length + 1 - (intOf i).toNat)
  case atStart => exact ⟨0, 0, [], rfl, rfl, by omega, by omega, Own.lit w2 [] w2.heap.size 43 (Nat.le_refl _) (Nat.zero_le _), Lim.nil _, Nat.le_refl _, Lib.hid rfl, Lib.hid rfl, Ext.alloc1 _ _⟩
  case round =>
    obtain ⟨k, cc, l, rfl, rfl, hk, hc, hown, hlim, hll, HLL, hev, hEr⟩ := hrel
    have hEs := hEr.size
    have hEs0 := hE.size
    have bx : lg x k < B32 := hx2.getD B32_pos _
    have by' : lg y k < B32 := hy2.getD B32_pos _
    by_cases hlt : k < max x.length y.length + 1
    · obtain ⟨n, hn⟩ : ∃ n : Nat, n = lg x k + lg y k + cc := ⟨_, rfl⟩
      have hv : IntKind.u64.wrap (IntKind.u64.wrap (((lg x k : Nat) : Int) + ((lg y k : Nat) : Int)) + (cc : Int)) = (n : Int) := by
        rw [B32_eq] at bx by'
        rw [wadd _ _ (by rw [B64_eq]; omega), wadd _ _ (by rw [B64_eq]; omega), hn]
      have hnlt : n < 2 * B32 := by omega
      have HN := Lib.hid hn; clear hn bx by'
      have hltI : (k : Int) < max (x.length : Int) (y.length : Int) + 1 := by omega
      go_wp2_with (first | (go_at_call 82; first | ((with_reducible refine (Try.at (hx'.ext hEr) k).mono ?_); rintro e w' ⟨rfl, rfl⟩) | ((with_reducible refine (Try.at (hy'.ext hEr) k).mono ?_); rintro e w' ⟨rfl, rfl⟩)) | (at_builtin; go_loud (refine append_one Try.underlying22 Try.infoU rfl _ _ rfl w2.heap.size _ l (n % B32) _ (by rfl) (by rfl) hown (by rfl) (by omega) (by omega) ?_); intro v' w3 hown1 hgrow))
      go_roundw
      case rel =>
        have hn := HN.out
        have hb : B32 = 4294967296 := rfl
        have hn64 : n < B64 := by rw [B64_eq]; omega
        refine ⟨k + 1, n / B32, l ++ [n % B32], by go_num, congrArg (Value.int .u64) (wdiv32 n hn64), by omega, by rw [hb]; omega, hown1, hlim.snoc (Nat.mod_lt _ B32_pos), by simp; omega, Lib.hid ?_, Lib.hid ?_, ?_⟩
        · have := HLL.out; simp; omega
        · rw [hn]; exact add_step HLL.out hev.out
        · exact (hEr.trans (Ext.alloc1 wr _)).grown hgrow (fun j e => (hown.lt j e).1)
      case measure => simp [intOf]; omega
    · clear bx by'
      have hltI : ¬ (k : Int) < max (x.length : Int) (y.length : Int) + 1 := by omega
      have hkm : k = max x.length y.length + 1 := by omega
      have hfin : ev B32 l = ev B64 xs + ev B64 ys := by
        have h := hev.out
        rw [hkm] at h
        rw [add_end (by decide) hx2 hy2 (by omega) (by omega) h, HXE.out, HYE.out]
      have HF := Lib.hid hfin; clear hfin hkm
      go_wp2_with (go_at_call 83; refine (Try.whole ⟨hown.nt (hlim.mono (Nat.le_of_lt B32_lt)), hlim⟩ (by omega)).mono ?_; rintro e w' ⟨v', rfl, hn, hx3, hf⟩)
      all_goals go_ret
      all_goals rw [HF.out] at hn
      all_goals exact ⟨_, rfl, hn, (hE.trans hEr).trans hx3, hf.back (hE.trans hEr)⟩

/-- the error of a difference -/
def subE (N M : Nat) : Int := if N < M then 2 else 0
theorem wsub32 {p q c : Nat} (hp : p < B32) (hq : q < B32) (hc : c ≤ 1) :
    IntKind.u64.wrap (IntKind.u64.wrap (IntKind.u64.wrap (4294967296 + (p : Int)) - (q : Int)) - (c : Int)) = ((B32 + p - q - c : Nat) : Int) := by
  rw [B32_eq] at *
  simp only [IntKind.wrap_u64]
  omega
theorem wborrow {d : Nat} (hd : d ≤ 1) : IntKind.u64.wrap (1 - (d : Int)) = ((1 - d : Nat) : Int) := by
  simp only [IntKind.wrap_u64]; omega

set_option maxHeartbeats 1000000 in
theorem Try.refSub {v1 v2 : Value} {N M L : Nat} {w : World} (h1 : Nw w v1 N) (h2 : Nw w v2 M) (s1 : Sm L N) (s2 : Sm L M) (hL : L ≤ 10000000) :
    Calls Try.prog 53 #[v1, v2] w fun e w' => ∃ v', e = .returned (.tuple #[v', .int .i64 (subE N M)]) ∧ Nw w' v' (N - M) ∧ Ext w w' ∧ Fr w v' := by
  by_cases hlt : N < M
  · have hc : (cmpI N M) < 0 := cmpI_neg.2 (by omega)
    have HS : Hid (subE N M = 2) := Lib.hid (if_pos hlt)
    have H0 : Hid (N - M = 0) := Lib.hid (by omega)
    clear hlt
    go_enter Try.func53, Try.ntmps53
    go_wp2_with (go_at_call 52; refine (Try.refCmp h1 h2).mono ?_; rintro e w1 ⟨rfl, hE⟩)
    go_ret2
    rw [H0.out, HS.out]
    exact ⟨_, rfl, Nw.nil _, hE, Fr.nil _⟩
  · have hc : ¬ (cmpI N M) < 0 := fun h => hlt (by have := cmpI_neg.1 h; omega)
    have HS : Hid (subE N M = 0) := Lib.hid (if_neg hlt)
    have hMN : M ≤ N := by omega
    clear hlt
    go_enter Try.func53, Try.ntmps53
    go_wp2_with fail
    refine (Try.refCmp h1 h2).mono ?_
    rintro e w0 ⟨rfl, hE0⟩
    replace h1 := h1.ext hE0
    replace h2 := h2.ext hE0
    obtain ⟨xs, t1, n1, rfl, l1⟩ := h1.lens s1
    obtain ⟨ys, t2, n2, rfl, l2⟩ := h2.lens s2
    have lyx : ys.length ≤ xs.length := by
      rcases Nat.lt_or_ge xs.length ys.length with h | h
      · have := ev_lt_of_len B64_pos t1.lim n2 h; omega
      · exact h
    clear h1 h2 n1 n2 s1 s2
    have HMN := Lib.hid hMN; clear hMN
    go_wp2_with fail
    refine (Try.halves t1 (by omega)).mono ?_
    rintro e w1 ⟨v1', x, rfl, hx, hxl, hxe, hE1⟩
    have HX := Lib.hid hxl; have HXE := Lib.hid hxe
    have t2 := t2.ext hE1
    have lx : x.length ≤ 2 * xs.length := by omega
    clear hxl hxe
    go_wp2_with fail
    refine (Try.halves t2 (by omega)).mono ?_
    rintro e w2 ⟨v2', y, rfl, hy, hyl, hye, hE2⟩
    have HY := Lib.hid hyl; have HYE := Lib.hid hye
    have hx := hx.ext hE2
    have ly : y.length ≤ x.length := by have := HX.out; omega
    clear hyl hye t1 t2
    obtain ⟨⟨a1, b1, o1, c1, rfl, hs1, hl1⟩, hx2⟩ := hx
    obtain ⟨⟨a2, b2, o2, c2, rfl, hs2, hl2⟩, hy2⟩ := hy
    have hy' : Hv w2 (.slice a2 y.length c2) y := ⟨⟨a2, b2, o2, c2, rfl, hs2, hl2⟩, hy2⟩
    have hm1 := hs1.max
    have hle1 := hs1.le
    have hE := hE0.trans (hE1.trans hE2)
    clear hs2 hE1 hE2 hE0
    go_wp2_with fail
    go_loopw [8, 9, 10, 11] (fun v c i _ wr => ∃ (k cc : Nat) (l : List Nat), i = .int .i64 (k : Int) ∧ c = .int .u64 (cc : Int) ∧ k ≤ x.length ∧ cc ≤ 1 ∧ Own wr w2.heap.size 43 v l ∧ Lim B32 l ∧ l.length ≤ k ∧ Hid (l.length = k) ∧ Hid (ev B32 l + ev B32 (y.take k) = ev B32 (x.take k) + B32 ^ k * cc) ∧ Ext w2 wr) (fun _ _ i _ _ => x.length - (intOf i).toNat)
    case atStart => exact ⟨0, 0, [], rfl, rfl, by omega, by omega, Own.lit w2 [] w2.heap.size 43 (Nat.le_refl _) (Nat.zero_le _), Lim.nil _, Nat.le_refl _, Lib.hid rfl, Lib.hid rfl, Ext.alloc1 _ _⟩
    case round =>
      obtain ⟨k, cc, l, rfl, rfl, hk, hc', hown, hlim, hll, HLL, hev, hEr⟩ := hrel
      have hEs := hEr.size
      have bx : lg x k < B32 := hx2.getD B32_pos _
      have by' : lg y k < B32 := hy2.getD B32_pos _
      by_cases hlt : k < x.length
      · obtain rfl : a1 = some ⟨b1, o1, none⟩ := hs1.addr (by omega)
        have hcell := (hs1.ext hEr).cell hlt
        obtain ⟨n, hn⟩ : ∃ n : Nat, n = B32 + lg x k - lg y k - cc := ⟨_, rfl⟩
        have hv : IntKind.u64.wrap (IntKind.u64.wrap (IntKind.u64.wrap (4294967296 + ((lg x k : Nat) : Int)) - ((lg y k : Nat) : Int)) - (cc : Int)) = (n : Int) := by rw [wsub32 bx by' hc', hn]
        obtain ⟨d, hd⟩ : ∃ d : Nat, d = n / B32 := ⟨_, rfl⟩
        have hstep := sub_step B32_pos HLL.out hc' bx by' hev.out hn
        rw [← hd] at hstep
        have hnB : n < B64 := by rw [hn, B64_eq]; rw [B32_eq] at *; omega
        have hdv : IntKind.u64.wrap ((n : Int) / 4294967296) = (d : Int) := by rw [hd]; exact wdiv32 n hnB
        have hdb := wborrow hstep.2.2
        have HN := Lib.hid hn; have HD := Lib.hid hd; have HSt := Lib.hid hstep.1
        have hd1 := hstep.2.2
        have hk0 : (0 : Int) ≤ (k : Int) := by omega
        have hkI : (k : Int) < (x.length : Int) := by omega
        clear hn hd hstep hnB
        go_wp2
        go_quiet ((go_at_call 82; exact quiet_same (Try.at ((hy'.ext hEr).ext (Ext.drewN (Ext.refl _) _)) k)))
        go_wp2_with (at_builtin; go_loud (refine append_one Try.underlying22 Try.infoU rfl _ _ rfl w2.heap.size _ l (n % B32) _ (by rfl) (by rfl) hown (by rfl) (by omega) (by first | omega | exact hEs) ?_); intro v' w3 hown1 hgrow)
        go_roundw
        case rel =>
          refine ⟨k + 1, 1 - d, l ++ [n % B32], by go_num, rfl, by omega, by omega, hown1, hlim.snoc (Nat.mod_lt _ B32_pos), by simp; omega, Lib.hid ?_, Lib.hid ?_, ?_⟩
          · have := HLL.out; simp; omega
          · exact HSt.out
          · exact (hEr.trans ((Ext.alloc1 wr _).drewN _)).grown hgrow (fun j e => (hown.lt j e).1)
        case measure => simp [intOf]; omega
      · clear bx by'
        obtain rfl : k = x.length := by omega
        have hfin : ev B32 l = ev B64 xs - ev B64 ys := by
          rw [← HXE.out, ← HYE.out]
          exact sub_end hlim HLL.out ly (by rw [HXE.out, HYE.out]; exact HMN.out) hev.out
        have HF := Lib.hid hfin; clear hfin hs1
        go_wp2_with (go_at_call 83; refine (Try.whole ⟨hown.nt (hlim.mono (Nat.le_of_lt B32_lt)), hlim⟩ (by omega)).mono ?_; rintro e w' ⟨v', rfl, hn, hx3, hf⟩)
        all_goals go_ret2
        all_goals rw [HF.out] at hn
        all_goals exact ⟨_, by rw [HS.out]; rfl, hn, (hE.trans hEr).trans hx3, hf.back (hE.trans hEr)⟩

end Go.Rt
