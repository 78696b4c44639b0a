/-
  Contracts of the references' halves, whole and at.
-/
import Derived.Test.YtbfojmhigfeahaaRefA
namespace Go.Rt
open Go.RowKit Go.Proofs

/-- a slice of figures of 32 bits, as the references keep them -/
def Hv (w : World) (v : Value) (l : List Nat) : Prop := Nt w v l ∧ Lim B32 l
theorem Hv.ext {w w' : World} (h : Ext w w') {v : Value} {l : List Nat} (k : Hv w v l) : Hv w' v l := ⟨k.1.ext h, k.2⟩

set_option maxHeartbeats 1000000 in
theorem Try.halves {v : Value} {xs : List Nat} {w : World} (h : Nt w v xs) (hlen : xs.length ≤ 1073741824) :
    Calls Try.prog 81 #[v] w fun e w' => ∃ v' l, e = .returned v' ∧ Hv w' v' l ∧ l.length = 2 * xs.length ∧ ev B32 l = ev B64 xs ∧ Ext w w' := by
  obtain ⟨a, b, o, cap, rfl, hs, hl⟩ := h
  have hle := hs.le
  have hmx := hs.max
  go_enter Try.func81, Try.ntmps81
  go_wp2
  go_loopw [3, 4] (fun v i wr => ∃ (k : Nat) (l : List Nat), k ≤ xs.length ∧ i = .int .i64 k ∧ Own wr w.heap.size 43 v l ∧ Lim B32 l ∧ Hid (l.length = 2 * k) ∧ Hid (ev B32 l = ev B64 (xs.take k)) ∧ Ext w wr) (fun _ i _ => xs.length - (intOf i).toNat)
  case atStart => exact ⟨0, [], Nat.zero_le _, rfl, Own.lit w [] w.heap.size 43 (Nat.le_refl _) (Nat.zero_le _), Lim.nil _, Lib.hid rfl, Lib.hid rfl, Ext.alloc1 _ _⟩
  case round =>
    obtain ⟨k, l, hk, rfl, hown, hlim, hll, hev, hE⟩ := hrel
    by_cases hlt : k < xs.length
    · obtain rfl : a = some ⟨b, o, none⟩ := hs.addr (by omega)
      have hbb := World.block_lt_of_cell? w _ (hs.cell (i := k) hlt)
      dsimp only at hbb
      have hc := (hs.ext hE).cell (i := k) hlt
      have hk0 : (0 : Int) ≤ (k : Int) := by omega
      have hk1 : (k : Int) < (xs.length : Int) := by omega
      have hEs := hE.size
      have e1 := tmod32 (lg xs k)
      have e2 := wdiv32 (lg xs k) (lg_lt hl k)
      have hl1 : l.length ≤ 2 * k := by have := hll.out; omega
      clear hs
      go_wp2
      go_region_held3 (fun w' => w'.cell? ⟨b, o + k, none⟩ = some (.int .u64 ((lg xs k : Nat) : Int))) (first | go_keep | exact hgrow.cell ((Ext.alloc1 wr _).drew.cell hc) (fun e => by have := (hown.lt b e.symm).1; omega))
        ((refine step_new Try.underlying22 Try.infoU (by rfl) _ _ (by rfl) w.heap.size _ l [lg xs k % B32, lg xs k / B32] 2 wr.heap.size _ (by rfl) (by rfl) (hown.alloc _) (heap_last_drew wr _) rfl (by omega) rfl (by simp; omega) (by simp; omega) ?_; intro gg cap' w1 hown1 hgrow hat hgl))
      go_wp2
      go_roundw
      case rel =>
        refine ⟨k + 1, l ++ [lg xs k % B32, lg xs k / B32], by omega, by go_num, ?_, ?_, Lib.hid ?_, Lib.hid ?_, ?_⟩
        · exact hown1
        · exact hlim.append (Lim.cons (half_lt (lg_lt hl k)).1 (Lim.cons (half_lt (lg_lt hl k)).2 (Lim.nil _)))
        · have := hll.out; simp; omega
        · exact half_step hll.out hev.out hlt
        · exact (hE.trans (Ext.alloc1 wr _).drew).grown hgrow (fun j e => (hown.lt j e).1)
      case measure => simp [intOf]; omega
    · obtain rfl : k = xs.length := by omega
      clear hs
      go_wp2
      go_ret
      have he := hev.out
      rw [List.take_length] at he
      exact ⟨_, l, rfl, ⟨hown.nt (hlim.mono (Nat.le_of_lt B32_lt)), hlim⟩, hll.out, he, hE⟩

theorem Try.at {v : Value} {l : List Nat} {w : World} (h : Hv w v l) (i : Nat) :
    Calls Try.prog 82 #[v, .int .i64 (i : Int)] w fun e w' => e = .returned (.int .u64 ((lg l i : Nat) : Int)) ∧ w = w' := by
  obtain ⟨⟨a, b, o, cap, rfl, hs, hl⟩, hl2⟩ := h
  by_cases hlt : i < l.length
  · obtain rfl : a = some ⟨b, o, none⟩ := hs.addr (by omega)
    have hc := hs.cell (i := i) hlt
    clear hs
    go_enter Try.func82, Try.ntmps82
    go_wp2
    go_ret
    exact ⟨rfl, rfl⟩
  · have H0 : Hid (lg l i = 0) := Lib.hid (by unfold lg; rw [List.getD_eq_getElem?_getD, List.getElem?_eq_none (by omega)]; rfl)
    clear hs
    go_enter Try.func82, Try.ntmps82
    go_wp2
    go_ret
    exact ⟨ret_i (by rw [H0.out]; rfl), rfl⟩

set_option maxHeartbeats 1000000 in
theorem Try.whole {v : Value} {l : List Nat} {w : World} (h : Hv w v l) (hlen : l.length ≤ 1073741824) :
    Calls Try.prog 83 #[v] w fun e w' => ∃ v', e = .returned v' ∧ Nw w' v' (ev B32 l) ∧ Ext w w' ∧ Fr w v' := by
  obtain ⟨⟨a, b, o, cap, rfl, hs, hl⟩, hl2⟩ := h
  have hle := hs.le
  have hmx := hs.max
  go_enter Try.func83, Try.ntmps83
  go_wp2
  go_loopw [3, 4, 5] (fun v i _ wr => ∃ (k : Nat) (xs : List Nat), i = .int .i64 ((2 * k : Nat) : Int) ∧ 2 * k ≤ l.length + 1 ∧ Own wr w.heap.size 43 v xs ∧ Lim B64 xs ∧ Hid (xs.length = k) ∧ xs.length ≤ k ∧ Hid (ev B64 xs = ev B32 (l.take (2 * k))) ∧ Ext w wr) (fun _ i _ _ => l.length + 1 - (intOf i).toNat)
  case atStart => exact ⟨0, [], rfl, by omega, Own.lit w [] w.heap.size 43 (Nat.le_refl _) (Nat.zero_le _), Lim.nil _, Lib.hid rfl, Nat.le_refl _, Lib.hid rfl, Ext.alloc1 _ _⟩
  case round =>
    obtain ⟨k, xs, rfl, hk, hown, hlim, hxl, hxk, hev, hE⟩ := hrel
    have hEs := hE.size
    by_cases hlt : 2 * k < l.length
    · obtain rfl : a = some ⟨b, o, none⟩ := hs.addr (by omega)
      have hc := (hs.ext hE).cell (i := 2 * k) hlt
      by_cases hlt2 : 2 * k + 1 < l.length
      · have hc2 := (hs.ext hE).cell (i := 2 * k + 1) hlt2
        have hb1 : lg l (2 * k) < B32 := hl2.getD B32_pos _
        have hb2 : lg l (2 * k + 1) < B32 := hl2.getD B32_pos _
        clear hs
        have hv : IntKind.u64.wrap (((lg l (2 * k) : Nat) : Int) + IntKind.u64.wrap (((lg l (2 * k + 1) : Nat) : Int) * 4294967296)) = ((lg l (2 * k) + lg l (2 * k + 1) * B32 : Nat) : Int) := by
          have h := whole_lt hb1 hb2
          rw [wmul32 _ (by omega), wadd _ _ h]
        have HV := Lib.hid hv; clear hv
        go_wp2_with (at_builtin; refine append_one Try.underlying23 Try.infoU rfl _ _ rfl w.heap.size _ xs (lg l (2 * k) + lg l (2 * k + 1) * B32) _ (by rfl) (by rfl) hown HV.out (by omega) hEs ?_; intro v' w1 hown1 hgrow)
        go_roundw
        case rel =>
          refine ⟨k + 1, xs ++ [lg l (2 * k) + lg l (2 * k + 1) * B32], by go_num, by omega, hown1, hlim.snoc (whole_lt hb1 hb2), Lib.hid ?_, ?_, Lib.hid ?_, ?_⟩
          · have := hxl.out; simp; omega
          · simp; omega
          · exact whole_step2 hxl.out hev.out hlt2
          · exact (hE.trans (Ext.alloc1 wr _)).grown hgrow (fun j e => (hown.lt j e).1)
        case measure => simp [intOf]; omega
      · have hb1 : lg l (2 * k) < B64 := lg_lt hl _
        have hlast : 2 * k + 1 = l.length := by omega
        have HLS := Lib.hid hlast; clear hlast
        clear hs
        go_wp2_with (at_builtin; refine append_one Try.underlying23 Try.infoU rfl _ _ rfl w.heap.size _ xs (lg l (2 * k)) _ (by rfl) (by rfl) hown rfl (by omega) hEs ?_; intro v' w1 hown1 hgrow)
        go_roundw
        case rel =>
          have hls := HLS.out
          refine ⟨k + 1, xs ++ [lg l (2 * k)], by go_num, by omega, hown1, hlim.snoc hb1, Lib.hid ?_, ?_, Lib.hid ?_, ?_⟩
          · have := hxl.out; simp; omega
          · simp; omega
          · rw [List.take_of_length_le (by omega)]; exact whole_step1 hxl.out hev.out hls
          · exact (hE.trans (Ext.alloc1 wr _)).grown hgrow (fun j e => (hown.lt j e).1)
        case measure => have hls := HLS.out; simp [intOf]; omega
    · clear hs
      go_wp2_with (go_at_call 72; refine (Try.refBare (hown.nt hlim) (by omega)).mono ?_; rintro e w' ⟨v', rfl, hn, hx, hf⟩)
      go_ret
      have he := hev.out
      rw [List.take_of_length_le (by omega)] at he
      rw [he] at hn
      exact ⟨_, rfl, hn, hE.trans hx, hf.back hE⟩

end Go.Rt
