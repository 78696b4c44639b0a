/-
  Contracts of the small functions on limbs: bare, Of, Right, Few, Bare.
-/
import Derived.Test.YtbfojmhigfeahaaChecked
import Derived.Test.YtbfojmhigfeahaaBase
namespace Go.Rt
open Go.RowKit Go.Proofs

theorem Nt.take {w : World} {a : Option Addr} {n cap : Nat} {xs : List Nat} (h : Nt w (.slice a n cap) xs) (k cap' : Nat) (hk : k ≤ xs.length) (hc : cap' = cap) : Nt w (.slice a k cap') (xs.take k) := by
  obtain ⟨a', b, o, cp, e, hs, hl⟩ := h
  cases e
  subst hc
  have hlen : (xs.take k).length = k := by rw [List.length_take, Nat.min_eq_left hk]
  exact ⟨a, b, o, cap', by rw [hlen], by rw [hlen]; exact hs.take k hk, hl.take k⟩

set_option maxHeartbeats 400000 in
theorem Try.divBare_loop (a : Option Addr) (b o cap : Nat) (xs : List Nat) (w : World) (hs : Sl w a b o xs.length cap (fun i => .int .u64 ((lg xs i : Nat) : Int))) :
    Calls Try.prog 92 #[.slice a xs.length cap] w fun e w' => w = w' ∧ ∃ k, e = .returned (.slice a k cap) ∧ k ≤ xs.length ∧ (k = 0 ∨ lg xs (k - 1) ≠ 0) ∧ ∀ i, k ≤ i → i < xs.length → lg xs i = 0 := by
  have hle := hs.le
  have hmx := hs.max
  go_enter Try.func92, Try.ntmps92
  go_wp2
  go_loop [0] (fun v => ∃ k : Nat, k ≤ xs.length ∧ v = .slice a k cap ∧ Hid (∀ i, k ≤ i → i < xs.length → lg xs i = 0)) (fun v => match v with | .slice _ k _ => k | _ => 0)
  case atStart => exact ⟨xs.length, Nat.le_refl _, rfl, Lib.hid (fun i h1 h2 => absurd h1 (by omega))⟩
  case round =>
    obtain ⟨k, hk, rfl, hz⟩ := hrel
    by_cases h0 : 0 < k
    · obtain rfl : a = some ⟨b, o, none⟩ := hs.addr (by omega)
      have hc := hs.cell (i := k - 1) (by omega)
      clear hs
      by_cases hx : lg xs (k - 1) = 0
      · have hx' : (((lg xs (k - 1) : Nat) : Int) == 0) = true := by simp [hx]
        have HX := Lib.hid hx; clear hx
        go_wp2
        go_round
        case rel => exact ⟨k - 1, by omega, by first | rfl | go_num, fun i h1 h2 => by
          by_cases e : i = k - 1
          · subst e; exact HX.out
          · exact hz.out i (by omega) h2⟩
        case measure => simp; omega
      · have hx' : (((lg xs (k - 1) : Nat) : Int) == 0) = false := by simp [hx]
        have HX := Lib.hid hx; clear hx
        go_wp2
        go_ret
        exact ⟨rfl, k, rfl, hk, .inr HX.out, hz.out⟩
    · obtain rfl : k = 0 := by omega
      go_wp2
      go_ret
      exact ⟨rfl, 0, rfl, by omega, .inl rfl, hz.out⟩

theorem Try.divBare {v : Value} {xs : List Nat} {w : World} (h : Nt w v xs) :
    Calls Try.prog 92 #[v] w fun e w' => ∃ v', e = .returned v' ∧ Nw w v' (ev B64 xs) ∧ w = w' ∧ v'.ownBlock = v.ownBlock := by
  obtain ⟨a, b, o, cap, rfl, hs, hl⟩ := h
  refine (Try.divBare_loop a b o cap xs w hs).mono ?_
  rintro e w' ⟨rfl, k, rfl, hk, hk0, hz⟩
  exact ⟨_, rfl, ⟨xs.take k, Nt.take ⟨a, b, o, cap, rfl, hs, hl⟩ k cap hk rfl, norm_take hk hk0, bare_take hk hz⟩, rfl, by cases a <;> rfl⟩

set_option maxHeartbeats 400000 in
theorem Try.natBare_loop (a : Option Addr) (b o cap : Nat) (xs : List Nat) (w : World) (hs : Sl w a b o xs.length cap (fun i => .int .u64 ((lg xs i : Nat) : Int))) :
    Calls Try.prog 91 #[.slice a xs.length cap] w fun e w' => w = w' ∧ ∃ k, e = .returned (.slice a k cap) ∧ k ≤ xs.length ∧ (k = 0 ∨ lg xs (k - 1) ≠ 0) ∧ ∀ i, k ≤ i → i < xs.length → lg xs i = 0 := by
  have hle := hs.le
  have hmx := hs.max
  go_enter Try.func91, Try.ntmps91
  go_wp2
  go_loop [0] (fun v => ∃ k : Nat, k ≤ xs.length ∧ v = .slice a k cap ∧ Hid (∀ i, k ≤ i → i < xs.length → lg xs i = 0)) (fun v => match v with | .slice _ k _ => k | _ => 0)
  case atStart => exact ⟨xs.length, Nat.le_refl _, rfl, Lib.hid (fun i h1 h2 => absurd h1 (by omega))⟩
  case round =>
    obtain ⟨k, hk, rfl, hz⟩ := hrel
    by_cases h0 : 0 < k
    · obtain rfl : a = some ⟨b, o, none⟩ := hs.addr (by omega)
      have hc := hs.cell (i := k - 1) (by omega)
      clear hs
      by_cases hx : lg xs (k - 1) = 0
      · have hx' : (((lg xs (k - 1) : Nat) : Int) == 0) = true := by simp [hx]
        have HX := Lib.hid hx; clear hx
        go_wp2
        go_round
        case rel => exact ⟨k - 1, by omega, by first | rfl | go_num, fun i h1 h2 => by
          by_cases e : i = k - 1
          · subst e; exact HX.out
          · exact hz.out i (by omega) h2⟩
        case measure => simp; omega
      · have hx' : (((lg xs (k - 1) : Nat) : Int) == 0) = false := by simp [hx]
        have HX := Lib.hid hx; clear hx
        go_wp2
        go_ret
        exact ⟨rfl, k, rfl, hk, .inr HX.out, hz.out⟩
    · obtain rfl : k = 0 := by omega
      go_wp2
      go_ret
      exact ⟨rfl, 0, rfl, by omega, .inl rfl, hz.out⟩

theorem Try.natBare {v : Value} {xs : List Nat} {w : World} (h : Nt w v xs) :
    Calls Try.prog 91 #[v] w fun e w' => ∃ v', e = .returned v' ∧ Nw w v' (ev B64 xs) ∧ w = w' ∧ v'.ownBlock = v.ownBlock := by
  obtain ⟨a, b, o, cap, rfl, hs, hl⟩ := h
  refine (Try.natBare_loop a b o cap xs w hs).mono ?_
  rintro e w' ⟨rfl, k, rfl, hk, hk0, hz⟩
  exact ⟨_, rfl, ⟨xs.take k, Nt.take ⟨a, b, o, cap, rfl, hs, hl⟩ k cap hk rfl, norm_take hk hk0, bare_take hk hz⟩, rfl, by cases a <;> rfl⟩

theorem Try.natOf (x : Nat) (w : World) (hx : x < B64) :
    Calls Try.prog 66 #[.int .u64 (x : Int)] w fun e w' => ∃ v', e = .returned v' ∧ Nw w' v' x ∧ Ext w w' ∧ Fr w v' := by
  have hl := Nt.lit1 w x 43 hx
  go_enter Try.func66, Try.ntmps66
  go_wp2_with fail
  refine (Try.natBare hl).mono ?_
  rintro e w' ⟨v', rfl, hn, rfl, hob⟩
  have hf : Fr w v' := fun k e => by rw [hob] at e; cases e; exact Nat.le_refl _
  have HF := Lib.hid hf; clear hob hf
  go_wp2
  go_ret
  rw [ev_single] at hn
  exact ⟨_, rfl, hn, Ext.alloc1 _ _, HF.out⟩

/-- 'Bare': a copy without noughts at the end -/
theorem Try.infoU : (Try.prog.info? 43).map (fun i => (i.zero, i.size, i.bytes)) = some (some (.int .u64 0), 1, 8) := by kernel_rfl

set_option maxHeartbeats 400000 in
theorem Try.refBare {v : Value} {xs : List Nat} {w : World} (h : Nt w v xs) (hlen : xs.length ≤ 1099511627776) :
    Calls Try.prog 72 #[v] w fun e w' => ∃ v', e = .returned v' ∧ Nw w' v' (ev B64 xs) ∧ Ext w w' ∧ Fr w v' := by
  obtain ⟨a, b, o, cap, rfl, hs, hl⟩ := h
  have hle := hs.le
  have hmx := hs.max
  go_enter Try.func72, Try.ntmps72
  go_wp2
  go_loop [3] (fun i => ∃ k : Nat, k ≤ xs.length ∧ i = .int .i64 k ∧ Hid (∀ i, k ≤ i → i < xs.length → lg xs i = 0)) (fun i => (intOf i).toNat)
  case atStart => exact ⟨xs.length, Nat.le_refl _, rfl, Lib.hid (fun i h1 h2 => absurd h1 (by omega))⟩
  case round =>
    obtain ⟨k, hk, rfl, hz⟩ := hrel
    have fin : (k = 0 ∨ lg xs (k - 1) ≠ 0) → ev B64 (xs.take k) = ev B64 xs ∧ Norm (xs.take k) := fun h => ⟨bare_take hk hz.out, norm_take hk h⟩
    by_cases h0 : 0 < k
    · obtain rfl : a = some ⟨b, o, none⟩ := hs.addr (by omega)
      have hc := hs.cell (i := k - 1) (by omega)
      by_cases hx : lg xs (k - 1) = 0
      · have hx' : (((lg xs (k - 1) : Nat) : Int) == 0) = true := by simp [hx]
        have HX := Lib.hid hx; clear hx
        clear hs fin
        go_wp2
        go_round
        case rel => exact ⟨k - 1, by omega, by first | rfl | go_num, fun i h1 h2 => by
          by_cases e : i = k - 1
          · subst e; exact HX.out
          · exact hz.out i (by omega) h2⟩
        case measure => simp [intOf]; omega
      · have hx' : (((lg xs (k - 1) : Nat) : Int) == 0) = false := by simp [hx]
        have HF := Lib.hid (fin (.inr hx)); clear fin
        clear hx
        have ho := Own.lit w [] w.heap.size 43 (Nat.le_refl _) (Nat.zero_le _)
        have hsl : Sl (w.alloc (.cells #[] 43)) (some ⟨b, o, none⟩) b o k cap (fun i => .int .u64 ((lg (xs.take k) i : Nat) : Int)) := (hs.ext (Ext.alloc1 _ _)).take k hk
        clear hs
        go_wp2_with (at_builtin; refine append_all Try.underlying23 Try.infoU rfl _ _ rfl w.heap.size _ [] (xs.take k) _ b o cap k rfl rfl (by simp; omega) ho hsl (by simp; omega) (by simp) ?_; intro v' w' ho' hg')
        go_ret
        exact ⟨_, rfl, ⟨xs.take k, by simpa using ho'.nt (by simpa using hl.take k), HF.out.2, HF.out.1⟩, (Ext.alloc1 _ _).grown hg' (by intro j e; cases e; exact Nat.le_refl _), ho'.fr⟩
    · obtain rfl : k = 0 := by omega
      have HF := Lib.hid (fin (.inl rfl)); clear fin
      have ho := Own.lit w [] w.heap.size 43 (Nat.le_refl _) (Nat.zero_le _)
      rcases hs.1 with rfl | ⟨rfl, h0', rfl⟩
      · have hsl : Sl (w.alloc (.cells #[] 43)) (some ⟨b, o, none⟩) b o 0 cap (fun i => .int .u64 ((lg [] i : Nat) : Int)) := (hs.ext (Ext.alloc1 _ _)).part 0 (by omega) (fun i hi => by omega)
        clear hs
        go_wp2_with (at_builtin; refine append_all Try.underlying23 Try.infoU rfl _ _ rfl w.heap.size _ [] [] _ b o cap 0 rfl rfl rfl ho hsl (by simp) (by simp) ?_; intro v' w' ho' hg')
        go_ret
        exact ⟨_, rfl, ⟨xs.take 0, by simpa using ho'.nt (Lim.nil _), HF.out.2, HF.out.1⟩, (Ext.alloc1 _ _).grown hg' (by intro j e; cases e; exact Nat.le_refl _), ho'.fr⟩
      · have hsl : Sl (w.alloc (.cells #[] 43)) none b o 0 0 (fun i => .int .u64 ((lg [] i : Nat) : Int)) := ⟨.inr ⟨rfl, rfl, rfl⟩, by omega, by simp [maxLen], fun i hi => by omega⟩
        have hl0 : xs.length ≤ 0 := by omega
        clear hs
        go_wp2_with (at_builtin; refine append_all Try.underlying23 Try.infoU rfl _ _ rfl w.heap.size _ [] [] _ b o 0 0 rfl rfl rfl ho hsl (by simp) (by simp) ?_; intro v' w' ho' hg')
        go_ret
        exact ⟨_, rfl, ⟨xs.take 0, by simpa using ho'.nt (Lim.nil _), HF.out.2, HF.out.1⟩, (Ext.alloc1 _ _).grown hg' (by intro j e; cases e; exact Nat.le_refl _), ho'.fr⟩

end Go.Rt
