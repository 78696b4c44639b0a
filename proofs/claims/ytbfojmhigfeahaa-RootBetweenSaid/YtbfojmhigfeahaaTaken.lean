/-
  div.taken: a digit's multiple is taken from a window of the row, and given back where it was too much.
-/
import Derived.Test.YtbfojmhigfeahaaMathE
import Derived.Test.YtbfojmhigfeahaaGuess
namespace Go.Rt
open Go.RowKit Go.Proofs

theorem grown_refl (w : World) (row : Option Nat) : w.grownBy w row := ⟨rfl, rfl, rfl, Nat.le_refl _, fun _ _ _ => rfl⟩
theorem grown_trans {a b c : World} {row : Option Nat} (h : a.grownBy b row) (k : b.grownBy c row) : a.grownBy c row :=
  ⟨k.os.trans h.os, k.tape.trans h.tape, k.output.trans h.output, Nat.le_trans h.size k.size, fun i hi hn => (k.block i (Nat.lt_of_lt_of_le hi h.size) hn).trans (h.block i hi hn)⟩
theorem grown_set (W : World) (b i : Nat) (v : Value) : W.grownBy (W.setCell ⟨b, i, none⟩ v) (some b) :=
  ⟨rfl, rfl, rfl, by simp, fun k _ hk => Below.heap_setCell W ⟨b, i, none⟩ v k (fun e => hk (by rw [e]))⟩

/-- the window's part of the first k limbs -/
def win (R : List Nat) (o k : Nat) : Nat := ev B64 ((R.drop o).take k)
theorem win_zero (R : List Nat) (o : Nat) : win R o 0 = 0 := by simp [win]
theorem win_succ (R : List Nat) (o k : Nat) : win R o (k + 1) = win R o k + B64 ^ k * R.getD (o + k) 0 := by
  unfold win
  rw [ev_take_succ', List.getD_eq_getElem?_getD, List.getD_eq_getElem?_getD, List.getElem?_drop]
theorem win_same {R R' : List Nat} {o : Nat} : ∀ {k : Nat}, (∀ i, i < k → R'.getD (o + i) 0 = R.getD (o + i) 0) → win R' o k = win R o k
  | 0, _ => by rw [win_zero, win_zero]
  | k + 1, h => by rw [win_succ, win_succ, win_same (fun i hi => h i (by omega)), h k (by omega)]
theorem win_set {R : List Nat} {o k j x : Nat} (h : k ≤ j) : win (R.set (o + j) x) o k = win R o k :=
  win_same fun i hi => getD_set_ne (by omega)
theorem win_lt {R : List Nat} (h : Lim B64 R) (o : Nat) : ∀ k, win R o k < B64 ^ k
  | 0 => by rw [win_zero]; exact Nat.one_pos
  | k + 1 => by
    rw [win_succ, Nat.pow_succ]
    have h1 := win_lt h o k
    have h2 := h.getD B64_pos (o + k)
    have h3 : B64 ^ k * (R.getD (o + k) 0 + 1) ≤ B64 ^ k * B64 := Nat.mul_le_mul_left _ h2
    rw [Nat.mul_add, Nat.mul_one] at h3
    omega

/-- the first loop, j limbs being over -/
def takeI (R R' vs : List Nat) (o q j cb b : Nat) : Prop :=
  R'.length = R.length ∧ (∀ i, i < o ∨ o + j ≤ i → R'.getD i 0 = R.getD i 0) ∧ win R' o j + q * ev B64 (vs.take j) = win R o j + B64 ^ j * (cb + b)

theorem sub_fig {u l b : Nat} (hu : u < B64) (hl : l < B64) (hb : b ≤ 1) : ∃ s d, s + l + b = u + B64 * d ∧ s < B64 ∧ d ≤ 1 := by
  by_cases h : u < l + b
  · exact ⟨u + B64 - l - b, 1, by omega, by omega, by omega⟩
  · exact ⟨u - l - b, 0, by omega, by omega, by omega⟩

theorem take_end {R R' vs : List Nat} {o q cb b s b' : Nat} (hI : takeI R R' vs o q vs.length cb b) (ho : o + vs.length < R.length) (hs : s + cb + b = lg R' (o + vs.length) + B64 * b') :
    (R'.set (o + vs.length) s).length = R.length ∧ (∀ i, i < o ∨ o + vs.length + 1 ≤ i → (R'.set (o + vs.length) s).getD i 0 = R.getD i 0) ∧
    win (R'.set (o + vs.length) s) o (vs.length + 1) + q * ev B64 vs = win R o (vs.length + 1) + B64 ^ (vs.length + 1) * b' := by
  obtain ⟨h1, h2, h3⟩ := hI
  rw [List.take_length] at h3
  refine ⟨by rw [List.length_set]; exact h1, fun i hi => ?_, ?_⟩
  · rw [getD_set_ne (by omega), h2 i (by omega)]
  · rw [win_succ, win_set (Nat.le_refl _), getD_set_eq (by omega), win_succ, ← h2 (o + vs.length) (by omega), Nat.pow_succ]
    unfold lg at hs
    have e2 : B64 ^ vs.length * (s + cb + b) = B64 ^ vs.length * (R'.getD (o + vs.length) 0 + B64 * b') := by rw [hs]
    rw [Nat.mul_assoc]
    simp only [Nat.mul_add] at *
    omega

theorem takeI_next {R R' vs : List Nat} {o q j cb b h l l' c c' s b' : Nat} (hI : takeI R R' vs o q j cb b) (hj : j < vs.length) (ho : o + j < R.length) (hhl : q * lg vs j = h * B64 + l) (hc : l' + B64 * c = l + cb) (hc' : c' = h + c) (hs : s + l' + b = lg R' (o + j) + B64 * b') :
    takeI R (R'.set (o + j) s) vs o q (j + 1) c' b' := by
  obtain ⟨h1, h2, h3⟩ := hI
  refine ⟨by rw [List.length_set]; exact h1, fun i hi => ?_, ?_⟩
  · rw [getD_set_ne (by omega), h2 i (by omega)]
  · rw [win_succ, win_set (Nat.le_refl j), getD_set_eq (by omega), ev_take_succ hj, win_succ, ← h2 (o + j) (by omega), Nat.pow_succ]
    exact take_step h3 hhl hc hc' hs

/-- the second loop, j limbs being over -/
def giveI (R1 R2 vs : List Nat) (o j c : Nat) : Prop :=
  R2.length = R1.length ∧ (∀ i, i < o ∨ o + j ≤ i → R2.getD i 0 = R1.getD i 0) ∧ win R2 o j + B64 ^ j * c = win R1 o j + ev B64 (vs.take j)

theorem giveI_next {R1 R2 vs : List Nat} {o j c s c' : Nat} (hI : giveI R1 R2 vs o j c) (hj : j < vs.length) (ho : o + j < R1.length) (hs : s + B64 * c' = lg R2 (o + j) + lg vs j + c) :
    giveI R1 (R2.set (o + j) s) vs o (j + 1) c' := by
  obtain ⟨h1, h2, h3⟩ := hI
  refine ⟨by rw [List.length_set]; exact h1, fun i hi => ?_, ?_⟩
  · rw [getD_set_ne (by omega), h2 i (by omega)]
  · rw [win_succ, win_set (Nat.le_refl j), getD_set_eq (by omega), ev_take_succ hj, win_succ, ← h2 (o + j) (by omega), Nat.pow_succ]
    exact give_step h3 hs

theorem give_end {R R1 R2 vs : List Nat} {o q c s : Nat} (hI : giveI R1 R2 vs o vs.length c) (ho : o + vs.length < R1.length) (hlim : Lim B64 R1) (hv : Lim B64 vs) (hR2 : Lim B64 R2)
    (hs : s = (lg R2 (o + vs.length) + c) % B64) (ht : win R1 o (vs.length + 1) + q * ev B64 vs = win R o (vs.length + 1) + B64 ^ (vs.length + 1) * 1) (hfit : q * ev B64 vs ≤ win R o (vs.length + 1) + ev B64 vs) :
    (R2.set (o + vs.length) s).length = R1.length ∧ (∀ i, i < o ∨ o + vs.length + 1 ≤ i → (R2.set (o + vs.length) s).getD i 0 = R1.getD i 0) ∧
    win (R2.set (o + vs.length) s) o (vs.length + 1) + (q - 1) * ev B64 vs = win R o (vs.length + 1) ∧ 1 ≤ q ∧ win R o (vs.length + 1) < q * ev B64 vs := by
  obtain ⟨h1, h2, h3⟩ := hI
  rw [List.take_length] at h3
  have hd := Nat.mod_add_div (lg R2 (o + vs.length) + c) B64
  rw [← hs] at hd
  obtain ⟨d, hdd⟩ : ∃ d, d = (lg R2 (o + vs.length) + c) / B64 := ⟨_, rfl⟩
  rw [← hdd] at hd
  have hW : Lim B64 (R2.set (o + vs.length) s) := hR2.set (by rw [hs]; exact Nat.mod_lt _ B64_pos) _
  have hlt := win_lt hW o (vs.length + 1)
  have hlt1 := win_lt hlim o (vs.length + 1)
  have hV := ev_lt hv
  have e1 : win (R2.set (o + vs.length) s) o (vs.length + 1) + B64 ^ (vs.length + 1) * d = win R1 o (vs.length + 1) + ev B64 vs := by
    rw [win_succ, win_set (Nat.le_refl _), getD_set_eq (by omega), win_succ, ← h2 (o + vs.length) (by omega), Nat.pow_succ]
    unfold lg at hd
    have e2 : B64 ^ vs.length * (s + B64 * d) = B64 ^ vs.length * (R2.getD (o + vs.length) 0 + c) := by rw [hd]
    rw [Nat.mul_assoc]
    simp only [Nat.mul_add] at *
    omega
  have hP : B64 ^ vs.length ≤ B64 ^ (vs.length + 1) := Nat.pow_le_pow_right B64_pos (by omega)
  have hd1 : d = 1 := by
    rcases Nat.lt_or_ge d 1 with h | h
    · obtain rfl : d = 0 := by omega
      omega
    · rcases Nat.lt_or_ge d 2 with h' | h'
      · omega
      · have := Nat.mul_le_mul_left (B64 ^ (vs.length + 1)) h'
        omega
  subst hd1
  have hq1 : 1 ≤ q := by
    rcases Nat.eq_zero_or_pos q with h | h
    · subst h; omega
    · exact h
  refine ⟨by rw [List.length_set]; exact h1, fun i hi => ?_, ?_, hq1, by omega⟩
  · rw [getD_set_ne (by omega), h2 i (by omega)]
  · obtain ⟨m, rfl⟩ : ∃ m, q = m + 1 := ⟨q - 1, by omega⟩
    rw [Nat.add_mul, Nat.one_mul] at ht
    rw [Nat.add_sub_cancel]
    omega

set_option maxRecDepth 100000 in
set_option maxHeartbeats 2000000 in
theorem Try.taken {w : World} {base g m cap o n cw : Nat} {R vs : List Nat} {vv : Value} {q : Nat} (hown : Own w base 43 (.slice (some ⟨g, 0, none⟩) m cap) R) (hR : Lim B64 R) (hv : Nt w vv vs) (hvg : vv.ownBlock ≠ some g)
    (hn : vs.length = n) (ho : o + n + 1 ≤ R.length) (hq : q < B64) (hcw : n + 1 ≤ cw) (hcw2 : cw ≤ 9223372036854775807) (hfit : q * ev B64 vs ≤ win R o (n + 1) + ev B64 vs) :
    Calls Try.prog 98 #[.slice (some ⟨g, o, none⟩) (n + 1) cw, vv, .int .u64 (q : Int)] w fun e w' => ∃ (R' : List Nat) (q' : Nat), e = .returned (.int .u64 (q' : Int)) ∧ Own w' base 43 (.slice (some ⟨g, 0, none⟩) m cap) R' ∧
      w.grownBy w' (some g) ∧ R'.length = R.length ∧ Lim B64 R' ∧ (∀ i, i < o ∨ o + n + 1 ≤ i → R'.getD i 0 = R.getD i 0) ∧ win R' o (n + 1) + q' * ev B64 vs = win R o (n + 1) ∧ q' < B64 ∧ (q' = q ∨ (q' + 1 = q ∧ win R o (n + 1) < q * ev B64 vs)) := by
  obtain ⟨a, b, ov, capv, rfl, hsv, hlv⟩ := hv
  subst hn
  have hmxv := hsv.max
  have hlev := hsv.le
  have hVS := hown.head
  go_enter Try.func98, Try.ntmps98
  go_wp2
  go_loopw [7, 8, 9, 10, 11, 12, 13, 20] (fun cv bv _ _ _ _ _ iv wr => ∃ (j cb bo : Nat) (R' : List Nat), iv = .int .i64 (j : Int) ∧ cv = .int .u64 (cb : Int) ∧ bv = .int .u64 (bo : Int) ∧ j ≤ vs.length ∧ cb < B64 ∧ bo ≤ 1 ∧ Own wr base 43 (.slice (some ⟨g, 0, none⟩) m cap) R' ∧ Lim B64 R' ∧ Hid (takeI R R' vs o q j cb bo) ∧ w.grownBy wr (some g)) (fun _ _ _ _ _ _ _ i _ => vs.length - (intOf i).toNat)
  case atStart => exact ⟨0, 0, 0, R, rfl, rfl, rfl, by omega, B64_pos, by omega, hown, hR, Lib.hid ⟨rfl, fun _ _ => rfl, by simp [win_zero]⟩, grown_refl _ _⟩
  case round =>
    obtain ⟨j, cb, bo, R', rfl, rfl, rfl, hj, hcb, hbo, hown', hR', hI, hgr⟩ := hrel
    by_cases hlt : j < vs.length
    · obtain rfl : a = some ⟨b, ov, none⟩ := hsv.addr (by omega)
      have hx64 := lg_lt hlv j
      have hc := hsv.cell hlt
      have hcx : wr.cell? ⟨b, ov + j, none⟩ = some (.int .u64 ((lg vs j : Nat) : Int)) := hgr.cell hc (fun e => hvg (by simpa [Value.ownBlock] using e))
      have hlen := hI.out.1
      have hcu := hown'.cellAt (i := o + j) (by omega)
      have hfu := hown'.frozenAt (o + j)
      have hu64 := lg_lt hR' (o + j)
      obtain ⟨x, hx⟩ : ∃ x, x = lg vs j := ⟨_, rfl⟩
      obtain ⟨u, hu⟩ : ∃ u, u = lg R' (o + j) := ⟨_, rfl⟩
      rw [← hx] at hcx hx64
      rw [← hu] at hcu hu64
      obtain ⟨h, hh⟩ : ∃ h, h = q * x / B64 := ⟨_, rfl⟩
      obtain ⟨l, hl⟩ : ∃ l, l = q * x % B64 := ⟨_, rfl⟩
      have hmul : ∀ W, Calls Try.prog 101 #[.int .u64 (q : Int), .int .u64 (x : Int)] W fun e w' => W = w' ∧ e = .returned (.tuple #[.int .u64 (h : Int), .int .u64 (l : Int)]) := fun W => Try.mul64 hq hx64 hh hl W
      have hhl : q * x = h * B64 + l := by rw [hh, hl]; exact (Nat.div_add_mod' _ _).symm
      have hlb : l < B64 := by rw [hl]; exact Nat.mod_lt _ B64_pos
      obtain ⟨l', hl'⟩ : ∃ s, s = (l + cb + 0) % B64 := ⟨_, rfl⟩
      obtain ⟨c, hc1⟩ : ∃ d, d = (l + cb + 0) / B64 := ⟨_, rfl⟩
      have hadd : ∀ W, (callFunc 90 #[.int .u64 (l : Int), .int .u64 (cb : Int), .int .u64 0]).run Try.prog W = .ok (.value (.tuple #[.int .u64 (l' : Int), .int .u64 (c : Int)])) W := fun W => Try.add64 (c := 0) (by omega) hl' hc1 W
      have hlc : l' + B64 * c = l + cb := by rw [hl', hc1, Nat.add_zero, Nat.add_comm]; exact Nat.div_add_mod _ _
      have hl'b : l' < B64 := by rw [hl']; exact Nat.mod_lt _ B64_pos
      have hfitc := carry_fit hq hx64 hcb hhl hlc
      obtain ⟨c', hc'⟩ : ∃ c', c' = h + c := ⟨_, rfl⟩
      rw [← hc'] at hfitc
      have hwc : IntKind.u64.wrap ((h : Int) + (c : Int)) = (c' : Int) := by rw [IntKind.wrap_u64]; rw [B64_eq] at hfitc; omega
      obtain ⟨s, b', hsb, hs64, hb'⟩ := sub_fig (u := u) (l := l') (b := bo) hu64 hl'b hbo
      have hsub : ∀ W, (callFunc 109 #[.int .u64 (u : Int), .int .u64 (l' : Int), .int .u64 (bo : Int)]).run Try.prog W = .ok (.value (.tuple #[.int .u64 (s : Int), .int .u64 (b' : Int)])) W := fun W => Try.sub64 hu64 hl'b hbo hsb hs64 hb' W
      have HI : Hid (takeI R (R'.set (o + j) s) vs o q (j + 1) c' b') := Lib.hid (takeI_next hI.out (by omega) (by omega) (by rw [← hx]; exact hhl) hlc hc' (by rw [← hu]; exact hsb))
      have hjI : (j : Int) < (vs.length : Int) := by omega
      have hj0 : (0 : Int) ≤ (j : Int) := by omega
      have hjn : (j : Int) < ((vs.length + 1 : Nat) : Int) := by omega
      clear hh hl hhl hlb hl' hc1 hlc hl'b hc' hsb hI hx hu hc
      go_wp2_with (first | (go_at_call 101; refine (hmul _).mono ?_; rintro e w' ⟨rfl, rfl⟩))
      go_roundw
      case rel => exact ⟨j + 1, c', b', R'.set (o + j) s, by go_num, rfl, rfl, by omega, hfitc, hb', hown'.stored (o + j) s rfl, hR'.set hs64 _, HI, grown_trans hgr (grown_set _ _ _ _)⟩
      case measure => simp [intOf]; omega
    · obtain rfl : j = vs.length := by omega
      have hjI : ¬ ((vs.length : Int) < (vs.length : Int)) := by omega
      have hlen := hI.out.1
      have hcu := hown'.cellAt (i := o + vs.length) (by omega)
      have hfu := hown'.frozenAt (o + vs.length)
      have hu64 := lg_lt hR' (o + vs.length)
      obtain ⟨u, hu⟩ : ∃ u, u = lg R' (o + vs.length) := ⟨_, rfl⟩
      rw [← hu] at hcu hu64
      obtain ⟨s, b', hsb, hs64, hb'⟩ := sub_fig (u := u) (l := cb) (b := bo) hu64 hcb hbo
      have hsub : ∀ W, (callFunc 109 #[.int .u64 (u : Int), .int .u64 (cb : Int), .int .u64 (bo : Int)]).run Try.prog W = .ok (.value (.tuple #[.int .u64 (s : Int), .int .u64 (b' : Int)])) W := fun W => Try.sub64 hu64 hcb hbo hsb hs64 hb' W
      have hT := take_end hI.out (by omega) (by rw [← hu]; exact hsb)
      have hHT := Lib.hid hT
      have hown1 := hown'.stored (o + vs.length) s rfl
      have hR1 := hR'.set hs64 (o + vs.length)
      have hg1 := grown_trans hgr (grown_set wr g (o + vs.length) (.int .u64 (s : Int)))
      have hn0 : (0 : Int) ≤ (vs.length : Int) := by omega
      have hn1 : (vs.length : Int) < ((vs.length + 1 : Nat) : Int) := by omega
      by_cases hb0 : b' = 0
      · subst hb0
        clear hI hsb hT hu
        go_wp2
        go_ret
        exact ⟨_, q, rfl, hown1, hg1, hHT.out.1, hR1, hHT.out.2.1, by have h := hHT.out.2.2; rw [Nat.mul_zero, Nat.add_zero] at h; exact h, hq, .inl rfl⟩
      · obtain rfl : b' = 1 := by omega
        clear hI hsb hT hu
        go_wp2
        obtain ⟨R1, hR1e⟩ : ∃ R1, R1 = R'.set (o + vs.length) s := ⟨_, rfl⟩
        obtain ⟨W1, hW1e⟩ : ∃ W1, W1 = wr.setCell ⟨g, o + vs.length, none⟩ (.int .u64 (s : Int)) := ⟨_, rfl⟩
        rw [← hR1e, ← hW1e] at hown1
        rw [← hR1e] at hR1 hHT
        rw [← hW1e] at hg1
        rw [← hW1e]
        clear hW1e hR1e hown' hR' hcu hfu hgr
        go_loopw [15, 16, 17, 74] (fun cv _ _ iv wr => ∃ (j c : Nat) (R2 : List Nat), iv = .int .i64 (j : Int) ∧ cv = .int .u64 (c : Int) ∧ j ≤ vs.length ∧ c ≤ 1 ∧ Own wr base 43 (.slice (some ⟨g, 0, none⟩) m cap) R2 ∧ Lim B64 R2 ∧ Hid (giveI R1 R2 vs o j c) ∧ w.grownBy wr (some g)) (fun _ _ _ i _ => vs.length - (intOf i).toNat)
        case atStart => exact ⟨0, 0, R1, rfl, rfl, by omega, by omega, hown1, hR1, Lib.hid ⟨rfl, fun _ _ => rfl, by simp [win_zero]⟩, hg1⟩
        case round =>
          obtain ⟨j, c, R2, rfl, rfl, hj2, hc2, hown2, hR2, hI2, hgr2⟩ := hrel
          have hlenT := hHT.out.1
          have hlen2 := hI2.out.1
          by_cases hlt2 : j < vs.length
          · obtain rfl : a = some ⟨b, ov, none⟩ := hsv.addr (by omega)
            have hx64 := lg_lt hlv j
            have hc := hsv.cell hlt2
            have hcx : wr.cell? ⟨b, ov + j, none⟩ = some (.int .u64 ((lg vs j : Nat) : Int)) := hgr2.cell hc (fun e => hvg (by simpa [Value.ownBlock] using e))
            have hcu := hown2.cellAt (i := o + j) (by omega)
            have hfu := hown2.frozenAt (o + j)
            have hu64' := lg_lt hR2 (o + j)
            obtain ⟨x, hx⟩ : ∃ x, x = lg vs j := ⟨_, rfl⟩
            obtain ⟨y, hy⟩ : ∃ y, y = lg R2 (o + j) := ⟨_, rfl⟩
            rw [← hx] at hcx hx64
            rw [← hy] at hcu hu64'
            obtain ⟨s2, hs2⟩ : ∃ s2, s2 = (y + x + c) % B64 := ⟨_, rfl⟩
            obtain ⟨c', hc'⟩ : ∃ d, d = (y + x + c) / B64 := ⟨_, rfl⟩
            have hadd : ∀ W, (callFunc 90 #[.int .u64 (y : Int), .int .u64 (x : Int), .int .u64 (c : Int)]).run Try.prog W = .ok (.value (.tuple #[.int .u64 (s2 : Int), .int .u64 (c' : Int)])) W := fun W => Try.add64 (by omega) hs2 hc' W
            have hsc : s2 + B64 * c' = y + x + c := by rw [hs2, hc', Nat.add_comm]; exact Nat.div_add_mod _ _
            have hs2b : s2 < B64 := by rw [hs2]; exact Nat.mod_lt _ B64_pos
            have hc'1 : c' ≤ 1 := by rw [B64_eq] at *; omega
            have HI : Hid (giveI R1 (R2.set (o + j) s2) vs o (j + 1) c') := Lib.hid (giveI_next hI2.out hlt2 (by omega) (by rw [← hy, ← hx]; exact hsc))
            have hjI : (j : Int) < (vs.length : Int) := by omega
            have hj0 : (0 : Int) ≤ (j : Int) := by omega
            have hjn : (j : Int) < ((vs.length + 1 : Nat) : Int) := by omega
            have hown3 := hown2.stored (o + j) s2 rfl
            have hgr3 := grown_trans hgr2 (grown_set wr g (o + j) (.int .u64 (s2 : Int)))
            clear hs2 hc' hsc hI2 hx hy hc hlenT hlen2
            go_wp2
            go_roundw
            case rel => exact ⟨j + 1, c', R2.set (o + j) s2, by go_num, rfl, by omega, hc'1, hown3, hR2.set hs2b _, HI, hgr3⟩
            case measure => simp [intOf]; omega
          · obtain rfl : j = vs.length := by omega
            have hjI : ¬ ((vs.length : Int) < (vs.length : Int)) := by omega
            have hcu := hown2.cellAt (i := o + vs.length) (by omega)
            have hfu := hown2.frozenAt (o + vs.length)
            have hu64' := lg_lt hR2 (o + vs.length)
            obtain ⟨s2, hs2⟩ : ∃ s2, s2 = (lg R2 (o + vs.length) + c) % B64 := ⟨_, rfl⟩
            have hE := give_end (R := R) hI2.out (by omega) hR1 hlv hR2 hs2 hHT.out.2.2 hfit
            obtain ⟨y, hy⟩ : ∃ y, y = lg R2 (o + vs.length) := ⟨_, rfl⟩
            rw [← hy] at hcu hu64' hs2
            have hq1 := hE.2.2.2.1
            have hwa : IntKind.u64.wrap ((y : Int) + (c : Int)) = (s2 : Int) := by rw [IntKind.wrap_u64, hs2]; rfl
            have hs2b : s2 < B64 := by rw [hs2]; exact Nat.mod_lt _ B64_pos
            have hwq : IntKind.u64.wrap ((q : Int) - 1) = ((q - 1 : Nat) : Int) := by rw [IntKind.wrap_u64]; rw [B64_eq] at hq; omega
            have HE := Lib.hid hE
            have hown3 := hown2.stored (o + vs.length) s2 rfl
            have hgr3 := grown_trans hgr2 (grown_set wr g (o + vs.length) (.int .u64 (s2 : Int)))
            have hR3 := hR2.set hs2b (o + vs.length)
            have hq2 : (1 : Int) ≤ (q : Int) := by omega
            have hnn0 : (0 : Int) ≤ (vs.length : Int) := by omega
            have hnn1 : (vs.length : Int) < ((vs.length + 1 : Nat) : Int) := by omega
            clear hs2 hI2 hE hy hlenT hlen2
            go_wp2
            go_ret
            exact ⟨_, q - 1, rfl, hown3, hgr3, HE.out.1.trans hHT.out.1, hR3, fun i hi => (HE.out.2.1 i hi).trans (hHT.out.2.1 i hi), HE.out.2.2.1, by omega, .inr ⟨by omega, HE.out.2.2.2.2⟩⟩

end Go.Rt
