/-
  The laws of chapter 08 (numbers of a fixed point): Order: its walk.
-/
import Derived.Test.YtpenekgnhnfebaaLaw08
namespace Go.Rt
open Go.RowKit Go.Proofs

theorem bits_and31 (d : Int) : ∃ K : Nat, bits .and .i64 d 31 = (K : Int) ∧ K ≤ 31 := by
  refine ⟨(BitVec.ofInt 64 d &&& BitVec.ofInt 64 31).toNat, ?_, ?_⟩
  · have h : (BitVec.ofInt 64 d &&& BitVec.ofInt 64 31).toNat ≤ 31 := by
      rw [BitVec.toNat_and]
      exact Nat.le_trans Nat.and_le_right (by decide)
    show IntKind.i64.wrap ((BitVec.ofInt 64 d &&& BitVec.ofInt 64 31).toNat : Int) = _
    rw [IntKind.wrap_i64]
    omega
  · rw [BitVec.toNat_and]
    exact Nat.le_trans Nat.and_le_right (by decide)

theorem fit_pair (X Y : Int) (h : X ≤ Y) : fitE X = 2 ∨ (fitE X = 0 ∧ fitE Y = 2) ∨ (fitE X = 0 ∧ fitE Y = 0 ∧ ¬ fitV Y < fitV X ∧ decide (fitV Y < fitV X) = false) := by
  obtain hx | hx := fitE_2 (a := X)
  · obtain hy | hy := fitE_2 (a := Y)
    · have h1 : ¬ fitV Y < fitV X := by rw [fitE_0 hx, fitE_0 hy]; omega
      exact Or.inr (Or.inr ⟨hx, hy, h1, decide_eq_false h1⟩)
    · exact Or.inr (Or.inl ⟨hx, hy⟩)
  · exact Or.inl hx

theorem fit_sums (a b c : Int) (h : a ≤ b) : fitE (a + c) = 2 ∨ (fitE (a + c) = 0 ∧ fitE (b + c) = 2) ∨ (fitE (a + c) = 0 ∧ fitE (b + c) = 0 ∧ ¬ fitV (b + c) ≤ fitV (a + c) ∧ decide (fitV (b + c) ≤ fitV (a + c)) = false) ∨ (fitE (a + c) = 0 ∧ fitE (b + c) = 0 ∧ fitV (b + c) ≤ fitV (a + c) ∧ ¬ a < b ∧ decide (a < b) = false) := by
  obtain hx | hx := fitE_2 (a := a + c)
  · obtain hy | hy := fitE_2 (a := b + c)
    · rw [fitE_0 hx, fitE_0 hy]
      by_cases e : a < b
      · exact Or.inr (Or.inr (Or.inl ⟨hx, hy, by omega, decide_eq_false (by omega)⟩))
      · exact Or.inr (Or.inr (Or.inr ⟨hx, hy, by omega, e, decide_eq_false e⟩))
    · exact Or.inr (Or.inl ⟨hx, hy⟩)
  · exact Or.inl hx

theorem rt_mono {A B : Nat} (h : A ≤ B) : rt A 2 ≤ rt B 2 := (le_rt_iff (by omega)).2 (Nat.le_trans (rt_is A (k := 2) (by omega)).1 h)

theorem div_mono {a b c : Rat} (hc : 0 < c) (h : a ≤ b) : a / c ≤ b / c := by
  have hi : 0 ≤ c⁻¹ := by
    have h1 : c⁻¹ * c = 1 := Rat.inv_mul_cancel _ (by intro e; rw [e] at hc; exact absurd hc (by decide))
    cases Rat.le_total (a := 0) (b := c⁻¹) with
    | inl h => exact h
    | inr h2 =>
      have := Rat.mul_le_mul_of_nonneg_right h2 (Rat.le_of_lt hc)
      rw [h1, Rat.zero_mul] at this
      exact absurd this (by decide)
  rw [Rat.div_def, Rat.div_def]
  exact Rat.mul_le_mul_of_nonneg_right h hi

theorem Try.fixSqrtAny (b : Int) (K : Nat) (w : World) (hb : b < 9223372036854775808) (hK : K ≤ 40) :
    Calls Try.prog 20 #[.int .i64 b, .int .i64 (K : Int)] w fun e w' => ∃ V E, e = .returned (.tuple #[.int .i64 V, .int .i64 E]) ∧ Ext w w' := by
  by_cases h : b < 0
  · exact (Try.fixSqrtNeg b (K : Int) w (decide_eq_true (by omega)) h).mono fun _ _ h => ⟨0, 1, h.1, by rw [← h.2]; exact Ext.refl _⟩
  · obtain ⟨B, rfl⟩ := Int.eq_ofNat_of_zero_le (show 0 ≤ b by omega)
    exact (Try.fixSqrt B K w (by omega) hK).mono fun _ _ h => ⟨_, _, h.1, h.2⟩

set_option maxRecDepth 100000 in
set_option maxHeartbeats 16000000 in
theorem Try.lawFixOrderN (a b c d : Int) (w : World) (ha0 : a < 0) (ha1 : -9223372036854775808 ≤ a) (ha2 : a < 9223372036854775808) (hb1 : -9223372036854775808 ≤ b) (hb2 : b < 9223372036854775808) (hc1 : -9223372036854775808 ≤ c) (hc2 : c < 9223372036854775808) :
    Calls Try.prog 3 #[.int .i64 a, .int .i64 b, .agg #[.int .i64 c, .int .i64 d]] w fun e w' => e = .returned (.bool true) ∧ Ext w w' := by
  obtain ⟨K, hKb, hK⟩ := bits_and31 d
  by_cases hab : b < a
  · have habd : decide (b < a) = true := decide_eq_true hab
    obtain ⟨W0, hW0⟩ : ∃ W0, W0 = (w.alloc (.cells #[.int .i64 c, .int .i64 d] 22)) := ⟨_, rfl⟩
    have E0 : Ext w W0 := by rw [hW0]; exact (Ext.alloc1 w (.cells #[.int .i64 c, .int .i64 d] 22))
    have p5 : Bx2 W0 w.heap.size 22 (.int .i64 c) (.int .i64 d) := by rw [hW0]; exact (Bx2.new w 22 (.int .i64 c) (.int .i64 d))
    go_enter Try.func3, Try.ntmps3
    have kp5_0 := p5.cell0
    have kp5_1 := p5.cell1
    go_upto_region 1 with (fail)
    rw [← hW0]
    clear hW0
    clear kp5_0 kp5_1
    have ltp5 := p5.lt
    have szw1 := Ext.size E0
    refine region_go [.one fun v _ => v = .pointer (some ⟨w.heap.size, 0, none⟩),
        .one fun v _ => v = .int .i64 c,
        .one fun v _ => v = .pointer (some ⟨w.heap.size, 1, none⟩),
        .one fun v _ => v = .int .i64 d,
        .one fun v _ => v = .int .i64 (K : Int),
        .one fun v _ => v = .int .i64 c,
        .one fun v _ => v = .int .i64 (K : Int)]
      (fun W => Ext w W ∧ Bx2 W w.heap.size 22 (.int .i64 c) (.int .i64 d) ∧ W0.heap.size ≤ W.heap.size) ⟨Good.is _, Good.is _, Good.is _, Good.is _, Good.is _, Good.is _, Good.is _, trivial⟩
      (fun W W1 hS hE => ⟨(Ext.trans hS.1 hE), (hS.2.1.ext hE), (Nat.le_trans hS.2.2 (Ext.size hE))⟩) ⟨E0, p5, Nat.le_refl _⟩ (by kernel_rfl) (by kernel_rfl) (by kernel_rfl) (by kernel_rfl) (A := ?A1) ?hA1 ?howe1 ?hfin1
    case hA1 =>
      intro vs
      simp only [putAll, Act.put, List.setIfInBounds_toArray, List.set_cons_zero, List.set_cons_succ, Nat.zero_add, Nat.reduceAdd]
      exact rfl
    case howe1 =>
      clear E0 p5
      intro hf
      refine ⟨owesE 0 [] hf rfl (by kernel_rfl) ?_, owesE 1 [0] hf rfl (by kernel_rfl) ?_, owesE 2 [] hf rfl (by kernel_rfl) ?_, owesE 3 [2] hf rfl (by kernel_rfl) ?_, owesE 4 [3] hf rfl (by kernel_rfl) ?_, owesE 5 [1] hf rfl (by kernel_rfl) ?_, owesE 6 [4] hf rfl (by kernel_rfl) ?_, trivial⟩
      all_goals intro vs W hS hp hx KO hKO
      all_goals simp only [Act.put, List.setIfInBounds_toArray, List.set_cons_zero, List.set_cons_succ] at hKO
      · go_simp
        exact hKO _ W (Ext.refl W) rfl
      · have e0 := isOf hp.1
        simp only [e0] at hKO
        have fc0 := hS.2.1.cell0
        go_simp
        exact hKO _ W (Ext.refl W) rfl
      · go_simp
        exact hKO _ W (Ext.refl W) rfl
      · have e2 := isOf hp.1
        simp only [e2] at hKO
        have fc1 := hS.2.1.cell1
        go_simp
        exact hKO _ W (Ext.refl W) rfl
      · have e3 := isOf hp.1
        simp only [e3] at hKO
        go_simp
        exact hKO _ W (Ext.refl W) rfl
      · have e1 := isOf hp.1
        simp only [e1] at hKO
        go_simp
        exact hKO _ W (Ext.refl W) rfl
      · have e4 := isOf hp.1
        simp only [e4] at hKO
        go_simp
        exact hKO _ W (Ext.refl W) rfl
    intro vs W1 hS hp
    clear szw1 E0 p5
    obtain ⟨E0, p5, sz1⟩ := hS
    obtain ⟨h1_0, h1_1, h1_2, h1_3, h1_4, h1_5, h1_6, -⟩ := hp
    replace h1_0 : vs 0 = .pointer (some ⟨w.heap.size, 0, none⟩) := h1_0
    replace h1_1 : vs 1 = .int .i64 c := h1_1
    replace h1_2 : vs 2 = .pointer (some ⟨w.heap.size, 1, none⟩) := h1_2
    replace h1_3 : vs 3 = .int .i64 d := h1_3
    replace h1_4 : vs 4 = .int .i64 (K : Int) := h1_4
    replace h1_5 : vs 5 = .int .i64 c := h1_5
    replace h1_6 : vs 6 = .int .i64 (K : Int) := h1_6
    simp only [h1_0, h1_1, h1_2, h1_3, h1_4, h1_5, h1_6]
    clear h1_0 h1_1 h1_2 h1_3 h1_4 h1_5 h1_6
    have kp5_0 := p5.cell0
    have kp5_1 := p5.cell1
    go_wp2_with fail
    clear kp5_0 kp5_1
    refine (Try.alive08 _).mono ?_
    rintro e V1 ⟨rfl, hE⟩
    replace E0 : Ext w V1 := (Ext.trans E0 hE)
    replace p5 : Bx2 V1 w.heap.size 22 (.int .i64 c) (.int .i64 d) := (p5.ext hE)
    clear hE
    have kp5_0 := p5.cell0
    have kp5_1 := p5.cell1
    go_wp2
    go_ret
    exact ⟨rfl, E0⟩
  · have habd : decide (b < a) = false := decide_eq_false hab
    by_cases hc0 : c ≤ 0
    · have hcd : decide (c ≤ 0) = true := decide_eq_true hc0
      obtain ⟨W0, hW0⟩ : ∃ W0, W0 = (w.alloc (.cells #[.int .i64 c, .int .i64 d] 22)) := ⟨_, rfl⟩
      have E0 : Ext w W0 := by rw [hW0]; exact (Ext.alloc1 w (.cells #[.int .i64 c, .int .i64 d] 22))
      have p5 : Bx2 W0 w.heap.size 22 (.int .i64 c) (.int .i64 d) := by rw [hW0]; exact (Bx2.new w 22 (.int .i64 c) (.int .i64 d))
      go_enter Try.func3, Try.ntmps3
      have kp5_0 := p5.cell0
      have kp5_1 := p5.cell1
      go_upto_region 1 with (fail)
      rw [← hW0]
      clear hW0
      clear kp5_0 kp5_1
      have ltp5 := p5.lt
      have szw2 := Ext.size E0
      refine region_go [.one fun v _ => v = .pointer (some ⟨w.heap.size, 0, none⟩),
          .one fun v _ => v = .int .i64 c,
          .one fun v _ => v = .pointer (some ⟨w.heap.size, 1, none⟩),
          .one fun v _ => v = .int .i64 d,
          .one fun v _ => v = .int .i64 (K : Int),
          .one fun v _ => v = .int .i64 c,
          .one fun v _ => v = .int .i64 (K : Int)]
        (fun W => Ext w W ∧ Bx2 W w.heap.size 22 (.int .i64 c) (.int .i64 d) ∧ W0.heap.size ≤ W.heap.size) ⟨Good.is _, Good.is _, Good.is _, Good.is _, Good.is _, Good.is _, Good.is _, trivial⟩
        (fun W W1 hS hE => ⟨(Ext.trans hS.1 hE), (hS.2.1.ext hE), (Nat.le_trans hS.2.2 (Ext.size hE))⟩) ⟨E0, p5, Nat.le_refl _⟩ (by kernel_rfl) (by kernel_rfl) (by kernel_rfl) (by kernel_rfl) (A := ?A2) ?hA2 ?howe2 ?hfin2
      case hA2 =>
        intro vs
        simp only [putAll, Act.put, List.setIfInBounds_toArray, List.set_cons_zero, List.set_cons_succ, Nat.zero_add, Nat.reduceAdd]
        exact rfl
      case howe2 =>
        clear E0 p5
        intro hf
        refine ⟨owesE 0 [] hf rfl (by kernel_rfl) ?_, owesE 1 [0] hf rfl (by kernel_rfl) ?_, owesE 2 [] hf rfl (by kernel_rfl) ?_, owesE 3 [2] hf rfl (by kernel_rfl) ?_, owesE 4 [3] hf rfl (by kernel_rfl) ?_, owesE 5 [1] hf rfl (by kernel_rfl) ?_, owesE 6 [4] hf rfl (by kernel_rfl) ?_, trivial⟩
        all_goals intro vs W hS hp hx KO hKO
        all_goals simp only [Act.put, List.setIfInBounds_toArray, List.set_cons_zero, List.set_cons_succ] at hKO
        · go_simp
          exact hKO _ W (Ext.refl W) rfl
        · have e0 := isOf hp.1
          simp only [e0] at hKO
          have fc0 := hS.2.1.cell0
          go_simp
          exact hKO _ W (Ext.refl W) rfl
        · go_simp
          exact hKO _ W (Ext.refl W) rfl
        · have e2 := isOf hp.1
          simp only [e2] at hKO
          have fc1 := hS.2.1.cell1
          go_simp
          exact hKO _ W (Ext.refl W) rfl
        · have e3 := isOf hp.1
          simp only [e3] at hKO
          go_simp
          exact hKO _ W (Ext.refl W) rfl
        · have e1 := isOf hp.1
          simp only [e1] at hKO
          go_simp
          exact hKO _ W (Ext.refl W) rfl
        · have e4 := isOf hp.1
          simp only [e4] at hKO
          go_simp
          exact hKO _ W (Ext.refl W) rfl
      intro vs W2 hS hp
      clear szw2 E0 p5
      obtain ⟨E0, p5, sz2⟩ := hS
      obtain ⟨h2_0, h2_1, h2_2, h2_3, h2_4, h2_5, h2_6, -⟩ := hp
      replace h2_0 : vs 0 = .pointer (some ⟨w.heap.size, 0, none⟩) := h2_0
      replace h2_1 : vs 1 = .int .i64 c := h2_1
      replace h2_2 : vs 2 = .pointer (some ⟨w.heap.size, 1, none⟩) := h2_2
      replace h2_3 : vs 3 = .int .i64 d := h2_3
      replace h2_4 : vs 4 = .int .i64 (K : Int) := h2_4
      replace h2_5 : vs 5 = .int .i64 c := h2_5
      replace h2_6 : vs 6 = .int .i64 (K : Int) := h2_6
      simp only [h2_0, h2_1, h2_2, h2_3, h2_4, h2_5, h2_6]
      clear h2_0 h2_1 h2_2 h2_3 h2_4 h2_5 h2_6
      have kp5_0 := p5.cell0
      have kp5_1 := p5.cell1
      go_wp2_with fail
      clear kp5_0 kp5_1
      refine (Try.alive08 _).mono ?_
      rintro e V2 ⟨rfl, hE⟩
      replace E0 : Ext w V2 := (Ext.trans E0 hE)
      replace p5 : Bx2 V2 w.heap.size 22 (.int .i64 c) (.int .i64 d) := (p5.ext hE)
      clear hE
      have kp5_0 := p5.cell0
      have kp5_1 := p5.cell1
      go_wp2
      go_ret
      exact ⟨rfl, E0⟩
    · have hcd : decide (c ≤ 0) = false := decide_eq_false hc0
      have h1 := fit_pair (nearR (((a * c : Int) : Rat) / ((2 ^ K : Nat) : Rat))) (nearR (((b * c : Int) : Rat) / ((2 ^ K : Nat) : Rat))) (near_mono (div_mono (P2_pos K) (Rat.intCast_le_intCast.2 (Int.mul_le_mul_of_nonneg_right (show a ≤ b by omega) (show 0 ≤ c by omega)))))
      have h2 := fit_pair (nearR (((a * ((2 ^ K : Nat) : Int) : Int) : Rat) / (c : Rat))) (nearR (((b * ((2 ^ K : Nat) : Int) : Int) : Rat) / (c : Rat))) (near_mono (div_mono (show (0 : Rat) < (c : Rat) from Rat.intCast_lt_intCast.2 (show 0 < c by omega)) (Rat.intCast_le_intCast.2 (Int.mul_le_mul_of_nonneg_right (show a ≤ b by omega) (Int.natCast_nonneg _)))))
      have h3 := fit_sums a b c (by omega)
      obtain ⟨VP1, hVP1⟩ : ∃ V, fitV (nearR (((a * c : Int) : Rat) / ((2 ^ K : Nat) : Rat))) = V := ⟨_, rfl⟩
      obtain ⟨EP1, hEP1⟩ : ∃ V, fitE (nearR (((a * c : Int) : Rat) / ((2 ^ K : Nat) : Rat))) = V := ⟨_, rfl⟩
      obtain ⟨VP2, hVP2⟩ : ∃ V, fitV (nearR (((b * c : Int) : Rat) / ((2 ^ K : Nat) : Rat))) = V := ⟨_, rfl⟩
      obtain ⟨EP2, hEP2⟩ : ∃ V, fitE (nearR (((b * c : Int) : Rat) / ((2 ^ K : Nat) : Rat))) = V := ⟨_, rfl⟩
      obtain ⟨VD1, hVD1⟩ : ∃ V, fitV (nearR (((a * ((2 ^ K : Nat) : Int) : Int) : Rat) / (c : Rat))) = V := ⟨_, rfl⟩
      obtain ⟨ED1, hED1⟩ : ∃ V, fitE (nearR (((a * ((2 ^ K : Nat) : Int) : Int) : Rat) / (c : Rat))) = V := ⟨_, rfl⟩
      obtain ⟨VD2, hVD2⟩ : ∃ V, fitV (nearR (((b * ((2 ^ K : Nat) : Int) : Int) : Rat) / (c : Rat))) = V := ⟨_, rfl⟩
      obtain ⟨ED2, hED2⟩ : ∃ V, fitE (nearR (((b * ((2 ^ K : Nat) : Int) : Int) : Rat) / (c : Rat))) = V := ⟨_, rfl⟩
      obtain ⟨VS1, hVS1⟩ : ∃ V, fitV (a + c) = V := ⟨_, rfl⟩
      obtain ⟨ES1, hES1⟩ : ∃ V, fitE (a + c) = V := ⟨_, rfl⟩
      obtain ⟨VS2, hVS2⟩ : ∃ V, fitV (b + c) = V := ⟨_, rfl⟩
      obtain ⟨ES2, hES2⟩ : ∃ V, fitE (b + c) = V := ⟨_, rfl⟩
      rw [hEP1, hEP2, hVP1, hVP2] at h1
      rw [hED1, hED2, hVD1, hVD2] at h2
      rw [hES1, hES2, hVS1, hVS2] at h3
      have HVP1 := Lib.hid hVP1
      have HEP1 := Lib.hid hEP1
      clear hVP1 hEP1
      have HVP2 := Lib.hid hVP2
      have HEP2 := Lib.hid hEP2
      clear hVP2 hEP2
      have HVD1 := Lib.hid hVD1
      have HED1 := Lib.hid hED1
      clear hVD1 hED1
      have HVD2 := Lib.hid hVD2
      have HED2 := Lib.hid hED2
      clear hVD2 hED2
      have HVS1 := Lib.hid hVS1
      have HES1 := Lib.hid hES1
      clear hVS1 hES1
      have HVS2 := Lib.hid hVS2
      have HES2 := Lib.hid hES2
      clear hVS2 hES2
      have H1 := Lib.hid h1
      have H2 := Lib.hid h2
      have H3 := Lib.hid h3
      clear h1 h2 h3
      have HB := Lib.hid (show (-9223372036854775808 ≤ a ∧ a < 9223372036854775808) ∧ (-9223372036854775808 ≤ b ∧ b < 9223372036854775808) ∧ (-9223372036854775808 ≤ c ∧ c < 9223372036854775808) ∧ c ≠ 0 ∧ K ≤ 40 by omega)
      · have had : decide (a < 0) = true := decide_eq_true ha0
        have HN := Lib.hid ha0
        have HKF : Hid (fracB (K : Int) = true) := Lib.hid (decide_eq_true (by omega))
        clear ha1 ha2 hb1 hb2 hc1 hc2 hK
        obtain ⟨W0, hW0⟩ : ∃ W0, W0 = (w.alloc (.cells #[.int .i64 c, .int .i64 d] 22)) := ⟨_, rfl⟩
        have E0 : Ext w W0 := by rw [hW0]; exact (Ext.alloc1 w (.cells #[.int .i64 c, .int .i64 d] 22))
        have p5 : Bx2 W0 w.heap.size 22 (.int .i64 c) (.int .i64 d) := by rw [hW0]; exact (Bx2.new w 22 (.int .i64 c) (.int .i64 d))
        go_enter Try.func3, Try.ntmps3
        have kp5_0 := p5.cell0
        have kp5_1 := p5.cell1
        go_upto_region 1 with (fail)
        rw [← hW0]
        clear hW0
        clear kp5_0 kp5_1
        have ltp5 := p5.lt
        have szw3 := Ext.size E0
        refine region_go [.one fun v _ => v = .pointer (some ⟨w.heap.size, 0, none⟩),
            .one fun v _ => v = .int .i64 c,
            .one fun v _ => v = .pointer (some ⟨w.heap.size, 1, none⟩),
            .one fun v _ => v = .int .i64 d,
            .one fun v _ => v = .int .i64 (K : Int),
            .one fun v _ => v = .int .i64 c,
            .one fun v _ => v = .int .i64 (K : Int)]
          (fun W => Ext w W ∧ Bx2 W w.heap.size 22 (.int .i64 c) (.int .i64 d) ∧ W0.heap.size ≤ W.heap.size) ⟨Good.is _, Good.is _, Good.is _, Good.is _, Good.is _, Good.is _, Good.is _, trivial⟩
          (fun W W1 hS hE => ⟨(Ext.trans hS.1 hE), (hS.2.1.ext hE), (Nat.le_trans hS.2.2 (Ext.size hE))⟩) ⟨E0, p5, Nat.le_refl _⟩ (by kernel_rfl) (by kernel_rfl) (by kernel_rfl) (by kernel_rfl) (A := ?A3) ?hA3 ?howe3 ?hfin3
        case hA3 =>
          intro vs
          simp only [putAll, Act.put, List.setIfInBounds_toArray, List.set_cons_zero, List.set_cons_succ, Nat.zero_add, Nat.reduceAdd]
          exact rfl
        case howe3 =>
          clear E0 p5
          intro hf
          refine ⟨owesE 0 [] hf rfl (by kernel_rfl) ?_, owesE 1 [0] hf rfl (by kernel_rfl) ?_, owesE 2 [] hf rfl (by kernel_rfl) ?_, owesE 3 [2] hf rfl (by kernel_rfl) ?_, owesE 4 [3] hf rfl (by kernel_rfl) ?_, owesE 5 [1] hf rfl (by kernel_rfl) ?_, owesE 6 [4] hf rfl (by kernel_rfl) ?_, trivial⟩
          all_goals intro vs W hS hp hx KO hKO
          all_goals simp only [Act.put, List.setIfInBounds_toArray, List.set_cons_zero, List.set_cons_succ] at hKO
          · go_simp
            exact hKO _ W (Ext.refl W) rfl
          · have e0 := isOf hp.1
            simp only [e0] at hKO
            have fc0 := hS.2.1.cell0
            go_simp
            exact hKO _ W (Ext.refl W) rfl
          · go_simp
            exact hKO _ W (Ext.refl W) rfl
          · have e2 := isOf hp.1
            simp only [e2] at hKO
            have fc1 := hS.2.1.cell1
            go_simp
            exact hKO _ W (Ext.refl W) rfl
          · have e3 := isOf hp.1
            simp only [e3] at hKO
            go_simp
            exact hKO _ W (Ext.refl W) rfl
          · have e1 := isOf hp.1
            simp only [e1] at hKO
            go_simp
            exact hKO _ W (Ext.refl W) rfl
          · have e4 := isOf hp.1
            simp only [e4] at hKO
            go_simp
            exact hKO _ W (Ext.refl W) rfl
        intro vs W3 hS hp
        clear szw3 E0 p5
        obtain ⟨E0, p5, sz3⟩ := hS
        obtain ⟨h3_0, h3_1, h3_2, h3_3, h3_4, h3_5, h3_6, -⟩ := hp
        replace h3_0 : vs 0 = .pointer (some ⟨w.heap.size, 0, none⟩) := h3_0
        replace h3_1 : vs 1 = .int .i64 c := h3_1
        replace h3_2 : vs 2 = .pointer (some ⟨w.heap.size, 1, none⟩) := h3_2
        replace h3_3 : vs 3 = .int .i64 d := h3_3
        replace h3_4 : vs 4 = .int .i64 (K : Int) := h3_4
        replace h3_5 : vs 5 = .int .i64 c := h3_5
        replace h3_6 : vs 6 = .int .i64 (K : Int) := h3_6
        simp only [h3_0, h3_1, h3_2, h3_3, h3_4, h3_5, h3_6]
        clear h3_0 h3_1 h3_2 h3_3 h3_4 h3_5 h3_6
        have kp5_0 := p5.cell0
        have kp5_1 := p5.cell1
        go_wp2_with fail
        clear kp5_0 kp5_1
        refine (Try.fixMulV a c K HB.out.2.2.2.2 _ HB.out.1.1 HB.out.1.2 HB.out.2.2.1.1 HB.out.2.2.1.2 HVP1.out HEP1.out).mono ?_
        rintro e V3 ⟨rfl, hE⟩
        replace E0 : Ext w V3 := (Ext.trans E0 hE)
        replace p5 : Bx2 V3 w.heap.size 22 (.int .i64 c) (.int .i64 d) := (p5.ext hE)
        clear hE
        have kp5_0 := p5.cell0
        have kp5_1 := p5.cell1
        go_wp2_with fail
        clear kp5_0 kp5_1
        refine (Try.fixMulV b c K HB.out.2.2.2.2 _ HB.out.2.1.1 HB.out.2.1.2 HB.out.2.2.1.1 HB.out.2.2.1.2 HVP2.out HEP2.out).mono ?_
        rintro e V4 ⟨rfl, hE⟩
        replace E0 : Ext w V4 := (Ext.trans E0 hE)
        replace p5 : Bx2 V4 w.heap.size 22 (.int .i64 c) (.int .i64 d) := (p5.ext hE)
        clear hE
        have kp5_0 := p5.cell0
        have kp5_1 := p5.cell1
        go_wp2_with fail
        clear kp5_0 kp5_1
        refine (Try.fixDivV a c K HB.out.2.2.2.2 _ HB.out.1.1 HB.out.1.2 HB.out.2.2.1.1 HB.out.2.2.1.2 HB.out.2.2.2.1 HVD1.out HED1.out).mono ?_
        rintro e V5 ⟨rfl, hE⟩
        replace E0 : Ext w V5 := (Ext.trans E0 hE)
        replace p5 : Bx2 V5 w.heap.size 22 (.int .i64 c) (.int .i64 d) := (p5.ext hE)
        clear hE
        have kp5_0 := p5.cell0
        have kp5_1 := p5.cell1
        go_wp2_with fail
        clear kp5_0 kp5_1
        refine (Try.fixDivV b c K HB.out.2.2.2.2 _ HB.out.2.1.1 HB.out.2.1.2 HB.out.2.2.1.1 HB.out.2.2.1.2 HB.out.2.2.2.1 HVD2.out HED2.out).mono ?_
        rintro e V6 ⟨rfl, hE⟩
        replace E0 : Ext w V6 := (Ext.trans E0 hE)
        replace p5 : Bx2 V6 w.heap.size 22 (.int .i64 c) (.int .i64 d) := (p5.ext hE)
        clear hE
        have kp5_0 := p5.cell0
        have kp5_1 := p5.cell1
        go_wp2_with fail
        clear kp5_0 kp5_1
        refine (Try.fixAddV a c _ HB.out.1.1 HB.out.1.2 HB.out.2.2.1.1 HB.out.2.2.1.2 HVS1.out HES1.out).mono ?_
        rintro e V7 ⟨rfl, hE⟩
        replace E0 : Ext w V7 := (Ext.trans E0 hE)
        replace p5 : Bx2 V7 w.heap.size 22 (.int .i64 c) (.int .i64 d) := (p5.ext hE)
        clear hE
        have kp5_0 := p5.cell0
        have kp5_1 := p5.cell1
        go_wp2_with fail
        clear kp5_0 kp5_1
        refine (Try.fixAddV b c _ HB.out.2.1.1 HB.out.2.1.2 HB.out.2.2.1.1 HB.out.2.2.1.2 HVS2.out HES2.out).mono ?_
        rintro e V8 ⟨rfl, hE⟩
        replace E0 : Ext w V8 := (Ext.trans E0 hE)
        replace p5 : Bx2 V8 w.heap.size 22 (.int .i64 c) (.int .i64 d) := (p5.ext hE)
        clear hE
        have kp5_0 := p5.cell0
        have kp5_1 := p5.cell1
        go_wp2_with fail
        clear kp5_0 kp5_1
        refine (Try.fixSqrtNeg a (K : Int) _ HKF.out HN.out).mono ?_
        rintro e V9 ⟨rfl, rfl⟩
        have kp5_0 := p5.cell0
        have kp5_1 := p5.cell1
        go_wp2_with fail
        clear kp5_0 kp5_1
        refine (Try.fixSqrtAny b K _ HB.out.2.1.2 HB.out.2.2.2.2).mono ?_
        rintro e V10 ⟨Vy, Ey, rfl, hE⟩
        replace E0 : Ext w V10 := (Ext.trans E0 hE)
        replace p5 : Bx2 V10 w.heap.size 22 (.int .i64 c) (.int .i64 d) := (p5.ext hE)
        clear hE
        have kp5_0 := p5.cell0
        have kp5_1 := p5.cell1
        go_upto_region 12 with (fail)
        clear kp5_0 kp5_1
        have kp5_0 := p5.cell0
        have kp5_1 := p5.cell1
        obtain rfl | ⟨rfl, rfl⟩ | ⟨rfl, rfl, hpq, hpqd⟩ := H1.out
        all_goals obtain rfl | ⟨rfl, rfl⟩ | ⟨rfl, rfl, hst, hstd⟩ := H2.out
        all_goals obtain rfl | ⟨rfl, rfl⟩ | ⟨rfl, rfl, huv, huvd⟩ | ⟨rfl, rfl, huv, hlt, hltd⟩ := H3.out
        all_goals (go_wp2_with fail; refine (Try.alive08 _).mono ?_; rintro e We ⟨rfl, hE⟩; go_wp2; go_ret; exact ⟨rfl, Ext.trans E0 hE⟩)

set_option maxRecDepth 100000 in
set_option maxHeartbeats 16000000 in
theorem Try.lawFixOrderP (a b c d : Int) (w : World) (ha0 : ¬ a < 0) (ha1 : -9223372036854775808 ≤ a) (ha2 : a < 9223372036854775808) (hb1 : -9223372036854775808 ≤ b) (hb2 : b < 9223372036854775808) (hc1 : -9223372036854775808 ≤ c) (hc2 : c < 9223372036854775808) :
    Calls Try.prog 3 #[.int .i64 a, .int .i64 b, .agg #[.int .i64 c, .int .i64 d]] w fun e w' => e = .returned (.bool true) ∧ Ext w w' := by
  obtain ⟨K, hKb, hK⟩ := bits_and31 d
  by_cases hab : b < a
  · have habd : decide (b < a) = true := decide_eq_true hab
    obtain ⟨W0, hW0⟩ : ∃ W0, W0 = (w.alloc (.cells #[.int .i64 c, .int .i64 d] 22)) := ⟨_, rfl⟩
    have E0 : Ext w W0 := by rw [hW0]; exact (Ext.alloc1 w (.cells #[.int .i64 c, .int .i64 d] 22))
    have p5 : Bx2 W0 w.heap.size 22 (.int .i64 c) (.int .i64 d) := by rw [hW0]; exact (Bx2.new w 22 (.int .i64 c) (.int .i64 d))
    go_enter Try.func3, Try.ntmps3
    have kp5_0 := p5.cell0
    have kp5_1 := p5.cell1
    go_upto_region 1 with (fail)
    rw [← hW0]
    clear hW0
    clear kp5_0 kp5_1
    have ltp5 := p5.lt
    have szw4 := Ext.size E0
    refine region_go [.one fun v _ => v = .pointer (some ⟨w.heap.size, 0, none⟩),
        .one fun v _ => v = .int .i64 c,
        .one fun v _ => v = .pointer (some ⟨w.heap.size, 1, none⟩),
        .one fun v _ => v = .int .i64 d,
        .one fun v _ => v = .int .i64 (K : Int),
        .one fun v _ => v = .int .i64 c,
        .one fun v _ => v = .int .i64 (K : Int)]
      (fun W => Ext w W ∧ Bx2 W w.heap.size 22 (.int .i64 c) (.int .i64 d) ∧ W0.heap.size ≤ W.heap.size) ⟨Good.is _, Good.is _, Good.is _, Good.is _, Good.is _, Good.is _, Good.is _, trivial⟩
      (fun W W1 hS hE => ⟨(Ext.trans hS.1 hE), (hS.2.1.ext hE), (Nat.le_trans hS.2.2 (Ext.size hE))⟩) ⟨E0, p5, Nat.le_refl _⟩ (by kernel_rfl) (by kernel_rfl) (by kernel_rfl) (by kernel_rfl) (A := ?A4) ?hA4 ?howe4 ?hfin4
    case hA4 =>
      intro vs
      simp only [putAll, Act.put, List.setIfInBounds_toArray, List.set_cons_zero, List.set_cons_succ, Nat.zero_add, Nat.reduceAdd]
      exact rfl
    case howe4 =>
      clear E0 p5
      intro hf
      refine ⟨owesE 0 [] hf rfl (by kernel_rfl) ?_, owesE 1 [0] hf rfl (by kernel_rfl) ?_, owesE 2 [] hf rfl (by kernel_rfl) ?_, owesE 3 [2] hf rfl (by kernel_rfl) ?_, owesE 4 [3] hf rfl (by kernel_rfl) ?_, owesE 5 [1] hf rfl (by kernel_rfl) ?_, owesE 6 [4] hf rfl (by kernel_rfl) ?_, trivial⟩
      all_goals intro vs W hS hp hx KO hKO
      all_goals simp only [Act.put, List.setIfInBounds_toArray, List.set_cons_zero, List.set_cons_succ] at hKO
      · go_simp
        exact hKO _ W (Ext.refl W) rfl
      · have e0 := isOf hp.1
        simp only [e0] at hKO
        have fc0 := hS.2.1.cell0
        go_simp
        exact hKO _ W (Ext.refl W) rfl
      · go_simp
        exact hKO _ W (Ext.refl W) rfl
      · have e2 := isOf hp.1
        simp only [e2] at hKO
        have fc1 := hS.2.1.cell1
        go_simp
        exact hKO _ W (Ext.refl W) rfl
      · have e3 := isOf hp.1
        simp only [e3] at hKO
        go_simp
        exact hKO _ W (Ext.refl W) rfl
      · have e1 := isOf hp.1
        simp only [e1] at hKO
        go_simp
        exact hKO _ W (Ext.refl W) rfl
      · have e4 := isOf hp.1
        simp only [e4] at hKO
        go_simp
        exact hKO _ W (Ext.refl W) rfl
    intro vs W4 hS hp
    clear szw4 E0 p5
    obtain ⟨E0, p5, sz4⟩ := hS
    obtain ⟨h4_0, h4_1, h4_2, h4_3, h4_4, h4_5, h4_6, -⟩ := hp
    replace h4_0 : vs 0 = .pointer (some ⟨w.heap.size, 0, none⟩) := h4_0
    replace h4_1 : vs 1 = .int .i64 c := h4_1
    replace h4_2 : vs 2 = .pointer (some ⟨w.heap.size, 1, none⟩) := h4_2
    replace h4_3 : vs 3 = .int .i64 d := h4_3
    replace h4_4 : vs 4 = .int .i64 (K : Int) := h4_4
    replace h4_5 : vs 5 = .int .i64 c := h4_5
    replace h4_6 : vs 6 = .int .i64 (K : Int) := h4_6
    simp only [h4_0, h4_1, h4_2, h4_3, h4_4, h4_5, h4_6]
    clear h4_0 h4_1 h4_2 h4_3 h4_4 h4_5 h4_6
    have kp5_0 := p5.cell0
    have kp5_1 := p5.cell1
    go_wp2_with fail
    clear kp5_0 kp5_1
    refine (Try.alive08 _).mono ?_
    rintro e V11 ⟨rfl, hE⟩
    replace E0 : Ext w V11 := (Ext.trans E0 hE)
    replace p5 : Bx2 V11 w.heap.size 22 (.int .i64 c) (.int .i64 d) := (p5.ext hE)
    clear hE
    have kp5_0 := p5.cell0
    have kp5_1 := p5.cell1
    go_wp2
    go_ret
    exact ⟨rfl, E0⟩
  · have habd : decide (b < a) = false := decide_eq_false hab
    by_cases hc0 : c ≤ 0
    · have hcd : decide (c ≤ 0) = true := decide_eq_true hc0
      obtain ⟨W0, hW0⟩ : ∃ W0, W0 = (w.alloc (.cells #[.int .i64 c, .int .i64 d] 22)) := ⟨_, rfl⟩
      have E0 : Ext w W0 := by rw [hW0]; exact (Ext.alloc1 w (.cells #[.int .i64 c, .int .i64 d] 22))
      have p5 : Bx2 W0 w.heap.size 22 (.int .i64 c) (.int .i64 d) := by rw [hW0]; exact (Bx2.new w 22 (.int .i64 c) (.int .i64 d))
      go_enter Try.func3, Try.ntmps3
      have kp5_0 := p5.cell0
      have kp5_1 := p5.cell1
      go_upto_region 1 with (fail)
      rw [← hW0]
      clear hW0
      clear kp5_0 kp5_1
      have ltp5 := p5.lt
      have szw5 := Ext.size E0
      refine region_go [.one fun v _ => v = .pointer (some ⟨w.heap.size, 0, none⟩),
          .one fun v _ => v = .int .i64 c,
          .one fun v _ => v = .pointer (some ⟨w.heap.size, 1, none⟩),
          .one fun v _ => v = .int .i64 d,
          .one fun v _ => v = .int .i64 (K : Int),
          .one fun v _ => v = .int .i64 c,
          .one fun v _ => v = .int .i64 (K : Int)]
        (fun W => Ext w W ∧ Bx2 W w.heap.size 22 (.int .i64 c) (.int .i64 d) ∧ W0.heap.size ≤ W.heap.size) ⟨Good.is _, Good.is _, Good.is _, Good.is _, Good.is _, Good.is _, Good.is _, trivial⟩
        (fun W W1 hS hE => ⟨(Ext.trans hS.1 hE), (hS.2.1.ext hE), (Nat.le_trans hS.2.2 (Ext.size hE))⟩) ⟨E0, p5, Nat.le_refl _⟩ (by kernel_rfl) (by kernel_rfl) (by kernel_rfl) (by kernel_rfl) (A := ?A5) ?hA5 ?howe5 ?hfin5
      case hA5 =>
        intro vs
        simp only [putAll, Act.put, List.setIfInBounds_toArray, List.set_cons_zero, List.set_cons_succ, Nat.zero_add, Nat.reduceAdd]
        exact rfl
      case howe5 =>
        clear E0 p5
        intro hf
        refine ⟨owesE 0 [] hf rfl (by kernel_rfl) ?_, owesE 1 [0] hf rfl (by kernel_rfl) ?_, owesE 2 [] hf rfl (by kernel_rfl) ?_, owesE 3 [2] hf rfl (by kernel_rfl) ?_, owesE 4 [3] hf rfl (by kernel_rfl) ?_, owesE 5 [1] hf rfl (by kernel_rfl) ?_, owesE 6 [4] hf rfl (by kernel_rfl) ?_, trivial⟩
        all_goals intro vs W hS hp hx KO hKO
        all_goals simp only [Act.put, List.setIfInBounds_toArray, List.set_cons_zero, List.set_cons_succ] at hKO
        · go_simp
          exact hKO _ W (Ext.refl W) rfl
        · have e0 := isOf hp.1
          simp only [e0] at hKO
          have fc0 := hS.2.1.cell0
          go_simp
          exact hKO _ W (Ext.refl W) rfl
        · go_simp
          exact hKO _ W (Ext.refl W) rfl
        · have e2 := isOf hp.1
          simp only [e2] at hKO
          have fc1 := hS.2.1.cell1
          go_simp
          exact hKO _ W (Ext.refl W) rfl
        · have e3 := isOf hp.1
          simp only [e3] at hKO
          go_simp
          exact hKO _ W (Ext.refl W) rfl
        · have e1 := isOf hp.1
          simp only [e1] at hKO
          go_simp
          exact hKO _ W (Ext.refl W) rfl
        · have e4 := isOf hp.1
          simp only [e4] at hKO
          go_simp
          exact hKO _ W (Ext.refl W) rfl
      intro vs W5 hS hp
      clear szw5 E0 p5
      obtain ⟨E0, p5, sz5⟩ := hS
      obtain ⟨h5_0, h5_1, h5_2, h5_3, h5_4, h5_5, h5_6, -⟩ := hp
      replace h5_0 : vs 0 = .pointer (some ⟨w.heap.size, 0, none⟩) := h5_0
      replace h5_1 : vs 1 = .int .i64 c := h5_1
      replace h5_2 : vs 2 = .pointer (some ⟨w.heap.size, 1, none⟩) := h5_2
      replace h5_3 : vs 3 = .int .i64 d := h5_3
      replace h5_4 : vs 4 = .int .i64 (K : Int) := h5_4
      replace h5_5 : vs 5 = .int .i64 c := h5_5
      replace h5_6 : vs 6 = .int .i64 (K : Int) := h5_6
      simp only [h5_0, h5_1, h5_2, h5_3, h5_4, h5_5, h5_6]
      clear h5_0 h5_1 h5_2 h5_3 h5_4 h5_5 h5_6
      have kp5_0 := p5.cell0
      have kp5_1 := p5.cell1
      go_wp2_with fail
      clear kp5_0 kp5_1
      refine (Try.alive08 _).mono ?_
      rintro e V12 ⟨rfl, hE⟩
      replace E0 : Ext w V12 := (Ext.trans E0 hE)
      replace p5 : Bx2 V12 w.heap.size 22 (.int .i64 c) (.int .i64 d) := (p5.ext hE)
      clear hE
      have kp5_0 := p5.cell0
      have kp5_1 := p5.cell1
      go_wp2
      go_ret
      exact ⟨rfl, E0⟩
    · have hcd : decide (c ≤ 0) = false := decide_eq_false hc0
      have h1 := fit_pair (nearR (((a * c : Int) : Rat) / ((2 ^ K : Nat) : Rat))) (nearR (((b * c : Int) : Rat) / ((2 ^ K : Nat) : Rat))) (near_mono (div_mono (P2_pos K) (Rat.intCast_le_intCast.2 (Int.mul_le_mul_of_nonneg_right (show a ≤ b by omega) (show 0 ≤ c by omega)))))
      have h2 := fit_pair (nearR (((a * ((2 ^ K : Nat) : Int) : Int) : Rat) / (c : Rat))) (nearR (((b * ((2 ^ K : Nat) : Int) : Int) : Rat) / (c : Rat))) (near_mono (div_mono (show (0 : Rat) < (c : Rat) from Rat.intCast_lt_intCast.2 (show 0 < c by omega)) (Rat.intCast_le_intCast.2 (Int.mul_le_mul_of_nonneg_right (show a ≤ b by omega) (Int.natCast_nonneg _)))))
      have h3 := fit_sums a b c (by omega)
      obtain ⟨VP1, hVP1⟩ : ∃ V, fitV (nearR (((a * c : Int) : Rat) / ((2 ^ K : Nat) : Rat))) = V := ⟨_, rfl⟩
      obtain ⟨EP1, hEP1⟩ : ∃ V, fitE (nearR (((a * c : Int) : Rat) / ((2 ^ K : Nat) : Rat))) = V := ⟨_, rfl⟩
      obtain ⟨VP2, hVP2⟩ : ∃ V, fitV (nearR (((b * c : Int) : Rat) / ((2 ^ K : Nat) : Rat))) = V := ⟨_, rfl⟩
      obtain ⟨EP2, hEP2⟩ : ∃ V, fitE (nearR (((b * c : Int) : Rat) / ((2 ^ K : Nat) : Rat))) = V := ⟨_, rfl⟩
      obtain ⟨VD1, hVD1⟩ : ∃ V, fitV (nearR (((a * ((2 ^ K : Nat) : Int) : Int) : Rat) / (c : Rat))) = V := ⟨_, rfl⟩
      obtain ⟨ED1, hED1⟩ : ∃ V, fitE (nearR (((a * ((2 ^ K : Nat) : Int) : Int) : Rat) / (c : Rat))) = V := ⟨_, rfl⟩
      obtain ⟨VD2, hVD2⟩ : ∃ V, fitV (nearR (((b * ((2 ^ K : Nat) : Int) : Int) : Rat) / (c : Rat))) = V := ⟨_, rfl⟩
      obtain ⟨ED2, hED2⟩ : ∃ V, fitE (nearR (((b * ((2 ^ K : Nat) : Int) : Int) : Rat) / (c : Rat))) = V := ⟨_, rfl⟩
      obtain ⟨VS1, hVS1⟩ : ∃ V, fitV (a + c) = V := ⟨_, rfl⟩
      obtain ⟨ES1, hES1⟩ : ∃ V, fitE (a + c) = V := ⟨_, rfl⟩
      obtain ⟨VS2, hVS2⟩ : ∃ V, fitV (b + c) = V := ⟨_, rfl⟩
      obtain ⟨ES2, hES2⟩ : ∃ V, fitE (b + c) = V := ⟨_, rfl⟩
      rw [hEP1, hEP2, hVP1, hVP2] at h1
      rw [hED1, hED2, hVD1, hVD2] at h2
      rw [hES1, hES2, hVS1, hVS2] at h3
      have HVP1 := Lib.hid hVP1
      have HEP1 := Lib.hid hEP1
      clear hVP1 hEP1
      have HVP2 := Lib.hid hVP2
      have HEP2 := Lib.hid hEP2
      clear hVP2 hEP2
      have HVD1 := Lib.hid hVD1
      have HED1 := Lib.hid hED1
      clear hVD1 hED1
      have HVD2 := Lib.hid hVD2
      have HED2 := Lib.hid hED2
      clear hVD2 hED2
      have HVS1 := Lib.hid hVS1
      have HES1 := Lib.hid hES1
      clear hVS1 hES1
      have HVS2 := Lib.hid hVS2
      have HES2 := Lib.hid hES2
      clear hVS2 hES2
      have H1 := Lib.hid h1
      have H2 := Lib.hid h2
      have H3 := Lib.hid h3
      clear h1 h2 h3
      have HB := Lib.hid (show (-9223372036854775808 ≤ a ∧ a < 9223372036854775808) ∧ (-9223372036854775808 ≤ b ∧ b < 9223372036854775808) ∧ (-9223372036854775808 ≤ c ∧ c < 9223372036854775808) ∧ c ≠ 0 ∧ K ≤ 40 by omega)
      · obtain ⟨A, rfl⟩ := Int.eq_ofNat_of_zero_le (show 0 ≤ a by omega)
        obtain ⟨B, rfl⟩ := Int.eq_ofNat_of_zero_le (show 0 ≤ b by omega)
        have had : decide ((A : Int) < 0) = false := decide_eq_false ha0
        have had2 : ¬ (A : Int) < 0 := ha0
        have hr := rt_mono (Nat.mul_le_mul_right (2 ^ K) (show A ≤ B by omega))
        obtain ⟨R1, hR1⟩ : ∃ R, rt (A * 2 ^ K) 2 = R := ⟨_, rfl⟩
        obtain ⟨R2, hR2⟩ : ∃ R, rt (B * 2 ^ K) 2 = R := ⟨_, rfl⟩
        rw [hR1, hR2] at hr
        have hrI : (R1 : Int) ≤ (R2 : Int) := by omega
        have HR1 := Lib.hid hR1
        have HR2 := Lib.hid hR2
        clear hR1 hR2
        have HAB := Lib.hid (show A < 9223372036854775808 ∧ B < 9223372036854775808 by omega)
        clear ha1 ha2 hb1 hb2 hc1 hc2 hK
        obtain ⟨W0, hW0⟩ : ∃ W0, W0 = (w.alloc (.cells #[.int .i64 c, .int .i64 d] 22)) := ⟨_, rfl⟩
        have E0 : Ext w W0 := by rw [hW0]; exact (Ext.alloc1 w (.cells #[.int .i64 c, .int .i64 d] 22))
        have p5 : Bx2 W0 w.heap.size 22 (.int .i64 c) (.int .i64 d) := by rw [hW0]; exact (Bx2.new w 22 (.int .i64 c) (.int .i64 d))
        go_enter Try.func3, Try.ntmps3
        have kp5_0 := p5.cell0
        have kp5_1 := p5.cell1
        go_upto_region 1 with (fail)
        rw [← hW0]
        clear hW0
        clear kp5_0 kp5_1
        have ltp5 := p5.lt
        have szw6 := Ext.size E0
        refine region_go [.one fun v _ => v = .pointer (some ⟨w.heap.size, 0, none⟩),
            .one fun v _ => v = .int .i64 c,
            .one fun v _ => v = .pointer (some ⟨w.heap.size, 1, none⟩),
            .one fun v _ => v = .int .i64 d,
            .one fun v _ => v = .int .i64 (K : Int),
            .one fun v _ => v = .int .i64 c,
            .one fun v _ => v = .int .i64 (K : Int)]
          (fun W => Ext w W ∧ Bx2 W w.heap.size 22 (.int .i64 c) (.int .i64 d) ∧ W0.heap.size ≤ W.heap.size) ⟨Good.is _, Good.is _, Good.is _, Good.is _, Good.is _, Good.is _, Good.is _, trivial⟩
          (fun W W1 hS hE => ⟨(Ext.trans hS.1 hE), (hS.2.1.ext hE), (Nat.le_trans hS.2.2 (Ext.size hE))⟩) ⟨E0, p5, Nat.le_refl _⟩ (by kernel_rfl) (by kernel_rfl) (by kernel_rfl) (by kernel_rfl) (A := ?A6) ?hA6 ?howe6 ?hfin6
        case hA6 =>
          intro vs
          simp only [putAll, Act.put, List.setIfInBounds_toArray, List.set_cons_zero, List.set_cons_succ, Nat.zero_add, Nat.reduceAdd]
          exact rfl
        case howe6 =>
          clear E0 p5
          intro hf
          refine ⟨owesE 0 [] hf rfl (by kernel_rfl) ?_, owesE 1 [0] hf rfl (by kernel_rfl) ?_, owesE 2 [] hf rfl (by kernel_rfl) ?_, owesE 3 [2] hf rfl (by kernel_rfl) ?_, owesE 4 [3] hf rfl (by kernel_rfl) ?_, owesE 5 [1] hf rfl (by kernel_rfl) ?_, owesE 6 [4] hf rfl (by kernel_rfl) ?_, trivial⟩
          all_goals intro vs W hS hp hx KO hKO
          all_goals simp only [Act.put, List.setIfInBounds_toArray, List.set_cons_zero, List.set_cons_succ] at hKO
          · go_simp
            exact hKO _ W (Ext.refl W) rfl
          · have e0 := isOf hp.1
            simp only [e0] at hKO
            have fc0 := hS.2.1.cell0
            go_simp
            exact hKO _ W (Ext.refl W) rfl
          · go_simp
            exact hKO _ W (Ext.refl W) rfl
          · have e2 := isOf hp.1
            simp only [e2] at hKO
            have fc1 := hS.2.1.cell1
            go_simp
            exact hKO _ W (Ext.refl W) rfl
          · have e3 := isOf hp.1
            simp only [e3] at hKO
            go_simp
            exact hKO _ W (Ext.refl W) rfl
          · have e1 := isOf hp.1
            simp only [e1] at hKO
            go_simp
            exact hKO _ W (Ext.refl W) rfl
          · have e4 := isOf hp.1
            simp only [e4] at hKO
            go_simp
            exact hKO _ W (Ext.refl W) rfl
        intro vs W6 hS hp
        clear szw6 E0 p5
        obtain ⟨E0, p5, sz6⟩ := hS
        obtain ⟨h6_0, h6_1, h6_2, h6_3, h6_4, h6_5, h6_6, -⟩ := hp
        replace h6_0 : vs 0 = .pointer (some ⟨w.heap.size, 0, none⟩) := h6_0
        replace h6_1 : vs 1 = .int .i64 c := h6_1
        replace h6_2 : vs 2 = .pointer (some ⟨w.heap.size, 1, none⟩) := h6_2
        replace h6_3 : vs 3 = .int .i64 d := h6_3
        replace h6_4 : vs 4 = .int .i64 (K : Int) := h6_4
        replace h6_5 : vs 5 = .int .i64 c := h6_5
        replace h6_6 : vs 6 = .int .i64 (K : Int) := h6_6
        simp only [h6_0, h6_1, h6_2, h6_3, h6_4, h6_5, h6_6]
        clear h6_0 h6_1 h6_2 h6_3 h6_4 h6_5 h6_6
        have kp5_0 := p5.cell0
        have kp5_1 := p5.cell1
        go_wp2_with fail
        clear kp5_0 kp5_1
        refine (Try.fixMulV (A : Int) c K HB.out.2.2.2.2 _ HB.out.1.1 HB.out.1.2 HB.out.2.2.1.1 HB.out.2.2.1.2 HVP1.out HEP1.out).mono ?_
        rintro e V13 ⟨rfl, hE⟩
        replace E0 : Ext w V13 := (Ext.trans E0 hE)
        replace p5 : Bx2 V13 w.heap.size 22 (.int .i64 c) (.int .i64 d) := (p5.ext hE)
        clear hE
        have kp5_0 := p5.cell0
        have kp5_1 := p5.cell1
        go_wp2_with fail
        clear kp5_0 kp5_1
        refine (Try.fixMulV (B : Int) c K HB.out.2.2.2.2 _ HB.out.2.1.1 HB.out.2.1.2 HB.out.2.2.1.1 HB.out.2.2.1.2 HVP2.out HEP2.out).mono ?_
        rintro e V14 ⟨rfl, hE⟩
        replace E0 : Ext w V14 := (Ext.trans E0 hE)
        replace p5 : Bx2 V14 w.heap.size 22 (.int .i64 c) (.int .i64 d) := (p5.ext hE)
        clear hE
        have kp5_0 := p5.cell0
        have kp5_1 := p5.cell1
        go_wp2_with fail
        clear kp5_0 kp5_1
        refine (Try.fixDivV (A : Int) c K HB.out.2.2.2.2 _ HB.out.1.1 HB.out.1.2 HB.out.2.2.1.1 HB.out.2.2.1.2 HB.out.2.2.2.1 HVD1.out HED1.out).mono ?_
        rintro e V15 ⟨rfl, hE⟩
        replace E0 : Ext w V15 := (Ext.trans E0 hE)
        replace p5 : Bx2 V15 w.heap.size 22 (.int .i64 c) (.int .i64 d) := (p5.ext hE)
        clear hE
        have kp5_0 := p5.cell0
        have kp5_1 := p5.cell1
        go_wp2_with fail
        clear kp5_0 kp5_1
        refine (Try.fixDivV (B : Int) c K HB.out.2.2.2.2 _ HB.out.2.1.1 HB.out.2.1.2 HB.out.2.2.1.1 HB.out.2.2.1.2 HB.out.2.2.2.1 HVD2.out HED2.out).mono ?_
        rintro e V16 ⟨rfl, hE⟩
        replace E0 : Ext w V16 := (Ext.trans E0 hE)
        replace p5 : Bx2 V16 w.heap.size 22 (.int .i64 c) (.int .i64 d) := (p5.ext hE)
        clear hE
        have kp5_0 := p5.cell0
        have kp5_1 := p5.cell1
        go_wp2_with fail
        clear kp5_0 kp5_1
        refine (Try.fixAddV (A : Int) c _ HB.out.1.1 HB.out.1.2 HB.out.2.2.1.1 HB.out.2.2.1.2 HVS1.out HES1.out).mono ?_
        rintro e V17 ⟨rfl, hE⟩
        replace E0 : Ext w V17 := (Ext.trans E0 hE)
        replace p5 : Bx2 V17 w.heap.size 22 (.int .i64 c) (.int .i64 d) := (p5.ext hE)
        clear hE
        have kp5_0 := p5.cell0
        have kp5_1 := p5.cell1
        go_wp2_with fail
        clear kp5_0 kp5_1
        refine (Try.fixAddV (B : Int) c _ HB.out.2.1.1 HB.out.2.1.2 HB.out.2.2.1.1 HB.out.2.2.1.2 HVS2.out HES2.out).mono ?_
        rintro e V18 ⟨rfl, hE⟩
        replace E0 : Ext w V18 := (Ext.trans E0 hE)
        replace p5 : Bx2 V18 w.heap.size 22 (.int .i64 c) (.int .i64 d) := (p5.ext hE)
        clear hE
        have kp5_0 := p5.cell0
        have kp5_1 := p5.cell1
        go_wp2_with fail
        clear kp5_0 kp5_1
        refine (Try.fixSqrt A K _ HAB.out.1 HB.out.2.2.2.2).mono ?_
        rintro e V19 ⟨rfl, hE⟩
        rw [HR1.out]
        replace E0 : Ext w V19 := (Ext.trans E0 hE)
        replace p5 : Bx2 V19 w.heap.size 22 (.int .i64 c) (.int .i64 d) := (p5.ext hE)
        clear hE
        have kp5_0 := p5.cell0
        have kp5_1 := p5.cell1
        go_wp2_with fail
        clear kp5_0 kp5_1
        refine (Try.fixSqrt B K _ HAB.out.2 HB.out.2.2.2.2).mono ?_
        rintro e V20 ⟨rfl, hE⟩
        rw [HR2.out]
        replace E0 : Ext w V20 := (Ext.trans E0 hE)
        replace p5 : Bx2 V20 w.heap.size 22 (.int .i64 c) (.int .i64 d) := (p5.ext hE)
        clear hE
        have kp5_0 := p5.cell0
        have kp5_1 := p5.cell1
        go_upto_region 12 with (fail)
        clear kp5_0 kp5_1
        have kp5_0 := p5.cell0
        have kp5_1 := p5.cell1
        obtain rfl | ⟨rfl, rfl⟩ | ⟨rfl, rfl, hpq, hpqd⟩ := H1.out
        all_goals obtain rfl | ⟨rfl, rfl⟩ | ⟨rfl, rfl, hst, hstd⟩ := H2.out
        all_goals obtain rfl | ⟨rfl, rfl⟩ | ⟨rfl, rfl, huv, huvd⟩ | ⟨rfl, rfl, huv, hlt, hltd⟩ := H3.out
        all_goals (go_wp2_with fail; refine (Try.alive08 _).mono ?_; rintro e We ⟨rfl, hE⟩; go_wp2; go_ret; exact ⟨rfl, Ext.trans E0 hE⟩)

theorem Try.lawFixOrder (a b c d : Int) (w : World) (ha1 : -9223372036854775808 ≤ a) (ha2 : a < 9223372036854775808) (hb1 : -9223372036854775808 ≤ b) (hb2 : b < 9223372036854775808) (hc1 : -9223372036854775808 ≤ c) (hc2 : c < 9223372036854775808) :
    Calls Try.prog 3 #[.int .i64 a, .int .i64 b, .agg #[.int .i64 c, .int .i64 d]] w fun e w' => e = .returned (.bool true) ∧ Ext w w' := by
  by_cases h : a < 0
  · exact Try.lawFixOrderN a b c d w h ha1 ha2 hb1 hb2 hc1 hc2
  · exact Try.lawFixOrderP a b c d w h ha1 ha2 hb1 hb2 hc1 hc2

end Go.Rt
