/-
  The laws of chapter 18 (Adam): Powers. Adams as they are handed in.
-/
import Derived.Test.YtdnhkjlhjopcgabAdamF
import Derived.Test.YtdnhkjlhjopcgabOpenP
namespace Go.Rt
open Go Go.RowKit Go.Proofs Go.WideShapes Go.ChangeShapes

theorem array6 {α : Type} {cs : Array α} (h : cs.size = 6) : ∃ c0 c1 c2 c3 c4 c5, cs = #[c0, c1, c2, c3, c4, c5] := by
  obtain ⟨l⟩ := cs
  match l, h with
  | [c0, c1, c2, c3, c4, c5], _ => exact ⟨c0, c1, c2, c3, c4, c5, rfl⟩

theorem cell_int64 {P : Program} {W : World} {base : Nat} {t : TypeId} {v : Value} (ht : P.underlying t = some (.int .i64)) (h : Cell.okWide P W .any base t v) : ∃ n : Int, v = .int .i64 n ∧ I64 n := by
  have h' : Value.okWide P W .any base t v := by simp only [Value.okWide, ht]; exact h
  obtain ⟨n, rfl⟩ := okWide_int ht h'
  refine ⟨n, rfl, ?_⟩
  simp [Cell.okWide, Cell.ok, ht, IntKind.has, IntKind.min, IntKind.max, IntKind.signed, IntKind.bits] at h
  exact ⟨by omega, by omega⟩

theorem cell_bool {P : Program} {W : World} {base : Nat} {t : TypeId} {v : Value} (ht : P.underlying t = some .bool) (h : Cell.okWide P W .any base t v) : ∃ b, v = .bool b := by
  have h' : Value.okWide P W .any base t v := by simp only [Value.okWide, ht]; exact h
  exact okWide_bool ht h'

theorem open_adam {P : Program} {W : World} {base : Nat} {t ti tb : TypeId} {fs : Array Field} {v : Value} (ht : P.underlying t = some (.struct fs)) (hct : P.cellsOf t = 6) (hts : P.cellTypes P.depth t = some [ti, ti, ti, ti, ti, tb]) (hi : P.underlying ti = some (.int .i64)) (hb : P.underlying tb = some .bool)
    (ho : Value.okWide P W .any base t v) : ∃ (x0 x1 x2 x3 x4 : Int) (b : Bool), v = .agg #[.int .i64 x0, .int .i64 x1, .int .i64 x2, .int .i64 x3, .int .i64 x4, .bool b] ∧ I64 x0 ∧ I64 x1 ∧ I64 x2 ∧ I64 x3 ∧ I64 x4 := by
  simp only [Value.okWide, ht] at ho
  obtain ⟨cs, rfl, hsz, ts', hts', -, hcell⟩ := ho
  rw [hts] at hts'
  cases hts'
  obtain ⟨c0, c1, c2, c3, c4, c5, rfl⟩ := array6 (hsz.trans hct)
  obtain ⟨u0, hu0, o0⟩ := hcell 0 c0 rfl
  obtain ⟨u1, hu1, o1⟩ := hcell 1 c1 rfl
  obtain ⟨u2, hu2, o2⟩ := hcell 2 c2 rfl
  obtain ⟨u3, hu3, o3⟩ := hcell 3 c3 rfl
  obtain ⟨u4, hu4, o4⟩ := hcell 4 c4 rfl
  obtain ⟨u5, hu5, o5⟩ := hcell 5 c5 rfl
  cases hu0
  cases hu1
  cases hu2
  cases hu3
  cases hu4
  cases hu5
  obtain ⟨x0, rfl, k0⟩ := cell_int64 hi o0
  obtain ⟨x1, rfl, k1⟩ := cell_int64 hi o1
  obtain ⟨x2, rfl, k2⟩ := cell_int64 hi o2
  obtain ⟨x3, rfl, k3⟩ := cell_int64 hi o3
  obtain ⟨x4, rfl, k4⟩ := cell_int64 hi o4
  obtain ⟨b, rfl⟩ := cell_bool hb o5
  exact ⟨x0, x1, x2, x3, x4, b, rfl, k0, k1, k2, k3, k4⟩

set_option maxRecDepth 100000 in
theorem Try.openAdam {W : World} {base : Nat} {v : Value} (ho : Value.okWide Go.Proofs.Try.prog W .any base 23 v) :
    ∃ (x0 x1 x2 x3 x4 : Int) (b : Bool), v = .agg #[.int .i64 x0, .int .i64 x1, .int .i64 x2, .int .i64 x3, .int .i64 x4, .bool b] ∧ I64 x0 ∧ I64 x1 ∧ I64 x2 ∧ I64 x3 ∧ I64 x4 :=
  open_adam (ti := 2) (tb := 4) Go.Proofs.Try.underlying23 (by kernel_rfl) (by kernel_rfl) Go.Proofs.Try.underlying2 Go.Proofs.Try.underlying4 ho

theorem i64_wf {n : Int} (h : (Lit.int .i64 n).wf = true) : I64 n := wf_i64 h

set_option maxRecDepth 100000 in
set_option maxHeartbeats 16000000 in
theorem Try.lawAdamPowers (lr b1 b2 eps wd p0 p1 f : Int) (ap : Bool) (w : World) (q1 : I64 b1) (q2 : I64 b2) (q3 : I64 p0) (q4 : I64 p1) :
    Calls Try.prog 3 #[.agg #[.int .i64 lr, .int .i64 b1, .int .i64 b2, .int .i64 eps, .int .i64 wd, .bool ap], .int .i64 f, .agg #[.int .i64 p0, .int .i64 p1]] w fun e w' => e = .returned (.bool true) ∧ Ext w w' := by
  cases hr : rightA ⟨lr, b1, b2, eps, wd, ap⟩ f
  · have HR := Lib.hid hr
    clear hr
    obtain ⟨W0, hW0⟩ : ∃ W0, W0 = ((w.alloc (.cells #[.int .i64 lr, .int .i64 b1, .int .i64 b2, .int .i64 eps, .int .i64 wd, .bool ap] 23)).alloc (.cells #[.int .i64 p0, .int .i64 p1] 24)) := ⟨_, rfl⟩
    have E0 : Ext w W0 := by rw [hW0]; exact ((Ext.alloc1 w (.cells #[.int .i64 lr, .int .i64 b1, .int .i64 b2, .int .i64 eps, .int .i64 wd, .bool ap] 23)).alloc (.cells #[.int .i64 p0, .int .i64 p1] 24))
    have p3 : BxA W0 w.heap.size 23 #[.int .i64 lr, .int .i64 b1, .int .i64 b2, .int .i64 eps, .int .i64 wd, .bool ap] := by rw [hW0]; exact (BxA.new w 23 #[.int .i64 lr, .int .i64 b1, .int .i64 b2, .int .i64 eps, .int .i64 wd, .bool ap]).ext (Ext.alloc1 (w.alloc (.cells #[.int .i64 lr, .int .i64 b1, .int .i64 b2, .int .i64 eps, .int .i64 wd, .bool ap] 23)) (.cells #[.int .i64 p0, .int .i64 p1] 24))
    have p5 : Bx2 W0 (w.heap.size + 1) 24 (.int .i64 p0) (.int .i64 p1) := by rw [hW0]; simpa using (Bx2.new (w.alloc (.cells #[.int .i64 lr, .int .i64 b1, .int .i64 b2, .int .i64 eps, .int .i64 wd, .bool ap] 23)) 24 (.int .i64 p0) (.int .i64 p1))
    go_enter Try.func3, Try.ntmps3
    have kp3_0 := p3.cell 0 (v := .int .i64 lr) rfl
    have kp3_1 := p3.cell 1 (v := .int .i64 b1) rfl
    have kp3_2 := p3.cell 2 (v := .int .i64 b2) rfl
    have kp3_3 := p3.cell 3 (v := .int .i64 eps) rfl
    have kp3_4 := p3.cell 4 (v := .int .i64 wd) rfl
    have kp3_5 := p3.cell 5 (v := .bool ap) rfl
    have kp5_0 := p5.cell0
    have kp5_1 := p5.cell1
    go_wp2_with fail
    rw [← hW0]
    clear hW0
    clear kp3_0 kp3_1 kp3_2 kp3_3 kp3_4 kp3_5 kp5_0 kp5_1
    refine (Try.refRight18 lr b1 b2 eps wd f ap _).mono ?_
    rintro e Wc ⟨rfl, hE⟩
    rw [HR.out]
    replace E0 := (Ext.trans E0 hE)
    replace p3 := (p3.ext hE)
    replace p5 := (p5.ext hE)
    clear hE
    have kp3_0 := p3.cell 0 (v := .int .i64 lr) rfl
    have kp3_1 := p3.cell 1 (v := .int .i64 b1) rfl
    have kp3_2 := p3.cell 2 (v := .int .i64 b2) rfl
    have kp3_3 := p3.cell 3 (v := .int .i64 eps) rfl
    have kp3_4 := p3.cell 4 (v := .int .i64 wd) rfl
    have kp3_5 := p3.cell 5 (v := .bool ap) rfl
    have kp5_0 := p5.cell0
    have kp5_1 := p5.cell1
    go_wp2_with fail
    clear kp3_0 kp3_1 kp3_2 kp3_3 kp3_4 kp3_5 kp5_0 kp5_1
    refine (Try.alive18 _).mono ?_
    rintro e We ⟨rfl, hE⟩
    replace E0 := (Ext.trans E0 hE)
    replace p3 := (p3.ext hE)
    replace p5 := (p5.ext hE)
    clear hE
    have kp3_0 := p3.cell 0 (v := .int .i64 lr) rfl
    have kp3_1 := p3.cell 1 (v := .int .i64 b1) rfl
    have kp3_2 := p3.cell 2 (v := .int .i64 b2) rfl
    have kp3_3 := p3.cell 3 (v := .int .i64 eps) rfl
    have kp3_4 := p3.cell 4 (v := .int .i64 wd) rfl
    have kp3_5 := p3.cell 5 (v := .bool ap) rfl
    have kp5_0 := p5.cell0
    have kp5_1 := p5.cell1
    go_wp2
    go_ret
    exact ⟨rfl, E0⟩
  · have hx := rightA_iff.1 hr
    obtain ⟨K, rfl⟩ := Int.eq_ofNat_of_zero_le hx.1
    rw [Int.toNat_natCast] at hx
    dsimp only at hx
    have hK : K ≤ 40 := by omega
    have hPm := one_max hK
    have hPp := one_pos K
    obtain ⟨P, hP⟩ : ∃ P, oneZ K = P := ⟨_, rfl⟩
    have hsh : IntKind.i64.wrap (2 ^ K) = P := by rw [show ((2 : Int) ^ K) = ((2 ^ K : Nat) : Int) by simp, show ((2 ^ K : Nat) : Int) = oneZ K from rfl, hP, IntKind.wrap_i64]; omega
    rw [hP] at hx hPm hPp
    have HR := Lib.hid hr
    have HK := Lib.hid hK
    have HX := Lib.hid hx
    have HPP := Lib.hid hP
    have HPM := Lib.hid (And.intro hPm hPp)
    have HQ := Lib.hid (And.intro (And.intro q1 q2) (And.intro q3 q4))
    have hKI : (K : Int) ≤ 40 := by omega
    clear hr hx hPm hPp q1 q2 q3 q4 hP
    by_cases t0 : p0 < 0
    · obtain ⟨W0, hW0⟩ : ∃ W0, W0 = ((w.alloc (.cells #[.int .i64 lr, .int .i64 b1, .int .i64 b2, .int .i64 eps, .int .i64 wd, .bool ap] 23)).alloc (.cells #[.int .i64 p0, .int .i64 p1] 24)) := ⟨_, rfl⟩
      have E0 : Ext w W0 := by rw [hW0]; exact ((Ext.alloc1 w (.cells #[.int .i64 lr, .int .i64 b1, .int .i64 b2, .int .i64 eps, .int .i64 wd, .bool ap] 23)).alloc (.cells #[.int .i64 p0, .int .i64 p1] 24))
      have p3 : BxA W0 w.heap.size 23 #[.int .i64 lr, .int .i64 b1, .int .i64 b2, .int .i64 eps, .int .i64 wd, .bool ap] := by rw [hW0]; exact (BxA.new w 23 #[.int .i64 lr, .int .i64 b1, .int .i64 b2, .int .i64 eps, .int .i64 wd, .bool ap]).ext (Ext.alloc1 (w.alloc (.cells #[.int .i64 lr, .int .i64 b1, .int .i64 b2, .int .i64 eps, .int .i64 wd, .bool ap] 23)) (.cells #[.int .i64 p0, .int .i64 p1] 24))
      have p5 : Bx2 W0 (w.heap.size + 1) 24 (.int .i64 p0) (.int .i64 p1) := by rw [hW0]; simpa using (Bx2.new (w.alloc (.cells #[.int .i64 lr, .int .i64 b1, .int .i64 b2, .int .i64 eps, .int .i64 wd, .bool ap] 23)) 24 (.int .i64 p0) (.int .i64 p1))
      go_enter Try.func3, Try.ntmps3
      have kp3_0 := p3.cell 0 (v := .int .i64 lr) rfl
      have kp3_1 := p3.cell 1 (v := .int .i64 b1) rfl
      have kp3_2 := p3.cell 2 (v := .int .i64 b2) rfl
      have kp3_3 := p3.cell 3 (v := .int .i64 eps) rfl
      have kp3_4 := p3.cell 4 (v := .int .i64 wd) rfl
      have kp3_5 := p3.cell 5 (v := .bool ap) rfl
      have kp5_0 := p5.cell0
      have kp5_1 := p5.cell1
      go_wp2_with fail
      rw [← hW0]
      clear hW0
      clear kp3_0 kp3_1 kp3_2 kp3_3 kp3_4 kp3_5 kp5_0 kp5_1
      refine (Try.refRight18 lr b1 b2 eps wd (K : Int) ap _).mono ?_
      rintro e Wc ⟨rfl, hE⟩
      rw [HR.out]
      replace E0 := (Ext.trans E0 hE)
      replace p3 := (p3.ext hE)
      replace p5 := (p5.ext hE)
      clear hE
      have kp3_0 := p3.cell 0 (v := .int .i64 lr) rfl
      have kp3_1 := p3.cell 1 (v := .int .i64 b1) rfl
      have kp3_2 := p3.cell 2 (v := .int .i64 b2) rfl
      have kp3_3 := p3.cell 3 (v := .int .i64 eps) rfl
      have kp3_4 := p3.cell 4 (v := .int .i64 wd) rfl
      have kp3_5 := p3.cell 5 (v := .bool ap) rfl
      have kp5_0 := p5.cell0
      have kp5_1 := p5.cell1
      go_wp2_with fail
      clear kp3_0 kp3_1 kp3_2 kp3_3 kp3_4 kp3_5 kp5_0 kp5_1
      refine (Try.alive18 _).mono ?_
      rintro e We ⟨rfl, hE⟩
      replace E0 := (Ext.trans E0 hE)
      replace p3 := (p3.ext hE)
      replace p5 := (p5.ext hE)
      clear hE
      have kp3_0 := p3.cell 0 (v := .int .i64 lr) rfl
      have kp3_1 := p3.cell 1 (v := .int .i64 b1) rfl
      have kp3_2 := p3.cell 2 (v := .int .i64 b2) rfl
      have kp3_3 := p3.cell 3 (v := .int .i64 eps) rfl
      have kp3_4 := p3.cell 4 (v := .int .i64 wd) rfl
      have kp3_5 := p3.cell 5 (v := .bool ap) rfl
      have kp5_0 := p5.cell0
      have kp5_1 := p5.cell1
      go_wp2
      go_ret
      exact ⟨rfl, E0⟩
    · by_cases t1 : P < p0
      · obtain ⟨W0, hW0⟩ : ∃ W0, W0 = ((w.alloc (.cells #[.int .i64 lr, .int .i64 b1, .int .i64 b2, .int .i64 eps, .int .i64 wd, .bool ap] 23)).alloc (.cells #[.int .i64 p0, .int .i64 p1] 24)) := ⟨_, rfl⟩
        have E0 : Ext w W0 := by rw [hW0]; exact ((Ext.alloc1 w (.cells #[.int .i64 lr, .int .i64 b1, .int .i64 b2, .int .i64 eps, .int .i64 wd, .bool ap] 23)).alloc (.cells #[.int .i64 p0, .int .i64 p1] 24))
        have p3 : BxA W0 w.heap.size 23 #[.int .i64 lr, .int .i64 b1, .int .i64 b2, .int .i64 eps, .int .i64 wd, .bool ap] := by rw [hW0]; exact (BxA.new w 23 #[.int .i64 lr, .int .i64 b1, .int .i64 b2, .int .i64 eps, .int .i64 wd, .bool ap]).ext (Ext.alloc1 (w.alloc (.cells #[.int .i64 lr, .int .i64 b1, .int .i64 b2, .int .i64 eps, .int .i64 wd, .bool ap] 23)) (.cells #[.int .i64 p0, .int .i64 p1] 24))
        have p5 : Bx2 W0 (w.heap.size + 1) 24 (.int .i64 p0) (.int .i64 p1) := by rw [hW0]; simpa using (Bx2.new (w.alloc (.cells #[.int .i64 lr, .int .i64 b1, .int .i64 b2, .int .i64 eps, .int .i64 wd, .bool ap] 23)) 24 (.int .i64 p0) (.int .i64 p1))
        go_enter Try.func3, Try.ntmps3
        have kp3_0 := p3.cell 0 (v := .int .i64 lr) rfl
        have kp3_1 := p3.cell 1 (v := .int .i64 b1) rfl
        have kp3_2 := p3.cell 2 (v := .int .i64 b2) rfl
        have kp3_3 := p3.cell 3 (v := .int .i64 eps) rfl
        have kp3_4 := p3.cell 4 (v := .int .i64 wd) rfl
        have kp3_5 := p3.cell 5 (v := .bool ap) rfl
        have kp5_0 := p5.cell0
        have kp5_1 := p5.cell1
        go_wp2_with fail
        rw [← hW0]
        clear hW0
        clear kp3_0 kp3_1 kp3_2 kp3_3 kp3_4 kp3_5 kp5_0 kp5_1
        refine (Try.refRight18 lr b1 b2 eps wd (K : Int) ap _).mono ?_
        rintro e Wc ⟨rfl, hE⟩
        rw [HR.out]
        replace E0 := (Ext.trans E0 hE)
        replace p3 := (p3.ext hE)
        replace p5 := (p5.ext hE)
        clear hE
        have kp3_0 := p3.cell 0 (v := .int .i64 lr) rfl
        have kp3_1 := p3.cell 1 (v := .int .i64 b1) rfl
        have kp3_2 := p3.cell 2 (v := .int .i64 b2) rfl
        have kp3_3 := p3.cell 3 (v := .int .i64 eps) rfl
        have kp3_4 := p3.cell 4 (v := .int .i64 wd) rfl
        have kp3_5 := p3.cell 5 (v := .bool ap) rfl
        have kp5_0 := p5.cell0
        have kp5_1 := p5.cell1
        go_wp2_with fail
        clear kp3_0 kp3_1 kp3_2 kp3_3 kp3_4 kp3_5 kp5_0 kp5_1
        refine (Try.alive18 _).mono ?_
        rintro e We ⟨rfl, hE⟩
        replace E0 := (Ext.trans E0 hE)
        replace p3 := (p3.ext hE)
        replace p5 := (p5.ext hE)
        clear hE
        have kp3_0 := p3.cell 0 (v := .int .i64 lr) rfl
        have kp3_1 := p3.cell 1 (v := .int .i64 b1) rfl
        have kp3_2 := p3.cell 2 (v := .int .i64 b2) rfl
        have kp3_3 := p3.cell 3 (v := .int .i64 eps) rfl
        have kp3_4 := p3.cell 4 (v := .int .i64 wd) rfl
        have kp3_5 := p3.cell 5 (v := .bool ap) rfl
        have kp5_0 := p5.cell0
        have kp5_1 := p5.cell1
        go_wp2
        go_ret
        exact ⟨rfl, E0⟩
      · by_cases t2 : p1 < 0
        · obtain ⟨W0, hW0⟩ : ∃ W0, W0 = ((w.alloc (.cells #[.int .i64 lr, .int .i64 b1, .int .i64 b2, .int .i64 eps, .int .i64 wd, .bool ap] 23)).alloc (.cells #[.int .i64 p0, .int .i64 p1] 24)) := ⟨_, rfl⟩
          have E0 : Ext w W0 := by rw [hW0]; exact ((Ext.alloc1 w (.cells #[.int .i64 lr, .int .i64 b1, .int .i64 b2, .int .i64 eps, .int .i64 wd, .bool ap] 23)).alloc (.cells #[.int .i64 p0, .int .i64 p1] 24))
          have p3 : BxA W0 w.heap.size 23 #[.int .i64 lr, .int .i64 b1, .int .i64 b2, .int .i64 eps, .int .i64 wd, .bool ap] := by rw [hW0]; exact (BxA.new w 23 #[.int .i64 lr, .int .i64 b1, .int .i64 b2, .int .i64 eps, .int .i64 wd, .bool ap]).ext (Ext.alloc1 (w.alloc (.cells #[.int .i64 lr, .int .i64 b1, .int .i64 b2, .int .i64 eps, .int .i64 wd, .bool ap] 23)) (.cells #[.int .i64 p0, .int .i64 p1] 24))
          have p5 : Bx2 W0 (w.heap.size + 1) 24 (.int .i64 p0) (.int .i64 p1) := by rw [hW0]; simpa using (Bx2.new (w.alloc (.cells #[.int .i64 lr, .int .i64 b1, .int .i64 b2, .int .i64 eps, .int .i64 wd, .bool ap] 23)) 24 (.int .i64 p0) (.int .i64 p1))
          go_enter Try.func3, Try.ntmps3
          have kp3_0 := p3.cell 0 (v := .int .i64 lr) rfl
          have kp3_1 := p3.cell 1 (v := .int .i64 b1) rfl
          have kp3_2 := p3.cell 2 (v := .int .i64 b2) rfl
          have kp3_3 := p3.cell 3 (v := .int .i64 eps) rfl
          have kp3_4 := p3.cell 4 (v := .int .i64 wd) rfl
          have kp3_5 := p3.cell 5 (v := .bool ap) rfl
          have kp5_0 := p5.cell0
          have kp5_1 := p5.cell1
          go_wp2_with fail
          rw [← hW0]
          clear hW0
          clear kp3_0 kp3_1 kp3_2 kp3_3 kp3_4 kp3_5 kp5_0 kp5_1
          refine (Try.refRight18 lr b1 b2 eps wd (K : Int) ap _).mono ?_
          rintro e Wc ⟨rfl, hE⟩
          rw [HR.out]
          replace E0 := (Ext.trans E0 hE)
          replace p3 := (p3.ext hE)
          replace p5 := (p5.ext hE)
          clear hE
          have kp3_0 := p3.cell 0 (v := .int .i64 lr) rfl
          have kp3_1 := p3.cell 1 (v := .int .i64 b1) rfl
          have kp3_2 := p3.cell 2 (v := .int .i64 b2) rfl
          have kp3_3 := p3.cell 3 (v := .int .i64 eps) rfl
          have kp3_4 := p3.cell 4 (v := .int .i64 wd) rfl
          have kp3_5 := p3.cell 5 (v := .bool ap) rfl
          have kp5_0 := p5.cell0
          have kp5_1 := p5.cell1
          go_wp2_with fail
          clear kp3_0 kp3_1 kp3_2 kp3_3 kp3_4 kp3_5 kp5_0 kp5_1
          refine (Try.alive18 _).mono ?_
          rintro e We ⟨rfl, hE⟩
          replace E0 := (Ext.trans E0 hE)
          replace p3 := (p3.ext hE)
          replace p5 := (p5.ext hE)
          clear hE
          have kp3_0 := p3.cell 0 (v := .int .i64 lr) rfl
          have kp3_1 := p3.cell 1 (v := .int .i64 b1) rfl
          have kp3_2 := p3.cell 2 (v := .int .i64 b2) rfl
          have kp3_3 := p3.cell 3 (v := .int .i64 eps) rfl
          have kp3_4 := p3.cell 4 (v := .int .i64 wd) rfl
          have kp3_5 := p3.cell 5 (v := .bool ap) rfl
          have kp5_0 := p5.cell0
          have kp5_1 := p5.cell1
          go_wp2
          go_ret
          exact ⟨rfl, E0⟩
        · by_cases t3 : P < p1
          · obtain ⟨W0, hW0⟩ : ∃ W0, W0 = ((w.alloc (.cells #[.int .i64 lr, .int .i64 b1, .int .i64 b2, .int .i64 eps, .int .i64 wd, .bool ap] 23)).alloc (.cells #[.int .i64 p0, .int .i64 p1] 24)) := ⟨_, rfl⟩
            have E0 : Ext w W0 := by rw [hW0]; exact ((Ext.alloc1 w (.cells #[.int .i64 lr, .int .i64 b1, .int .i64 b2, .int .i64 eps, .int .i64 wd, .bool ap] 23)).alloc (.cells #[.int .i64 p0, .int .i64 p1] 24))
            have p3 : BxA W0 w.heap.size 23 #[.int .i64 lr, .int .i64 b1, .int .i64 b2, .int .i64 eps, .int .i64 wd, .bool ap] := by rw [hW0]; exact (BxA.new w 23 #[.int .i64 lr, .int .i64 b1, .int .i64 b2, .int .i64 eps, .int .i64 wd, .bool ap]).ext (Ext.alloc1 (w.alloc (.cells #[.int .i64 lr, .int .i64 b1, .int .i64 b2, .int .i64 eps, .int .i64 wd, .bool ap] 23)) (.cells #[.int .i64 p0, .int .i64 p1] 24))
            have p5 : Bx2 W0 (w.heap.size + 1) 24 (.int .i64 p0) (.int .i64 p1) := by rw [hW0]; simpa using (Bx2.new (w.alloc (.cells #[.int .i64 lr, .int .i64 b1, .int .i64 b2, .int .i64 eps, .int .i64 wd, .bool ap] 23)) 24 (.int .i64 p0) (.int .i64 p1))
            go_enter Try.func3, Try.ntmps3
            have kp3_0 := p3.cell 0 (v := .int .i64 lr) rfl
            have kp3_1 := p3.cell 1 (v := .int .i64 b1) rfl
            have kp3_2 := p3.cell 2 (v := .int .i64 b2) rfl
            have kp3_3 := p3.cell 3 (v := .int .i64 eps) rfl
            have kp3_4 := p3.cell 4 (v := .int .i64 wd) rfl
            have kp3_5 := p3.cell 5 (v := .bool ap) rfl
            have kp5_0 := p5.cell0
            have kp5_1 := p5.cell1
            go_wp2_with fail
            rw [← hW0]
            clear hW0
            clear kp3_0 kp3_1 kp3_2 kp3_3 kp3_4 kp3_5 kp5_0 kp5_1
            refine (Try.refRight18 lr b1 b2 eps wd (K : Int) ap _).mono ?_
            rintro e Wc ⟨rfl, hE⟩
            rw [HR.out]
            replace E0 := (Ext.trans E0 hE)
            replace p3 := (p3.ext hE)
            replace p5 := (p5.ext hE)
            clear hE
            have kp3_0 := p3.cell 0 (v := .int .i64 lr) rfl
            have kp3_1 := p3.cell 1 (v := .int .i64 b1) rfl
            have kp3_2 := p3.cell 2 (v := .int .i64 b2) rfl
            have kp3_3 := p3.cell 3 (v := .int .i64 eps) rfl
            have kp3_4 := p3.cell 4 (v := .int .i64 wd) rfl
            have kp3_5 := p3.cell 5 (v := .bool ap) rfl
            have kp5_0 := p5.cell0
            have kp5_1 := p5.cell1
            go_wp2_with fail
            clear kp3_0 kp3_1 kp3_2 kp3_3 kp3_4 kp3_5 kp5_0 kp5_1
            refine (Try.alive18 _).mono ?_
            rintro e We ⟨rfl, hE⟩
            replace E0 := (Ext.trans E0 hE)
            replace p3 := (p3.ext hE)
            replace p5 := (p5.ext hE)
            clear hE
            have kp3_0 := p3.cell 0 (v := .int .i64 lr) rfl
            have kp3_1 := p3.cell 1 (v := .int .i64 b1) rfl
            have kp3_2 := p3.cell 2 (v := .int .i64 b2) rfl
            have kp3_3 := p3.cell 3 (v := .int .i64 eps) rfl
            have kp3_4 := p3.cell 4 (v := .int .i64 wd) rfl
            have kp3_5 := p3.cell 5 (v := .bool ap) rfl
            have kp5_0 := p5.cell0
            have kp5_1 := p5.cell1
            go_wp2
            go_ret
            exact ⟨rfl, E0⟩
          · obtain ⟨x, hxv⟩ : ∃ x, mulZ K p0 b1 = x := ⟨_, rfl⟩
            obtain ⟨y, hyv⟩ : ∃ y, mulZ K p1 b2 = y := ⟨_, rfl⟩
            have x0 : 0 ≤ x := by rw [← hxv]; exact mulZ_nonneg (by omega) HX.out.2.2.2.2.1
            have x1 : x ≤ b1 := by rw [← hxv]; exact mulZ_le (by rw [HPP.out]; omega) HX.out.2.2.2.2.1
            have x2 : x ≤ p0 := by rw [← hxv, mulZ_comm]; exact mulZ_le (by rw [HPP.out]; have := HX.out; omega) (by omega)
            have y0 : 0 ≤ y := by rw [← hyv]; exact mulZ_nonneg (by omega) HX.out.2.2.2.2.2.2.1
            have y1 : y ≤ b2 := by rw [← hyv]; exact mulZ_le (by rw [HPP.out]; omega) HX.out.2.2.2.2.2.2.1
            have y2 : y ≤ p1 := by rw [← hyv, mulZ_comm]; exact mulZ_le (by rw [HPP.out]; have := HX.out; omega) (by omega)
            have HQ0 : Hid (mulO K p0 b1 = some x) := Lib.hid (by unfold mulO; rw [hxv]; exact okZ_in (by omega) (by have := HQ.out.1.1.2; omega))
            have HQ1 : Hid (mulO K p1 b2 = some y) := Lib.hid (by unfold mulO; rw [hyv]; exact okZ_in (by omega) (by have := HQ.out.1.2.2; omega))
            have HF0 : Hid (mulO K P b1 = some b1) := Lib.hid (by unfold mulO; rw [← HPP.out, mulZ_one]; exact okZ_in HQ.out.1.1.1 HQ.out.1.1.2)
            have HF1 : Hid (mulO K P b2 = some b2) := Lib.hid (by unfold mulO; rw [← HPP.out, mulZ_one]; exact okZ_in HQ.out.1.2.1 HQ.out.1.2.2)
            have HPI : Hid (I64 P) := Lib.hid (by have := HPM.out; exact ⟨by omega, by omega⟩)
            have heq : ∀ W, (Op.equalIn 10000 24 (.agg #[.int .i64 b1, .int .i64 b2]) (.agg #[.int .i64 b1, .int .i64 b2])).run Try.prog W = .ok true W := fun W => by
              have := run_eqPair (P := Try.prog) (t := 24) (e := 2) (k := .i64) 9998 Try.underlying24 (by kernel_rfl) (by kernel_rfl) Try.underlying2 b1 b2 b1 b2 W
              simpa using this
            clear hxv hyv
            obtain ⟨W0, hW0⟩ : ∃ W0, W0 = ((w.alloc (.cells #[.int .i64 lr, .int .i64 b1, .int .i64 b2, .int .i64 eps, .int .i64 wd, .bool ap] 23)).alloc (.cells #[.int .i64 p0, .int .i64 p1] 24)) := ⟨_, rfl⟩
            have E0 : Ext w W0 := by rw [hW0]; exact ((Ext.alloc1 w (.cells #[.int .i64 lr, .int .i64 b1, .int .i64 b2, .int .i64 eps, .int .i64 wd, .bool ap] 23)).alloc (.cells #[.int .i64 p0, .int .i64 p1] 24))
            have p3 : BxA W0 w.heap.size 23 #[.int .i64 lr, .int .i64 b1, .int .i64 b2, .int .i64 eps, .int .i64 wd, .bool ap] := by rw [hW0]; exact (BxA.new w 23 #[.int .i64 lr, .int .i64 b1, .int .i64 b2, .int .i64 eps, .int .i64 wd, .bool ap]).ext (Ext.alloc1 (w.alloc (.cells #[.int .i64 lr, .int .i64 b1, .int .i64 b2, .int .i64 eps, .int .i64 wd, .bool ap] 23)) (.cells #[.int .i64 p0, .int .i64 p1] 24))
            have p5 : Bx2 W0 (w.heap.size + 1) 24 (.int .i64 p0) (.int .i64 p1) := by rw [hW0]; simpa using (Bx2.new (w.alloc (.cells #[.int .i64 lr, .int .i64 b1, .int .i64 b2, .int .i64 eps, .int .i64 wd, .bool ap] 23)) 24 (.int .i64 p0) (.int .i64 p1))
            go_enter Try.func3, Try.ntmps3
            have kp3_0 := p3.cell 0 (v := .int .i64 lr) rfl
            have kp3_1 := p3.cell 1 (v := .int .i64 b1) rfl
            have kp3_2 := p3.cell 2 (v := .int .i64 b2) rfl
            have kp3_3 := p3.cell 3 (v := .int .i64 eps) rfl
            have kp3_4 := p3.cell 4 (v := .int .i64 wd) rfl
            have kp3_5 := p3.cell 5 (v := .bool ap) rfl
            have kp5_0 := p5.cell0
            have kp5_1 := p5.cell1
            go_wp2_with fail
            rw [← hW0]
            clear hW0
            clear kp3_0 kp3_1 kp3_2 kp3_3 kp3_4 kp3_5 kp5_0 kp5_1
            refine (Try.refRight18 lr b1 b2 eps wd (K : Int) ap _).mono ?_
            rintro e Wc ⟨rfl, hE⟩
            rw [HR.out]
            replace E0 := (Ext.trans E0 hE)
            replace p3 := (p3.ext hE)
            replace p5 := (p5.ext hE)
            clear hE
            have kp3_0 := p3.cell 0 (v := .int .i64 lr) rfl
            have kp3_1 := p3.cell 1 (v := .int .i64 b1) rfl
            have kp3_2 := p3.cell 2 (v := .int .i64 b2) rfl
            have kp3_3 := p3.cell 3 (v := .int .i64 eps) rfl
            have kp3_4 := p3.cell 4 (v := .int .i64 wd) rfl
            have kp3_5 := p3.cell 5 (v := .bool ap) rfl
            have kp5_0 := p5.cell0
            have kp5_1 := p5.cell1
            go_wp2_with fail
            clear kp3_0 kp3_1 kp3_2 kp3_3 kp3_4 kp3_5 kp5_0 kp5_1
            refine (Try.adamPowers lr b1 b2 eps wd p0 p1 ap K HK.out HQ.out.2.1 HQ.out.2.2 HQ.out.1.1 HQ.out.1.2 HQ0.out HQ1.out _).mono ?_
            rintro e Wd ⟨rfl, hE⟩
            replace E0 := (Ext.trans E0 hE)
            replace p3 := (p3.ext hE)
            replace p5 := (p5.ext hE)
            clear hE
            have kp3_0 := p3.cell 0 (v := .int .i64 lr) rfl
            have kp3_1 := p3.cell 1 (v := .int .i64 b1) rfl
            have kp3_2 := p3.cell 2 (v := .int .i64 b2) rfl
            have kp3_3 := p3.cell 3 (v := .int .i64 eps) rfl
            have kp3_4 := p3.cell 4 (v := .int .i64 wd) rfl
            have kp3_5 := p3.cell 5 (v := .bool ap) rfl
            have kp5_0 := p5.cell0
            have kp5_1 := p5.cell1
            go_upto_region 7 with (fail)
            clear kp3_0 kp3_1 kp3_2 kp3_3 kp3_4 kp3_5 kp5_0 kp5_1
            have p8 := BxA.new Wd 24 #[.int .i64 x, .int .i64 y]
            have hE := Ext.alloc1 Wd (.cells #[.int .i64 x, .int .i64 y] 24)
            have hsz := Ext.size E0
            obtain ⟨U8, hU8⟩ : ∃ U8, U8 = Wd.alloc (.cells #[.int .i64 x, .int .i64 y] 24) := ⟨_, rfl⟩
            rw [← hU8] at p8 hE ⊢
            clear hU8
            replace E0 := (Ext.trans E0 hE)
            replace p3 := (p3.ext hE)
            replace p5 := (p5.ext hE)
            clear hE
            obtain ⟨g8, hg8⟩ : ∃ g, g = Wd.heap.size := ⟨_, rfl⟩
            rw [← hg8] at p8 hsz ⊢
            clear hg8 hsz
            replace p8 : Bx2 U8 g8 24 (.int .i64 x) (.int .i64 y) := p8
            have kp3_0 := p3.cell 0 (v := .int .i64 lr) rfl
            have kp3_1 := p3.cell 1 (v := .int .i64 b1) rfl
            have kp3_2 := p3.cell 2 (v := .int .i64 b2) rfl
            have kp3_3 := p3.cell 3 (v := .int .i64 eps) rfl
            have kp3_4 := p3.cell 4 (v := .int .i64 wd) rfl
            have kp3_5 := p3.cell 5 (v := .bool ap) rfl
            have kp5_0 := p5.cell0
            have kp5_1 := p5.cell1
            have kp8_0 := p8.cell0
            have kp8_1 := p8.cell1
            go_wp2_with fail
            clear kp3_0 kp3_1 kp3_2 kp3_3 kp3_4 kp3_5 kp5_0 kp5_1 kp8_0 kp8_1
            refine (Try.adamPowers lr b1 b2 eps wd P P ap K HK.out HPI.out HPI.out HQ.out.1.1 HQ.out.1.2 HF0.out HF1.out _).mono ?_
            rintro e Wf ⟨rfl, hE⟩
            replace E0 := (Ext.trans E0 hE)
            replace p3 := (p3.ext hE)
            replace p5 := (p5.ext hE)
            replace p8 := (p8.ext hE)
            clear hE
            have kp3_0 := p3.cell 0 (v := .int .i64 lr) rfl
            have kp3_1 := p3.cell 1 (v := .int .i64 b1) rfl
            have kp3_2 := p3.cell 2 (v := .int .i64 b2) rfl
            have kp3_3 := p3.cell 3 (v := .int .i64 eps) rfl
            have kp3_4 := p3.cell 4 (v := .int .i64 wd) rfl
            have kp3_5 := p3.cell 5 (v := .bool ap) rfl
            have kp5_0 := p5.cell0
            have kp5_1 := p5.cell1
            have kp8_0 := p8.cell0
            have kp8_1 := p8.cell1
            go_upto_region 8 with (fail)
            clear kp3_0 kp3_1 kp3_2 kp3_3 kp3_4 kp3_5 kp5_0 kp5_1 kp8_0 kp8_1
            have p9 := BxA.new Wf 24 #[.int .i64 b1, .int .i64 b2]
            have hE := Ext.alloc1 Wf (.cells #[.int .i64 b1, .int .i64 b2] 24)
            have hsz := Ext.size E0
            obtain ⟨U9, hU9⟩ : ∃ U9, U9 = Wf.alloc (.cells #[.int .i64 b1, .int .i64 b2] 24) := ⟨_, rfl⟩
            rw [← hU9] at p9 hE ⊢
            clear hU9
            replace E0 := (Ext.trans E0 hE)
            replace p3 := (p3.ext hE)
            replace p5 := (p5.ext hE)
            replace p8 := (p8.ext hE)
            clear hE
            obtain ⟨g9, hg9⟩ : ∃ g, g = Wf.heap.size := ⟨_, rfl⟩
            rw [← hg9] at p9 hsz ⊢
            clear hg9 hsz
            replace p9 : Bx2 U9 g9 24 (.int .i64 b1) (.int .i64 b2) := p9
            have kp3_0 := p3.cell 0 (v := .int .i64 lr) rfl
            have kp3_1 := p3.cell 1 (v := .int .i64 b1) rfl
            have kp3_2 := p3.cell 2 (v := .int .i64 b2) rfl
            have kp3_3 := p3.cell 3 (v := .int .i64 eps) rfl
            have kp3_4 := p3.cell 4 (v := .int .i64 wd) rfl
            have kp3_5 := p3.cell 5 (v := .bool ap) rfl
            have kp5_0 := p5.cell0
            have kp5_1 := p5.cell1
            have kp8_0 := p8.cell0
            have kp8_1 := p8.cell1
            have kp9_0 := p9.cell0
            have kp9_1 := p9.cell1
            go_wp2_with fail
            clear kp3_0 kp3_1 kp3_2 kp3_3 kp3_4 kp3_5 kp5_0 kp5_1 kp8_0 kp8_1 kp9_0 kp9_1
            refine (Try.alive18 _).mono ?_
            rintro e We ⟨rfl, hE⟩
            replace E0 := (Ext.trans E0 hE)
            replace p3 := (p3.ext hE)
            replace p5 := (p5.ext hE)
            replace p8 := (p8.ext hE)
            replace p9 := (p9.ext hE)
            clear hE
            have kp3_0 := p3.cell 0 (v := .int .i64 lr) rfl
            have kp3_1 := p3.cell 1 (v := .int .i64 b1) rfl
            have kp3_2 := p3.cell 2 (v := .int .i64 b2) rfl
            have kp3_3 := p3.cell 3 (v := .int .i64 eps) rfl
            have kp3_4 := p3.cell 4 (v := .int .i64 wd) rfl
            have kp3_5 := p3.cell 5 (v := .bool ap) rfl
            have kp5_0 := p5.cell0
            have kp5_1 := p5.cell1
            have kp8_0 := p8.cell0
            have kp8_1 := p8.cell1
            have kp9_0 := p9.cell0
            have kp9_1 := p9.cell1
            go_wp2
            go_ret
            exact ⟨rfl, E0⟩


end Go.Rt
