/-
  The reference's fractions: over, Neg, Cmp, Abs.
  The reference's fractions: Abs, Same, Of, Frac.
  The reference's fractions: Frac, Add, Sub.
  The reference's integers: Right, Few.
-/
import Derived.Test.YtfgmfhdcdhanbaaGI
namespace Go.Rt

open Go.RowKit Go.Proofs

theorem Zw.nat {w : World} {a : Option Addr} {n c N : Nat} (h : Nw w (.slice a n c) N) : Zw w (.agg #[.bool false, .slice a n c]) (N : Int) := ⟨false, a, n, c, rfl, Lib.hid (by simp), by simpa using h⟩

theorem Rw.zed {w : World} {b : Bool} {a : Option Addr} {n c : Nat} {z : Int} (hb : Hid (b = decide (z < 0))) (h : Nw w (.slice a n c) z.natAbs) : Zw w (.agg #[.bool b, .slice a n c]) z := ⟨b, a, n, c, rfl, hb, h⟩

end Go.Rt

namespace Go.Rt
open Go.RowKit Go.Proofs

set_option maxHeartbeats 1000000 in
theorem Try.refZOf (n : Int) (w : World) (h1 : -9223372036854775808 ≤ n) (h2 : n < 9223372036854775808) :
    Calls Try.prog 11 #[.int .i64 n] w fun e w' => ∃ v', e = .returned v' ∧ Zw w' v' n ∧ Ext w w' := by
  by_cases hn : n < 0
  · have h3 : (n.natAbs : Int) = -(n + 1) + 1 := by omega
    have h4 : n.natAbs < B64 := by unfold B64; omega
    have HB : Hid (sgn true n.natAbs = n) := Lib.hid (by unfold sgn; simp; omega)
    obtain ⟨W0, hW0⟩ : ∃ W0, W0 = (w.alloc (.cells #[.bool false, .slice none 0 0] 29)) := ⟨_, rfl⟩
    have E0 : Ext w W0 := by rw [hW0]; exact (Ext.alloc1 w (.cells #[.bool false, .slice none 0 0] 29))
    have p1 : Bx2 W0 (w.heap.size) 29 (.bool false) (.slice none 0 0) := by rw [hW0]; exact (Bx2.new w 29 (.bool false) (.slice none 0 0))
    have kp1_0 := p1.froz0
    have kp1_1 := p1.froz1
    go_enter Try.func11, Try.ntmps11
    go_wp2_with fail
    rw [← hW0]
    rw [← h3]
    refine (Try.refOf n.natAbs _ h4).mono ?_
    rintro e w1 ⟨v, rfl, hv, hE, -⟩
    replace p1 := p1.ext hE
    replace E0 := E0.trans hE
    go_wp2_with fail
    refine (Try.refMade hv true).mono ?_
    rintro e w2 ⟨v', rfl, hz, hE⟩
    rw [HB.out] at hz
    replace p1 := p1.ext hE
    replace E0 := E0.trans hE
    have hz' := hz
    obtain ⟨b3, a3, n3, c3, rfl, hb3, hn3⟩ := hz
    clear kp1_0 kp1_1
    have kp1_0 := p1.cell0
    have kp1_1 := p1.cell1
    have fp1_0 := p1.froz0
    have fp1_1 := p1.froz1
    go_wp2
    have q := p1.set (.bool b3) (.slice a3 n3 c3)
    have e0 := q.cell0
    have e1 := q.cell1
    exact bodyPost_ret (v := .agg #[.bool b3, .slice a3 n3 c3]) (by simp [results, Try.results11, go_sem, e0, e1]) rfl ⟨_, rfl, hz'.off p1 (noU2 _ _ _ _) (off_set2 _ _ _ _), E0.set2 (by omega) _ _⟩
  · have h3 : (n.natAbs : Int) = n := by omega
    have h4 : n.natAbs < B64 := by unfold B64; omega
    have HB : Hid (sgn false n.natAbs = n) := Lib.hid (by unfold sgn; simp; omega)
    obtain ⟨W0, hW0⟩ : ∃ W0, W0 = (w.alloc (.cells #[.bool false, .slice none 0 0] 29)) := ⟨_, rfl⟩
    have E0 : Ext w W0 := by rw [hW0]; exact (Ext.alloc1 w (.cells #[.bool false, .slice none 0 0] 29))
    have p1 : Bx2 W0 (w.heap.size) 29 (.bool false) (.slice none 0 0) := by rw [hW0]; exact (Bx2.new w 29 (.bool false) (.slice none 0 0))
    have kp1_0 := p1.froz0
    have kp1_1 := p1.froz1
    go_enter Try.func11, Try.ntmps11
    go_wp2_with fail
    rw [← hW0]
    rw [← h3]
    refine (Try.refOf n.natAbs _ h4).mono ?_
    rintro e w1 ⟨v, rfl, hv, hE, -⟩
    replace p1 := p1.ext hE
    replace E0 := E0.trans hE
    go_wp2_with fail
    refine (Try.refMade hv false).mono ?_
    rintro e w2 ⟨v', rfl, hz, hE⟩
    rw [HB.out] at hz
    replace p1 := p1.ext hE
    replace E0 := E0.trans hE
    have hz' := hz
    obtain ⟨b3, a3, n3, c3, rfl, hb3, hn3⟩ := hz
    clear kp1_0 kp1_1
    have kp1_0 := p1.cell0
    have kp1_1 := p1.cell1
    have fp1_0 := p1.froz0
    have fp1_1 := p1.froz1
    go_wp2
    have q := p1.set (.bool b3) (.slice a3 n3 c3)
    have e0 := q.cell0
    have e1 := q.cell1
    exact bodyPost_ret (v := .agg #[.bool b3, .slice a3 n3 c3]) (by simp [results, Try.results11, go_sem, e0, e1]) rfl ⟨_, rfl, hz'.off p1 (noU2 _ _ _ _) (off_set2 _ _ _ _), E0.set2 (by omega) _ _⟩

end Go.Rt

namespace Go.Rt
open Go.RowKit Go.Proofs

theorem Try.fieldZ (b : Bool) (a : Option Addr) (n c : Nat) (W : World) : (Instr.field 29 (.agg #[.bool b, .slice a n c]) 1).run Try.prog W = .ok (.slice a n c) W := by kernel_rfl

end Go.Rt

namespace Go.Rt
open Go.RowKit Go.Proofs

end Go.Rt
