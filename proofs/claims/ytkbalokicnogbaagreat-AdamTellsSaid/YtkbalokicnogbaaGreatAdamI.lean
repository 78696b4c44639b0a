/-
 Adam: may powers and second moments be, by definition.
-/
import Derived.Test.YtkbalokicnogbaaGreatGY
import Derived.Test.YtkbalokicnogbaaGreatAdamS
import Derived.Test.YtkbalokicnogbaaGreatGQ
namespace Go.Rt
open Go Go.RowKit Go.Proofs

set_option maxRecDepth 100000 in
set_option maxHeartbeats 8000000 in
theorem Tryz.refMay18 (K : Nat) (hK : K ≤ 40) (p0 p1 : Int) {a : Option Addr} {n c : Nat} {l : List Int} (w : World) (hi : Iw 0 w.heap.size w a n c l) :
  Calls Tryz.prog 13 #[.int .i64 (K : Int), .agg #[.int .i64 p0, .int .i64 p1], .slice a n c] w fun e w' => e = .returned (.bool (!negB l && (mayB K p0 && mayB K p1))) ∧ Ext w w' := by
 have hcap := hi.cap
 have hlen := hi.len
 have hn : n ≤ 9223372036854775807 := by omega
 have HL := Lib.hid hlen
 have HK := Lib.hid hK
 clear hcap hlen hK
 obtain ⟨W0, hW0, E0, p4⟩ := boxed1 w 24 #[.int .i64 p0, .int .i64 p1]
 replace p4 := p4.b2
 replace hi : Iw 0 w.heap.size W0 a n c (l) := hi.ext E0
 go_enter Tryz.func13, Tryz.ntmps13
 have k4a := p4.cell0
 have k4b := p4.cell1
 go_wp2_with fail
 rw [← hW0]
 clear hW0
 clear k4a k4b
 refine (Tryz.refOne17 K HK.out _).mono ?_
 rintro e Wa ⟨rfl, hE⟩
 replace E0 := (Ext.trans E0 hE)
 replace hi := (hi.ext hE)
 replace p4 := (p4.ext hE)
 clear hE
 obtain ⟨P, hP⟩ : ∃ P, oneZ K = P := ⟨_, rfl⟩
 rw [hP]
 have HP := Lib.hid hP
 clear hP
 have k4a := p4.cell0
 have k4b := p4.cell1
 go_wp2_with fail
 clear k4a k4b
 go_loopw [8] (fun i wr => ∃ k : Nat, i = .int .i64 (k : Int) ∧ k ≤ n ∧ Hid (∀ j, j < k → ¬ atL l j < 0) ∧ Ext w wr ∧ Iw 0 w.heap.size wr a n c (l) ∧ Bx2 wr w.heap.size 24 (.int .i64 p0) (.int .i64 p1)) (fun i _ => n - (intOf i).toNat)
 case atStart => exact ⟨0, rfl, by omega, Lib.hid (fun j hj => absurd hj (by omega)), E0, hi, p4⟩
 case round =>
  clear E0 hi p4
  obtain ⟨k, rfl, hk, HA, E0, hi, p4⟩ := hrel
  by_cases hlt : k < n
  ·have hltI : (k : Int) < (n : Int) := by omega
   have hk63 : (k : Int) < 9223372036854775807 := by omega
   obtain ⟨ba, oa, rfl, -, -⟩ := hi.some (by omega)
   have hc := hi.cell hlt
   by_cases hneg : atL l k < 0
   ·have HX : decide (atL l k < 0) = true := decide_eq_true hneg
    have HR : Hid (negB l = true) := Lib.hid (negB_true (by rw [HL.out]; exact hlt) hneg)
    go_wp2
    go_ret
    exact ⟨ret_b (by rw [HR.out]; rfl), E0⟩
   ·have HX : decide (atL l k < 0) = false := decide_eq_false hneg
    have HN := Lib.hid hneg
    go_wp2
    go_roundw
    case rel => exact ⟨k + 1, by go_num, by omega, Lib.hid (grow_all (p := fun j => ¬ atL l j < 0) HA.out HN.out), E0, hi, p4⟩
    case measure => simp [intOf]; omega
  ·have hge : ¬ (k : Int) < (n : Int) := by omega
   have HNB : Hid (negB l = false) := Lib.hid (negB_false (fun i hi2 => HA.out i (by have := HL.out; omega)))
   clear hi
   by_cases t0 : 0 ≤ p0
   ·by_cases t1 : p0 < P
    ·by_cases t2 : 0 ≤ p1
     ·by_cases t3 : p1 < P
      ·have HR : Hid ((!negB l && (mayB K p0 && mayB K p1)) = true) := Lib.hid (by rw [HNB.out]; simp only [Bool.and_eq_true, mayB_iff, HP.out, Bool.not_false, true_and]; omega)
       have k4a := p4.cell0
       have k4b := p4.cell1
       go_wp2
       go_ret
       exact ⟨by first | exact ret_b HR.out.symm | exact ret_b ((decide_eq_true t3).trans HR.out.symm), E0⟩
      ·have HR : Hid ((!negB l && (mayB K p0 && mayB K p1)) = false) := Lib.hid (Bool.eq_false_iff.2 (fun k9 => by rw [HNB.out] at k9; simp only [Bool.and_eq_true, mayB_iff, HP.out] at k9; omega))
       have k4a := p4.cell0
       have k4b := p4.cell1
       go_wp2
       go_ret
       exact ⟨by first | exact ret_b HR.out.symm | exact ret_b ((decide_eq_false t3).trans HR.out.symm), E0⟩
     ·have HR : Hid ((!negB l && (mayB K p0 && mayB K p1)) = false) := Lib.hid (Bool.eq_false_iff.2 (fun k9 => by rw [HNB.out] at k9; simp only [Bool.and_eq_true, mayB_iff, HP.out] at k9; omega))
      have k4a := p4.cell0
      have k4b := p4.cell1
      go_wp2
      go_ret
      exact ⟨by first | exact ret_b HR.out.symm | exact ret_b ((decide_eq_false t2).trans HR.out.symm), E0⟩
    ·have HR : Hid ((!negB l && (mayB K p0 && mayB K p1)) = false) := Lib.hid (Bool.eq_false_iff.2 (fun k9 => by rw [HNB.out] at k9; simp only [Bool.and_eq_true, mayB_iff, HP.out] at k9; omega))
     have k4a := p4.cell0
     have k4b := p4.cell1
     go_wp2
     go_ret
     exact ⟨by first | exact ret_b HR.out.symm | exact ret_b ((decide_eq_false t1).trans HR.out.symm), E0⟩
   ·have HR : Hid ((!negB l && (mayB K p0 && mayB K p1)) = false) := Lib.hid (Bool.eq_false_iff.2 (fun k9 => by rw [HNB.out] at k9; simp only [Bool.and_eq_true, mayB_iff, HP.out] at k9; omega))
    have k4a := p4.cell0
    have k4b := p4.cell1
    go_wp2
    go_ret
    exact ⟨by first | exact ret_b HR.out.symm | exact ret_b ((decide_eq_false t0).trans HR.out.symm), E0⟩


end Go.Rt
