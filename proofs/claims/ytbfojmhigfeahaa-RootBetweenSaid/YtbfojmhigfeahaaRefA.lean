/-
  Contracts of the references' small functions on limbs: Right, Few, Of, Cmp, Same.
-/
import Derived.Test.YtbfojmhigfeahaaNatA
import Derived.Test.YtbfojmhigfeahaaNatCmp
namespace Go.Rt
open Go.RowKit Go.Proofs

def normB (xs : List Nat) : Bool := xs.length == 0 || lg xs (xs.length - 1) != 0
theorem normB_iff {xs : List Nat} : normB xs = true ↔ Norm xs := by simp [normB, Norm, lg]

theorem Try.refRight {v : Value} {xs : List Nat} {w : World} (h : Nt w v xs) :
    Calls Try.prog 48 #[v] w fun e w' => e = .returned (.bool (normB xs)) ∧ w = w' := by
  obtain ⟨a, b, o, cap, rfl, hs, hl⟩ := h
  have hle := hs.le
  have hmx := hs.max
  by_cases h0 : xs.length = 0
  · have HB : Hid (normB xs = true) := Lib.hid (by simp [normB, h0])
    have h0' : ((xs.length : Int) == 0) = true := by simp [h0]
    clear h0
    go_enter Try.func48, Try.ntmps48
    go_wp2
    go_ret
    exact ⟨ret_b HB.out.symm, rfl⟩
  · have h0' : ((xs.length : Int) == 0) = false := beq_eq_false_iff_ne.2 (by omega)
    have h1 : 0 < xs.length := by omega
    obtain rfl : a = some ⟨b, o, none⟩ := hs.addr h1
    have hc := hs.cell (i := xs.length - 1) (by omega)
    have HB : Hid (normB xs = (((lg xs (xs.length - 1) : Nat) : Int) != 0)) := Lib.hid (by
      unfold normB
      rw [show (xs.length == 0) = false from by simpa using h0, Bool.false_or, Bool.eq_iff_iff, bne_iff_ne, bne_iff_ne]
      omega)
    clear h0 hs
    go_enter Try.func48, Try.ntmps48
    go_wp2
    all_goals go_ret
    all_goals exact ⟨ret_b HB.out.symm, rfl⟩

theorem Try.refOf (x : Nat) (w : World) (hx : x < B64) :
    Calls Try.prog 50 #[.int .u64 (x : Int)] w fun e w' => ∃ v', e = .returned v' ∧ Nw w' v' x ∧ Ext w w' ∧ Fr w v' := by
  have hl := Nt.lit1 w x 43 hx
  go_enter Try.func50, Try.ntmps50
  go_wp2_with fail
  refine (Try.refBare hl (by simp)).mono ?_
  rintro e w' ⟨v', rfl, hn, hx, hf⟩
  go_wp2
  go_ret
  rw [ev_single] at hn
  exact ⟨_, rfl, hn, (Ext.alloc1 _ _).trans hx, hf.back (Ext.alloc1 _ _)⟩

set_option maxHeartbeats 1000000 in
theorem Try.refCmp {v1 v2 : Value} {N M : Nat} {w : World} (h1 : Nw w v1 N) (h2 : Nw w v2 M) :
    Calls Try.prog 52 #[v1, v2] w fun e w' => e = .returned (.int .i64 (cmpI N M)) ∧ Ext w w' := by
  obtain ⟨xs, ⟨a1, b1, o1, c1, rfl, hs1, hl1⟩, hn1, rfl⟩ := h1
  obtain ⟨ys, ⟨a2, b2, o2, c2, rfl, hs2, hl2⟩, hn2, rfl⟩ := h2
  have hm1 := Nat.le_trans hs1.le hs1.max
  rcases Nat.lt_trichotomy xs.length ys.length with hlen | hlen | hlen
  · have HR := Lib.hid (cmpI_nat_lt (ev_lt_of_len B64_pos hl1 hn2 hlen))
    have h0 : ((xs.length : Int) != (ys.length : Int)) = true := by rw [bne_iff_ne]; omega
    clear hs1 hs2
    go_enter Try.func52, Try.ntmps52
    go_wp2
    go_ret
    exact ⟨ret_i HR.out.symm, Ext.refl _⟩
  · have HL := Lib.hid hlen
    have hk1 : Hid (xs.drop (xs.length) = ys.drop (xs.length)) := Lib.hid (by rw [List.drop_eq_nil_of_le (Nat.le_refl _), List.drop_eq_nil_of_le (by omega)])
    have h0 : ((xs.length : Int) != (ys.length : Int)) = false := by rw [hlen]; simp
    have hle : ys.length ≤ xs.length := by omega
    have hge : xs.length ≤ ys.length := by omega
    clear hlen
    go_enter Try.func52, Try.ntmps52
    go_wp2
    go_loopw [5] (fun i wr => ∃ k : Nat, k ≤ xs.length ∧ i = .int .i64 ((k : Int) - 1) ∧ Ext w wr ∧ Hid (xs.drop k = ys.drop k)) (fun i _ => (intOf i + 1).toNat)
    case atStart => exact ⟨xs.length, Nat.le_refl _, rfl, Ext.refl _, hk1⟩
    case round =>
      obtain ⟨k, hk, rfl, hE, hd⟩ := hrel
      rcases Nat.eq_zero_or_pos k with rfl | hpos
      · have he : Hid (xs = ys) := Lib.hid (by have h := hd.out; simpa using h)
        clear hs1 hs2
        go_wp2
        go_ret
        exact ⟨ret_i (by rw [he.out, cmpI_eq rfl]), hE⟩
      · obtain ⟨j, rfl⟩ : ∃ j, k = j + 1 := ⟨k - 1, by omega⟩
        obtain rfl : a1 = some ⟨b1, o1, none⟩ := hs1.addr (by omega)
        obtain rfl : a2 = some ⟨b2, o2, none⟩ := hs2.addr (by omega)
        have hc1 := (hs1.ext hE).cell (i := j) (by omega)
        have hc2 := (hs2.ext hE).cell (i := j) (by omega)
        have ej : ((j + 1 : Nat) : Int) - 1 = (j : Int) := by omega
        rw [ej]
        clear ej
        clear hs1 hs2
        rcases Nat.lt_trichotomy (lg xs j) (lg ys j) with hlt | heq | hgt
        · have HR := Lib.hid ((cmpI_at hl1 hl2 HL.out j (by omega) hd.out (by omega)).symm.trans (cmpI_nat_lt hlt))
          go_wp2
          go_quiet (fail)
          go_wp2
          go_ret
          exact ⟨ret_i HR.out.symm, hE.drewN _⟩
        · have hd2 : Hid (xs.drop j = ys.drop j) := Lib.hid (by
            have h := hd.out
            have e := heq
            unfold lg at e
            rw [drop_cons (show j < xs.length by omega), drop_cons (show j < ys.length by omega), h, e])
          have h1 : ¬ lg xs j < lg ys j := by omega
          have h2 : ¬ lg ys j < lg xs j := by omega
          clear heq hd
          go_wp2
          go_quiet (fail)
          go_wp2
          go_quiet (fail)
          go_wp2
          go_roundw
          case rel => exact ⟨j, by omega, by first | rfl | go_num, hE.drewN _, hd2⟩
          case measure => simp [intOf] <;> omega
        · have HR := Lib.hid ((cmpI_at hl1 hl2 HL.out j (by omega) hd.out (by omega)).symm.trans (cmpI_nat_gt hgt))
          have h1 : ¬ lg xs j < lg ys j := by omega
          go_wp2
          go_quiet (fail)
          go_wp2
          go_quiet (fail)
          go_wp2
          go_ret
          exact ⟨ret_i HR.out.symm, (hE.drewN _).drewN _⟩
  · have HR := Lib.hid (cmpI_nat_gt (ev_lt_of_len B64_pos hl2 hn1 hlen))
    have h0 : ((xs.length : Int) != (ys.length : Int)) = true := by rw [bne_iff_ne]; omega
    clear hs1 hs2
    go_enter Try.func52, Try.ntmps52
    go_wp2
    go_ret
    exact ⟨ret_i HR.out.symm, Ext.refl _⟩

theorem Try.refSame {v1 v2 : Value} {N M : Nat} {w : World} (h1 : Nw w v1 N) (h2 : Nw w v2 M) :
    Calls Try.prog 47 #[v1, v2] w fun e w' => e = .returned (.bool (decide (N = M))) ∧ Ext w w' := by
  have HB : Hid ((cmpI N M == 0) = decide (N = M)) := Lib.hid (by rw [Bool.eq_iff_iff, beq_iff_eq, cmpI_zero, decide_eq_true_iff]; omega)
  go_enter Try.func47, Try.ntmps47
  go_wp2_with fail
  refine (Try.refCmp h1 h2).mono ?_
  rintro e w' ⟨rfl, hE⟩
  clear h1 h2
  go_wp2
  all_goals go_ret
  all_goals exact ⟨ret_b HB.out, hE⟩

end Go.Rt
