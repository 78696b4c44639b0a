/-
  nat.pairs: the iterator over the limbs of two numbers.
-/
import Derived.Test.YtbfojmhigfeahaaTailC
import Derived.Test.YtbfojmhigfeahaaBack
import Derived.Test.YtbfojmhigfeahaaRefB
namespace Go.Rt
open Go.RowKit Go.Shelf Go.Proofs
attribute [local go_sem] Oper.semAt_some

theorem Try.pairsAt {v : Value} {l : List Nat} {w : World} (h : Nt w v l) (i : Nat) :
    Calls Try.prog 106 #[v, .int .i64 (i : Int)] w fun e w' => e = .returned (.int .u64 ((lg l i : Nat) : Int)) ∧ w' = w := by
  obtain ⟨a, b, o, cap, rfl, hs, hl⟩ := h
  by_cases hlt : i < l.length
  · obtain rfl : a = some ⟨b, o, none⟩ := hs.addr (by omega)
    have hc := hs.cell (i := i) hlt
    clear hs
    go_enter Try.func106, Try.ntmps106
    go_wp2
    go_ret
    exact ⟨rfl, rfl⟩
  · have H0 : Hid (lg l i = 0) := Lib.hid (by unfold lg; rw [List.getD_eq_getElem?_getD, List.getElem?_eq_none (by omega)]; rfl)
    clear hs
    go_enter Try.func106, Try.ntmps106
    go_wp2
    go_ret
    exact ⟨ret_i (by rw [H0.out]; rfl), rfl⟩

def pairVals (xs ys : List Nat) (k : Nat) : Array Value := #[.int .u64 ((lg xs k : Nat) : Int), .int .u64 ((lg ys k : Nat) : Int)]
def pairCan (at' Ba Bb Bt : Nat) (va vb : Value) (xs ys : List Nat) (_ : Nat) (W : World) : Prop :=
  W.cell? ⟨Ba, 0, none⟩ = some va ∧ W.cell? ⟨Bb, 0, none⟩ = some vb ∧ W.cell? ⟨Bt, 0, none⟩ = some (.func (.func at') #[] #[]) ∧ Nt W va xs ∧ Nt W vb ys

set_option maxRecDepth 100000 in
set_option maxHeartbeats 1000000 in
theorem Try.pairs_iter (Ba Bb Bt : Nat) (va vb : Value) (xs ys : List Nat) :
    Iter Try.prog 107 #[.pointer (some ⟨Ba, 0, none⟩), .pointer (some ⟨Bb, 0, none⟩), .pointer (some ⟨Bt, 0, none⟩)] (max xs.length ys.length) (pairVals xs ys) (pairCan 106 Ba Bb Bt va vb xs ys) := by
  intro l J Jx W hcan hal hdr hY h0
  obtain ⟨c1, c2, c3, n1, n2⟩ := hcan 0 W (Nat.zero_le _) h0
  obtain ⟨a1, b1, o1, q1, rfl, s1, -⟩ := n1
  obtain ⟨a2, b2, o2, q2, rfl, s2, -⟩ := n2
  have m1 := s1.max
  have m2 := s2.max
  have l1 := s1.le
  have l2 := s2.le
  obtain ⟨n, hn⟩ : ∃ n, n = max xs.length ys.length := ⟨_, rfl⟩
  have hnm : n ≤ 9223372036854775807 := by omega
  have hx : xs.length ≤ n := by omega
  have hy : ys.length ≤ n := by omega
  rw [← hn] at hcan hY ⊢
  clear s1 s2
  by_cases hc : xs.length < ys.length
  · obtain rfl : n = ys.length := by omega
    clear hn
    refine callsIn_of_wp Try.func107 rfl trivial ?_ rfl
    simp only [Try.ntmps107, List.size_toArray, List.length_cons, List.length_nil, Nat.reduceAdd, Nat.reduceSub, Array.replicate_succ, Array.replicate_zero, List.push_toArray, List.append_toArray, List.nil_append, List.cons_append]
    gi_wp2
    gi_loopw [11, 5, 14, 15, 16, 17, 18, 19, 20, 21, 22, 23, 24] (fun i _ _ _ _ _ _ _ _ _ _ _ _ wr => ∃ k : Nat, k ≤ ys.length ∧ i = .int .i64 (k : Int) ∧ J k wr) (fun i _ _ _ _ _ _ _ _ _ _ _ _ _ => ys.length - (intOf i).toNat)
    case atStart => exact ⟨0, Nat.zero_le _, rfl, h0⟩
    case round =>
      obtain ⟨k, hk, rfl, hJ⟩ := hrel
      by_cases hlt : k < ys.length
      · obtain ⟨c1, c2, c3, n1, n2⟩ := hcan k wr hk hJ
        have hy0 := hY k wr.drew hlt (hdr k wr hJ)
        rw [pairVals] at hy0
        obtain ⟨x, hx⟩ : ∃ x, x = lg xs k := ⟨_, rfl⟩
        obtain ⟨y, hy⟩ : ∃ y, y = lg ys k := ⟨_, rfl⟩
        have k1 : ∀ W, Nt W (.slice a1 xs.length q1) xs → Calls Try.prog 106 #[.slice a1 xs.length q1, .int .i64 (k : Int)] W fun e w' => e = .returned (.int .u64 (x : Int)) ∧ w' = W := fun W h => by rw [hx]; exact Try.pairsAt h k
        have k2 : ∀ W, Nt W (.slice a2 ys.length q2) ys → Calls Try.prog 106 #[.slice a2 ys.length q2, .int .i64 (k : Int)] W fun e w' => e = .returned (.int .u64 (y : Int)) ∧ w' = W := fun W h => by rw [hy]; exact Try.pairsAt h k
        rw [← hx, ← hy] at hy0
        have K1 := Lib.hid k1
        have K2 := Lib.hid k2
        have N1 := Lib.hid n1
        have N2 := Lib.hid n2
        have HY := Lib.hid hy0
        clear hx hy k1 k2 n1 n2 hy0
        have hkI : (k : Int) < (ys.length : Int) := by omega
        clear hcan hal hdr hY h0
        gi_wp2
        refine wpIn_region_tailC open_wide 9 (by kernel_rfl) (by kernel_rfl) (by kernel_rfl) ?_
        simp only [List.take_succ_cons, List.take_zero, List.drop_succ_cons, List.drop_zero]
        iterate 4 still_step
        refine wpStill_step (fun K hK => ?_)
        go_simp
        refine ⟨_, K1.out _ (N1.out.ext (Ext.drew1 _)), hK _ ?_⟩
        clear hK K
        iterate 3 still_step
        refine wpStill_step (fun K hK => ?_)
        go_simp
        refine ⟨_, K2.out _ (N2.out.ext (Ext.drew1 _)), hK _ ?_⟩
        clear hK K
        refine wpStill_nil ?_
        obtain ⟨fn, tmps, assign, body, hy, hR⟩ := HY.out
        gi_wp2
        refine hR.mono ?_
        rintro e W3 (⟨rfl, hJ3⟩ | ⟨rfl, hJx3⟩)
        · clear hy hR HY
          gi_wp2
          go_roundw
          case rel => exact ⟨k + 1, by omega, by go_num, hJ3⟩
          case measure => simp [intOf]; omega
        · clear hy hR HY
          gi_wp2
          refine bodyPost_ret (results_none rfl _ _ _) rfl ?_
          exact ⟨⟨_, rfl⟩, .inr ⟨k, hlt, hJx3⟩⟩
      · obtain rfl : k = ys.length := by omega
        have hkI : ¬ ((ys.length : Int) < (ys.length : Int)) := by omega
        clear hcan hal hdr hY h0
        gi_wp2
        go_end0
        exact ⟨⟨_, rfl⟩, .inl hJ⟩
  · obtain rfl : n = xs.length := by omega
    clear hn
    refine callsIn_of_wp Try.func107 rfl trivial ?_ rfl
    simp only [Try.ntmps107, List.size_toArray, List.length_cons, List.length_nil, Nat.reduceAdd, Nat.reduceSub, Array.replicate_succ, Array.replicate_zero, List.push_toArray, List.append_toArray, List.nil_append, List.cons_append]
    gi_wp2
    gi_loopw [11, 5, 14, 15, 16, 17, 18, 19, 20, 21, 22, 23, 24] (fun i _ _ _ _ _ _ _ _ _ _ _ _ wr => ∃ k : Nat, k ≤ xs.length ∧ i = .int .i64 (k : Int) ∧ J k wr) (fun i _ _ _ _ _ _ _ _ _ _ _ _ _ => xs.length - (intOf i).toNat)
    case atStart => exact ⟨0, Nat.zero_le _, rfl, h0⟩
    case round =>
      obtain ⟨k, hk, rfl, hJ⟩ := hrel
      by_cases hlt : k < xs.length
      · obtain ⟨c1, c2, c3, n1, n2⟩ := hcan k wr hk hJ
        have hy0 := hY k wr.drew hlt (hdr k wr hJ)
        rw [pairVals] at hy0
        obtain ⟨x, hx⟩ : ∃ x, x = lg xs k := ⟨_, rfl⟩
        obtain ⟨y, hy⟩ : ∃ y, y = lg ys k := ⟨_, rfl⟩
        have k1 : ∀ W, Nt W (.slice a1 xs.length q1) xs → Calls Try.prog 106 #[.slice a1 xs.length q1, .int .i64 (k : Int)] W fun e w' => e = .returned (.int .u64 (x : Int)) ∧ w' = W := fun W h => by rw [hx]; exact Try.pairsAt h k
        have k2 : ∀ W, Nt W (.slice a2 ys.length q2) ys → Calls Try.prog 106 #[.slice a2 ys.length q2, .int .i64 (k : Int)] W fun e w' => e = .returned (.int .u64 (y : Int)) ∧ w' = W := fun W h => by rw [hy]; exact Try.pairsAt h k
        rw [← hx, ← hy] at hy0
        have K1 := Lib.hid k1
        have K2 := Lib.hid k2
        have N1 := Lib.hid n1
        have N2 := Lib.hid n2
        have HY := Lib.hid hy0
        clear hx hy k1 k2 n1 n2 hy0
        have hkI : (k : Int) < (xs.length : Int) := by omega
        clear hcan hal hdr hY h0
        gi_wp2
        refine wpIn_region_tailC open_wide 9 (by kernel_rfl) (by kernel_rfl) (by kernel_rfl) ?_
        simp only [List.take_succ_cons, List.take_zero, List.drop_succ_cons, List.drop_zero]
        iterate 4 still_step
        refine wpStill_step (fun K hK => ?_)
        go_simp
        refine ⟨_, K1.out _ (N1.out.ext (Ext.drew1 _)), hK _ ?_⟩
        clear hK K
        iterate 3 still_step
        refine wpStill_step (fun K hK => ?_)
        go_simp
        refine ⟨_, K2.out _ (N2.out.ext (Ext.drew1 _)), hK _ ?_⟩
        clear hK K
        refine wpStill_nil ?_
        obtain ⟨fn, tmps, assign, body, hy, hR⟩ := HY.out
        gi_wp2
        refine hR.mono ?_
        rintro e W3 (⟨rfl, hJ3⟩ | ⟨rfl, hJx3⟩)
        · clear hy hR HY
          gi_wp2
          go_roundw
          case rel => exact ⟨k + 1, by omega, by go_num, hJ3⟩
          case measure => simp [intOf]; omega
        · clear hy hR HY
          gi_wp2
          refine bodyPost_ret (results_none rfl _ _ _) rfl ?_
          exact ⟨⟨_, rfl⟩, .inr ⟨k, hlt, hJx3⟩⟩
      · obtain rfl : k = xs.length := by omega
        have hkI : ¬ ((xs.length : Int) < (xs.length : Int)) := by omega
        clear hcan hal hdr hY h0
        gi_wp2
        go_end0
        exact ⟨⟨_, rfl⟩, .inl hJ⟩

end Go.Rt
