/-
  slices.Backward over limbs: the iterator's word.
-/
import Derived.Test.YtbfojmhigfeahaaChecked
import Derived.Test.YtbfojmhigfeahaaRange
namespace Go.Rt
open Go.RowKit Go.Shelf Go.Proofs
attribute [local go_sem] Oper.semAt_some

def backVals (n : Nat) (c : Nat → Value) (k : Nat) : Array Value := #[.int .i64 (((n - 1 - k : Nat)) : Int), c (n - 1 - k)]
def backCan (B : Nat) (a : Option Addr) (b o n cap : Nat) (c : Nat → Value) (k : Nat) (W : World) : Prop :=
  W.cell? ⟨B, 0, none⟩ = some (.slice a n cap) ∧ (k < n → a = some ⟨b, o, none⟩ ∧ W.cell? ⟨b, o + (n - 1 - k), none⟩ = some (c (n - 1 - k)))

set_option maxHeartbeats 400000 in
theorem Try.backward_iter (B : Nat) (a : Option Addr) (b o n cap : Nat) (c : Nat → Value) (hn : n ≤ cap) (hcap : cap ≤ 9223372036854775807) (hc1 : ∀ i, (c i).oneCell' = true) :
    Iter Try.prog 104 #[.pointer (some ⟨B, 0, none⟩)] n (backVals n c) (backCan B a b o n cap c) := by
  intro l J Jx W hcan hal hdr hY h0
  have hB0 := (hcan 0 W (by omega) h0).1
  refine callsIn_of_wp Try.func104 rfl trivial ?_ rfl
  simp only [Try.ntmps104, List.size_toArray, List.length_cons, List.length_nil, Nat.reduceAdd, Nat.reduceSub, Array.replicate_succ, Array.replicate_zero, List.push_toArray, List.append_toArray, List.nil_append, List.cons_append]
  gi_wp2
  gi_loopw [3] (fun i wr => ∃ k : Nat, k ≤ n ∧ i = .int .i64 ((n : Int) - 1 - (k : Int)) ∧ J k wr) (fun i _ => (intOf i + 1).toNat)
  case atStart => exact ⟨0, Nat.zero_le _, by simp, h0⟩
  case round =>
    obtain ⟨k, hk, hi, hJ⟩ := hrel
    obtain ⟨hB, hcell⟩ := hcan k wr hk hJ
    by_cases hlt : k < n
    · obtain ⟨j, hj⟩ : ∃ j : Nat, j = n - 1 - k := ⟨_, rfl⟩
      obtain ⟨rfl, hc⟩ := hcell hlt
      have ei : ((n : Int) - 1 - (k : Int)) = (j : Int) := by omega
      rw [ei] at hi
      subst hi
      have hy0 := hY k wr hlt hJ
      rw [backVals, ← hj] at hy0
      rw [← hj] at hc
      obtain ⟨fn, tmps, assign, body, hy, hR⟩ := hy0
      have hj0 : 0 ≤ (j : Int) := by omega
      have hjn : j < n := by omega
      have h1 := hc1 j
      have HJ := Lib.hid hj; clear hj ei
      clear hcan hal hdr hY h0 hB0
      gi_wp2
      refine hR.mono ?_
      rintro e W3 (⟨rfl, hJ3⟩ | ⟨rfl, hJx3⟩)
      · clear hy hR
        gi_wp2
        go_roundw
        case rel =>
          have hj := HJ.out
          exact ⟨k + 1, by omega, congrArg (Value.int .i64) (by omega), hJ3⟩
        case measure => simp [intOf] <;> omega
      · clear hy hR
        gi_wp2
        refine bodyPost_ret (results_none rfl _ _ _) rfl ?_
        exact ⟨⟨_, rfl⟩, .inr ⟨k, hlt, hJx3⟩⟩
    · obtain rfl : k = n := by omega
      have ei : ((k : Int) - 1 - (k : Int)) = -1 := by omega
      rw [ei] at hi
      subst hi
      clear ei hcan hal hY h0 hB0 hcell
      gi_wp2
      go_end0
      exact ⟨⟨_, rfl⟩, .inl hJ⟩

/-- its maker: a box for the slice, and the closure over it -/
theorem Try.backward_ok (a : Option Addr) (n cap : Nat) (w : World) : Calls Try.prog 87 #[.slice a n cap] w fun e w' => e = .returned (.func (.func 104) #[] #[.pointer (some ⟨w.heap.size, 0, none⟩)]) ∧ w.alloc (.cells #[.slice a n cap] 23) = w' := by
  have hmf : ∀ (fn : Fn) (first cap : Array Value) (w : World), (Instr.makeFunc fn first cap).run Try.prog w = .ok (.func fn first cap) w := fun _ _ _ _ => rfl
  go_enter Try.func87, Try.ntmps87
  go_wp2
  go_ret
  exact ⟨rfl, rfl⟩

end Go.Rt
