/-
  slices.Clone of limbs.
-/
import Derived.Test.YtbfojmhigfeahaaDivA
namespace Go.Rt
open Go.RowKit Go.Proofs

set_option maxHeartbeats 1000000 in
theorem Try.clone {v : Value} {xs : List Nat} {w : World} (h : Nt w v xs) (hlen : xs.length ≤ 1000000) :
    Calls Try.prog 95 #[v] w fun e w' => ∃ v', e = .returned v' ∧ Own w' w.heap.size 43 v' xs ∧ Ext w w' := by
  obtain ⟨a, b, o, cap, rfl, hs, hl⟩ := h
  rcases hs.1 with rfl | ⟨rfl, h0, rfl⟩
  · have hz := fun (wx : World) => Lib.run_eql_slice_nil (P := Try.prog) wx 23 43 (some ⟨b, o, none⟩) xs.length cap 0 0 Try.underlying23
    simp only [Option.isNone_some] at hz
    have ho := Own.lit w [] w.heap.size 43 (Nat.le_refl _) (Nat.zero_le _)
    have hsl := hs.ext (Ext.alloc1 w (.cells #[] 43))
    clear hs
    go_enter Try.func95, Try.ntmps95
    go_wp2_with (at_builtin; go_loud (refine append_all Try.underlying23 Try.infoU rfl _ _ rfl w.heap.size _ [] xs _ b o cap xs.length (by rfl) (by rfl) rfl ho hsl (by simp; omega) (by simp) ?_); intro v' w' ho' hg')
    go_ret
    exact ⟨_, rfl, ho', (Ext.alloc1 _ _).grown hg' (fun j e => by cases e; exact Nat.le_refl _)⟩
  · have hx : xs = [] := List.eq_nil_of_length_eq_zero h0
    subst hx
    have hz := fun (wx : World) => Lib.run_eql_slice_nil (P := Try.prog) wx 23 43 none 0 0 0 0 Try.underlying23
    simp only [Option.isNone_none] at hz
    clear hs
    go_enter Try.func95, Try.ntmps95
    go_wp2
    go_ret
    exact ⟨_, rfl, Own.nil _ _ _, Ext.refl _⟩

end Go.Rt
