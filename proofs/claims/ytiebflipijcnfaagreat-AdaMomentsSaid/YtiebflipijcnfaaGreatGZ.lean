/-
  Adam: which are right, and a step of rows, or why there is none, by the program.
  Adam: a step of rows, or why there is none, by the program.
  Adam: the powers behind a step; what the document says is right; the question that is always live.
-/
import Derived.Test.YtiebflipijcnfaaGreatJH
namespace Go.Rt
open Go Go.RowKit Go.Proofs
theorem grow_all {p:Nat→Prop} {k:Nat} (h:∀ j,j < k→p j) (hk:p k):∀ j,j < k+1→p j:=fun j hj=>by
 rcases Nat.lt_or_ge j k with h1 | h1
 ·exact h j h1
 ·obtain rfl:j=k:=by omega
  exact hk
def negB (l:List Int):Bool:=l.any fun x=>decide (x < 0)
theorem negB_true {l:List Int} {i:Nat} (hi:i < l.length) (h:atL l i < 0):negB l=true:=by
 unfold negB
 rw[List.any_eq_true]
 exact⟨atL l i,atL_mem hi,decide_eq_true h⟩
theorem negB_false {l:List Int} (h:∀ i,i < l.length→¬ atL l i < 0):negB l=false:=by
 unfold negB
 rw[List.any_eq_false]
 intro x hx
 obtain⟨i,hi,rfl⟩:=List.getElem_of_mem hx
 have:=h i hi
 rw[atL_eq hi]at this
 simpa using this
theorem negB_at {l:List Int} (h:negB l=false) {i:Nat} (hi:i < l.length):0≤atL l i:=by
 unfold negB at h
 rw[List.any_eq_false]at h
 have:=h _ (atL_mem hi)
 simp at this
 omega
end Go.Rt
namespace Go.Rt
open Go Go.RowKit Go.Proofs
end Go.Rt
namespace Go.Rt
open Go Go.RowKit Go.Proofs
theorem mulZ_nat (K a b:Nat):mulZ K (a:Int) (b:Int)=((nearN (a*b) (2^K):Nat):Int):=by
 have h:=near_ratio (a*b) (2^K) (Nat.pow_pos (by omega))
 rw[← h]
 rfl
theorem divZ_nat (K a:Nat) {b:Nat} (hb:0 < b):divZ K (a:Int) (b:Int)=((nearN (a*2^K) b:Nat):Int):=by
 have h:=near_ratio (a*2^K) b hb
 rw[← h]
 rfl
theorem mulO_nat {K a b c:Nat} (h:nearN (a*b) (2^K)=c) (hc:c < 9223372036854775808):mulO K (a:Int) (b:Int)=some (c:Int):=by
 unfold mulO
 rw[mulZ_nat,h]
 exact okZ_in (by omega) (by omega)
theorem divO_nat {K a b c:Nat} (hb:0 < b) (h:nearN (a*2^K) b=c) (hc:c < 9223372036854775808):divO K (a:Int) (b:Int)=some (c:Int):=by
 unfold divO
 rw[divZ_nat K a hb,h]
 exact okZ_in (by omega) (by omega)
end Go.Rt
