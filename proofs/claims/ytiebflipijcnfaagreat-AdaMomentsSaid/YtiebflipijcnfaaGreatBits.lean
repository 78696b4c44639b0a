/-
  math/bits: Len64, LeadingZeros64 in numbers.
-/
import Derived.Test.YtiebflipijcnfaaGreatLen
import Derived.Test.YtiebflipijcnfaaGreatGB
namespace Go.Rt
open Go.RowKit Go.Shelf Go.Proofs
theorem bitLen_bl (x:Nat) (hx:x < 2^64):Lib.bitLen x=bl x:=by
  induction x using Nat.strongRecOn with
  | _ x ih=>
    by_cases h0:x=0
    · subst h0;rfl
    · rw[Lib.bitLen_half x h0 hx,bl_half (by omega),ih (x / 2) (by omega) (by omega)];omega
theorem Tryz.len64 (x:Nat) (w:World) (hx:x < B64):Calls Tryz.prog 102 #[.int .u64 (x:Int)] w fun e w'=>w=w'∧e=.returned (.int .i64 ((bl x:Nat):Int)):=by
  rw[B64_eq]at hx
  refine(Tryz.len64I x w (by omega) (by omega)).mono ?_
  rintro e w' ⟨rfl,rfl⟩
  rw[Int.toNat_natCast,bitLen_bl x (by omega)]
  exact⟨rfl,rfl⟩
theorem Tryz.leading (x:Nat) (w:World) (hx:x < B64):Calls Tryz.prog 74 #[.int .u64 (x:Int)] w fun e w'=>w=w'∧e=.returned (.int .i64 ((64 - bl x:Nat):Int)):=by
  have hb:bl x≤64:=(bl_le_iff _ _).2 (by rw[B64_two]at hx;exact hx)
  go_enter Tryz.func74,Tryz.ntmps74
  go_wp2_with (refine(Tryz.len64 x _ hx).mono ?_;rintro e w' ⟨rfl,rfl⟩)
  go_ret
  refine⟨rfl,congrArg Ending.returned (congrArg (Value.int IntKind.i64) ?_)⟩
  try rw[IntKind.wrap_i64]
  omega
end Go.Rt
