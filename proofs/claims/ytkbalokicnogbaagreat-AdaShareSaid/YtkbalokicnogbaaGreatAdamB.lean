/-
 Adam: a place's step by the program.
-/
import Derived.Test.YtkbalokicnogbaaGreatSqz
import Derived.Test.YtkbalokicnogbaaGreatAdamM
import Derived.Test.YtkbalokicnogbaaGreatFixD
import Derived.Test.YtkbalokicnogbaaGreatInv2
import Derived.Test.YtkbalokicnogbaaGreatIrow

namespace Go.Rt

open Go Go.RowKit Go.Proofs

def SaysP (t : TypeId) (e : Ending) (o : Option (Int × Int × Int)) : Prop :=
 match o with
 | some r => e = .returned (.tuple #[.int .i64 r.1, .int .i64 r.2.1, .int .i64 r.2.2])
 | none => ∃ c : Int, c ≠ 0 ∧ e = .panicked [{ v := .iface t (.int .i64 c), recovered := false }]

theorem SaysP.no {t : TypeId} {c : Int} {o : Option (Int × Int × Int)} (h : o = none) (hc : c ≠ 0) : SaysP t (.panicked [{ v := .iface t (.int .i64 c), recovered := false }]) o := by subst h; exact ⟨c, hc, rfl⟩

end Go.Rt
