/-
  No cell of these rows narrows 'for every input' (looked for: loops, veiled, ifaces, maps, wideKeys, modest, calm, conditions, laid).
  DERIVED. THE GIVEN ROWS OF THIS SEAT. 7 by the template 'for every input the law returns true; each argument reads behind the call as it read before'; 0 by the template 'total and deterministic' (their statements: YtlknbbehjcklmaaTotals.lean).
  GIVEN WITH THE SEED: the statements are not yours to turn. If you find one false, say at which input.
  Laid BY PROGRAM, IN A SANDBOX (cutbox-rows.mjs): the forced cells as the released guide's own fill.sh prints them over the translation 6f8da0a5b69abe57… (all of the seat's roots in one cut). By AI agents, Wed Nov 11 2026. No macro, syntax, notation, axiom, sorry.
-/
import Derived.Test.YtlknbbehjcklmaaChecked
import GoSem.Claim
import GoSem.ClaimJoined
import GoSem.ClaimMapViews
import Derived.JoinedTies
import Derived.KernelRfl
namespace Go.Proofs.Ytlknbbehjcklmaa
/- THE CELL 'sum', in the pinned program and in every row, IS THE sha256 OF THE DUMP (.gsa) THAT YtlknbbehjcklmaaProg.lean LOADS. Nothing in Lean hashes anything: it is a label: what it is worth is what the hold of that sum in a sandbox is worth. -/
noncomputable def Try.pinned : Pinned := { name := "ytlknbbehjcklmaa", sum := "6f8da0a5b69abe57567d492fb30636ea27d168516d2266ff73530905e2ea35c2", checked := Try.checked }
namespace Rows
def none {H : Type} : Left H := { results := [], args := [] }

/-- 'ratchetlaw02.DivShifts': WHATEVER THE INPUT: true; the input reads as it did. -/
def divShiftsSpec : ChangeSpec := { name := "divShifts", fn := fun _ => fun
  | [d1, d2] => { results := [.lit (.bool true)], args := [d1, d2] }
  | _ => none }
def divShiftsRow : OpenClaim := { program := "ytlknbbehjcklmaa", sum := "6f8da0a5b69abe57567d492fb30636ea27d168516d2266ff73530905e2ea35c2", func := "ratchet/ratchetlaw02.DivShifts", spec := "divShifts", inPlace := ["math/bits.Add64", "math/bits.Sub64"], unfollowed := true, recurses := true, named := ["math/bits.divideError", "math/bits.overflowError"], apart := false }
def DivShiftsSaid : Prop := divShiftsRow.holds Try.pinned (OpenSpec.ofChange divShiftsSpec)

/-- ITS FALSE NEIGHBOUR: 'it returns false'. Refute it at one input. -/
def divShiftsWrong : ChangeSpec := { name := "divShifts", fn := fun _ => fun
  | [d1, d2] => { results := [.lit (.bool false)], args := [d1, d2] }
  | _ => none }
def DivShiftsWrongFalsely : Prop := divShiftsRow.holds Try.pinned (OpenSpec.ofChange divShiftsWrong)

/-- 'ratchetlaw02.DivDivides': WHATEVER THE INPUT: true; the input reads as it did. -/
def divDividesSpec : ChangeSpec := { name := "divDivides", fn := fun _ => fun
  | [d1, d2] => { results := [.lit (.bool true)], args := [d1, d2] }
  | _ => none }
def divDividesRow : OpenClaim := { program := "ytlknbbehjcklmaa", sum := "6f8da0a5b69abe57567d492fb30636ea27d168516d2266ff73530905e2ea35c2", func := "ratchet/ratchetlaw02.DivDivides", spec := "divDivides", inPlace := ["math/bits.Add64", "math/bits.Sub64"], unfollowed := true, recurses := true, named := ["math/bits.divideError", "math/bits.overflowError"], apart := false }
def DivDividesSaid : Prop := divDividesRow.holds Try.pinned (OpenSpec.ofChange divDividesSpec)

/-- ITS FALSE NEIGHBOUR: 'it returns false'. Refute it at one input. -/
def divDividesWrong : ChangeSpec := { name := "divDivides", fn := fun _ => fun
  | [d1, d2] => { results := [.lit (.bool false)], args := [d1, d2] }
  | _ => none }
def DivDividesWrongFalsely : Prop := divDividesRow.holds Try.pinned (OpenSpec.ofChange divDividesWrong)

/-- 'ratchetlaw02.DivWhole': WHATEVER THE INPUT: true; the input reads as it did. -/
def divWholeSpec : ChangeSpec := { name := "divWhole", fn := fun _ => fun
  | [d1, d2] => { results := [.lit (.bool true)], args := [d1, d2] }
  | _ => none }
def divWholeRow : OpenClaim := { program := "ytlknbbehjcklmaa", sum := "6f8da0a5b69abe57567d492fb30636ea27d168516d2266ff73530905e2ea35c2", func := "ratchet/ratchetlaw02.DivWhole", spec := "divWhole", inPlace := ["math/bits.Add64", "math/bits.Sub64"], unfollowed := true, recurses := true, named := ["math/bits.divideError", "math/bits.overflowError"], apart := false }
def DivWholeSaid : Prop := divWholeRow.holds Try.pinned (OpenSpec.ofChange divWholeSpec)

/-- ITS FALSE NEIGHBOUR: 'it returns false'. Refute it at one input. -/
def divWholeWrong : ChangeSpec := { name := "divWhole", fn := fun _ => fun
  | [d1, d2] => { results := [.lit (.bool false)], args := [d1, d2] }
  | _ => none }
def DivWholeWrongFalsely : Prop := divWholeRow.holds Try.pinned (OpenSpec.ofChange divWholeWrong)

/-- 'ratchetlaw02.DivBack': WHATEVER THE INPUT: true; the input reads as it did. -/
def divBackSpec : ChangeSpec := { name := "divBack", fn := fun _ => fun
  | [d1, d2, d3] => { results := [.lit (.bool true)], args := [d1, d2, d3] }
  | _ => none }
def divBackRow : OpenClaim := { program := "ytlknbbehjcklmaa", sum := "6f8da0a5b69abe57567d492fb30636ea27d168516d2266ff73530905e2ea35c2", func := "ratchet/ratchetlaw02.DivBack", spec := "divBack", inPlace := ["math/bits.Add64", "math/bits.Sub64"], unfollowed := true, recurses := true, named := ["math/bits.divideError", "math/bits.overflowError"], apart := false }
def DivBackSaid : Prop := divBackRow.holds Try.pinned (OpenSpec.ofChange divBackSpec)

/-- ITS FALSE NEIGHBOUR: 'it returns false'. Refute it at one input. -/
def divBackWrong : ChangeSpec := { name := "divBack", fn := fun _ => fun
  | [d1, d2, d3] => { results := [.lit (.bool false)], args := [d1, d2, d3] }
  | _ => none }
def DivBackWrongFalsely : Prop := divBackRow.holds Try.pinned (OpenSpec.ofChange divBackWrong)

/-- 'ratchetlaw02.DivGcd': WHATEVER THE INPUT: true; the input reads as it did. -/
def divGcdSpec : ChangeSpec := { name := "divGcd", fn := fun _ => fun
  | [d1, d2, d3] => { results := [.lit (.bool true)], args := [d1, d2, d3] }
  | _ => none }
def divGcdRow : OpenClaim := { program := "ytlknbbehjcklmaa", sum := "6f8da0a5b69abe57567d492fb30636ea27d168516d2266ff73530905e2ea35c2", func := "ratchet/ratchetlaw02.DivGcd", spec := "divGcd", inPlace := ["math/bits.Add64", "math/bits.Sub64"], unfollowed := true, recurses := true, named := ["math/bits.divideError", "math/bits.overflowError"], apart := false }
def DivGcdSaid : Prop := divGcdRow.holds Try.pinned (OpenSpec.ofChange divGcdSpec)

/-- ITS FALSE NEIGHBOUR: 'it returns false'. Refute it at one input. -/
def divGcdWrong : ChangeSpec := { name := "divGcd", fn := fun _ => fun
  | [d1, d2, d3] => { results := [.lit (.bool false)], args := [d1, d2, d3] }
  | _ => none }
def DivGcdWrongFalsely : Prop := divGcdRow.holds Try.pinned (OpenSpec.ofChange divGcdWrong)

/-- 'ratchetlaw02.DivTwice': WHATEVER THE INPUT: true; the input reads as it did. -/
def divTwiceSpec : ChangeSpec := { name := "divTwice", fn := fun _ => fun
  | [d1, d2, d3] => { results := [.lit (.bool true)], args := [d1, d2, d3] }
  | _ => none }
def divTwiceRow : OpenClaim := { program := "ytlknbbehjcklmaa", sum := "6f8da0a5b69abe57567d492fb30636ea27d168516d2266ff73530905e2ea35c2", func := "ratchet/ratchetlaw02.DivTwice", spec := "divTwice", inPlace := ["math/bits.Add64", "math/bits.Sub64"], unfollowed := true, recurses := true, named := ["math/bits.divideError", "math/bits.overflowError"], apart := false }
def DivTwiceSaid : Prop := divTwiceRow.holds Try.pinned (OpenSpec.ofChange divTwiceSpec)

/-- ITS FALSE NEIGHBOUR: 'it returns false'. Refute it at one input. -/
def divTwiceWrong : ChangeSpec := { name := "divTwice", fn := fun _ => fun
  | [d1, d2, d3] => { results := [.lit (.bool false)], args := [d1, d2, d3] }
  | _ => none }
def DivTwiceWrongFalsely : Prop := divTwiceRow.holds Try.pinned (OpenSpec.ofChange divTwiceWrong)

/-- 'ratchetlaw02.DivHalves': WHATEVER THE INPUT: true; the input reads as it did. -/
def divHalvesSpec : ChangeSpec := { name := "divHalves", fn := fun _ => fun
  | [d1, d2] => { results := [.lit (.bool true)], args := [d1, d2] }
  | _ => none }
def divHalvesRow : OpenClaim := { program := "ytlknbbehjcklmaa", sum := "6f8da0a5b69abe57567d492fb30636ea27d168516d2266ff73530905e2ea35c2", func := "ratchet/ratchetlaw02.DivHalves", spec := "divHalves", inPlace := ["math/bits.Add64", "math/bits.Sub64"], unfollowed := true, recurses := true, named := ["math/bits.divideError", "math/bits.overflowError"], apart := false }
def DivHalvesSaid : Prop := divHalvesRow.holds Try.pinned (OpenSpec.ofChange divHalvesSpec)

/-- ITS FALSE NEIGHBOUR: 'it returns false'. Refute it at one input. -/
def divHalvesWrong : ChangeSpec := { name := "divHalves", fn := fun _ => fun
  | [d1, d2] => { results := [.lit (.bool false)], args := [d1, d2] }
  | _ => none }
def DivHalvesWrongFalsely : Prop := divHalvesRow.holds Try.pinned (OpenSpec.ofChange divHalvesWrong)

/- THE SECOND FORM. 'bulk': how many values and letters a reading holds, each counted each time it is reached (what is shared counts as often as it is met; a slice's spare places count too). A statement '..UptoSaid' is the law's where the arguments, and the package variables that the reading takes, are together of bulk at most 1048576: NARROWER than '..Said'. Prove '..Said' where nothing that the law and all that it calls make is longer than what came in: it says more and counts as full. Else prove '..UptoSaid'. A law counts once. -/
mutual
def uptoBulk {H : Type} : DataW H → Nat
  | .lit (.string bytes) => bytes.length + 1
  | .lit _ => 1
  | .nil => 1
  | .ptr d => uptoBulk d + 1
  | .slice elems spare => uptoBulkAll elems + uptoBulkAll spare + 1
  | .agg parts => uptoBulkAll parts + 1
  | .iface _ d => uptoBulk d + 1
  | .map entries => uptoBulkEntries entries + 1
  | .held _ => 1
def uptoBulkAll {H : Type} : List (DataW H) → Nat
  | [] => 0
  | d :: r => uptoBulk d + uptoBulkAll r
def uptoBulkEntries {H : Type} : List (Lit × DataW H) → Nat
  | [] => 0
  | x :: r => uptoBulkEntry x + uptoBulkEntries r
def uptoBulkEntry {H : Type} : Lit × DataW H → Nat
  | (.string bytes, d) => bytes.length + uptoBulk d + 1
  | (_, d) => uptoBulk d + 1
 end
def uptoSmall : (H : Type) → List (DataW H) → Bool := fun _ ds => decide (uptoBulkAll ds ≤ 1048576)
def OpenSpec.upto (s : _root_.Go.ChangeSpec) : _root_.Go.OpenSpec := { _root_.Go.OpenSpec.ofChange s with cond := some uptoSmall }

/-- 'ratchetlaw02.DivShifts', WHERE WHAT IT READS IS OF BULK AT MOST 1048576: true; the input reads as it did. -/
def divShiftsUptoRow : OpenClaim := { program := "ytlknbbehjcklmaa", sum := "6f8da0a5b69abe57567d492fb30636ea27d168516d2266ff73530905e2ea35c2", func := "ratchet/ratchetlaw02.DivShifts", spec := "divShifts", inPlace := ["math/bits.Add64", "math/bits.Sub64"], unfollowed := true, recurses := true, named := ["math/bits.divideError", "math/bits.overflowError"], apart := false, narrowed := true }
def DivShiftsUptoSaid : Prop := divShiftsUptoRow.holds Try.pinned (OpenSpec.upto divShiftsSpec)

/-- 'ratchetlaw02.DivDivides', WHERE WHAT IT READS IS OF BULK AT MOST 1048576: true; the input reads as it did. -/
def divDividesUptoRow : OpenClaim := { program := "ytlknbbehjcklmaa", sum := "6f8da0a5b69abe57567d492fb30636ea27d168516d2266ff73530905e2ea35c2", func := "ratchet/ratchetlaw02.DivDivides", spec := "divDivides", inPlace := ["math/bits.Add64", "math/bits.Sub64"], unfollowed := true, recurses := true, named := ["math/bits.divideError", "math/bits.overflowError"], apart := false, narrowed := true }
def DivDividesUptoSaid : Prop := divDividesUptoRow.holds Try.pinned (OpenSpec.upto divDividesSpec)

/-- 'ratchetlaw02.DivWhole', WHERE WHAT IT READS IS OF BULK AT MOST 1048576: true; the input reads as it did. -/
def divWholeUptoRow : OpenClaim := { program := "ytlknbbehjcklmaa", sum := "6f8da0a5b69abe57567d492fb30636ea27d168516d2266ff73530905e2ea35c2", func := "ratchet/ratchetlaw02.DivWhole", spec := "divWhole", inPlace := ["math/bits.Add64", "math/bits.Sub64"], unfollowed := true, recurses := true, named := ["math/bits.divideError", "math/bits.overflowError"], apart := false, narrowed := true }
def DivWholeUptoSaid : Prop := divWholeUptoRow.holds Try.pinned (OpenSpec.upto divWholeSpec)

/-- 'ratchetlaw02.DivBack', WHERE WHAT IT READS IS OF BULK AT MOST 1048576: true; the input reads as it did. -/
def divBackUptoRow : OpenClaim := { program := "ytlknbbehjcklmaa", sum := "6f8da0a5b69abe57567d492fb30636ea27d168516d2266ff73530905e2ea35c2", func := "ratchet/ratchetlaw02.DivBack", spec := "divBack", inPlace := ["math/bits.Add64", "math/bits.Sub64"], unfollowed := true, recurses := true, named := ["math/bits.divideError", "math/bits.overflowError"], apart := false, narrowed := true }
def DivBackUptoSaid : Prop := divBackUptoRow.holds Try.pinned (OpenSpec.upto divBackSpec)

/-- 'ratchetlaw02.DivGcd', WHERE WHAT IT READS IS OF BULK AT MOST 1048576: true; the input reads as it did. -/
def divGcdUptoRow : OpenClaim := { program := "ytlknbbehjcklmaa", sum := "6f8da0a5b69abe57567d492fb30636ea27d168516d2266ff73530905e2ea35c2", func := "ratchet/ratchetlaw02.DivGcd", spec := "divGcd", inPlace := ["math/bits.Add64", "math/bits.Sub64"], unfollowed := true, recurses := true, named := ["math/bits.divideError", "math/bits.overflowError"], apart := false, narrowed := true }
def DivGcdUptoSaid : Prop := divGcdUptoRow.holds Try.pinned (OpenSpec.upto divGcdSpec)

/-- 'ratchetlaw02.DivTwice', WHERE WHAT IT READS IS OF BULK AT MOST 1048576: true; the input reads as it did. -/
def divTwiceUptoRow : OpenClaim := { program := "ytlknbbehjcklmaa", sum := "6f8da0a5b69abe57567d492fb30636ea27d168516d2266ff73530905e2ea35c2", func := "ratchet/ratchetlaw02.DivTwice", spec := "divTwice", inPlace := ["math/bits.Add64", "math/bits.Sub64"], unfollowed := true, recurses := true, named := ["math/bits.divideError", "math/bits.overflowError"], apart := false, narrowed := true }
def DivTwiceUptoSaid : Prop := divTwiceUptoRow.holds Try.pinned (OpenSpec.upto divTwiceSpec)

/-- 'ratchetlaw02.DivHalves', WHERE WHAT IT READS IS OF BULK AT MOST 1048576: true; the input reads as it did. -/
def divHalvesUptoRow : OpenClaim := { program := "ytlknbbehjcklmaa", sum := "6f8da0a5b69abe57567d492fb30636ea27d168516d2266ff73530905e2ea35c2", func := "ratchet/ratchetlaw02.DivHalves", spec := "divHalves", inPlace := ["math/bits.Add64", "math/bits.Sub64"], unfollowed := true, recurses := true, named := ["math/bits.divideError", "math/bits.overflowError"], apart := false, narrowed := true }
def DivHalvesUptoSaid : Prop := divHalvesUptoRow.holds Try.pinned (OpenSpec.upto divHalvesSpec)

end Rows
end Go.Proofs.Ytlknbbehjcklmaa
