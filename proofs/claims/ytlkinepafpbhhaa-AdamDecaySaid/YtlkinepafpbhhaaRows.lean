/-
  No cell of these rows narrows 'for every input' (looked for: loops, veiled, ifaces, maps, wideKeys, modest, calm, conditions, laid).
  DERIVED. THE GIVEN ROWS OF THIS SEAT. 3 by the template 'for every input the law returns true; each argument reads behind the call as it read before'; 0 by the template 'total and deterministic' (their statements: YtlkinepafpbhhaaTotals.lean).
  GIVEN WITH THE SEED: the statements are not yours to turn. If you find one false, say at which input.
  Laid BY PROGRAM, IN A SANDBOX (cutbox-rows.mjs): the forced cells as the released guide's own fill.sh prints them over the translation 20d6eaa44707a7ad… (all of the seat's roots in one cut). By AI agents, Wed Nov 11 2026. No macro, syntax, notation, axiom, sorry.
-/
import Derived.Test.YtlkinepafpbhhaaChecked
import GoSem.Claim
import GoSem.ClaimJoined
import GoSem.ClaimMapViews
import Derived.JoinedTies
import Derived.KernelRfl
namespace Go.Proofs.Ytlkinepafpbhhaa
/- THE CELL 'sum', in the pinned program and in every row, IS THE sha256 OF THE DUMP (.gsa) THAT YtlkinepafpbhhaaProg.lean LOADS. Nothing in Lean hashes anything: it is a label: what it is worth is what the hold of that sum in a sandbox is worth. -/
noncomputable def Try.pinned : Pinned := { name := "ytlkinepafpbhhaa", sum := "20d6eaa44707a7ad315fadab1ee52719593eba87520b217e347f2dc11bc13808", checked := Try.checked }
namespace Rows
def none {H : Type} : Left H := { results := [], args := [] }

/-- 'ratchetlaw18.AdamApart': WHATEVER THE INPUT: true; the input reads as it did. -/
def adamApartSpec : ChangeSpec := { name := "adamApart", fn := fun _ => fun
  | [d1, d2] => { results := [.lit (.bool true)], args := [d1, d2] }
  | _ => none }
def adamApartRow : OpenClaim := { program := "ytlkinepafpbhhaa", sum := "20d6eaa44707a7ad315fadab1ee52719593eba87520b217e347f2dc11bc13808", func := "ratchet/ratchetlaw18.AdamApart", spec := "adamApart", inPlace := ["math/bits.Add64", "math/bits.Sub64"], unfollowed := true, recurses := true, named := ["math/bits.divideError", "math/bits.overflowError"], apart := false }
def AdamApartSaid : Prop := adamApartRow.holds Try.pinned (OpenSpec.ofChange adamApartSpec)

/-- ITS FALSE NEIGHBOUR: 'it returns false'. Refute it at one input. -/
def adamApartWrong : ChangeSpec := { name := "adamApart", fn := fun _ => fun
  | [d1, d2] => { results := [.lit (.bool false)], args := [d1, d2] }
  | _ => none }
def AdamApartWrongFalsely : Prop := adamApartRow.holds Try.pinned (OpenSpec.ofChange adamApartWrong)

/-- 'ratchetlaw18.AdamStill': WHATEVER THE INPUT: true; the input reads as it did. -/
def adamStillSpec : ChangeSpec := { name := "adamStill", fn := fun _ => fun
  | [d] => { results := [.lit (.bool true)], args := [d] }
  | _ => none }
def adamStillRow : OpenClaim := { program := "ytlkinepafpbhhaa", sum := "20d6eaa44707a7ad315fadab1ee52719593eba87520b217e347f2dc11bc13808", func := "ratchet/ratchetlaw18.AdamStill", spec := "adamStill", inPlace := ["math/bits.Add64", "math/bits.Sub64"], unfollowed := true, recurses := true, named := ["math/bits.divideError", "math/bits.overflowError"], apart := false }
def AdamStillSaid : Prop := adamStillRow.holds Try.pinned (OpenSpec.ofChange adamStillSpec)

/-- ITS FALSE NEIGHBOUR: 'it returns false'. Refute it at one input. -/
def adamStillWrong : ChangeSpec := { name := "adamStill", fn := fun _ => fun
  | [d] => { results := [.lit (.bool false)], args := [d] }
  | _ => none }
def AdamStillWrongFalsely : Prop := adamStillRow.holds Try.pinned (OpenSpec.ofChange adamStillWrong)

/-- 'ratchetlaw18.AdamDecay': WHATEVER THE INPUT: true; the input reads as it did. -/
def adamDecaySpec : ChangeSpec := { name := "adamDecay", fn := fun _ => fun
  | [d1, d2, d3] => { results := [.lit (.bool true)], args := [d1, d2, d3] }
  | _ => none }
def adamDecayRow : OpenClaim := { program := "ytlkinepafpbhhaa", sum := "20d6eaa44707a7ad315fadab1ee52719593eba87520b217e347f2dc11bc13808", func := "ratchet/ratchetlaw18.AdamDecay", spec := "adamDecay", inPlace := ["math/bits.Add64", "math/bits.Sub64"], unfollowed := true, recurses := true, named := ["math/bits.divideError", "math/bits.overflowError"], apart := false }
def AdamDecaySaid : Prop := adamDecayRow.holds Try.pinned (OpenSpec.ofChange adamDecaySpec)

/-- ITS FALSE NEIGHBOUR: 'it returns false'. Refute it at one input. -/
def adamDecayWrong : ChangeSpec := { name := "adamDecay", fn := fun _ => fun
  | [d1, d2, d3] => { results := [.lit (.bool false)], args := [d1, d2, d3] }
  | _ => none }
def AdamDecayWrongFalsely : Prop := adamDecayRow.holds Try.pinned (OpenSpec.ofChange adamDecayWrong)

/- THE SECOND FORM. 'bulk': how many values and letters a reading holds, each counted each time it is reached (what is shared counts as often as it is met; a slice's spare places count too). A statement '..UptoSaid' is the law's where the arguments, and the package variables that the reading takes, are together of bulk at most 1048576: NARROWER than '..Said'. Prove '..Said' where nothing that the law and all that it calls make is longer than what came in: it says more and counts as full. Else prove '..UptoSaid'. A law counts once. -/
mutual
def uptoBulk {H : Type} : DataW H → Nat
  | .lit (.string bytes) => bytes.length + 1
  | .lit _ => 1
  | .nil => 1
  | .ptr d => uptoBulk d + 1
  | .slice elems spare => uptoBulkAll elems + uptoBulkAll spare + 1
  | .agg parts => uptoBulkAll parts + 1
  | .iface _ d => uptoBulk d + 1
  | .map entries => uptoBulkEntries entries + 1
  | .held _ => 1
def uptoBulkAll {H : Type} : List (DataW H) → Nat
  | [] => 0
  | d :: r => uptoBulk d + uptoBulkAll r
def uptoBulkEntries {H : Type} : List (Lit × DataW H) → Nat
  | [] => 0
  | x :: r => uptoBulkEntry x + uptoBulkEntries r
def uptoBulkEntry {H : Type} : Lit × DataW H → Nat
  | (.string bytes, d) => bytes.length + uptoBulk d + 1
  | (_, d) => uptoBulk d + 1
 end
def uptoSmall : (H : Type) → List (DataW H) → Bool := fun _ ds => decide (uptoBulkAll ds ≤ 1048576)
def OpenSpec.upto (s : _root_.Go.ChangeSpec) : _root_.Go.OpenSpec := { _root_.Go.OpenSpec.ofChange s with cond := some uptoSmall }

/-- 'ratchetlaw18.AdamApart', WHERE WHAT IT READS IS OF BULK AT MOST 1048576: true; the input reads as it did. -/
def adamApartUptoRow : OpenClaim := { program := "ytlkinepafpbhhaa", sum := "20d6eaa44707a7ad315fadab1ee52719593eba87520b217e347f2dc11bc13808", func := "ratchet/ratchetlaw18.AdamApart", spec := "adamApart", inPlace := ["math/bits.Add64", "math/bits.Sub64"], unfollowed := true, recurses := true, named := ["math/bits.divideError", "math/bits.overflowError"], apart := false, narrowed := true }
def AdamApartUptoSaid : Prop := adamApartUptoRow.holds Try.pinned (OpenSpec.upto adamApartSpec)

/-- 'ratchetlaw18.AdamStill', WHERE WHAT IT READS IS OF BULK AT MOST 1048576: true; the input reads as it did. -/
def adamStillUptoRow : OpenClaim := { program := "ytlkinepafpbhhaa", sum := "20d6eaa44707a7ad315fadab1ee52719593eba87520b217e347f2dc11bc13808", func := "ratchet/ratchetlaw18.AdamStill", spec := "adamStill", inPlace := ["math/bits.Add64", "math/bits.Sub64"], unfollowed := true, recurses := true, named := ["math/bits.divideError", "math/bits.overflowError"], apart := false, narrowed := true }
def AdamStillUptoSaid : Prop := adamStillUptoRow.holds Try.pinned (OpenSpec.upto adamStillSpec)

/-- 'ratchetlaw18.AdamDecay', WHERE WHAT IT READS IS OF BULK AT MOST 1048576: true; the input reads as it did. -/
def adamDecayUptoRow : OpenClaim := { program := "ytlkinepafpbhhaa", sum := "20d6eaa44707a7ad315fadab1ee52719593eba87520b217e347f2dc11bc13808", func := "ratchet/ratchetlaw18.AdamDecay", spec := "adamDecay", inPlace := ["math/bits.Add64", "math/bits.Sub64"], unfollowed := true, recurses := true, named := ["math/bits.divideError", "math/bits.overflowError"], apart := false, narrowed := true }
def AdamDecayUptoSaid : Prop := adamDecayUptoRow.holds Try.pinned (OpenSpec.upto adamDecaySpec)

end Rows
end Go.Proofs.Ytlkinepafpbhhaa
