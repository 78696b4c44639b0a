/-
  No cell of these rows narrows 'for every input' (looked for: loops, veiled, ifaces, maps, wideKeys, modest, calm, conditions, laid).
  DERIVED. THE GIVEN ROWS OF THIS SEAT. 7 by the template 'for every input the law returns true; each argument reads behind the call as it read before'; 0 by the template 'total and deterministic' (their statements: YthmncdhibcoiaaaGreatTotals.lean).
  GIVEN WITH THE SEED: the statements are not yours to turn. If you find one false, say at which input.
  Laid BY PROGRAM, IN A SANDBOX (cutbox-rows.mjs): the forced cells as the released guide's own fill.sh prints them over the translation fa72a25f821e07b2… (all of the seat's roots in one cut). By AI agents, Wed Nov 11 2026. No macro, syntax, notation, axiom, sorry.
-/
import Derived.Test.YthmncdhibcoiaaaGreatChecked
import GoSem.Claim
import GoSem.ClaimJoined
import GoSem.ClaimMapViews
import Derived.JoinedTies
import Derived.KernelRfl
namespace Go.Proofs.YthmncdhibcoiaaaGreat
/- THE CELL 'sum', in the pinned program and in every row, IS THE sha256 OF THE DUMP (.gsa) THAT YthmncdhibcoiaaaGreatProg.lean LOADS. Nothing in Lean hashes anything: it is a label: what it is worth is what the hold of that sum in a sandbox is worth. -/
noncomputable def Tryz.pinned : Pinned := { name := "ythmncdhibcoiaaagreat", sum := "fa72a25f821e07b2991a727b8e4ea525988cec4aa7bb575c11c09f0f6c1a10ba", checked := Tryz.checked }
namespace Rows
def none {H : Type} : Left H := { results := [], args := [] }

/-- 'ratchetlaw07.IvalTells': WHATEVER THE INPUT: true; the input reads as it did. -/
def ivalTellsSpec : ChangeSpec := { name := "ivalTells", fn := fun _ => fun
  | [d1, d2, d3] => { results := [.lit (.bool true)], args := [d1, d2, d3] }
  | _ => none }
def ivalTellsRow : OpenClaim := { program := "ythmncdhibcoiaaagreat", sum := "fa72a25f821e07b2991a727b8e4ea525988cec4aa7bb575c11c09f0f6c1a10ba", func := "ratchet/ratchetlaw07.IvalTells", spec := "ivalTells", inPlace := ["math/bits.Add64", "math/bits.Sub64"], unfollowed := true, recurses := true, named := ["math/bits.divideError", "math/bits.overflowError"], apart := false }
def IvalTellsSaid : Prop := ivalTellsRow.holds Tryz.pinned (OpenSpec.ofChange ivalTellsSpec)

/-- ITS FALSE NEIGHBOUR: 'it returns false'. Refute it at one input. -/
def ivalTellsWrong : ChangeSpec := { name := "ivalTells", fn := fun _ => fun
  | [d1, d2, d3] => { results := [.lit (.bool false)], args := [d1, d2, d3] }
  | _ => none }
def IvalTellsWrongFalsely : Prop := ivalTellsRow.holds Tryz.pinned (OpenSpec.ofChange ivalTellsWrong)

/-- 'ratchetlaw07.IvalRoot': WHATEVER THE INPUT: true; the input reads as it did. -/
def ivalRootSpec : ChangeSpec := { name := "ivalRoot", fn := fun _ => fun
  | [d1, d2] => { results := [.lit (.bool true)], args := [d1, d2] }
  | _ => none }
def ivalRootRow : OpenClaim := { program := "ythmncdhibcoiaaagreat", sum := "fa72a25f821e07b2991a727b8e4ea525988cec4aa7bb575c11c09f0f6c1a10ba", func := "ratchet/ratchetlaw07.IvalRoot", spec := "ivalRoot", inPlace := ["math/bits.Add64", "math/bits.Sub64"], unfollowed := true, recurses := true, named := ["math/bits.divideError", "math/bits.overflowError"], apart := false }
def IvalRootSaid : Prop := ivalRootRow.holds Tryz.pinned (OpenSpec.ofChange ivalRootSpec)

/-- ITS FALSE NEIGHBOUR: 'it returns false'. Refute it at one input. -/
def ivalRootWrong : ChangeSpec := { name := "ivalRoot", fn := fun _ => fun
  | [d1, d2] => { results := [.lit (.bool false)], args := [d1, d2] }
  | _ => none }
def IvalRootWrongFalsely : Prop := ivalRootRow.holds Tryz.pinned (OpenSpec.ofChange ivalRootWrong)

/-- 'ratchetlaw07.IvalReckons': WHATEVER THE INPUT: true; the input reads as it did. -/
def ivalReckonsSpec : ChangeSpec := { name := "ivalReckons", fn := fun _ => fun
  | [d1, d2] => { results := [.lit (.bool true)], args := [d1, d2] }
  | _ => none }
def ivalReckonsRow : OpenClaim := { program := "ythmncdhibcoiaaagreat", sum := "fa72a25f821e07b2991a727b8e4ea525988cec4aa7bb575c11c09f0f6c1a10ba", func := "ratchet/ratchetlaw07.IvalReckons", spec := "ivalReckons", inPlace := ["math/bits.Add64", "math/bits.Sub64"], unfollowed := true, recurses := true, named := ["math/bits.divideError", "math/bits.overflowError"], apart := false }
def IvalReckonsSaid : Prop := ivalReckonsRow.holds Tryz.pinned (OpenSpec.ofChange ivalReckonsSpec)

/-- ITS FALSE NEIGHBOUR: 'it returns false'. Refute it at one input. -/
def ivalReckonsWrong : ChangeSpec := { name := "ivalReckons", fn := fun _ => fun
  | [d1, d2] => { results := [.lit (.bool false)], args := [d1, d2] }
  | _ => none }
def IvalReckonsWrongFalsely : Prop := ivalReckonsRow.holds Tryz.pinned (OpenSpec.ofChange ivalReckonsWrong)

/-- 'ratchetlaw07.IvalTurns': WHATEVER THE INPUT: true; the input reads as it did. -/
def ivalTurnsSpec : ChangeSpec := { name := "ivalTurns", fn := fun _ => fun
  | [d1, d2, d3] => { results := [.lit (.bool true)], args := [d1, d2, d3] }
  | _ => none }
def ivalTurnsRow : OpenClaim := { program := "ythmncdhibcoiaaagreat", sum := "fa72a25f821e07b2991a727b8e4ea525988cec4aa7bb575c11c09f0f6c1a10ba", func := "ratchet/ratchetlaw07.IvalTurns", spec := "ivalTurns", inPlace := ["math/bits.Add64", "math/bits.Sub64"], unfollowed := true, recurses := true, named := ["math/bits.divideError", "math/bits.overflowError"], apart := false }
def IvalTurnsSaid : Prop := ivalTurnsRow.holds Tryz.pinned (OpenSpec.ofChange ivalTurnsSpec)

/-- ITS FALSE NEIGHBOUR: 'it returns false'. Refute it at one input. -/
def ivalTurnsWrong : ChangeSpec := { name := "ivalTurns", fn := fun _ => fun
  | [d1, d2, d3] => { results := [.lit (.bool false)], args := [d1, d2, d3] }
  | _ => none }
def IvalTurnsWrongFalsely : Prop := ivalTurnsRow.holds Tryz.pinned (OpenSpec.ofChange ivalTurnsWrong)

/-- 'ratchetlaw07.IvalOuts': WHATEVER THE INPUT: true; the input reads as it did. -/
def ivalOutsSpec : ChangeSpec := { name := "ivalOuts", fn := fun _ => fun
  | [d1, d2] => { results := [.lit (.bool true)], args := [d1, d2] }
  | _ => none }
def ivalOutsRow : OpenClaim := { program := "ythmncdhibcoiaaagreat", sum := "fa72a25f821e07b2991a727b8e4ea525988cec4aa7bb575c11c09f0f6c1a10ba", func := "ratchet/ratchetlaw07.IvalOuts", spec := "ivalOuts", inPlace := ["math/bits.Add64", "math/bits.Sub64"], unfollowed := true, recurses := true, named := ["math/bits.divideError", "math/bits.overflowError"], apart := false }
def IvalOutsSaid : Prop := ivalOutsRow.holds Tryz.pinned (OpenSpec.ofChange ivalOutsSpec)

/-- ITS FALSE NEIGHBOUR: 'it returns false'. Refute it at one input. -/
def ivalOutsWrong : ChangeSpec := { name := "ivalOuts", fn := fun _ => fun
  | [d1, d2] => { results := [.lit (.bool false)], args := [d1, d2] }
  | _ => none }
def IvalOutsWrongFalsely : Prop := ivalOutsRow.holds Tryz.pinned (OpenSpec.ofChange ivalOutsWrong)

/-- 'ratchetlaw07.IvalHas': WHATEVER THE INPUT: true; the input reads as it did. -/
def ivalHasSpec : ChangeSpec := { name := "ivalHas", fn := fun _ => fun
  | [d1, d2, d3] => { results := [.lit (.bool true)], args := [d1, d2, d3] }
  | _ => none }
def ivalHasRow : OpenClaim := { program := "ythmncdhibcoiaaagreat", sum := "fa72a25f821e07b2991a727b8e4ea525988cec4aa7bb575c11c09f0f6c1a10ba", func := "ratchet/ratchetlaw07.IvalHas", spec := "ivalHas", inPlace := ["math/bits.Add64", "math/bits.Sub64"], unfollowed := true, recurses := true, named := ["math/bits.divideError", "math/bits.overflowError"], apart := false }
def IvalHasSaid : Prop := ivalHasRow.holds Tryz.pinned (OpenSpec.ofChange ivalHasSpec)

/-- ITS FALSE NEIGHBOUR: 'it returns false'. Refute it at one input. -/
def ivalHasWrong : ChangeSpec := { name := "ivalHas", fn := fun _ => fun
  | [d1, d2, d3] => { results := [.lit (.bool false)], args := [d1, d2, d3] }
  | _ => none }
def IvalHasWrongFalsely : Prop := ivalHasRow.holds Tryz.pinned (OpenSpec.ofChange ivalHasWrong)

/-- 'ratchetlaw07.IvalIn': WHATEVER THE INPUT: true; the input reads as it did. -/
def ivalInSpec : ChangeSpec := { name := "ivalIn", fn := fun _ => fun
  | [d1, d2, d3] => { results := [.lit (.bool true)], args := [d1, d2, d3] }
  | _ => none }
def ivalInRow : OpenClaim := { program := "ythmncdhibcoiaaagreat", sum := "fa72a25f821e07b2991a727b8e4ea525988cec4aa7bb575c11c09f0f6c1a10ba", func := "ratchet/ratchetlaw07.IvalIn", spec := "ivalIn", inPlace := ["math/bits.Add64", "math/bits.Sub64"], unfollowed := true, recurses := true, named := ["math/bits.divideError", "math/bits.overflowError"], apart := false }
def IvalInSaid : Prop := ivalInRow.holds Tryz.pinned (OpenSpec.ofChange ivalInSpec)

/-- ITS FALSE NEIGHBOUR: 'it returns false'. Refute it at one input. -/
def ivalInWrong : ChangeSpec := { name := "ivalIn", fn := fun _ => fun
  | [d1, d2, d3] => { results := [.lit (.bool false)], args := [d1, d2, d3] }
  | _ => none }
def IvalInWrongFalsely : Prop := ivalInRow.holds Tryz.pinned (OpenSpec.ofChange ivalInWrong)

/- THE SECOND FORM. 'bulk': how many values and letters a reading holds, each counted each time it is reached (what is shared counts as often as it is met; a slice's spare places count too). A statement '..UptoSaid' is the law's where the arguments, and the package variables that the reading takes, are together of bulk at most 1048576: NARROWER than '..Said'. Prove '..Said' where nothing that the law and all that it calls make is longer than what came in: it says more and counts as full. Else prove '..UptoSaid'. A law counts once. -/
mutual
def uptoBulk {H : Type} : DataW H → Nat
  | .lit (.string bytes) => bytes.length + 1
  | .lit _ => 1
  | .nil => 1
  | .ptr d => uptoBulk d + 1
  | .slice elems spare => uptoBulkAll elems + uptoBulkAll spare + 1
  | .agg parts => uptoBulkAll parts + 1
  | .iface _ d => uptoBulk d + 1
  | .map entries => uptoBulkEntries entries + 1
  | .held _ => 1
def uptoBulkAll {H : Type} : List (DataW H) → Nat
  | [] => 0
  | d :: r => uptoBulk d + uptoBulkAll r
def uptoBulkEntries {H : Type} : List (Lit × DataW H) → Nat
  | [] => 0
  | x :: r => uptoBulkEntry x + uptoBulkEntries r
def uptoBulkEntry {H : Type} : Lit × DataW H → Nat
  | (.string bytes, d) => bytes.length + uptoBulk d + 1
  | (_, d) => uptoBulk d + 1
 end
def uptoSmall : (H : Type) → List (DataW H) → Bool := fun _ ds => decide (uptoBulkAll ds ≤ 1048576)
def OpenSpec.upto (s : _root_.Go.ChangeSpec) : _root_.Go.OpenSpec := { _root_.Go.OpenSpec.ofChange s with cond := some uptoSmall }

/-- 'ratchetlaw07.IvalTells', WHERE WHAT IT READS IS OF BULK AT MOST 1048576: true; the input reads as it did. -/
def ivalTellsUptoRow : OpenClaim := { program := "ythmncdhibcoiaaagreat", sum := "fa72a25f821e07b2991a727b8e4ea525988cec4aa7bb575c11c09f0f6c1a10ba", func := "ratchet/ratchetlaw07.IvalTells", spec := "ivalTells", inPlace := ["math/bits.Add64", "math/bits.Sub64"], unfollowed := true, recurses := true, named := ["math/bits.divideError", "math/bits.overflowError"], apart := false, narrowed := true }
def IvalTellsUptoSaid : Prop := ivalTellsUptoRow.holds Tryz.pinned (OpenSpec.upto ivalTellsSpec)

/-- 'ratchetlaw07.IvalRoot', WHERE WHAT IT READS IS OF BULK AT MOST 1048576: true; the input reads as it did. -/
def ivalRootUptoRow : OpenClaim := { program := "ythmncdhibcoiaaagreat", sum := "fa72a25f821e07b2991a727b8e4ea525988cec4aa7bb575c11c09f0f6c1a10ba", func := "ratchet/ratchetlaw07.IvalRoot", spec := "ivalRoot", inPlace := ["math/bits.Add64", "math/bits.Sub64"], unfollowed := true, recurses := true, named := ["math/bits.divideError", "math/bits.overflowError"], apart := false, narrowed := true }
def IvalRootUptoSaid : Prop := ivalRootUptoRow.holds Tryz.pinned (OpenSpec.upto ivalRootSpec)

/-- 'ratchetlaw07.IvalReckons', WHERE WHAT IT READS IS OF BULK AT MOST 1048576: true; the input reads as it did. -/
def ivalReckonsUptoRow : OpenClaim := { program := "ythmncdhibcoiaaagreat", sum := "fa72a25f821e07b2991a727b8e4ea525988cec4aa7bb575c11c09f0f6c1a10ba", func := "ratchet/ratchetlaw07.IvalReckons", spec := "ivalReckons", inPlace := ["math/bits.Add64", "math/bits.Sub64"], unfollowed := true, recurses := true, named := ["math/bits.divideError", "math/bits.overflowError"], apart := false, narrowed := true }
def IvalReckonsUptoSaid : Prop := ivalReckonsUptoRow.holds Tryz.pinned (OpenSpec.upto ivalReckonsSpec)

/-- 'ratchetlaw07.IvalTurns', WHERE WHAT IT READS IS OF BULK AT MOST 1048576: true; the input reads as it did. -/
def ivalTurnsUptoRow : OpenClaim := { program := "ythmncdhibcoiaaagreat", sum := "fa72a25f821e07b2991a727b8e4ea525988cec4aa7bb575c11c09f0f6c1a10ba", func := "ratchet/ratchetlaw07.IvalTurns", spec := "ivalTurns", inPlace := ["math/bits.Add64", "math/bits.Sub64"], unfollowed := true, recurses := true, named := ["math/bits.divideError", "math/bits.overflowError"], apart := false, narrowed := true }
def IvalTurnsUptoSaid : Prop := ivalTurnsUptoRow.holds Tryz.pinned (OpenSpec.upto ivalTurnsSpec)

/-- 'ratchetlaw07.IvalOuts', WHERE WHAT IT READS IS OF BULK AT MOST 1048576: true; the input reads as it did. -/
def ivalOutsUptoRow : OpenClaim := { program := "ythmncdhibcoiaaagreat", sum := "fa72a25f821e07b2991a727b8e4ea525988cec4aa7bb575c11c09f0f6c1a10ba", func := "ratchet/ratchetlaw07.IvalOuts", spec := "ivalOuts", inPlace := ["math/bits.Add64", "math/bits.Sub64"], unfollowed := true, recurses := true, named := ["math/bits.divideError", "math/bits.overflowError"], apart := false, narrowed := true }
def IvalOutsUptoSaid : Prop := ivalOutsUptoRow.holds Tryz.pinned (OpenSpec.upto ivalOutsSpec)

/-- 'ratchetlaw07.IvalHas', WHERE WHAT IT READS IS OF BULK AT MOST 1048576: true; the input reads as it did. -/
def ivalHasUptoRow : OpenClaim := { program := "ythmncdhibcoiaaagreat", sum := "fa72a25f821e07b2991a727b8e4ea525988cec4aa7bb575c11c09f0f6c1a10ba", func := "ratchet/ratchetlaw07.IvalHas", spec := "ivalHas", inPlace := ["math/bits.Add64", "math/bits.Sub64"], unfollowed := true, recurses := true, named := ["math/bits.divideError", "math/bits.overflowError"], apart := false, narrowed := true }
def IvalHasUptoSaid : Prop := ivalHasUptoRow.holds Tryz.pinned (OpenSpec.upto ivalHasSpec)

/-- 'ratchetlaw07.IvalIn', WHERE WHAT IT READS IS OF BULK AT MOST 1048576: true; the input reads as it did. -/
def ivalInUptoRow : OpenClaim := { program := "ythmncdhibcoiaaagreat", sum := "fa72a25f821e07b2991a727b8e4ea525988cec4aa7bb575c11c09f0f6c1a10ba", func := "ratchet/ratchetlaw07.IvalIn", spec := "ivalIn", inPlace := ["math/bits.Add64", "math/bits.Sub64"], unfollowed := true, recurses := true, named := ["math/bits.divideError", "math/bits.overflowError"], apart := false, narrowed := true }
def IvalInUptoSaid : Prop := ivalInUptoRow.holds Tryz.pinned (OpenSpec.upto ivalInSpec)

end Rows
end Go.Proofs.YthmncdhibcoiaaaGreat
