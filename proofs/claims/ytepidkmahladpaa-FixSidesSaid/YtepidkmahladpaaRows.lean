/-
  No cell of these rows narrows 'for every input' (looked for: loops, veiled, ifaces, maps, wideKeys, modest, calm, conditions, laid).
  DERIVED. THE GIVEN ROWS OF THIS SEAT. 18 by the template 'for every input the law returns true; each argument reads behind the call as it read before'; 0 by the template 'total and deterministic' (their statements: YtepidkmahladpaaTotals.lean).
  GIVEN WITH THE SEED: the statements are not yours to turn. If you find one false, say at which input.
  Laid BY PROGRAM, IN A SANDBOX (cutbox-rows.mjs): the forced cells as the released guide's own fill.sh prints them over the translation 77e4d8daee83a97f… (all of the seat's roots in one cut). By AI agents, Wed Nov 11 2026. No macro, syntax, notation, axiom, sorry.
-/
import Derived.Test.YtepidkmahladpaaChecked
import GoSem.Claim
import GoSem.ClaimJoined
import GoSem.ClaimMapViews
import Derived.JoinedTies
import Derived.KernelRfl
namespace Go.Proofs.Ytepidkmahladpaa
/- THE CELL 'sum', in the pinned program and in every row, IS THE sha256 OF THE DUMP (.gsa) THAT YtepidkmahladpaaProg.lean LOADS. Nothing in Lean hashes anything: it is a label: what it is worth is what the hold of that sum in a sandbox is worth. -/
noncomputable def Try.pinned : Pinned := { name := "ytepidkmahladpaa", sum := "77e4d8daee83a97f9affd8f019872372ba5962d96ce4d49ed8b3e57e8f30b3ca", checked := Try.checked }
namespace Rows
def none {H : Type} : Left H := { results := [], args := [] }

/-- 'ratchetlaw08.FixScales': WHATEVER THE INPUT: true; the input reads as it did. -/
def fixScalesSpec : ChangeSpec := { name := "fixScales", fn := fun _ => fun
  | [d1, d2, d3] => { results := [.lit (.bool true)], args := [d1, d2, d3] }
  | _ => none }
def fixScalesRow : OpenClaim := { program := "ytepidkmahladpaa", sum := "77e4d8daee83a97f9affd8f019872372ba5962d96ce4d49ed8b3e57e8f30b3ca", func := "ratchet/ratchetlaw08.FixScales", spec := "fixScales", inPlace := ["math/bits.Add64", "math/bits.Sub64"], unfollowed := true, recurses := true, named := ["math/bits.divideError", "math/bits.overflowError"], apart := false }
def FixScalesSaid : Prop := fixScalesRow.holds Try.pinned (OpenSpec.ofChange fixScalesSpec)

/-- ITS FALSE NEIGHBOUR: 'it returns false'. Refute it at one input. -/
def fixScalesWrong : ChangeSpec := { name := "fixScales", fn := fun _ => fun
  | [d1, d2, d3] => { results := [.lit (.bool false)], args := [d1, d2, d3] }
  | _ => none }
def FixScalesWrongFalsely : Prop := fixScalesRow.holds Try.pinned (OpenSpec.ofChange fixScalesWrong)

/-- 'ratchetlaw08.FixHalf': WHATEVER THE INPUT: true; the input reads as it did. -/
def fixHalfSpec : ChangeSpec := { name := "fixHalf", fn := fun _ => fun
  | [d1, d2, d3] => { results := [.lit (.bool true)], args := [d1, d2, d3] }
  | _ => none }
def fixHalfRow : OpenClaim := { program := "ytepidkmahladpaa", sum := "77e4d8daee83a97f9affd8f019872372ba5962d96ce4d49ed8b3e57e8f30b3ca", func := "ratchet/ratchetlaw08.FixHalf", spec := "fixHalf", inPlace := ["math/bits.Add64", "math/bits.Sub64"], unfollowed := true, recurses := true, named := ["math/bits.divideError", "math/bits.overflowError"], apart := false }
def FixHalfSaid : Prop := fixHalfRow.holds Try.pinned (OpenSpec.ofChange fixHalfSpec)

/-- ITS FALSE NEIGHBOUR: 'it returns false'. Refute it at one input. -/
def fixHalfWrong : ChangeSpec := { name := "fixHalf", fn := fun _ => fun
  | [d1, d2, d3] => { results := [.lit (.bool false)], args := [d1, d2, d3] }
  | _ => none }
def FixHalfWrongFalsely : Prop := fixHalfRow.holds Try.pinned (OpenSpec.ofChange fixHalfWrong)

/-- 'ratchetlaw08.FixOrder': WHATEVER THE INPUT: true; the input reads as it did. -/
def fixOrderSpec : ChangeSpec := { name := "fixOrder", fn := fun _ => fun
  | [d1, d2, d3] => { results := [.lit (.bool true)], args := [d1, d2, d3] }
  | _ => none }
def fixOrderRow : OpenClaim := { program := "ytepidkmahladpaa", sum := "77e4d8daee83a97f9affd8f019872372ba5962d96ce4d49ed8b3e57e8f30b3ca", func := "ratchet/ratchetlaw08.FixOrder", spec := "fixOrder", inPlace := ["math/bits.Add64", "math/bits.Sub64"], unfollowed := true, recurses := true, named := ["math/bits.divideError", "math/bits.overflowError"], apart := false }
def FixOrderSaid : Prop := fixOrderRow.holds Try.pinned (OpenSpec.ofChange fixOrderSpec)

/-- ITS FALSE NEIGHBOUR: 'it returns false'. Refute it at one input. -/
def fixOrderWrong : ChangeSpec := { name := "fixOrder", fn := fun _ => fun
  | [d1, d2, d3] => { results := [.lit (.bool false)], args := [d1, d2, d3] }
  | _ => none }
def FixOrderWrongFalsely : Prop := fixOrderRow.holds Try.pinned (OpenSpec.ofChange fixOrderWrong)

/-- 'ratchetlaw08.FixAgree': WHATEVER THE INPUT: true; the input reads as it did. -/
def fixAgreeSpec : ChangeSpec := { name := "fixAgree", fn := fun _ => fun
  | [d1, d2, d3] => { results := [.lit (.bool true)], args := [d1, d2, d3] }
  | _ => none }
def fixAgreeRow : OpenClaim := { program := "ytepidkmahladpaa", sum := "77e4d8daee83a97f9affd8f019872372ba5962d96ce4d49ed8b3e57e8f30b3ca", func := "ratchet/ratchetlaw08.FixAgree", spec := "fixAgree", inPlace := ["math/bits.Add64", "math/bits.Sub64"], unfollowed := true, recurses := true, named := ["math/bits.divideError", "math/bits.overflowError"], apart := false }
def FixAgreeSaid : Prop := fixAgreeRow.holds Try.pinned (OpenSpec.ofChange fixAgreeSpec)

/-- ITS FALSE NEIGHBOUR: 'it returns false'. Refute it at one input. -/
def fixAgreeWrong : ChangeSpec := { name := "fixAgree", fn := fun _ => fun
  | [d1, d2, d3] => { results := [.lit (.bool false)], args := [d1, d2, d3] }
  | _ => none }
def FixAgreeWrongFalsely : Prop := fixAgreeRow.holds Try.pinned (OpenSpec.ofChange fixAgreeWrong)

/-- 'ratchetlaw08.FixReckons': WHATEVER THE INPUT: true; the input reads as it did. -/
def fixReckonsSpec : ChangeSpec := { name := "fixReckons", fn := fun _ => fun
  | [d1, d2, d3] => { results := [.lit (.bool true)], args := [d1, d2, d3] }
  | _ => none }
def fixReckonsRow : OpenClaim := { program := "ytepidkmahladpaa", sum := "77e4d8daee83a97f9affd8f019872372ba5962d96ce4d49ed8b3e57e8f30b3ca", func := "ratchet/ratchetlaw08.FixReckons", spec := "fixReckons", inPlace := ["math/bits.Add64", "math/bits.Sub64"], unfollowed := true, recurses := true, named := ["math/bits.divideError", "math/bits.overflowError"], apart := false }
def FixReckonsSaid : Prop := fixReckonsRow.holds Try.pinned (OpenSpec.ofChange fixReckonsSpec)

/-- ITS FALSE NEIGHBOUR: 'it returns false'. Refute it at one input. -/
def fixReckonsWrong : ChangeSpec := { name := "fixReckons", fn := fun _ => fun
  | [d1, d2, d3] => { results := [.lit (.bool false)], args := [d1, d2, d3] }
  | _ => none }
def FixReckonsWrongFalsely : Prop := fixReckonsRow.holds Try.pinned (OpenSpec.ofChange fixReckonsWrong)

/-- 'ratchetlaw08.FixSides': WHATEVER THE INPUT: true; the input reads as it did. -/
def fixSidesSpec : ChangeSpec := { name := "fixSides", fn := fun _ => fun
  | [d1, d2, d3] => { results := [.lit (.bool true)], args := [d1, d2, d3] }
  | _ => none }
def fixSidesRow : OpenClaim := { program := "ytepidkmahladpaa", sum := "77e4d8daee83a97f9affd8f019872372ba5962d96ce4d49ed8b3e57e8f30b3ca", func := "ratchet/ratchetlaw08.FixSides", spec := "fixSides", inPlace := ["math/bits.Add64", "math/bits.Sub64"], unfollowed := true, recurses := true, named := ["math/bits.divideError", "math/bits.overflowError"], apart := false }
def FixSidesSaid : Prop := fixSidesRow.holds Try.pinned (OpenSpec.ofChange fixSidesSpec)

/-- ITS FALSE NEIGHBOUR: 'it returns false'. Refute it at one input. -/
def fixSidesWrong : ChangeSpec := { name := "fixSides", fn := fun _ => fun
  | [d1, d2, d3] => { results := [.lit (.bool false)], args := [d1, d2, d3] }
  | _ => none }
def FixSidesWrongFalsely : Prop := fixSidesRow.holds Try.pinned (OpenSpec.ofChange fixSidesWrong)

/-- 'ratchetlaw15.SchedWarm': WHATEVER THE INPUT: true; the input reads as it did. -/
def schedWarmSpec : ChangeSpec := { name := "schedWarm", fn := fun _ => fun
  | [d1, d2, d3] => { results := [.lit (.bool true)], args := [d1, d2, d3] }
  | _ => none }
def schedWarmRow : OpenClaim := { program := "ytepidkmahladpaa", sum := "77e4d8daee83a97f9affd8f019872372ba5962d96ce4d49ed8b3e57e8f30b3ca", func := "ratchet/ratchetlaw15.SchedWarm", spec := "schedWarm", inPlace := ["math/bits.Add64", "math/bits.Sub64"], unfollowed := true, recurses := true, named := ["math/bits.divideError", "math/bits.overflowError"], apart := false }
def SchedWarmSaid : Prop := schedWarmRow.holds Try.pinned (OpenSpec.ofChange schedWarmSpec)

/-- ITS FALSE NEIGHBOUR: 'it returns false'. Refute it at one input. -/
def schedWarmWrong : ChangeSpec := { name := "schedWarm", fn := fun _ => fun
  | [d1, d2, d3] => { results := [.lit (.bool false)], args := [d1, d2, d3] }
  | _ => none }
def SchedWarmWrongFalsely : Prop := schedWarmRow.holds Try.pinned (OpenSpec.ofChange schedWarmWrong)

/-- 'ratchetlaw15.SchedFalls': WHATEVER THE INPUT: true; the input reads as it did. -/
def schedFallsSpec : ChangeSpec := { name := "schedFalls", fn := fun _ => fun
  | [d1, d2, d3] => { results := [.lit (.bool true)], args := [d1, d2, d3] }
  | _ => none }
def schedFallsRow : OpenClaim := { program := "ytepidkmahladpaa", sum := "77e4d8daee83a97f9affd8f019872372ba5962d96ce4d49ed8b3e57e8f30b3ca", func := "ratchet/ratchetlaw15.SchedFalls", spec := "schedFalls", inPlace := ["math/bits.Add64", "math/bits.Sub64"], unfollowed := true, recurses := true, named := ["math/bits.divideError", "math/bits.overflowError"], apart := false }
def SchedFallsSaid : Prop := schedFallsRow.holds Try.pinned (OpenSpec.ofChange schedFallsSpec)

/-- ITS FALSE NEIGHBOUR: 'it returns false'. Refute it at one input. -/
def schedFallsWrong : ChangeSpec := { name := "schedFalls", fn := fun _ => fun
  | [d1, d2, d3] => { results := [.lit (.bool false)], args := [d1, d2, d3] }
  | _ => none }
def SchedFallsWrongFalsely : Prop := schedFallsRow.holds Try.pinned (OpenSpec.ofChange schedFallsWrong)

/-- 'ratchetlaw15.SchedRoot': WHATEVER THE INPUT: true; the input reads as it did. -/
def schedRootSpec : ChangeSpec := { name := "schedRoot", fn := fun _ => fun
  | [d1, d2, d3] => { results := [.lit (.bool true)], args := [d1, d2, d3] }
  | _ => none }
def schedRootRow : OpenClaim := { program := "ytepidkmahladpaa", sum := "77e4d8daee83a97f9affd8f019872372ba5962d96ce4d49ed8b3e57e8f30b3ca", func := "ratchet/ratchetlaw15.SchedRoot", spec := "schedRoot", inPlace := ["math/bits.Add64", "math/bits.Sub64"], unfollowed := true, recurses := true, named := ["math/bits.divideError", "math/bits.overflowError"], apart := false }
def SchedRootSaid : Prop := schedRootRow.holds Try.pinned (OpenSpec.ofChange schedRootSpec)

/-- ITS FALSE NEIGHBOUR: 'it returns false'. Refute it at one input. -/
def schedRootWrong : ChangeSpec := { name := "schedRoot", fn := fun _ => fun
  | [d1, d2, d3] => { results := [.lit (.bool false)], args := [d1, d2, d3] }
  | _ => none }
def SchedRootWrongFalsely : Prop := schedRootRow.holds Try.pinned (OpenSpec.ofChange schedRootWrong)

/-- 'ratchetlaw15.SchedEnds': WHATEVER THE INPUT: true; the input reads as it did. -/
def schedEndsSpec : ChangeSpec := { name := "schedEnds", fn := fun _ => fun
  | [d1, d2, d3] => { results := [.lit (.bool true)], args := [d1, d2, d3] }
  | _ => none }
def schedEndsRow : OpenClaim := { program := "ytepidkmahladpaa", sum := "77e4d8daee83a97f9affd8f019872372ba5962d96ce4d49ed8b3e57e8f30b3ca", func := "ratchet/ratchetlaw15.SchedEnds", spec := "schedEnds", inPlace := ["math/bits.Add64", "math/bits.Sub64"], unfollowed := true, recurses := true, named := ["math/bits.divideError", "math/bits.overflowError"], apart := false }
def SchedEndsSaid : Prop := schedEndsRow.holds Try.pinned (OpenSpec.ofChange schedEndsSpec)

/-- ITS FALSE NEIGHBOUR: 'it returns false'. Refute it at one input. -/
def schedEndsWrong : ChangeSpec := { name := "schedEnds", fn := fun _ => fun
  | [d1, d2, d3] => { results := [.lit (.bool false)], args := [d1, d2, d3] }
  | _ => none }
def SchedEndsWrongFalsely : Prop := schedEndsRow.holds Try.pinned (OpenSpec.ofChange schedEndsWrong)

/-- 'ratchetlaw15.SchedAny': WHATEVER THE INPUT: true; the input reads as it did. -/
def schedAnySpec : ChangeSpec := { name := "schedAny", fn := fun _ => fun
  | [d1, d2, d3] => { results := [.lit (.bool true)], args := [d1, d2, d3] }
  | _ => none }
def schedAnyRow : OpenClaim := { program := "ytepidkmahladpaa", sum := "77e4d8daee83a97f9affd8f019872372ba5962d96ce4d49ed8b3e57e8f30b3ca", func := "ratchet/ratchetlaw15.SchedAny", spec := "schedAny", inPlace := ["math/bits.Add64", "math/bits.Sub64"], unfollowed := true, recurses := true, named := ["math/bits.divideError", "math/bits.overflowError"], apart := false }
def SchedAnySaid : Prop := schedAnyRow.holds Try.pinned (OpenSpec.ofChange schedAnySpec)

/-- ITS FALSE NEIGHBOUR: 'it returns false'. Refute it at one input. -/
def schedAnyWrong : ChangeSpec := { name := "schedAny", fn := fun _ => fun
  | [d1, d2, d3] => { results := [.lit (.bool false)], args := [d1, d2, d3] }
  | _ => none }
def SchedAnyWrongFalsely : Prop := schedAnyRow.holds Try.pinned (OpenSpec.ofChange schedAnyWrong)

/-- 'ratchetlaw05.RatTells': WHATEVER THE INPUT: true; the input reads as it did. -/
def ratTellsSpec : ChangeSpec := { name := "ratTells", fn := fun _ => fun
  | [d1, d2, d3] => { results := [.lit (.bool true)], args := [d1, d2, d3] }
  | _ => none }
def ratTellsRow : OpenClaim := { program := "ytepidkmahladpaa", sum := "77e4d8daee83a97f9affd8f019872372ba5962d96ce4d49ed8b3e57e8f30b3ca", func := "ratchet/ratchetlaw05.RatTells", spec := "ratTells", inPlace := ["math/bits.Add64", "math/bits.Sub64"], unfollowed := true, recurses := true, named := ["math/bits.divideError", "math/bits.overflowError"], apart := false }
def RatTellsSaid : Prop := ratTellsRow.holds Try.pinned (OpenSpec.ofChange ratTellsSpec)

/-- ITS FALSE NEIGHBOUR: 'it returns false'. Refute it at one input. -/
def ratTellsWrong : ChangeSpec := { name := "ratTells", fn := fun _ => fun
  | [d1, d2, d3] => { results := [.lit (.bool false)], args := [d1, d2, d3] }
  | _ => none }
def RatTellsWrongFalsely : Prop := ratTellsRow.holds Try.pinned (OpenSpec.ofChange ratTellsWrong)

/-- 'ratchetlaw05.RatOne': WHATEVER THE INPUT: true; the input reads as it did. -/
def ratOneSpec : ChangeSpec := { name := "ratOne", fn := fun _ => fun
  | [d1, d2, d3] => { results := [.lit (.bool true)], args := [d1, d2, d3] }
  | _ => none }
def ratOneRow : OpenClaim := { program := "ytepidkmahladpaa", sum := "77e4d8daee83a97f9affd8f019872372ba5962d96ce4d49ed8b3e57e8f30b3ca", func := "ratchet/ratchetlaw05.RatOne", spec := "ratOne", inPlace := ["math/bits.Add64", "math/bits.Sub64"], unfollowed := true, recurses := true, named := ["math/bits.divideError", "math/bits.overflowError"], apart := false }
def RatOneSaid : Prop := ratOneRow.holds Try.pinned (OpenSpec.ofChange ratOneSpec)

/-- ITS FALSE NEIGHBOUR: 'it returns false'. Refute it at one input. -/
def ratOneWrong : ChangeSpec := { name := "ratOne", fn := fun _ => fun
  | [d1, d2, d3] => { results := [.lit (.bool false)], args := [d1, d2, d3] }
  | _ => none }
def RatOneWrongFalsely : Prop := ratOneRow.holds Try.pinned (OpenSpec.ofChange ratOneWrong)

/-- 'ratchetlaw05.RatField': WHATEVER THE INPUT: true; the input reads as it did. -/
def ratFieldSpec : ChangeSpec := { name := "ratField", fn := fun _ => fun
  | [d1, d2, d3] => { results := [.lit (.bool true)], args := [d1, d2, d3] }
  | _ => none }
def ratFieldRow : OpenClaim := { program := "ytepidkmahladpaa", sum := "77e4d8daee83a97f9affd8f019872372ba5962d96ce4d49ed8b3e57e8f30b3ca", func := "ratchet/ratchetlaw05.RatField", spec := "ratField", inPlace := ["math/bits.Add64", "math/bits.Sub64"], unfollowed := true, recurses := true, named := ["math/bits.divideError", "math/bits.overflowError"], apart := false }
def RatFieldSaid : Prop := ratFieldRow.holds Try.pinned (OpenSpec.ofChange ratFieldSpec)

/-- ITS FALSE NEIGHBOUR: 'it returns false'. Refute it at one input. -/
def ratFieldWrong : ChangeSpec := { name := "ratField", fn := fun _ => fun
  | [d1, d2, d3] => { results := [.lit (.bool false)], args := [d1, d2, d3] }
  | _ => none }
def RatFieldWrongFalsely : Prop := ratFieldRow.holds Try.pinned (OpenSpec.ofChange ratFieldWrong)

/-- 'ratchetlaw05.RatBetween': WHATEVER THE INPUT: true; the input reads as it did. -/
def ratBetweenSpec : ChangeSpec := { name := "ratBetween", fn := fun _ => fun
  | [d1, d2] => { results := [.lit (.bool true)], args := [d1, d2] }
  | _ => none }
def ratBetweenRow : OpenClaim := { program := "ytepidkmahladpaa", sum := "77e4d8daee83a97f9affd8f019872372ba5962d96ce4d49ed8b3e57e8f30b3ca", func := "ratchet/ratchetlaw05.RatBetween", spec := "ratBetween", inPlace := ["math/bits.Add64", "math/bits.Sub64"], unfollowed := true, recurses := true, named := ["math/bits.divideError", "math/bits.overflowError"], apart := false }
def RatBetweenSaid : Prop := ratBetweenRow.holds Try.pinned (OpenSpec.ofChange ratBetweenSpec)

/-- ITS FALSE NEIGHBOUR: 'it returns false'. Refute it at one input. -/
def ratBetweenWrong : ChangeSpec := { name := "ratBetween", fn := fun _ => fun
  | [d1, d2] => { results := [.lit (.bool false)], args := [d1, d2] }
  | _ => none }
def RatBetweenWrongFalsely : Prop := ratBetweenRow.holds Try.pinned (OpenSpec.ofChange ratBetweenWrong)

/-- 'ratchetlaw05.RatOrder': WHATEVER THE INPUT: true; the input reads as it did. -/
def ratOrderSpec : ChangeSpec := { name := "ratOrder", fn := fun _ => fun
  | [d1, d2, d3] => { results := [.lit (.bool true)], args := [d1, d2, d3] }
  | _ => none }
def ratOrderRow : OpenClaim := { program := "ytepidkmahladpaa", sum := "77e4d8daee83a97f9affd8f019872372ba5962d96ce4d49ed8b3e57e8f30b3ca", func := "ratchet/ratchetlaw05.RatOrder", spec := "ratOrder", inPlace := ["math/bits.Add64", "math/bits.Sub64"], unfollowed := true, recurses := true, named := ["math/bits.divideError", "math/bits.overflowError"], apart := false }
def RatOrderSaid : Prop := ratOrderRow.holds Try.pinned (OpenSpec.ofChange ratOrderSpec)

/-- ITS FALSE NEIGHBOUR: 'it returns false'. Refute it at one input. -/
def ratOrderWrong : ChangeSpec := { name := "ratOrder", fn := fun _ => fun
  | [d1, d2, d3] => { results := [.lit (.bool false)], args := [d1, d2, d3] }
  | _ => none }
def RatOrderWrongFalsely : Prop := ratOrderRow.holds Try.pinned (OpenSpec.ofChange ratOrderWrong)

/-- 'ratchetlaw05.RatReckons': WHATEVER THE INPUT: true; the input reads as it did. -/
def ratReckonsSpec : ChangeSpec := { name := "ratReckons", fn := fun _ => fun
  | [d1, d2] => { results := [.lit (.bool true)], args := [d1, d2] }
  | _ => none }
def ratReckonsRow : OpenClaim := { program := "ytepidkmahladpaa", sum := "77e4d8daee83a97f9affd8f019872372ba5962d96ce4d49ed8b3e57e8f30b3ca", func := "ratchet/ratchetlaw05.RatReckons", spec := "ratReckons", inPlace := ["math/bits.Add64", "math/bits.Sub64"], unfollowed := true, recurses := true, named := ["math/bits.divideError", "math/bits.overflowError"], apart := false }
def RatReckonsSaid : Prop := ratReckonsRow.holds Try.pinned (OpenSpec.ofChange ratReckonsSpec)

/-- ITS FALSE NEIGHBOUR: 'it returns false'. Refute it at one input. -/
def ratReckonsWrong : ChangeSpec := { name := "ratReckons", fn := fun _ => fun
  | [d1, d2] => { results := [.lit (.bool false)], args := [d1, d2] }
  | _ => none }
def RatReckonsWrongFalsely : Prop := ratReckonsRow.holds Try.pinned (OpenSpec.ofChange ratReckonsWrong)

/-- 'ratchetlaw05.RatBack': WHATEVER THE INPUT: true; the input reads as it did. -/
def ratBackSpec : ChangeSpec := { name := "ratBack", fn := fun _ => fun
  | [d1, d2] => { results := [.lit (.bool true)], args := [d1, d2] }
  | _ => none }
def ratBackRow : OpenClaim := { program := "ytepidkmahladpaa", sum := "77e4d8daee83a97f9affd8f019872372ba5962d96ce4d49ed8b3e57e8f30b3ca", func := "ratchet/ratchetlaw05.RatBack", spec := "ratBack", inPlace := ["math/bits.Add64", "math/bits.Sub64"], unfollowed := true, recurses := true, named := ["math/bits.divideError", "math/bits.overflowError"], apart := false }
def RatBackSaid : Prop := ratBackRow.holds Try.pinned (OpenSpec.ofChange ratBackSpec)

/-- ITS FALSE NEIGHBOUR: 'it returns false'. Refute it at one input. -/
def ratBackWrong : ChangeSpec := { name := "ratBack", fn := fun _ => fun
  | [d1, d2] => { results := [.lit (.bool false)], args := [d1, d2] }
  | _ => none }
def RatBackWrongFalsely : Prop := ratBackRow.holds Try.pinned (OpenSpec.ofChange ratBackWrong)

/- THE SECOND FORM. 'bulk': how many values and letters a reading holds, each counted each time it is reached (what is shared counts as often as it is met; a slice's spare places count too). A statement '..UptoSaid' is the law's where the arguments, and the package variables that the reading takes, are together of bulk at most 1048576: NARROWER than '..Said'. Prove '..Said' where nothing that the law and all that it calls make is longer than what came in: it says more and counts as full. Else prove '..UptoSaid'. A law counts once. -/
mutual
def uptoBulk {H : Type} : DataW H → Nat
  | .lit (.string bytes) => bytes.length + 1
  | .lit _ => 1
  | .nil => 1
  | .ptr d => uptoBulk d + 1
  | .slice elems spare => uptoBulkAll elems + uptoBulkAll spare + 1
  | .agg parts => uptoBulkAll parts + 1
  | .iface _ d => uptoBulk d + 1
  | .map entries => uptoBulkEntries entries + 1
  | .held _ => 1
def uptoBulkAll {H : Type} : List (DataW H) → Nat
  | [] => 0
  | d :: r => uptoBulk d + uptoBulkAll r
def uptoBulkEntries {H : Type} : List (Lit × DataW H) → Nat
  | [] => 0
  | x :: r => uptoBulkEntry x + uptoBulkEntries r
def uptoBulkEntry {H : Type} : Lit × DataW H → Nat
  | (.string bytes, d) => bytes.length + uptoBulk d + 1
  | (_, d) => uptoBulk d + 1
 end
def uptoSmall : (H : Type) → List (DataW H) → Bool := fun _ ds => decide (uptoBulkAll ds ≤ 1048576)
def OpenSpec.upto (s : _root_.Go.ChangeSpec) : _root_.Go.OpenSpec := { _root_.Go.OpenSpec.ofChange s with cond := some uptoSmall }

/-- 'ratchetlaw08.FixScales', WHERE WHAT IT READS IS OF BULK AT MOST 1048576: true; the input reads as it did. -/
def fixScalesUptoRow : OpenClaim := { program := "ytepidkmahladpaa", sum := "77e4d8daee83a97f9affd8f019872372ba5962d96ce4d49ed8b3e57e8f30b3ca", func := "ratchet/ratchetlaw08.FixScales", spec := "fixScales", inPlace := ["math/bits.Add64", "math/bits.Sub64"], unfollowed := true, recurses := true, named := ["math/bits.divideError", "math/bits.overflowError"], apart := false, narrowed := true }
def FixScalesUptoSaid : Prop := fixScalesUptoRow.holds Try.pinned (OpenSpec.upto fixScalesSpec)

/-- 'ratchetlaw08.FixHalf', WHERE WHAT IT READS IS OF BULK AT MOST 1048576: true; the input reads as it did. -/
def fixHalfUptoRow : OpenClaim := { program := "ytepidkmahladpaa", sum := "77e4d8daee83a97f9affd8f019872372ba5962d96ce4d49ed8b3e57e8f30b3ca", func := "ratchet/ratchetlaw08.FixHalf", spec := "fixHalf", inPlace := ["math/bits.Add64", "math/bits.Sub64"], unfollowed := true, recurses := true, named := ["math/bits.divideError", "math/bits.overflowError"], apart := false, narrowed := true }
def FixHalfUptoSaid : Prop := fixHalfUptoRow.holds Try.pinned (OpenSpec.upto fixHalfSpec)

/-- 'ratchetlaw08.FixOrder', WHERE WHAT IT READS IS OF BULK AT MOST 1048576: true; the input reads as it did. -/
def fixOrderUptoRow : OpenClaim := { program := "ytepidkmahladpaa", sum := "77e4d8daee83a97f9affd8f019872372ba5962d96ce4d49ed8b3e57e8f30b3ca", func := "ratchet/ratchetlaw08.FixOrder", spec := "fixOrder", inPlace := ["math/bits.Add64", "math/bits.Sub64"], unfollowed := true, recurses := true, named := ["math/bits.divideError", "math/bits.overflowError"], apart := false, narrowed := true }
def FixOrderUptoSaid : Prop := fixOrderUptoRow.holds Try.pinned (OpenSpec.upto fixOrderSpec)

/-- 'ratchetlaw08.FixAgree', WHERE WHAT IT READS IS OF BULK AT MOST 1048576: true; the input reads as it did. -/
def fixAgreeUptoRow : OpenClaim := { program := "ytepidkmahladpaa", sum := "77e4d8daee83a97f9affd8f019872372ba5962d96ce4d49ed8b3e57e8f30b3ca", func := "ratchet/ratchetlaw08.FixAgree", spec := "fixAgree", inPlace := ["math/bits.Add64", "math/bits.Sub64"], unfollowed := true, recurses := true, named := ["math/bits.divideError", "math/bits.overflowError"], apart := false, narrowed := true }
def FixAgreeUptoSaid : Prop := fixAgreeUptoRow.holds Try.pinned (OpenSpec.upto fixAgreeSpec)

/-- 'ratchetlaw08.FixReckons', WHERE WHAT IT READS IS OF BULK AT MOST 1048576: true; the input reads as it did. -/
def fixReckonsUptoRow : OpenClaim := { program := "ytepidkmahladpaa", sum := "77e4d8daee83a97f9affd8f019872372ba5962d96ce4d49ed8b3e57e8f30b3ca", func := "ratchet/ratchetlaw08.FixReckons", spec := "fixReckons", inPlace := ["math/bits.Add64", "math/bits.Sub64"], unfollowed := true, recurses := true, named := ["math/bits.divideError", "math/bits.overflowError"], apart := false, narrowed := true }
def FixReckonsUptoSaid : Prop := fixReckonsUptoRow.holds Try.pinned (OpenSpec.upto fixReckonsSpec)

/-- 'ratchetlaw08.FixSides', WHERE WHAT IT READS IS OF BULK AT MOST 1048576: true; the input reads as it did. -/
def fixSidesUptoRow : OpenClaim := { program := "ytepidkmahladpaa", sum := "77e4d8daee83a97f9affd8f019872372ba5962d96ce4d49ed8b3e57e8f30b3ca", func := "ratchet/ratchetlaw08.FixSides", spec := "fixSides", inPlace := ["math/bits.Add64", "math/bits.Sub64"], unfollowed := true, recurses := true, named := ["math/bits.divideError", "math/bits.overflowError"], apart := false, narrowed := true }
def FixSidesUptoSaid : Prop := fixSidesUptoRow.holds Try.pinned (OpenSpec.upto fixSidesSpec)

/-- 'ratchetlaw15.SchedWarm', WHERE WHAT IT READS IS OF BULK AT MOST 1048576: true; the input reads as it did. -/
def schedWarmUptoRow : OpenClaim := { program := "ytepidkmahladpaa", sum := "77e4d8daee83a97f9affd8f019872372ba5962d96ce4d49ed8b3e57e8f30b3ca", func := "ratchet/ratchetlaw15.SchedWarm", spec := "schedWarm", inPlace := ["math/bits.Add64", "math/bits.Sub64"], unfollowed := true, recurses := true, named := ["math/bits.divideError", "math/bits.overflowError"], apart := false, narrowed := true }
def SchedWarmUptoSaid : Prop := schedWarmUptoRow.holds Try.pinned (OpenSpec.upto schedWarmSpec)

/-- 'ratchetlaw15.SchedFalls', WHERE WHAT IT READS IS OF BULK AT MOST 1048576: true; the input reads as it did. -/
def schedFallsUptoRow : OpenClaim := { program := "ytepidkmahladpaa", sum := "77e4d8daee83a97f9affd8f019872372ba5962d96ce4d49ed8b3e57e8f30b3ca", func := "ratchet/ratchetlaw15.SchedFalls", spec := "schedFalls", inPlace := ["math/bits.Add64", "math/bits.Sub64"], unfollowed := true, recurses := true, named := ["math/bits.divideError", "math/bits.overflowError"], apart := false, narrowed := true }
def SchedFallsUptoSaid : Prop := schedFallsUptoRow.holds Try.pinned (OpenSpec.upto schedFallsSpec)

/-- 'ratchetlaw15.SchedRoot', WHERE WHAT IT READS IS OF BULK AT MOST 1048576: true; the input reads as it did. -/
def schedRootUptoRow : OpenClaim := { program := "ytepidkmahladpaa", sum := "77e4d8daee83a97f9affd8f019872372ba5962d96ce4d49ed8b3e57e8f30b3ca", func := "ratchet/ratchetlaw15.SchedRoot", spec := "schedRoot", inPlace := ["math/bits.Add64", "math/bits.Sub64"], unfollowed := true, recurses := true, named := ["math/bits.divideError", "math/bits.overflowError"], apart := false, narrowed := true }
def SchedRootUptoSaid : Prop := schedRootUptoRow.holds Try.pinned (OpenSpec.upto schedRootSpec)

/-- 'ratchetlaw15.SchedEnds', WHERE WHAT IT READS IS OF BULK AT MOST 1048576: true; the input reads as it did. -/
def schedEndsUptoRow : OpenClaim := { program := "ytepidkmahladpaa", sum := "77e4d8daee83a97f9affd8f019872372ba5962d96ce4d49ed8b3e57e8f30b3ca", func := "ratchet/ratchetlaw15.SchedEnds", spec := "schedEnds", inPlace := ["math/bits.Add64", "math/bits.Sub64"], unfollowed := true, recurses := true, named := ["math/bits.divideError", "math/bits.overflowError"], apart := false, narrowed := true }
def SchedEndsUptoSaid : Prop := schedEndsUptoRow.holds Try.pinned (OpenSpec.upto schedEndsSpec)

/-- 'ratchetlaw15.SchedAny', WHERE WHAT IT READS IS OF BULK AT MOST 1048576: true; the input reads as it did. -/
def schedAnyUptoRow : OpenClaim := { program := "ytepidkmahladpaa", sum := "77e4d8daee83a97f9affd8f019872372ba5962d96ce4d49ed8b3e57e8f30b3ca", func := "ratchet/ratchetlaw15.SchedAny", spec := "schedAny", inPlace := ["math/bits.Add64", "math/bits.Sub64"], unfollowed := true, recurses := true, named := ["math/bits.divideError", "math/bits.overflowError"], apart := false, narrowed := true }
def SchedAnyUptoSaid : Prop := schedAnyUptoRow.holds Try.pinned (OpenSpec.upto schedAnySpec)

/-- 'ratchetlaw05.RatTells', WHERE WHAT IT READS IS OF BULK AT MOST 1048576: true; the input reads as it did. -/
def ratTellsUptoRow : OpenClaim := { program := "ytepidkmahladpaa", sum := "77e4d8daee83a97f9affd8f019872372ba5962d96ce4d49ed8b3e57e8f30b3ca", func := "ratchet/ratchetlaw05.RatTells", spec := "ratTells", inPlace := ["math/bits.Add64", "math/bits.Sub64"], unfollowed := true, recurses := true, named := ["math/bits.divideError", "math/bits.overflowError"], apart := false, narrowed := true }
def RatTellsUptoSaid : Prop := ratTellsUptoRow.holds Try.pinned (OpenSpec.upto ratTellsSpec)

/-- 'ratchetlaw05.RatOne', WHERE WHAT IT READS IS OF BULK AT MOST 1048576: true; the input reads as it did. -/
def ratOneUptoRow : OpenClaim := { program := "ytepidkmahladpaa", sum := "77e4d8daee83a97f9affd8f019872372ba5962d96ce4d49ed8b3e57e8f30b3ca", func := "ratchet/ratchetlaw05.RatOne", spec := "ratOne", inPlace := ["math/bits.Add64", "math/bits.Sub64"], unfollowed := true, recurses := true, named := ["math/bits.divideError", "math/bits.overflowError"], apart := false, narrowed := true }
def RatOneUptoSaid : Prop := ratOneUptoRow.holds Try.pinned (OpenSpec.upto ratOneSpec)

/-- 'ratchetlaw05.RatField', WHERE WHAT IT READS IS OF BULK AT MOST 1048576: true; the input reads as it did. -/
def ratFieldUptoRow : OpenClaim := { program := "ytepidkmahladpaa", sum := "77e4d8daee83a97f9affd8f019872372ba5962d96ce4d49ed8b3e57e8f30b3ca", func := "ratchet/ratchetlaw05.RatField", spec := "ratField", inPlace := ["math/bits.Add64", "math/bits.Sub64"], unfollowed := true, recurses := true, named := ["math/bits.divideError", "math/bits.overflowError"], apart := false, narrowed := true }
def RatFieldUptoSaid : Prop := ratFieldUptoRow.holds Try.pinned (OpenSpec.upto ratFieldSpec)

/-- 'ratchetlaw05.RatBetween', WHERE WHAT IT READS IS OF BULK AT MOST 1048576: true; the input reads as it did. -/
def ratBetweenUptoRow : OpenClaim := { program := "ytepidkmahladpaa", sum := "77e4d8daee83a97f9affd8f019872372ba5962d96ce4d49ed8b3e57e8f30b3ca", func := "ratchet/ratchetlaw05.RatBetween", spec := "ratBetween", inPlace := ["math/bits.Add64", "math/bits.Sub64"], unfollowed := true, recurses := true, named := ["math/bits.divideError", "math/bits.overflowError"], apart := false, narrowed := true }
def RatBetweenUptoSaid : Prop := ratBetweenUptoRow.holds Try.pinned (OpenSpec.upto ratBetweenSpec)

/-- 'ratchetlaw05.RatOrder', WHERE WHAT IT READS IS OF BULK AT MOST 1048576: true; the input reads as it did. -/
def ratOrderUptoRow : OpenClaim := { program := "ytepidkmahladpaa", sum := "77e4d8daee83a97f9affd8f019872372ba5962d96ce4d49ed8b3e57e8f30b3ca", func := "ratchet/ratchetlaw05.RatOrder", spec := "ratOrder", inPlace := ["math/bits.Add64", "math/bits.Sub64"], unfollowed := true, recurses := true, named := ["math/bits.divideError", "math/bits.overflowError"], apart := false, narrowed := true }
def RatOrderUptoSaid : Prop := ratOrderUptoRow.holds Try.pinned (OpenSpec.upto ratOrderSpec)

/-- 'ratchetlaw05.RatReckons', WHERE WHAT IT READS IS OF BULK AT MOST 1048576: true; the input reads as it did. -/
def ratReckonsUptoRow : OpenClaim := { program := "ytepidkmahladpaa", sum := "77e4d8daee83a97f9affd8f019872372ba5962d96ce4d49ed8b3e57e8f30b3ca", func := "ratchet/ratchetlaw05.RatReckons", spec := "ratReckons", inPlace := ["math/bits.Add64", "math/bits.Sub64"], unfollowed := true, recurses := true, named := ["math/bits.divideError", "math/bits.overflowError"], apart := false, narrowed := true }
def RatReckonsUptoSaid : Prop := ratReckonsUptoRow.holds Try.pinned (OpenSpec.upto ratReckonsSpec)

/-- 'ratchetlaw05.RatBack', WHERE WHAT IT READS IS OF BULK AT MOST 1048576: true; the input reads as it did. -/
def ratBackUptoRow : OpenClaim := { program := "ytepidkmahladpaa", sum := "77e4d8daee83a97f9affd8f019872372ba5962d96ce4d49ed8b3e57e8f30b3ca", func := "ratchet/ratchetlaw05.RatBack", spec := "ratBack", inPlace := ["math/bits.Add64", "math/bits.Sub64"], unfollowed := true, recurses := true, named := ["math/bits.divideError", "math/bits.overflowError"], apart := false, narrowed := true }
def RatBackUptoSaid : Prop := ratBackUptoRow.holds Try.pinned (OpenSpec.upto ratBackSpec)

end Rows
end Go.Proofs.Ytepidkmahladpaa
