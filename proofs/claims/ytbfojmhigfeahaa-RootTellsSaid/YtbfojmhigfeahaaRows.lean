/-
  No cell of these rows narrows 'for every input' (looked for: loops, veiled, ifaces, maps, wideKeys, modest, calm, conditions, laid).
  DERIVED. THE GIVEN ROWS OF THIS SEAT. 12 by the template 'for every input the law returns true; each argument reads behind the call as it read before'; 0 by the template 'total and deterministic' (their statements: YtbfojmhigfeahaaTotals.lean).
  GIVEN WITH THE SEED: the statements are not yours to turn. If you find one false, say at which input.
  Laid BY PROGRAM, IN A SANDBOX (cutbox-rows.mjs): the forced cells as the released guide's own fill.sh prints them over the translation ef967cc587e1cff7… (all of the seat's roots in one cut). By AI agents, Wed Nov 11 2026. No macro, syntax, notation, axiom, sorry.
-/
import Derived.Test.YtbfojmhigfeahaaChecked
import GoSem.Claim
import GoSem.ClaimJoined
import GoSem.ClaimMapViews
import Derived.JoinedTies
import Derived.KernelRfl
namespace Go.Proofs.Ytbfojmhigfeahaa
/- THE CELL 'sum', in the pinned program and in every row, IS THE sha256 OF THE DUMP (.gsa) THAT YtbfojmhigfeahaaProg.lean LOADS. Nothing in Lean hashes anything: it is a label: what it is worth is what the hold of that sum in a sandbox is worth. -/
noncomputable def Try.pinned : Pinned := { name := "ytbfojmhigfeahaa", sum := "ef967cc587e1cff74031bc58b91e3b5fe2dadcc057dc9d912dd484c47ae17ec6", checked := Try.checked }
namespace Rows
def none {H : Type} : Left H := { results := [], args := [] }

/-- 'ratchetlaw06.DyadTells': WHATEVER THE INPUT: true; the input reads as it did. -/
def dyadTellsSpec : ChangeSpec := { name := "dyadTells", fn := fun _ => fun
  | [d1, d2, d3] => { results := [.lit (.bool true)], args := [d1, d2, d3] }
  | _ => none }
def dyadTellsRow : OpenClaim := { program := "ytbfojmhigfeahaa", sum := "ef967cc587e1cff74031bc58b91e3b5fe2dadcc057dc9d912dd484c47ae17ec6", func := "ratchet/ratchetlaw06.DyadTells", spec := "dyadTells", inPlace := ["math/bits.Add64", "math/bits.Sub64"], unfollowed := true, recurses := true, named := ["math/bits.divideError", "math/bits.overflowError"], apart := false }
def DyadTellsSaid : Prop := dyadTellsRow.holds Try.pinned (OpenSpec.ofChange dyadTellsSpec)

/-- ITS FALSE NEIGHBOUR: 'it returns false'. Refute it at one input. -/
def dyadTellsWrong : ChangeSpec := { name := "dyadTells", fn := fun _ => fun
  | [d1, d2, d3] => { results := [.lit (.bool false)], args := [d1, d2, d3] }
  | _ => none }
def DyadTellsWrongFalsely : Prop := dyadTellsRow.holds Try.pinned (OpenSpec.ofChange dyadTellsWrong)

/-- 'ratchetlaw06.DyadBetween': WHATEVER THE INPUT: true; the input reads as it did. -/
def dyadBetweenSpec : ChangeSpec := { name := "dyadBetween", fn := fun _ => fun
  | [d1, d2] => { results := [.lit (.bool true)], args := [d1, d2] }
  | _ => none }
def dyadBetweenRow : OpenClaim := { program := "ytbfojmhigfeahaa", sum := "ef967cc587e1cff74031bc58b91e3b5fe2dadcc057dc9d912dd484c47ae17ec6", func := "ratchet/ratchetlaw06.DyadBetween", spec := "dyadBetween", inPlace := ["math/bits.Add64", "math/bits.Sub64"], unfollowed := true, recurses := true, named := ["math/bits.divideError", "math/bits.overflowError"], apart := false }
def DyadBetweenSaid : Prop := dyadBetweenRow.holds Try.pinned (OpenSpec.ofChange dyadBetweenSpec)

/-- ITS FALSE NEIGHBOUR: 'it returns false'. Refute it at one input. -/
def dyadBetweenWrong : ChangeSpec := { name := "dyadBetween", fn := fun _ => fun
  | [d1, d2] => { results := [.lit (.bool false)], args := [d1, d2] }
  | _ => none }
def DyadBetweenWrongFalsely : Prop := dyadBetweenRow.holds Try.pinned (OpenSpec.ofChange dyadBetweenWrong)

/-- 'ratchetlaw06.DyadOrder': WHATEVER THE INPUT: true; the input reads as it did. -/
def dyadOrderSpec : ChangeSpec := { name := "dyadOrder", fn := fun _ => fun
  | [d1, d2, d3] => { results := [.lit (.bool true)], args := [d1, d2, d3] }
  | _ => none }
def dyadOrderRow : OpenClaim := { program := "ytbfojmhigfeahaa", sum := "ef967cc587e1cff74031bc58b91e3b5fe2dadcc057dc9d912dd484c47ae17ec6", func := "ratchet/ratchetlaw06.DyadOrder", spec := "dyadOrder", inPlace := ["math/bits.Add64", "math/bits.Sub64"], unfollowed := true, recurses := true, named := ["math/bits.divideError", "math/bits.overflowError"], apart := false }
def DyadOrderSaid : Prop := dyadOrderRow.holds Try.pinned (OpenSpec.ofChange dyadOrderSpec)

/-- ITS FALSE NEIGHBOUR: 'it returns false'. Refute it at one input. -/
def dyadOrderWrong : ChangeSpec := { name := "dyadOrder", fn := fun _ => fun
  | [d1, d2, d3] => { results := [.lit (.bool false)], args := [d1, d2, d3] }
  | _ => none }
def DyadOrderWrongFalsely : Prop := dyadOrderRow.holds Try.pinned (OpenSpec.ofChange dyadOrderWrong)

/-- 'ratchetlaw06.DyadBack': WHATEVER THE INPUT: true; the input reads as it did. -/
def dyadBackSpec : ChangeSpec := { name := "dyadBack", fn := fun _ => fun
  | [d1, d2] => { results := [.lit (.bool true)], args := [d1, d2] }
  | _ => none }
def dyadBackRow : OpenClaim := { program := "ytbfojmhigfeahaa", sum := "ef967cc587e1cff74031bc58b91e3b5fe2dadcc057dc9d912dd484c47ae17ec6", func := "ratchet/ratchetlaw06.DyadBack", spec := "dyadBack", inPlace := ["math/bits.Add64", "math/bits.Sub64"], unfollowed := true, recurses := true, named := ["math/bits.divideError", "math/bits.overflowError"], apart := false }
def DyadBackSaid : Prop := dyadBackRow.holds Try.pinned (OpenSpec.ofChange dyadBackSpec)

/-- ITS FALSE NEIGHBOUR: 'it returns false'. Refute it at one input. -/
def dyadBackWrong : ChangeSpec := { name := "dyadBack", fn := fun _ => fun
  | [d1, d2] => { results := [.lit (.bool false)], args := [d1, d2] }
  | _ => none }
def DyadBackWrongFalsely : Prop := dyadBackRow.holds Try.pinned (OpenSpec.ofChange dyadBackWrong)

/-- 'ratchetlaw06.DyadSums': WHATEVER THE INPUT: true; the input reads as it did. -/
def dyadSumsSpec : ChangeSpec := { name := "dyadSums", fn := fun _ => fun
  | [d1, d2, d3] => { results := [.lit (.bool true)], args := [d1, d2, d3] }
  | _ => none }
def dyadSumsRow : OpenClaim := { program := "ytbfojmhigfeahaa", sum := "ef967cc587e1cff74031bc58b91e3b5fe2dadcc057dc9d912dd484c47ae17ec6", func := "ratchet/ratchetlaw06.DyadSums", spec := "dyadSums", inPlace := ["math/bits.Add64", "math/bits.Sub64"], unfollowed := true, recurses := true, named := ["math/bits.divideError", "math/bits.overflowError"], apart := false }
def DyadSumsSaid : Prop := dyadSumsRow.holds Try.pinned (OpenSpec.ofChange dyadSumsSpec)

/-- ITS FALSE NEIGHBOUR: 'it returns false'. Refute it at one input. -/
def dyadSumsWrong : ChangeSpec := { name := "dyadSums", fn := fun _ => fun
  | [d1, d2, d3] => { results := [.lit (.bool false)], args := [d1, d2, d3] }
  | _ => none }
def DyadSumsWrongFalsely : Prop := dyadSumsRow.holds Try.pinned (OpenSpec.ofChange dyadSumsWrong)

/-- 'ratchetlaw06.DyadFiner': WHATEVER THE INPUT: true; the input reads as it did. -/
def dyadFinerSpec : ChangeSpec := { name := "dyadFiner", fn := fun _ => fun
  | [d1, d2, d3] => { results := [.lit (.bool true)], args := [d1, d2, d3] }
  | _ => none }
def dyadFinerRow : OpenClaim := { program := "ytbfojmhigfeahaa", sum := "ef967cc587e1cff74031bc58b91e3b5fe2dadcc057dc9d912dd484c47ae17ec6", func := "ratchet/ratchetlaw06.DyadFiner", spec := "dyadFiner", inPlace := ["math/bits.Add64", "math/bits.Sub64"], unfollowed := true, recurses := true, named := ["math/bits.divideError", "math/bits.overflowError"], apart := false }
def DyadFinerSaid : Prop := dyadFinerRow.holds Try.pinned (OpenSpec.ofChange dyadFinerSpec)

/-- ITS FALSE NEIGHBOUR: 'it returns false'. Refute it at one input. -/
def dyadFinerWrong : ChangeSpec := { name := "dyadFiner", fn := fun _ => fun
  | [d1, d2, d3] => { results := [.lit (.bool false)], args := [d1, d2, d3] }
  | _ => none }
def DyadFinerWrongFalsely : Prop := dyadFinerRow.holds Try.pinned (OpenSpec.ofChange dyadFinerWrong)

/-- 'ratchetlaw03.RootTells': WHATEVER THE INPUT: true; the input reads as it did. -/
def rootTellsSpec : ChangeSpec := { name := "rootTells", fn := fun _ => fun
  | [d1, d2] => { results := [.lit (.bool true)], args := [d1, d2] }
  | _ => none }
def rootTellsRow : OpenClaim := { program := "ytbfojmhigfeahaa", sum := "ef967cc587e1cff74031bc58b91e3b5fe2dadcc057dc9d912dd484c47ae17ec6", func := "ratchet/ratchetlaw03.RootTells", spec := "rootTells", inPlace := ["math/bits.Add64", "math/bits.Sub64"], unfollowed := true, recurses := true, named := ["math/bits.divideError", "math/bits.overflowError"], apart := false }
def RootTellsSaid : Prop := rootTellsRow.holds Try.pinned (OpenSpec.ofChange rootTellsSpec)

/-- ITS FALSE NEIGHBOUR: 'it returns false'. Refute it at one input. -/
def rootTellsWrong : ChangeSpec := { name := "rootTells", fn := fun _ => fun
  | [d1, d2] => { results := [.lit (.bool false)], args := [d1, d2] }
  | _ => none }
def RootTellsWrongFalsely : Prop := rootTellsRow.holds Try.pinned (OpenSpec.ofChange rootTellsWrong)

/-- 'ratchetlaw03.RootBetween': WHATEVER THE INPUT: true; the input reads as it did. -/
def rootBetweenSpec : ChangeSpec := { name := "rootBetween", fn := fun _ => fun
  | [d1, d2] => { results := [.lit (.bool true)], args := [d1, d2] }
  | _ => none }
def rootBetweenRow : OpenClaim := { program := "ytbfojmhigfeahaa", sum := "ef967cc587e1cff74031bc58b91e3b5fe2dadcc057dc9d912dd484c47ae17ec6", func := "ratchet/ratchetlaw03.RootBetween", spec := "rootBetween", inPlace := ["math/bits.Add64", "math/bits.Sub64"], unfollowed := true, recurses := true, named := ["math/bits.divideError", "math/bits.overflowError"], apart := false }
def RootBetweenSaid : Prop := rootBetweenRow.holds Try.pinned (OpenSpec.ofChange rootBetweenSpec)

/-- ITS FALSE NEIGHBOUR: 'it returns false'. Refute it at one input. -/
def rootBetweenWrong : ChangeSpec := { name := "rootBetween", fn := fun _ => fun
  | [d1, d2] => { results := [.lit (.bool false)], args := [d1, d2] }
  | _ => none }
def RootBetweenWrongFalsely : Prop := rootBetweenRow.holds Try.pinned (OpenSpec.ofChange rootBetweenWrong)

/-- 'ratchetlaw03.RootBack': WHATEVER THE INPUT: true; the input reads as it did. -/
def rootBackSpec : ChangeSpec := { name := "rootBack", fn := fun _ => fun
  | [d1, d2] => { results := [.lit (.bool true)], args := [d1, d2] }
  | _ => none }
def rootBackRow : OpenClaim := { program := "ytbfojmhigfeahaa", sum := "ef967cc587e1cff74031bc58b91e3b5fe2dadcc057dc9d912dd484c47ae17ec6", func := "ratchet/ratchetlaw03.RootBack", spec := "rootBack", inPlace := ["math/bits.Add64", "math/bits.Sub64"], unfollowed := true, recurses := true, named := ["math/bits.divideError", "math/bits.overflowError"], apart := false }
def RootBackSaid : Prop := rootBackRow.holds Try.pinned (OpenSpec.ofChange rootBackSpec)

/-- ITS FALSE NEIGHBOUR: 'it returns false'. Refute it at one input. -/
def rootBackWrong : ChangeSpec := { name := "rootBack", fn := fun _ => fun
  | [d1, d2] => { results := [.lit (.bool false)], args := [d1, d2] }
  | _ => none }
def RootBackWrongFalsely : Prop := rootBackRow.holds Try.pinned (OpenSpec.ofChange rootBackWrong)

/-- 'ratchetlaw03.RootOrder': WHATEVER THE INPUT: true; the input reads as it did. -/
def rootOrderSpec : ChangeSpec := { name := "rootOrder", fn := fun _ => fun
  | [d1, d2, d3] => { results := [.lit (.bool true)], args := [d1, d2, d3] }
  | _ => none }
def rootOrderRow : OpenClaim := { program := "ytbfojmhigfeahaa", sum := "ef967cc587e1cff74031bc58b91e3b5fe2dadcc057dc9d912dd484c47ae17ec6", func := "ratchet/ratchetlaw03.RootOrder", spec := "rootOrder", inPlace := ["math/bits.Add64", "math/bits.Sub64"], unfollowed := true, recurses := true, named := ["math/bits.divideError", "math/bits.overflowError"], apart := false }
def RootOrderSaid : Prop := rootOrderRow.holds Try.pinned (OpenSpec.ofChange rootOrderSpec)

/-- ITS FALSE NEIGHBOUR: 'it returns false'. Refute it at one input. -/
def rootOrderWrong : ChangeSpec := { name := "rootOrder", fn := fun _ => fun
  | [d1, d2, d3] => { results := [.lit (.bool false)], args := [d1, d2, d3] }
  | _ => none }
def RootOrderWrongFalsely : Prop := rootOrderRow.holds Try.pinned (OpenSpec.ofChange rootOrderWrong)

/-- 'ratchetlaw03.RootRoots': WHATEVER THE INPUT: true; the input reads as it did. -/
def rootRootsSpec : ChangeSpec := { name := "rootRoots", fn := fun _ => fun
  | [d1, d2, d3] => { results := [.lit (.bool true)], args := [d1, d2, d3] }
  | _ => none }
def rootRootsRow : OpenClaim := { program := "ytbfojmhigfeahaa", sum := "ef967cc587e1cff74031bc58b91e3b5fe2dadcc057dc9d912dd484c47ae17ec6", func := "ratchet/ratchetlaw03.RootRoots", spec := "rootRoots", inPlace := ["math/bits.Add64", "math/bits.Sub64"], unfollowed := true, recurses := true, named := ["math/bits.divideError", "math/bits.overflowError"], apart := false }
def RootRootsSaid : Prop := rootRootsRow.holds Try.pinned (OpenSpec.ofChange rootRootsSpec)

/-- ITS FALSE NEIGHBOUR: 'it returns false'. Refute it at one input. -/
def rootRootsWrong : ChangeSpec := { name := "rootRoots", fn := fun _ => fun
  | [d1, d2, d3] => { results := [.lit (.bool false)], args := [d1, d2, d3] }
  | _ => none }
def RootRootsWrongFalsely : Prop := rootRootsRow.holds Try.pinned (OpenSpec.ofChange rootRootsWrong)

/-- 'ratchetlaw03.RootTimes': WHATEVER THE INPUT: true; the input reads as it did. -/
def rootTimesSpec : ChangeSpec := { name := "rootTimes", fn := fun _ => fun
  | [d1, d2, d3] => { results := [.lit (.bool true)], args := [d1, d2, d3] }
  | _ => none }
def rootTimesRow : OpenClaim := { program := "ytbfojmhigfeahaa", sum := "ef967cc587e1cff74031bc58b91e3b5fe2dadcc057dc9d912dd484c47ae17ec6", func := "ratchet/ratchetlaw03.RootTimes", spec := "rootTimes", inPlace := ["math/bits.Add64", "math/bits.Sub64"], unfollowed := true, recurses := true, named := ["math/bits.divideError", "math/bits.overflowError"], apart := false }
def RootTimesSaid : Prop := rootTimesRow.holds Try.pinned (OpenSpec.ofChange rootTimesSpec)

/-- ITS FALSE NEIGHBOUR: 'it returns false'. Refute it at one input. -/
def rootTimesWrong : ChangeSpec := { name := "rootTimes", fn := fun _ => fun
  | [d1, d2, d3] => { results := [.lit (.bool false)], args := [d1, d2, d3] }
  | _ => none }
def RootTimesWrongFalsely : Prop := rootTimesRow.holds Try.pinned (OpenSpec.ofChange rootTimesWrong)

/- THE SECOND FORM. 'bulk': how many values and letters a reading holds, each counted each time it is reached (what is shared counts as often as it is met; a slice's spare places count too). A statement '..UptoSaid' is the law's where the arguments, and the package variables that the reading takes, are together of bulk at most 1048576: NARROWER than '..Said'. Prove '..Said' where nothing that the law and all that it calls make is longer than what came in: it says more and counts as full. Else prove '..UptoSaid'. A law counts once. -/
mutual
def uptoBulk {H : Type} : DataW H → Nat
  | .lit (.string bytes) => bytes.length + 1
  | .lit _ => 1
  | .nil => 1
  | .ptr d => uptoBulk d + 1
  | .slice elems spare => uptoBulkAll elems + uptoBulkAll spare + 1
  | .agg parts => uptoBulkAll parts + 1
  | .iface _ d => uptoBulk d + 1
  | .map entries => uptoBulkEntries entries + 1
  | .held _ => 1
def uptoBulkAll {H : Type} : List (DataW H) → Nat
  | [] => 0
  | d :: r => uptoBulk d + uptoBulkAll r
def uptoBulkEntries {H : Type} : List (Lit × DataW H) → Nat
  | [] => 0
  | x :: r => uptoBulkEntry x + uptoBulkEntries r
def uptoBulkEntry {H : Type} : Lit × DataW H → Nat
  | (.string bytes, d) => bytes.length + uptoBulk d + 1
  | (_, d) => uptoBulk d + 1
 end
def uptoSmall : (H : Type) → List (DataW H) → Bool := fun _ ds => decide (uptoBulkAll ds ≤ 1048576)
def OpenSpec.upto (s : _root_.Go.ChangeSpec) : _root_.Go.OpenSpec := { _root_.Go.OpenSpec.ofChange s with cond := some uptoSmall }

/-- 'ratchetlaw06.DyadTells', WHERE WHAT IT READS IS OF BULK AT MOST 1048576: true; the input reads as it did. -/
def dyadTellsUptoRow : OpenClaim := { program := "ytbfojmhigfeahaa", sum := "ef967cc587e1cff74031bc58b91e3b5fe2dadcc057dc9d912dd484c47ae17ec6", func := "ratchet/ratchetlaw06.DyadTells", spec := "dyadTells", inPlace := ["math/bits.Add64", "math/bits.Sub64"], unfollowed := true, recurses := true, named := ["math/bits.divideError", "math/bits.overflowError"], apart := false, narrowed := true }
def DyadTellsUptoSaid : Prop := dyadTellsUptoRow.holds Try.pinned (OpenSpec.upto dyadTellsSpec)

/-- 'ratchetlaw06.DyadBetween', WHERE WHAT IT READS IS OF BULK AT MOST 1048576: true; the input reads as it did. -/
def dyadBetweenUptoRow : OpenClaim := { program := "ytbfojmhigfeahaa", sum := "ef967cc587e1cff74031bc58b91e3b5fe2dadcc057dc9d912dd484c47ae17ec6", func := "ratchet/ratchetlaw06.DyadBetween", spec := "dyadBetween", inPlace := ["math/bits.Add64", "math/bits.Sub64"], unfollowed := true, recurses := true, named := ["math/bits.divideError", "math/bits.overflowError"], apart := false, narrowed := true }
def DyadBetweenUptoSaid : Prop := dyadBetweenUptoRow.holds Try.pinned (OpenSpec.upto dyadBetweenSpec)

/-- 'ratchetlaw06.DyadOrder', WHERE WHAT IT READS IS OF BULK AT MOST 1048576: true; the input reads as it did. -/
def dyadOrderUptoRow : OpenClaim := { program := "ytbfojmhigfeahaa", sum := "ef967cc587e1cff74031bc58b91e3b5fe2dadcc057dc9d912dd484c47ae17ec6", func := "ratchet/ratchetlaw06.DyadOrder", spec := "dyadOrder", inPlace := ["math/bits.Add64", "math/bits.Sub64"], unfollowed := true, recurses := true, named := ["math/bits.divideError", "math/bits.overflowError"], apart := false, narrowed := true }
def DyadOrderUptoSaid : Prop := dyadOrderUptoRow.holds Try.pinned (OpenSpec.upto dyadOrderSpec)

/-- 'ratchetlaw06.DyadBack', WHERE WHAT IT READS IS OF BULK AT MOST 1048576: true; the input reads as it did. -/
def dyadBackUptoRow : OpenClaim := { program := "ytbfojmhigfeahaa", sum := "ef967cc587e1cff74031bc58b91e3b5fe2dadcc057dc9d912dd484c47ae17ec6", func := "ratchet/ratchetlaw06.DyadBack", spec := "dyadBack", inPlace := ["math/bits.Add64", "math/bits.Sub64"], unfollowed := true, recurses := true, named := ["math/bits.divideError", "math/bits.overflowError"], apart := false, narrowed := true }
def DyadBackUptoSaid : Prop := dyadBackUptoRow.holds Try.pinned (OpenSpec.upto dyadBackSpec)

/-- 'ratchetlaw06.DyadSums', WHERE WHAT IT READS IS OF BULK AT MOST 1048576: true; the input reads as it did. -/
def dyadSumsUptoRow : OpenClaim := { program := "ytbfojmhigfeahaa", sum := "ef967cc587e1cff74031bc58b91e3b5fe2dadcc057dc9d912dd484c47ae17ec6", func := "ratchet/ratchetlaw06.DyadSums", spec := "dyadSums", inPlace := ["math/bits.Add64", "math/bits.Sub64"], unfollowed := true, recurses := true, named := ["math/bits.divideError", "math/bits.overflowError"], apart := false, narrowed := true }
def DyadSumsUptoSaid : Prop := dyadSumsUptoRow.holds Try.pinned (OpenSpec.upto dyadSumsSpec)

/-- 'ratchetlaw06.DyadFiner', WHERE WHAT IT READS IS OF BULK AT MOST 1048576: true; the input reads as it did. -/
def dyadFinerUptoRow : OpenClaim := { program := "ytbfojmhigfeahaa", sum := "ef967cc587e1cff74031bc58b91e3b5fe2dadcc057dc9d912dd484c47ae17ec6", func := "ratchet/ratchetlaw06.DyadFiner", spec := "dyadFiner", inPlace := ["math/bits.Add64", "math/bits.Sub64"], unfollowed := true, recurses := true, named := ["math/bits.divideError", "math/bits.overflowError"], apart := false, narrowed := true }
def DyadFinerUptoSaid : Prop := dyadFinerUptoRow.holds Try.pinned (OpenSpec.upto dyadFinerSpec)

/-- 'ratchetlaw03.RootTells', WHERE WHAT IT READS IS OF BULK AT MOST 1048576: true; the input reads as it did. -/
def rootTellsUptoRow : OpenClaim := { program := "ytbfojmhigfeahaa", sum := "ef967cc587e1cff74031bc58b91e3b5fe2dadcc057dc9d912dd484c47ae17ec6", func := "ratchet/ratchetlaw03.RootTells", spec := "rootTells", inPlace := ["math/bits.Add64", "math/bits.Sub64"], unfollowed := true, recurses := true, named := ["math/bits.divideError", "math/bits.overflowError"], apart := false, narrowed := true }
def RootTellsUptoSaid : Prop := rootTellsUptoRow.holds Try.pinned (OpenSpec.upto rootTellsSpec)

/-- 'ratchetlaw03.RootBetween', WHERE WHAT IT READS IS OF BULK AT MOST 1048576: true; the input reads as it did. -/
def rootBetweenUptoRow : OpenClaim := { program := "ytbfojmhigfeahaa", sum := "ef967cc587e1cff74031bc58b91e3b5fe2dadcc057dc9d912dd484c47ae17ec6", func := "ratchet/ratchetlaw03.RootBetween", spec := "rootBetween", inPlace := ["math/bits.Add64", "math/bits.Sub64"], unfollowed := true, recurses := true, named := ["math/bits.divideError", "math/bits.overflowError"], apart := false, narrowed := true }
def RootBetweenUptoSaid : Prop := rootBetweenUptoRow.holds Try.pinned (OpenSpec.upto rootBetweenSpec)

/-- 'ratchetlaw03.RootBack', WHERE WHAT IT READS IS OF BULK AT MOST 1048576: true; the input reads as it did. -/
def rootBackUptoRow : OpenClaim := { program := "ytbfojmhigfeahaa", sum := "ef967cc587e1cff74031bc58b91e3b5fe2dadcc057dc9d912dd484c47ae17ec6", func := "ratchet/ratchetlaw03.RootBack", spec := "rootBack", inPlace := ["math/bits.Add64", "math/bits.Sub64"], unfollowed := true, recurses := true, named := ["math/bits.divideError", "math/bits.overflowError"], apart := false, narrowed := true }
def RootBackUptoSaid : Prop := rootBackUptoRow.holds Try.pinned (OpenSpec.upto rootBackSpec)

/-- 'ratchetlaw03.RootOrder', WHERE WHAT IT READS IS OF BULK AT MOST 1048576: true; the input reads as it did. -/
def rootOrderUptoRow : OpenClaim := { program := "ytbfojmhigfeahaa", sum := "ef967cc587e1cff74031bc58b91e3b5fe2dadcc057dc9d912dd484c47ae17ec6", func := "ratchet/ratchetlaw03.RootOrder", spec := "rootOrder", inPlace := ["math/bits.Add64", "math/bits.Sub64"], unfollowed := true, recurses := true, named := ["math/bits.divideError", "math/bits.overflowError"], apart := false, narrowed := true }
def RootOrderUptoSaid : Prop := rootOrderUptoRow.holds Try.pinned (OpenSpec.upto rootOrderSpec)

/-- 'ratchetlaw03.RootRoots', WHERE WHAT IT READS IS OF BULK AT MOST 1048576: true; the input reads as it did. -/
def rootRootsUptoRow : OpenClaim := { program := "ytbfojmhigfeahaa", sum := "ef967cc587e1cff74031bc58b91e3b5fe2dadcc057dc9d912dd484c47ae17ec6", func := "ratchet/ratchetlaw03.RootRoots", spec := "rootRoots", inPlace := ["math/bits.Add64", "math/bits.Sub64"], unfollowed := true, recurses := true, named := ["math/bits.divideError", "math/bits.overflowError"], apart := false, narrowed := true }
def RootRootsUptoSaid : Prop := rootRootsUptoRow.holds Try.pinned (OpenSpec.upto rootRootsSpec)

/-- 'ratchetlaw03.RootTimes', WHERE WHAT IT READS IS OF BULK AT MOST 1048576: true; the input reads as it did. -/
def rootTimesUptoRow : OpenClaim := { program := "ytbfojmhigfeahaa", sum := "ef967cc587e1cff74031bc58b91e3b5fe2dadcc057dc9d912dd484c47ae17ec6", func := "ratchet/ratchetlaw03.RootTimes", spec := "rootTimes", inPlace := ["math/bits.Add64", "math/bits.Sub64"], unfollowed := true, recurses := true, named := ["math/bits.divideError", "math/bits.overflowError"], apart := false, narrowed := true }
def RootTimesUptoSaid : Prop := rootTimesUptoRow.holds Try.pinned (OpenSpec.upto rootTimesSpec)

end Rows
end Go.Proofs.Ytbfojmhigfeahaa
