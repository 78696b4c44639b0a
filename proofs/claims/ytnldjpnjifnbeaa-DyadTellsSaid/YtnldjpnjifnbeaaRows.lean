/-
  No cell of these rows narrows 'for every input' (looked for: loops, veiled, ifaces, maps, wideKeys, modest, calm, conditions, laid).
  DERIVED. THE GIVEN ROWS OF THIS SEAT. 11 by the template 'for every input the law returns true; each argument reads behind the call as it read before'; 0 by the template 'total and deterministic' (their statements: YtnldjpnjifnbeaaTotals.lean).
  GIVEN WITH THE SEED: the statements are not yours to turn. If you find one false, say at which input.
  Laid BY PROGRAM, IN A SANDBOX (cutbox-rows.mjs): the forced cells as the released guide's own fill.sh prints them over the translation 97a5c6eea73b2fe9… (all of the seat's roots in one cut). By AI agents, Wed Nov 11 2026. No macro, syntax, notation, axiom, sorry.
-/
import Derived.Test.YtnldjpnjifnbeaaChecked
import GoSem.Claim
import GoSem.ClaimJoined
import GoSem.ClaimMapViews
import Derived.JoinedTies
import Derived.KernelRfl
namespace Go.Proofs.Ytnldjpnjifnbeaa
/- THE CELL 'sum', in the pinned program and in every row, IS THE sha256 OF THE DUMP (.gsa) THAT YtnldjpnjifnbeaaProg.lean LOADS. Nothing in Lean hashes anything: it is a label: what it is worth is what the hold of that sum in a sandbox is worth. -/
noncomputable def Try.pinned : Pinned := { name := "ytnldjpnjifnbeaa", sum := "97a5c6eea73b2fe94be0e3959aec0202e8b2542be1902c587c671a428ed9c9c5", checked := Try.checked }
namespace Rows
def none {H : Type} : Left H := { results := [], args := [] }

/-- 'ratchetlaw06.DyadTells': WHATEVER THE INPUT: true; the input reads as it did. -/
def dyadTellsSpec : ChangeSpec := { name := "dyadTells", fn := fun _ => fun
  | [d1, d2, d3] => { results := [.lit (.bool true)], args := [d1, d2, d3] }
  | _ => none }
def dyadTellsRow : OpenClaim := { program := "ytnldjpnjifnbeaa", sum := "97a5c6eea73b2fe94be0e3959aec0202e8b2542be1902c587c671a428ed9c9c5", func := "ratchet/ratchetlaw06.DyadTells", spec := "dyadTells", inPlace := ["math/bits.Add64", "math/bits.Sub64"], unfollowed := true, recurses := true, named := ["math/bits.divideError", "math/bits.overflowError"], apart := false }
def DyadTellsSaid : Prop := dyadTellsRow.holds Try.pinned (OpenSpec.ofChange dyadTellsSpec)

/-- ITS FALSE NEIGHBOUR: 'it returns false'. Refute it at one input. -/
def dyadTellsWrong : ChangeSpec := { name := "dyadTells", fn := fun _ => fun
  | [d1, d2, d3] => { results := [.lit (.bool false)], args := [d1, d2, d3] }
  | _ => none }
def DyadTellsWrongFalsely : Prop := dyadTellsRow.holds Try.pinned (OpenSpec.ofChange dyadTellsWrong)

/-- 'ratchetlaw06.DyadBetween': WHATEVER THE INPUT: true; the input reads as it did. -/
def dyadBetweenSpec : ChangeSpec := { name := "dyadBetween", fn := fun _ => fun
  | [d1, d2] => { results := [.lit (.bool true)], args := [d1, d2] }
  | _ => none }
def dyadBetweenRow : OpenClaim := { program := "ytnldjpnjifnbeaa", sum := "97a5c6eea73b2fe94be0e3959aec0202e8b2542be1902c587c671a428ed9c9c5", func := "ratchet/ratchetlaw06.DyadBetween", spec := "dyadBetween", inPlace := ["math/bits.Add64", "math/bits.Sub64"], unfollowed := true, recurses := true, named := ["math/bits.divideError", "math/bits.overflowError"], apart := false }
def DyadBetweenSaid : Prop := dyadBetweenRow.holds Try.pinned (OpenSpec.ofChange dyadBetweenSpec)

/-- ITS FALSE NEIGHBOUR: 'it returns false'. Refute it at one input. -/
def dyadBetweenWrong : ChangeSpec := { name := "dyadBetween", fn := fun _ => fun
  | [d1, d2] => { results := [.lit (.bool false)], args := [d1, d2] }
  | _ => none }
def DyadBetweenWrongFalsely : Prop := dyadBetweenRow.holds Try.pinned (OpenSpec.ofChange dyadBetweenWrong)

/-- 'ratchetlaw06.DyadOrder': WHATEVER THE INPUT: true; the input reads as it did. -/
def dyadOrderSpec : ChangeSpec := { name := "dyadOrder", fn := fun _ => fun
  | [d1, d2, d3] => { results := [.lit (.bool true)], args := [d1, d2, d3] }
  | _ => none }
def dyadOrderRow : OpenClaim := { program := "ytnldjpnjifnbeaa", sum := "97a5c6eea73b2fe94be0e3959aec0202e8b2542be1902c587c671a428ed9c9c5", func := "ratchet/ratchetlaw06.DyadOrder", spec := "dyadOrder", inPlace := ["math/bits.Add64", "math/bits.Sub64"], unfollowed := true, recurses := true, named := ["math/bits.divideError", "math/bits.overflowError"], apart := false }
def DyadOrderSaid : Prop := dyadOrderRow.holds Try.pinned (OpenSpec.ofChange dyadOrderSpec)

/-- ITS FALSE NEIGHBOUR: 'it returns false'. Refute it at one input. -/
def dyadOrderWrong : ChangeSpec := { name := "dyadOrder", fn := fun _ => fun
  | [d1, d2, d3] => { results := [.lit (.bool false)], args := [d1, d2, d3] }
  | _ => none }
def DyadOrderWrongFalsely : Prop := dyadOrderRow.holds Try.pinned (OpenSpec.ofChange dyadOrderWrong)

/-- 'ratchetlaw06.DyadBack': WHATEVER THE INPUT: true; the input reads as it did. -/
def dyadBackSpec : ChangeSpec := { name := "dyadBack", fn := fun _ => fun
  | [d1, d2] => { results := [.lit (.bool true)], args := [d1, d2] }
  | _ => none }
def dyadBackRow : OpenClaim := { program := "ytnldjpnjifnbeaa", sum := "97a5c6eea73b2fe94be0e3959aec0202e8b2542be1902c587c671a428ed9c9c5", func := "ratchet/ratchetlaw06.DyadBack", spec := "dyadBack", inPlace := ["math/bits.Add64", "math/bits.Sub64"], unfollowed := true, recurses := true, named := ["math/bits.divideError", "math/bits.overflowError"], apart := false }
def DyadBackSaid : Prop := dyadBackRow.holds Try.pinned (OpenSpec.ofChange dyadBackSpec)

/-- ITS FALSE NEIGHBOUR: 'it returns false'. Refute it at one input. -/
def dyadBackWrong : ChangeSpec := { name := "dyadBack", fn := fun _ => fun
  | [d1, d2] => { results := [.lit (.bool false)], args := [d1, d2] }
  | _ => none }
def DyadBackWrongFalsely : Prop := dyadBackRow.holds Try.pinned (OpenSpec.ofChange dyadBackWrong)

/-- 'ratchetlaw06.DyadSums': WHATEVER THE INPUT: true; the input reads as it did. -/
def dyadSumsSpec : ChangeSpec := { name := "dyadSums", fn := fun _ => fun
  | [d1, d2, d3] => { results := [.lit (.bool true)], args := [d1, d2, d3] }
  | _ => none }
def dyadSumsRow : OpenClaim := { program := "ytnldjpnjifnbeaa", sum := "97a5c6eea73b2fe94be0e3959aec0202e8b2542be1902c587c671a428ed9c9c5", func := "ratchet/ratchetlaw06.DyadSums", spec := "dyadSums", inPlace := ["math/bits.Add64", "math/bits.Sub64"], unfollowed := true, recurses := true, named := ["math/bits.divideError", "math/bits.overflowError"], apart := false }
def DyadSumsSaid : Prop := dyadSumsRow.holds Try.pinned (OpenSpec.ofChange dyadSumsSpec)

/-- ITS FALSE NEIGHBOUR: 'it returns false'. Refute it at one input. -/
def dyadSumsWrong : ChangeSpec := { name := "dyadSums", fn := fun _ => fun
  | [d1, d2, d3] => { results := [.lit (.bool false)], args := [d1, d2, d3] }
  | _ => none }
def DyadSumsWrongFalsely : Prop := dyadSumsRow.holds Try.pinned (OpenSpec.ofChange dyadSumsWrong)

/-- 'ratchetlaw06.DyadFiner': WHATEVER THE INPUT: true; the input reads as it did. -/
def dyadFinerSpec : ChangeSpec := { name := "dyadFiner", fn := fun _ => fun
  | [d1, d2, d3] => { results := [.lit (.bool true)], args := [d1, d2, d3] }
  | _ => none }
def dyadFinerRow : OpenClaim := { program := "ytnldjpnjifnbeaa", sum := "97a5c6eea73b2fe94be0e3959aec0202e8b2542be1902c587c671a428ed9c9c5", func := "ratchet/ratchetlaw06.DyadFiner", spec := "dyadFiner", inPlace := ["math/bits.Add64", "math/bits.Sub64"], unfollowed := true, recurses := true, named := ["math/bits.divideError", "math/bits.overflowError"], apart := false }
def DyadFinerSaid : Prop := dyadFinerRow.holds Try.pinned (OpenSpec.ofChange dyadFinerSpec)

/-- ITS FALSE NEIGHBOUR: 'it returns false'. Refute it at one input. -/
def dyadFinerWrong : ChangeSpec := { name := "dyadFiner", fn := fun _ => fun
  | [d1, d2, d3] => { results := [.lit (.bool false)], args := [d1, d2, d3] }
  | _ => none }
def DyadFinerWrongFalsely : Prop := dyadFinerRow.holds Try.pinned (OpenSpec.ofChange dyadFinerWrong)

/-- 'ratchetlaw05.RatTells': WHATEVER THE INPUT: true; the input reads as it did. -/
def ratTellsSpec : ChangeSpec := { name := "ratTells", fn := fun _ => fun
  | [d1, d2, d3] => { results := [.lit (.bool true)], args := [d1, d2, d3] }
  | _ => none }
def ratTellsRow : OpenClaim := { program := "ytnldjpnjifnbeaa", sum := "97a5c6eea73b2fe94be0e3959aec0202e8b2542be1902c587c671a428ed9c9c5", func := "ratchet/ratchetlaw05.RatTells", spec := "ratTells", inPlace := ["math/bits.Add64", "math/bits.Sub64"], unfollowed := true, recurses := true, named := ["math/bits.divideError", "math/bits.overflowError"], apart := false }
def RatTellsSaid : Prop := ratTellsRow.holds Try.pinned (OpenSpec.ofChange ratTellsSpec)

/-- ITS FALSE NEIGHBOUR: 'it returns false'. Refute it at one input. -/
def ratTellsWrong : ChangeSpec := { name := "ratTells", fn := fun _ => fun
  | [d1, d2, d3] => { results := [.lit (.bool false)], args := [d1, d2, d3] }
  | _ => none }
def RatTellsWrongFalsely : Prop := ratTellsRow.holds Try.pinned (OpenSpec.ofChange ratTellsWrong)

/-- 'ratchetlaw05.RatOne': WHATEVER THE INPUT: true; the input reads as it did. -/
def ratOneSpec : ChangeSpec := { name := "ratOne", fn := fun _ => fun
  | [d1, d2, d3] => { results := [.lit (.bool true)], args := [d1, d2, d3] }
  | _ => none }
def ratOneRow : OpenClaim := { program := "ytnldjpnjifnbeaa", sum := "97a5c6eea73b2fe94be0e3959aec0202e8b2542be1902c587c671a428ed9c9c5", func := "ratchet/ratchetlaw05.RatOne", spec := "ratOne", inPlace := ["math/bits.Add64", "math/bits.Sub64"], unfollowed := true, recurses := true, named := ["math/bits.divideError", "math/bits.overflowError"], apart := false }
def RatOneSaid : Prop := ratOneRow.holds Try.pinned (OpenSpec.ofChange ratOneSpec)

/-- ITS FALSE NEIGHBOUR: 'it returns false'. Refute it at one input. -/
def ratOneWrong : ChangeSpec := { name := "ratOne", fn := fun _ => fun
  | [d1, d2, d3] => { results := [.lit (.bool false)], args := [d1, d2, d3] }
  | _ => none }
def RatOneWrongFalsely : Prop := ratOneRow.holds Try.pinned (OpenSpec.ofChange ratOneWrong)

/-- 'ratchetlaw05.RatField': WHATEVER THE INPUT: true; the input reads as it did. -/
def ratFieldSpec : ChangeSpec := { name := "ratField", fn := fun _ => fun
  | [d1, d2, d3] => { results := [.lit (.bool true)], args := [d1, d2, d3] }
  | _ => none }
def ratFieldRow : OpenClaim := { program := "ytnldjpnjifnbeaa", sum := "97a5c6eea73b2fe94be0e3959aec0202e8b2542be1902c587c671a428ed9c9c5", func := "ratchet/ratchetlaw05.RatField", spec := "ratField", inPlace := ["math/bits.Add64", "math/bits.Sub64"], unfollowed := true, recurses := true, named := ["math/bits.divideError", "math/bits.overflowError"], apart := false }
def RatFieldSaid : Prop := ratFieldRow.holds Try.pinned (OpenSpec.ofChange ratFieldSpec)

/-- ITS FALSE NEIGHBOUR: 'it returns false'. Refute it at one input. -/
def ratFieldWrong : ChangeSpec := { name := "ratField", fn := fun _ => fun
  | [d1, d2, d3] => { results := [.lit (.bool false)], args := [d1, d2, d3] }
  | _ => none }
def RatFieldWrongFalsely : Prop := ratFieldRow.holds Try.pinned (OpenSpec.ofChange ratFieldWrong)

/-- 'ratchetlaw15.SchedEnds': WHATEVER THE INPUT: true; the input reads as it did. -/
def schedEndsSpec : ChangeSpec := { name := "schedEnds", fn := fun _ => fun
  | [d1, d2, d3] => { results := [.lit (.bool true)], args := [d1, d2, d3] }
  | _ => none }
def schedEndsRow : OpenClaim := { program := "ytnldjpnjifnbeaa", sum := "97a5c6eea73b2fe94be0e3959aec0202e8b2542be1902c587c671a428ed9c9c5", func := "ratchet/ratchetlaw15.SchedEnds", spec := "schedEnds", inPlace := ["math/bits.Add64", "math/bits.Sub64"], unfollowed := true, recurses := true, named := ["math/bits.divideError", "math/bits.overflowError"], apart := false }
def SchedEndsSaid : Prop := schedEndsRow.holds Try.pinned (OpenSpec.ofChange schedEndsSpec)

/-- ITS FALSE NEIGHBOUR: 'it returns false'. Refute it at one input. -/
def schedEndsWrong : ChangeSpec := { name := "schedEnds", fn := fun _ => fun
  | [d1, d2, d3] => { results := [.lit (.bool false)], args := [d1, d2, d3] }
  | _ => none }
def SchedEndsWrongFalsely : Prop := schedEndsRow.holds Try.pinned (OpenSpec.ofChange schedEndsWrong)

/-- 'ratchetlaw15.SchedAny': WHATEVER THE INPUT: true; the input reads as it did. -/
def schedAnySpec : ChangeSpec := { name := "schedAny", fn := fun _ => fun
  | [d1, d2, d3] => { results := [.lit (.bool true)], args := [d1, d2, d3] }
  | _ => none }
def schedAnyRow : OpenClaim := { program := "ytnldjpnjifnbeaa", sum := "97a5c6eea73b2fe94be0e3959aec0202e8b2542be1902c587c671a428ed9c9c5", func := "ratchet/ratchetlaw15.SchedAny", spec := "schedAny", inPlace := ["math/bits.Add64", "math/bits.Sub64"], unfollowed := true, recurses := true, named := ["math/bits.divideError", "math/bits.overflowError"], apart := false }
def SchedAnySaid : Prop := schedAnyRow.holds Try.pinned (OpenSpec.ofChange schedAnySpec)

/-- ITS FALSE NEIGHBOUR: 'it returns false'. Refute it at one input. -/
def schedAnyWrong : ChangeSpec := { name := "schedAny", fn := fun _ => fun
  | [d1, d2, d3] => { results := [.lit (.bool false)], args := [d1, d2, d3] }
  | _ => none }
def SchedAnyWrongFalsely : Prop := schedAnyRow.holds Try.pinned (OpenSpec.ofChange schedAnyWrong)

/- THE SECOND FORM. 'bulk': how many values and letters a reading holds, each counted each time it is reached (what is shared counts as often as it is met; a slice's spare places count too). A statement '..UptoSaid' is the law's where the arguments, and the package variables that the reading takes, are together of bulk at most 1048576: NARROWER than '..Said'. Prove '..Said' where nothing that the law and all that it calls make is longer than what came in: it says more and counts as full. Else prove '..UptoSaid'. A law counts once. -/
mutual
def uptoBulk {H : Type} : DataW H → Nat
  | .lit (.string bytes) => bytes.length + 1
  | .lit _ => 1
  | .nil => 1
  | .ptr d => uptoBulk d + 1
  | .slice elems spare => uptoBulkAll elems + uptoBulkAll spare + 1
  | .agg parts => uptoBulkAll parts + 1
  | .iface _ d => uptoBulk d + 1
  | .map entries => uptoBulkEntries entries + 1
  | .held _ => 1
def uptoBulkAll {H : Type} : List (DataW H) → Nat
  | [] => 0
  | d :: r => uptoBulk d + uptoBulkAll r
def uptoBulkEntries {H : Type} : List (Lit × DataW H) → Nat
  | [] => 0
  | x :: r => uptoBulkEntry x + uptoBulkEntries r
def uptoBulkEntry {H : Type} : Lit × DataW H → Nat
  | (.string bytes, d) => bytes.length + uptoBulk d + 1
  | (_, d) => uptoBulk d + 1
 end
def uptoSmall : (H : Type) → List (DataW H) → Bool := fun _ ds => decide (uptoBulkAll ds ≤ 1048576)
def OpenSpec.upto (s : _root_.Go.ChangeSpec) : _root_.Go.OpenSpec := { _root_.Go.OpenSpec.ofChange s with cond := some uptoSmall }

/-- 'ratchetlaw06.DyadTells', WHERE WHAT IT READS IS OF BULK AT MOST 1048576: true; the input reads as it did. -/
def dyadTellsUptoRow : OpenClaim := { program := "ytnldjpnjifnbeaa", sum := "97a5c6eea73b2fe94be0e3959aec0202e8b2542be1902c587c671a428ed9c9c5", func := "ratchet/ratchetlaw06.DyadTells", spec := "dyadTells", inPlace := ["math/bits.Add64", "math/bits.Sub64"], unfollowed := true, recurses := true, named := ["math/bits.divideError", "math/bits.overflowError"], apart := false, narrowed := true }
def DyadTellsUptoSaid : Prop := dyadTellsUptoRow.holds Try.pinned (OpenSpec.upto dyadTellsSpec)

/-- 'ratchetlaw06.DyadBetween', WHERE WHAT IT READS IS OF BULK AT MOST 1048576: true; the input reads as it did. -/
def dyadBetweenUptoRow : OpenClaim := { program := "ytnldjpnjifnbeaa", sum := "97a5c6eea73b2fe94be0e3959aec0202e8b2542be1902c587c671a428ed9c9c5", func := "ratchet/ratchetlaw06.DyadBetween", spec := "dyadBetween", inPlace := ["math/bits.Add64", "math/bits.Sub64"], unfollowed := true, recurses := true, named := ["math/bits.divideError", "math/bits.overflowError"], apart := false, narrowed := true }
def DyadBetweenUptoSaid : Prop := dyadBetweenUptoRow.holds Try.pinned (OpenSpec.upto dyadBetweenSpec)

/-- 'ratchetlaw06.DyadOrder', WHERE WHAT IT READS IS OF BULK AT MOST 1048576: true; the input reads as it did. -/
def dyadOrderUptoRow : OpenClaim := { program := "ytnldjpnjifnbeaa", sum := "97a5c6eea73b2fe94be0e3959aec0202e8b2542be1902c587c671a428ed9c9c5", func := "ratchet/ratchetlaw06.DyadOrder", spec := "dyadOrder", inPlace := ["math/bits.Add64", "math/bits.Sub64"], unfollowed := true, recurses := true, named := ["math/bits.divideError", "math/bits.overflowError"], apart := false, narrowed := true }
def DyadOrderUptoSaid : Prop := dyadOrderUptoRow.holds Try.pinned (OpenSpec.upto dyadOrderSpec)

/-- 'ratchetlaw06.DyadBack', WHERE WHAT IT READS IS OF BULK AT MOST 1048576: true; the input reads as it did. -/
def dyadBackUptoRow : OpenClaim := { program := "ytnldjpnjifnbeaa", sum := "97a5c6eea73b2fe94be0e3959aec0202e8b2542be1902c587c671a428ed9c9c5", func := "ratchet/ratchetlaw06.DyadBack", spec := "dyadBack", inPlace := ["math/bits.Add64", "math/bits.Sub64"], unfollowed := true, recurses := true, named := ["math/bits.divideError", "math/bits.overflowError"], apart := false, narrowed := true }
def DyadBackUptoSaid : Prop := dyadBackUptoRow.holds Try.pinned (OpenSpec.upto dyadBackSpec)

/-- 'ratchetlaw06.DyadSums', WHERE WHAT IT READS IS OF BULK AT MOST 1048576: true; the input reads as it did. -/
def dyadSumsUptoRow : OpenClaim := { program := "ytnldjpnjifnbeaa", sum := "97a5c6eea73b2fe94be0e3959aec0202e8b2542be1902c587c671a428ed9c9c5", func := "ratchet/ratchetlaw06.DyadSums", spec := "dyadSums", inPlace := ["math/bits.Add64", "math/bits.Sub64"], unfollowed := true, recurses := true, named := ["math/bits.divideError", "math/bits.overflowError"], apart := false, narrowed := true }
def DyadSumsUptoSaid : Prop := dyadSumsUptoRow.holds Try.pinned (OpenSpec.upto dyadSumsSpec)

/-- 'ratchetlaw06.DyadFiner', WHERE WHAT IT READS IS OF BULK AT MOST 1048576: true; the input reads as it did. -/
def dyadFinerUptoRow : OpenClaim := { program := "ytnldjpnjifnbeaa", sum := "97a5c6eea73b2fe94be0e3959aec0202e8b2542be1902c587c671a428ed9c9c5", func := "ratchet/ratchetlaw06.DyadFiner", spec := "dyadFiner", inPlace := ["math/bits.Add64", "math/bits.Sub64"], unfollowed := true, recurses := true, named := ["math/bits.divideError", "math/bits.overflowError"], apart := false, narrowed := true }
def DyadFinerUptoSaid : Prop := dyadFinerUptoRow.holds Try.pinned (OpenSpec.upto dyadFinerSpec)

/-- 'ratchetlaw05.RatTells', WHERE WHAT IT READS IS OF BULK AT MOST 1048576: true; the input reads as it did. -/
def ratTellsUptoRow : OpenClaim := { program := "ytnldjpnjifnbeaa", sum := "97a5c6eea73b2fe94be0e3959aec0202e8b2542be1902c587c671a428ed9c9c5", func := "ratchet/ratchetlaw05.RatTells", spec := "ratTells", inPlace := ["math/bits.Add64", "math/bits.Sub64"], unfollowed := true, recurses := true, named := ["math/bits.divideError", "math/bits.overflowError"], apart := false, narrowed := true }
def RatTellsUptoSaid : Prop := ratTellsUptoRow.holds Try.pinned (OpenSpec.upto ratTellsSpec)

/-- 'ratchetlaw05.RatOne', WHERE WHAT IT READS IS OF BULK AT MOST 1048576: true; the input reads as it did. -/
def ratOneUptoRow : OpenClaim := { program := "ytnldjpnjifnbeaa", sum := "97a5c6eea73b2fe94be0e3959aec0202e8b2542be1902c587c671a428ed9c9c5", func := "ratchet/ratchetlaw05.RatOne", spec := "ratOne", inPlace := ["math/bits.Add64", "math/bits.Sub64"], unfollowed := true, recurses := true, named := ["math/bits.divideError", "math/bits.overflowError"], apart := false, narrowed := true }
def RatOneUptoSaid : Prop := ratOneUptoRow.holds Try.pinned (OpenSpec.upto ratOneSpec)

/-- 'ratchetlaw05.RatField', WHERE WHAT IT READS IS OF BULK AT MOST 1048576: true; the input reads as it did. -/
def ratFieldUptoRow : OpenClaim := { program := "ytnldjpnjifnbeaa", sum := "97a5c6eea73b2fe94be0e3959aec0202e8b2542be1902c587c671a428ed9c9c5", func := "ratchet/ratchetlaw05.RatField", spec := "ratField", inPlace := ["math/bits.Add64", "math/bits.Sub64"], unfollowed := true, recurses := true, named := ["math/bits.divideError", "math/bits.overflowError"], apart := false, narrowed := true }
def RatFieldUptoSaid : Prop := ratFieldUptoRow.holds Try.pinned (OpenSpec.upto ratFieldSpec)

/-- 'ratchetlaw15.SchedEnds', WHERE WHAT IT READS IS OF BULK AT MOST 1048576: true; the input reads as it did. -/
def schedEndsUptoRow : OpenClaim := { program := "ytnldjpnjifnbeaa", sum := "97a5c6eea73b2fe94be0e3959aec0202e8b2542be1902c587c671a428ed9c9c5", func := "ratchet/ratchetlaw15.SchedEnds", spec := "schedEnds", inPlace := ["math/bits.Add64", "math/bits.Sub64"], unfollowed := true, recurses := true, named := ["math/bits.divideError", "math/bits.overflowError"], apart := false, narrowed := true }
def SchedEndsUptoSaid : Prop := schedEndsUptoRow.holds Try.pinned (OpenSpec.upto schedEndsSpec)

/-- 'ratchetlaw15.SchedAny', WHERE WHAT IT READS IS OF BULK AT MOST 1048576: true; the input reads as it did. -/
def schedAnyUptoRow : OpenClaim := { program := "ytnldjpnjifnbeaa", sum := "97a5c6eea73b2fe94be0e3959aec0202e8b2542be1902c587c671a428ed9c9c5", func := "ratchet/ratchetlaw15.SchedAny", spec := "schedAny", inPlace := ["math/bits.Add64", "math/bits.Sub64"], unfollowed := true, recurses := true, named := ["math/bits.divideError", "math/bits.overflowError"], apart := false, narrowed := true }
def SchedAnyUptoSaid : Prop := schedAnyUptoRow.holds Try.pinned (OpenSpec.upto schedAnySpec)

end Rows
end Go.Proofs.Ytnldjpnjifnbeaa
