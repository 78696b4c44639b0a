/-
  ClipSides: the given statement, proved: for every input the law returns true, and its arguments read afterwards as they read before. No condition.
-/
import Derived.Test.YtfgmfhdcdhanbaaClose
import Derived.Test.YtfgmfhdcdhanbaaGP
import Derived.Test.YtfgmfhdcdhanbaaLaw16b
namespace Go.Proofs.Ytfgmfhdcdhanbaa.clipSides
open Go.Rt Go.ChangeShapes Go.WideShapes Go.ChangeAt Go.RowKit
theorem own : ownKnob Try.prog.godebug = none := by kernel_rfl

theorem laidOut : laidOutB Try.prog = true := by kernel_rfl

set_option maxRecDepth 100000 in
theorem lifted (os : Os) (started : os.Started) (H : Type) (enc : TypeId × Value → H) :
    ReturnsInHanded {} Try.checked os 5 .any (Rows.clipSidesSpec.pre6 enc Try.prog Try.f5 Rows.clipSidesRow.domain false) (Rows.clipSidesSpec.post enc Try.prog Try.f5 false true false false) := by
  refine returnsInHanded_of_change (C := Try.checked) own started (by kernel_rfl) Try.func5
    (ChangeSpec.witness6 (enc := enc) (C := Try.checked) false ⟨#[], #[.slice none 0 0, .slice none 0 0, .int .i64 0], []⟩ 8 (by kernel_rfl) (by kernel_rfl) (by kernel_rfl) (by kernel_rfl)) ?_
  intro W base args ds gs before hval hW _ _
  have hW' := hW
  obtain ⟨p, q, hA0, hV, rfl, -, -⟩ := hW
  have hA : DataW.TrodAll enc Try.prog W 0 (fun _ => true) true Try.f5.params.toList args.toList ds p := hA0
  have hA' := hA
  obtain ⟨rfl, rfl⟩ := trodVars_none hV
  rw [List.append_nil] at hW'
  rw [Try.params5] at hA hval
  obtain ⟨v0, vs0, d0, ds0, p0, q0, hargs, rfl, -, h0, r0⟩ := trodAll_cons hA
  obtain ⟨v1, vs1, d1, ds1, p1, q1, rfl, rfl, -, h1, r1⟩ := trodAll_cons r0
  obtain ⟨v2, vs2, d2, ds2, p2, q2, rfl, rfl, -, h2, r2⟩ := trodAll_cons r1
  obtain ⟨rfl, rfl, -⟩ := trodAll_nil r2
  obtain rfl : args = #[v0, v1, v2] := by cases args; simp_all
  obtain ⟨_, _, _, _, rfl, n0⟩ := Try.openRow1 (hval 0 31 v0 rfl rfl) h0
  obtain ⟨x1, n1⟩ := open_nat Try.underlying26 Try.underlying43 (by kernel_rfl) (hval 1 26 v1 rfl rfl) h1
  obtain ⟨_, _, _, _, e1, -⟩ := id n1
  subst e1
  obtain ⟨x2, rfl, -, -, w2⟩ := open_int Try.underlying2 (hval 2 2 v2 rfl rfl) h2
  refine (Try.lawClipSides _ (i64_of_wf w2) n0 n1).mono fun e W' ⟨he, hb⟩ => ?_
  subst he
  exact ⟨_, rfl, law_post laidOut rfl rfl Try.underlying4 (by kernel_rfl) rfl hW' hA' hb⟩

theorem over : Rows.clipSidesRow.holds Try.pinned (OpenSpec.ofChange Rows.clipSidesSpec) :=
  OpenClaim.holds_of_wide 5 Try.f5 rfl rfl rfl rfl rfl rfl rfl ⟨rfl, rfl, rfl, rfl, rfl⟩ rfl rfl rfl rfl rfl (by kernel_rfl) Try.func5 (by kernel_rfl)
    (of_decide_eq_true (by kernel_rfl)) (by unfold Func.isWrapper; first | (rw [if_pos (by decide +kernel)]; kernel_rfl) | (rw [if_neg (by decide +kernel)]; exact ⟨rfl, rfl⟩))
    (fun os started H enc _ => lifted os started H enc)

theorem proved : Rows.ClipSidesSaid := over
end Go.Proofs.Ytfgmfhdcdhanbaa.clipSides
