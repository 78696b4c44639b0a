/-
  The laws of chapter 18 (Adam): Powers. Adams as they are handed in.
-/
import Derived.Test.YtlkinepafpbhhaaAdamF
import Derived.Test.YtlkinepafpbhhaaOpenP
namespace Go.Rt
open Go Go.RowKit Go.Proofs Go.WideShapes Go.ChangeShapes

theorem array6 {α : Type} {cs : Array α} (h : cs.size = 6) : ∃ c0 c1 c2 c3 c4 c5, cs = #[c0, c1, c2, c3, c4, c5] := by
  obtain ⟨l⟩ := cs
  match l, h with
  | [c0, c1, c2, c3, c4, c5], _ => exact ⟨c0, c1, c2, c3, c4, c5, rfl⟩

theorem cell_int64 {P : Program} {W : World} {base : Nat} {t : TypeId} {v : Value} (ht : P.underlying t = some (.int .i64)) (h : Cell.okWide P W .any base t v) : ∃ n : Int, v = .int .i64 n ∧ I64 n := by
  have h' : Value.okWide P W .any base t v := by simp only [Value.okWide, ht]; exact h
  obtain ⟨n, rfl⟩ := okWide_int ht h'
  refine ⟨n, rfl, ?_⟩
  simp [Cell.okWide, Cell.ok, ht, IntKind.has, IntKind.min, IntKind.max, IntKind.signed, IntKind.bits] at h
  exact ⟨by omega, by omega⟩

theorem cell_bool {P : Program} {W : World} {base : Nat} {t : TypeId} {v : Value} (ht : P.underlying t = some .bool) (h : Cell.okWide P W .any base t v) : ∃ b, v = .bool b := by
  have h' : Value.okWide P W .any base t v := by simp only [Value.okWide, ht]; exact h
  exact okWide_bool ht h'

theorem open_adam {P : Program} {W : World} {base : Nat} {t ti tb : TypeId} {fs : Array Field} {v : Value} (ht : P.underlying t = some (.struct fs)) (hct : P.cellsOf t = 6) (hts : P.cellTypes P.depth t = some [ti, ti, ti, ti, ti, tb]) (hi : P.underlying ti = some (.int .i64)) (hb : P.underlying tb = some .bool)
    (ho : Value.okWide P W .any base t v) : ∃ (x0 x1 x2 x3 x4 : Int) (b : Bool), v = .agg #[.int .i64 x0, .int .i64 x1, .int .i64 x2, .int .i64 x3, .int .i64 x4, .bool b] ∧ I64 x0 ∧ I64 x1 ∧ I64 x2 ∧ I64 x3 ∧ I64 x4 := by
  simp only [Value.okWide, ht] at ho
  obtain ⟨cs, rfl, hsz, ts', hts', -, hcell⟩ := ho
  rw [hts] at hts'
  cases hts'
  obtain ⟨c0, c1, c2, c3, c4, c5, rfl⟩ := array6 (hsz.trans hct)
  obtain ⟨u0, hu0, o0⟩ := hcell 0 c0 rfl
  obtain ⟨u1, hu1, o1⟩ := hcell 1 c1 rfl
  obtain ⟨u2, hu2, o2⟩ := hcell 2 c2 rfl
  obtain ⟨u3, hu3, o3⟩ := hcell 3 c3 rfl
  obtain ⟨u4, hu4, o4⟩ := hcell 4 c4 rfl
  obtain ⟨u5, hu5, o5⟩ := hcell 5 c5 rfl
  cases hu0
  cases hu1
  cases hu2
  cases hu3
  cases hu4
  cases hu5
  obtain ⟨x0, rfl, k0⟩ := cell_int64 hi o0
  obtain ⟨x1, rfl, k1⟩ := cell_int64 hi o1
  obtain ⟨x2, rfl, k2⟩ := cell_int64 hi o2
  obtain ⟨x3, rfl, k3⟩ := cell_int64 hi o3
  obtain ⟨x4, rfl, k4⟩ := cell_int64 hi o4
  obtain ⟨b, rfl⟩ := cell_bool hb o5
  exact ⟨x0, x1, x2, x3, x4, b, rfl, k0, k1, k2, k3, k4⟩

set_option maxRecDepth 100000 in
theorem Try.openAdam {W : World} {base : Nat} {v : Value} (ho : Value.okWide Go.Proofs.Try.prog W .any base 23 v) :
    ∃ (x0 x1 x2 x3 x4 : Int) (b : Bool), v = .agg #[.int .i64 x0, .int .i64 x1, .int .i64 x2, .int .i64 x3, .int .i64 x4, .bool b] ∧ I64 x0 ∧ I64 x1 ∧ I64 x2 ∧ I64 x3 ∧ I64 x4 :=
  open_adam (ti := 2) (tb := 4) Go.Proofs.Try.underlying23 (by kernel_rfl) (by kernel_rfl) Go.Proofs.Try.underlying2 Go.Proofs.Try.underlying4 ho

theorem i64_wf {n : Int} (h : (Lit.int .i64 n).wf = true) : I64 n := wf_i64 h


end Go.Rt
