/-
  Intervals as they are handed in: taken apart.
-/
import Derived.Test.YthmncdhibcoiaaaGreatOpen
import Derived.Test.YthmncdhibcoiaaaGreatClose
namespace Go.Rt
open Go Go.RowKit Go.Proofs Go.WideShapes Go.ChangeShapes

section

variable {H : Type} {enc : TypeId × Value → H} {P : Program} {W : World} {base : Nat}

theorem open_span {ts tr tz tb tn e : TypeId} {f0 f1 g0 g1 k0 k1 : Field} {v : Value} {d : DataW H} {ps : List MemPlace} (hs : P.underlying ts = some (.struct #[k0, k1])) (c1 : k0.type = tr) (c2 : k0.offset = 0) (c3 : k1.type = tr) (c4 : k1.offset = 3)
    (hr : P.underlying tr = some (.struct #[g0, g1])) (d1 : g0.type = tz) (d2 : g0.offset = 0) (d3 : g1.type = tn) (d4 : g1.offset = 2)
    (hz : P.underlying tz = some (.struct #[f0, f1])) (e1 : f0.type = tb) (e2 : f0.offset = 0) (e3 : f1.type = tn) (e4 : f1.offset = 1)
    (hb : P.underlying tb = some .bool) (hn : P.underlying tn = some (.slice e)) (he : P.underlying e = some (.int .u64)) (hc : P.cellsOf e = 1) (hcn : P.cellsOf tn = 1) (hcz : P.cellsOf tz = 2) (hcr : P.cellsOf tr = 3) (hcs : P.cellsOf ts = 6) (hts : P.cellTypes P.depth ts = some [tb, tn, tn, tb, tn, tn])
    (ho : Value.okWide P W .any base ts v) (h : DataW.Trod enc P W 0 (fun _ => true) true ts v d ps) :
    ∃ b a l c a' l' c' b2 a2 l2 c2 a2' l2' c2' xs ys us zs, v = .agg #[.bool b, .slice a l c, .slice a' l' c', .bool b2, .slice a2 l2 c2, .slice a2' l2' c2'] ∧ Nt W (.slice a l c) xs ∧ Nt W (.slice a' l' c') ys ∧ Nt W (.slice a2 l2 c2) us ∧ Nt W (.slice a2' l2' c2') zs := by
  have ho2 := ho
  obtain ⟨cs, rfl, hsz⟩ := okWide_struct hs ho
  rw [hcs] at hsz
  simp only [Value.okWide, hs] at ho2
  obtain ⟨cs', ec, -, ts', hts', -, hcell⟩ := ho2
  cases ec
  rw [hts] at hts'
  cases hts'
  obtain ⟨n, hf⟩ := h
  obtain ⟨L⟩ := cs
  match L, hsz, hcell, hf with
  | [v0, v1, v2, v3, v4, v5], _, hcell, hf =>
    obtain ⟨u0, hu0, o0⟩ := hcell 0 v0 rfl
    obtain ⟨u1, hu1, o1⟩ := hcell 1 v1 rfl
    obtain ⟨u2, hu2, o2⟩ := hcell 2 v2 rfl
    obtain ⟨u3, hu3, o3⟩ := hcell 3 v3 rfl
    obtain ⟨u4, hu4, o4⟩ := hcell 4 v4 rfl
    obtain ⟨u5, hu5, o5⟩ := hcell 5 v5 rfl
    cases hu0
    cases hu1
    cases hu2
    cases hu3
    cases hu4
    cases hu5
    have hf2 : DataW.trod enc P W 0 (fun _ => true) true n ts [v0, v1, v2, v3, v4, v5] = some (d, ps) := by simpa [Value.cells] using hf
    obtain ⟨y0, y1, m, -, -, h0, h1⟩ := trod_struct2 hs hf2
    rw [c1, c2, hcr] at h0
    rw [c3, c4, hcr] at h1
    obtain ⟨b, a, l, c, a', l', c', xs, ys, rfl, rfl, rfl, hx, hy⟩ := open_rat_cells hr d1 d2 d3 d4 hz e1 e2 e3 e4 hb hn he hc hcn hcz o0 o1 o2 (by simpa using h0)
    obtain ⟨b2, a2, l2, c2, a2', l2', c2', us, zs, rfl, rfl, rfl, hu, hv⟩ := open_rat_cells hr d1 d2 d3 d4 hz e1 e2 e3 e4 hb hn he hc hcn hcz o3 o4 o5 (by simpa using h1)
    exact ⟨_, _, _, _, _, _, _, _, _, _, _, _, _, _, xs, ys, us, zs, rfl, hx, hy, hu, hv⟩
end

set_option maxRecDepth 100000 in
theorem Tryz.openSpan {H : Type} {enc : TypeId × Value → H} {W : World} {base : Nat} {v : Value} {d : DataW H} {ps : List MemPlace} (ho : Value.okWide Go.Proofs.Tryz.prog W .any base 29 v) (h : DataW.Trod enc Go.Proofs.Tryz.prog W 0 (fun _ => true) true 29 v d ps) :
    ∃ b a l c a' l' c' b2 a2 l2 c2 a2' l2' c2' xs ys us zs, v = .agg #[.bool b, .slice a l c, .slice a' l' c', .bool b2, .slice a2 l2 c2, .slice a2' l2' c2'] ∧ Nt W (.slice a l c) xs ∧ Nt W (.slice a' l' c') ys ∧ Nt W (.slice a2 l2 c2) us ∧ Nt W (.slice a2' l2' c2') zs :=
  open_span Go.Proofs.Tryz.underlying29 rfl rfl rfl rfl Go.Proofs.Tryz.underlying27 rfl rfl rfl rfl Go.Proofs.Tryz.underlying25 rfl rfl rfl rfl Go.Proofs.Tryz.underlying4 Go.Proofs.Tryz.underlying23 Go.Proofs.Tryz.underlying43 (by kernel_rfl) (by kernel_rfl) (by kernel_rfl) (by kernel_rfl) (by kernel_rfl) (by kernel_rfl) ho h
end Go.Rt
