/-
 Adam: a step of rows by the program: made place by place; refused as a whole, if one place is.
-/
import Derived.Test.YtgnmaeolgfijpaaGY
import Derived.Test.YtgnmaeolgfijpaaAdamB
import Derived.Recover
import Derived.Laws.Pointers
namespace Go.Rt
open Go Go.RowKit Go.Proofs

theorem run_assert_int {P : Program} {w : World} (t xT : TypeId) {k : IntKind} (v : Value) (h : P.underlying t = some (.int k)) : (Instr.typeAssert (.iface t v) xT t false).run P w = .ok v w := by
 simp [Instr.typeAssert, run_underlying h, go_sem, Result.andThen]

theorem grow_some {α : Type} {f : Nat → Option α} {k : Nat} {r : α} (h : ∀ j, j < k → f j ≠ none) (hk : f k = some r) : ∀ j, j < k + 1 → f j ≠ none := fun j hj => by
 rcases Nat.lt_or_ge j k with h1 | h1
 ·exact h j h1
 ·obtain rfl : j = k := by omega
  rw [hk]
  simp

def outL (n : Nat) (f : Nat → Int) : List Int := (List.range n).map f

def partL (n k : Nat) (f : Nat → Int) : List Int := (List.range n).map fun i => if i < k then f i else 0

theorem partL_len (n k : Nat) (f : Nat → Int) : (partL n k f).length = n := by simp [partL]

theorem partL_zero (n : Nat) (f : Nat → Int) : partL n 0 f = List.replicate n 0 := by
 apply List.ext_getElem
 ·simp [partL]
 ·intro i h1 h2
  simp [partL]

theorem partL_full (n : Nat) (f : Nat → Int) : partL n n f = outL n f := by
 unfold partL outL
 apply List.map_congr_left
 intro i hi
 rw [List.mem_range] at hi
 exact if_pos hi

theorem partL_set {n k : Nat} {f : Nat → Int} {x : Int} (hx : f k = x) : (partL n k f).set k x = partL n (k + 1) f := by
 apply List.ext_getElem
 ·simp [partL]
 ·intro i h1 h2
  simp only [partL, List.length_map, List.length_range] at h2
  rw [List.getElem_set]
  by_cases e : k = i
  ·subst e
   rw [if_pos rfl]
   simp [partL, hx]
  ·rw [if_neg e]
   simp only [partL, List.getElem_map, List.getElem_range]
   by_cases h : i < k
   ·rw [if_pos h, if_pos (by omega)]
   ·rw [if_neg h, if_neg (by omega)]

/-- a place's parts, nought where it is not there -/
def p1of (o : Option (Int × Int × Int)) : Int := (o.getD (0, 0, 0)).1

def p2of (o : Option (Int × Int × Int)) : Int := (o.getD (0, 0, 0)).2.1

def p3of (o : Option (Int × Int × Int)) : Int := (o.getD (0, 0, 0)).2.2

theorem getD_i64 {o : Option (Int × Int × Int)} (h : ∀ x y z, o = some (x, y, z) → I64 x ∧ I64 y ∧ I64 z) : I64 (p1of o) ∧ I64 (p2of o) ∧ I64 (p3of o) := by
 cases o with
 | none => exact ⟨⟨by decide, by decide⟩, ⟨by decide, by decide⟩, ⟨by decide, by decide⟩⟩
 | some r => exact h r.1 r.2.1 r.2.2 rfl

theorem lessO_i64 {K : Nat} {A : AdamP} {w n y : Int} (h : lessO K A w n = some y) (hn : I64 n) : I64 y := by
 unfold lessO at h
 split at h
 ·simp only [Option.bind_eq_some_iff] at h
  obtain ⟨_, _, _, _, h⟩ := h
  exact okZ_i64 h
 ·cases h
  exact hn

theorem place_i64 {K : Nat} {A : AdamP} {p0 p1 w m v g x y z : Int} (h : placeO K A p0 p1 w m v g = some (x, y, z)) : I64 x ∧ I64 y ∧ I64 z := by
 unfold placeO at h
 simp only [Option.bind_eq_some_iff, Option.some.injEq, Prod.mk.injEq] at h
 obtain ⟨d, h1, m', h2, q, h3, v', h4, x', h5, y', h6, s, h7, u, h8, t, h9, n, h10, n', h11, rfl, rfl, rfl⟩ := h
 exact ⟨lessO_i64 h11 (okZ_i64 h10), mixO_i64 h2, mixO_i64 h4⟩

theorem outL_i64 {n : Nat} {f : Nat → Int} (h : ∀ i, I64 (f i)) : ∀ x ∈ outL n f, I64 x := by
 intro x hx
 unfold outL at hx
 rw [List.mem_map] at hx
 obtain ⟨i, -, rfl⟩ := hx
 exact h i

theorem Try.makeI64 (n : Nat) (hn : n ≤ 1000) (w : World) : (Instr.makeSlice 25 (.int .i64 (n : Int)) (.int .i64 (n : Int))).run Try.prog w = .ok (.slice (some ⟨w.heap.size, 0, none⟩) n n) (w.alloc (.cells (madeCells #[.int .i64 0] n) 2)) :=
 run_make_row' _ _ _ 8 Try.underlying25 (by kernel_rfl) rfl .i64 .i64 n (by omega) (by omega) w

theorem Try.adamPlaceS {K : Nat} {lr b1 b2 eps wd p0 p1 wt mt vt gt x y z : Int} {ap : Bool} (h : PlaceIn K ⟨lr, b1, b2, eps, wd, ap⟩ p0 p1 wt mt vt gt) (hp : placeO K ⟨lr, b1, b2, eps, wd, ap⟩ p0 p1 wt mt vt gt = some (x, y, z)) (w : World) :
  Calls Try.prog 45 #[.agg #[.int .i64 (K : Int)], .agg #[.int .i64 lr, .int .i64 b1, .int .i64 b2, .int .i64 eps, .int .i64 wd, .bool ap], .agg #[.int .i64 p0, .int .i64 p1], .int .i64 wt, .int .i64 mt, .int .i64 vt, .int .i64 gt] w fun e w' => e = .returned (.tuple #[.int .i64 x, .int .i64 y, .int .i64 z]) ∧ Ext w w' := by
 cases ap
 ·have := Try.adamPlaceB h w
  rw [hp] at this
  exact this
 ·have := Try.adamPlaceA h w
  rw [hp] at this
  exact this

theorem Try.adamPlaceN {K : Nat} {lr b1 b2 eps wd p0 p1 wt mt vt gt : Int} {ap : Bool} (h : PlaceIn K ⟨lr, b1, b2, eps, wd, ap⟩ p0 p1 wt mt vt gt) (hp : placeO K ⟨lr, b1, b2, eps, wd, ap⟩ p0 p1 wt mt vt gt = none) (w : World) :
  Calls Try.prog 45 #[.agg #[.int .i64 (K : Int)], .agg #[.int .i64 lr, .int .i64 b1, .int .i64 b2, .int .i64 eps, .int .i64 wd, .bool ap], .agg #[.int .i64 p0, .int .i64 p1], .int .i64 wt, .int .i64 mt, .int .i64 vt, .int .i64 gt] w fun e w' => (∃ c : Int, c ≠ 0 ∧ e = .panicked [{ v := .iface 82 (.int .i64 c), recovered := false }]) ∧ Ext w w' := by
 cases ap
 ·have := Try.adamPlaceB h w
  rw [hp] at this
  exact this
 ·have := Try.adamPlaceA h w
  rw [hp] at this
  exact this

set_option maxRecDepth 100000 in
set_option maxHeartbeats 4000000 in
theorem Try.adamCatch {g8 g9 : Nat} (hne : g8 ≠ g9) {c y : Int} (hc : c ≠ 0) {w : World} (h8 : Form4 w g8 27) (h9 : BxA w g9 32 #[.int .i64 y]) :
  CallsD Try.prog 44 #[.pointer (some ⟨g8, 0, none⟩), .pointer (some ⟨g9, 0, none⟩)] (.panicking [{ v := .iface 82 (.int .i64 c), recovered := false }]) w fun e u' w' =>
   e = .returned (.tuple #[]) ∧ u' = .panicking [{ v := .iface 82 (.int .i64 c), recovered := true }] ∧ Apart [g8, g9] w w' ∧ BxA w' g8 27 #[.slice none 0 0, .slice none 0 0, .slice none 0 0, .slice none 0 0] ∧ BxA w' g9 32 #[.int .i64 2] := by
 obtain ⟨x0, x1, x2, x3, k0, k1, k2, k3, hz⟩ := h8.cells
 have z0 := hz 0
 have z1 := hz 1
 have z2 := hz 2
 have z3 := hz 3
 have k9 := h9.cell 0 (v := .int .i64 y) rfl
 have z9 : w.frozen? ⟨g9, 0, none⟩ = false := by simp [World.frozen?, show w.heap[g9]? = _ from h9]
 have hcb : (c != 0) = true := bne_iff_ne.2 hc
 have hta : ∀ (xT : TypeId) (W : World), (Instr.typeAssert (.iface 82 (.int .i64 c)) xT 82 false).run Try.prog W = .ok (.int .i64 c) W := fun xT W => run_assert_int _ xT _ Try.underlying82
 refine callsD_of_wpS Try.func44 rfl fun c₀ cs hu => ?_
 apply wpS_seq
 apply wpS_region
 simp [wpOpsS, go_sem, recoverD, hu, Try.ntmps44, Exit.thenS]
 refine wpS_of_wp ?_
 change Code.wp _ _ _ { tmps := #[.pointer (some ⟨g8, 0, none⟩), .pointer (some ⟨g9, 0, none⟩), .iface 82 (.int .i64 c), .iface 82 (.int .i64 c), undef, undef, undef, undef, undef, undef, undef, undef], defers := [] } _
 have HU := Lib.hid hu
 have H8 := Lib.hid h8
 have H9 := Lib.hid h9
 clear hu h8 h9 hz; go_wp2
 obtain ⟨W2, hW2, hw, hq⟩ := H8.out.put none 0 0 none 0 0 none 0 0 none 0 0
 rw [← hW2]
 have h9' : RowI W2 g9 32 [y] := BxA.wr H9.out hw (Ne.symm hne)
 have hw2 := Wr.row h9' 0 2
 have hq2 := h9'.set 0 2
 exact ⟨rfl, _, rfl, .tuple #[], by simp [results, Try.results44, go_sem], rfl, rfl, (hw.apart.mono (by simp)).trans (Apart.setCell (p := ⟨g9, 0, none⟩) _ (by simp) _), hq.wr hw2 hne, hq2⟩

set_option maxRecDepth 100000 in
set_option maxHeartbeats 4000000 in
theorem Try.adamIdle (p q : Addr) (w : World) :
  CallsD Try.prog 44 #[.pointer (some p), .pointer (some q)] .returning w fun e u' w' => e = .returned (.tuple #[]) ∧ u' = .returning ∧ w' = w := by
 refine callsD_of_wpS Try.func44 rfl fun c₀ cs hu => ?_
 apply wpS_seq
 apply wpS_region
 simp [wpOpsS, go_sem, recoverD, hu, Try.ntmps44, Exit.thenS]
 refine wpS_of_wp ?_
 change Code.wp _ _ _ { tmps := #[.pointer (some p), .pointer (some q), .nilIface, .nilIface, undef, undef, undef, undef, undef, undef, undef, undef], defers := [] } _
 have HU := Lib.hid hu
 clear hu; go_wp2
 exact ⟨rfl, .returning, by rw [← HU.out], .tuple #[], by simp [results, Try.results44, go_sem], rfl, rfl, rfl⟩

set_option maxRecDepth 100000 in
set_option maxHeartbeats 16000000 in
theorem Try.adamPlaces {K : Nat} {lr b1 b2 eps wd p0 p1 : Int} {ap : Bool} {n : Nat} {a0 : Option Addr} {c0 : Nat} {a1 : Option Addr} {c1 : Nat} {a2 : Option Addr} {c2 : Nat} {a3 : Option Addr} {c3 : Nat} {lw lm lv lg : List Int} (w : World) (hn : n ≤ 40)
  (h0 : Iw 0 w.heap.size w a0 n c0 lw) (h1 : Iw 0 w.heap.size w a1 n c1 lm) (h2 : Iw 0 w.heap.size w a2 n c2 lv) (h3 : Iw 0 w.heap.size w a3 n c3 lg)
  (hin : ∀ i, i < n → PlaceIn K ⟨lr, b1, b2, eps, wd, ap⟩ p0 p1 (atL lw i) (atL lm i) (atL lv i) (atL lg i)) :
  Calls Try.prog 27 #[.agg #[.int .i64 (K : Int)], .agg #[.int .i64 lr, .int .i64 b1, .int .i64 b2, .int .i64 eps, .int .i64 wd, .bool ap], .agg #[.int .i64 p0, .int .i64 p1], .agg #[.slice a0 n c0, .slice a1 n c1, .slice a2 n c2, .slice a3 n c3]] w fun e w' => Ext w w' ∧
   (((∀ i, i < n → (fun i : Nat => placeO K ⟨lr, b1, b2, eps, wd, ap⟩ p0 p1 (atL lw i) (atL lm i) (atL lv i) (atL lg i)) i ≠ none) ∧ ∃ g1 g2 g3, e = .returned (.tuple #[.agg (Three.val n g1 g2 g3), .int .i64 0]) ∧
    Iw w.heap.size w'.heap.size w' (some ⟨g1, 0, none⟩) n n (outL n fun i => p1of ((fun i : Nat => placeO K ⟨lr, b1, b2, eps, wd, ap⟩ p0 p1 (atL lw i) (atL lm i) (atL lv i) (atL lg i)) i)) ∧ Iw w.heap.size w'.heap.size w' (some ⟨g2, 0, none⟩) n n (outL n fun i => p2of ((fun i : Nat => placeO K ⟨lr, b1, b2, eps, wd, ap⟩ p0 p1 (atL lw i) (atL lm i) (atL lv i) (atL lg i)) i)) ∧ Iw w.heap.size w'.heap.size w' (some ⟨g3, 0, none⟩) n n (outL n fun i => p3of ((fun i : Nat => placeO K ⟨lr, b1, b2, eps, wd, ap⟩ p0 p1 (atL lw i) (atL lm i) (atL lv i) (atL lg i)) i))) ∨
   ((∃ i, i < n ∧ (fun i : Nat => placeO K ⟨lr, b1, b2, eps, wd, ap⟩ p0 p1 (atL lw i) (atL lm i) (atL lv i) (atL lg i)) i = none) ∧ e = .returned (.tuple #[.agg #[.slice none 0 0, .slice none 0 0, .slice none 0 0, .slice none 0 0], .int .i64 2]))) := by
 obtain ⟨pl, hpl⟩ : ∃ pl : Nat → Option (Int × Int × Int), pl = (fun i : Nat => placeO K ⟨lr, b1, b2, eps, wd, ap⟩ p0 p1 (atL lw i) (atL lm i) (atL lv i) (atL lg i)) := ⟨_, rfl⟩
 rw [← hpl]
 have HIN := Lib.hid hin
 have HPL := Lib.hid hpl
 have HR : Hid (Ext w w) := Lib.hid (Ext.refl w)
 have HG : Hid (∀ i, I64 (p1of (pl i)) ∧ I64 (p2of (pl i)) ∧ I64 (p3of (pl i))) := Lib.hid (fun i => getD_i64 (fun x y z h => by rw [hpl] at h; exact place_i64 h))
 clear hin hpl
 have hmf : ∀ (fn : Fn) (first cap : Array Value) (W : World), (Instr.makeFunc fn first cap).run Try.prog W = .ok (.func fn first cap) W := fun _ _ _ _ => rfl
 obtain ⟨W0, hW0, E0, p4, p5, p6, p7, p8, p9⟩ := boxed6 w 62 #[.int .i64 (K : Int)] 42 #[.int .i64 lr, .int .i64 b1, .int .i64 b2, .int .i64 eps, .int .i64 wd, .bool ap] 43 #[.int .i64 p0, .int .i64 p1] 27 #[.slice a0 n c0, .slice a1 n c1, .slice a2 n c2, .slice a3 n c3] 27 #[.slice none 0 0, .slice none 0 0, .slice none 0 0, .slice none 0 0] 32 #[.int .i64 0]
 replace p6 := p6.b2
 replace h0 : Iw 0 w.heap.size W0 a0 n c0 (lw) := h0.ext E0
 replace h1 : Iw 0 w.heap.size W0 a1 n c1 (lm) := h1.ext E0
 replace h2 : Iw 0 w.heap.size W0 a2 n c2 (lv) := h2.ext E0
 replace h3 : Iw 0 w.heap.size W0 a3 n c3 (lg) := h3.ext E0
 go_enter_defers Try.func27, Try.ntmps27
 have k4a := p4.cell 0 (v := .int .i64 (K : Int)) rfl
 obtain ⟨k5a, k5b, k5c, k5d, k5e, k5f⟩ := p5.c6
 obtain ⟨k6a, k6b⟩ := p6.c2
 obtain ⟨k7a, k7b, k7c, k7d⟩ := p7.c4
 obtain ⟨k8a, k8b, k8c, k8d⟩ := p8.c4
 have k9a := p9.cell 0 (v := .int .i64 0) rfl
 go_upto_region 3 with (fail)
 rw [← hW0]
 clear hW0; clear k4a k5a k5b k5c k5d k5e k5f k6a k6b k7a k7b k7c k7d k8a k8b k8c k8d k9a
 have f8 := Form4.of p8
 clear p8
 have lt8 : w.heap.size + 1 + 1 + 1 + 1 < W0.heap.size := let ⟨_, _, _, _, k, _⟩ := f8; BxA.lt k
 have ltp4 := p4.lt; have ltp5 := p5.lt; have ltp6 := p6.lt; have ltp7 := p7.lt; have ltp9 := p9.lt; have szw1 := Ext.size E0
 refine region_go2 [isV (.int .i64 (n : Int)),
   .one fun v W => Made W0.heap.size 2 n v W,
   isV (.int .i64 (n : Int)),
   .one fun v W => Made W0.heap.size 2 n v W,
   isV (.int .i64 (n : Int)),
   .one fun v W => Made W0.heap.size 2 n v W,
   .one fun v W => ∃ g1 g2 g3, v = .agg (Three.val n g1 g2 g3) ∧ Three W0.heap.size 2 n g1 g2 g3 W,
   .own fun W => ∃ g1 g2 g3, BxA W (w.heap.size + 1 + 1 + 1 + 1) 27 (Three.val n g1 g2 g3) ∧ Three W0.heap.size 2 n g1 g2 g3 W]
  (fun W => Ext w W ∧ Iw 0 w.heap.size W a0 n c0 (lw) ∧ Iw 0 w.heap.size W a1 n c1 (lm) ∧ Iw 0 w.heap.size W a2 n c2 (lv) ∧ Iw 0 w.heap.size W a3 n c3 (lg) ∧ BxA W w.heap.size 62 #[.int .i64 (K : Int)] ∧ BxA W (w.heap.size + 1) 42 #[.int .i64 lr, .int .i64 b1, .int .i64 b2, .int .i64 eps, .int .i64 wd, .bool ap] ∧ Bx2 W (w.heap.size + 1 + 1) 43 (.int .i64 p0) (.int .i64 p1) ∧ BxA W (w.heap.size + 1 + 1 + 1) 27 #[.slice a0 n c0, .slice a1 n c1, .slice a2 n c2, .slice a3 n c3] ∧ BxA W (w.heap.size + 1 + 1 + 1 + 1 + 1) 32 #[.int .i64 0] ∧ Form4 W (w.heap.size + 1 + 1 + 1 + 1) 27 ∧ W0.heap.size ≤ W.heap.size) W0.heap.size [1, 3, 5] [Tag.any, Tag.fresh, Tag.any, Tag.fresh, Tag.any, Tag.fresh, Tag.fresh, Tag.last] ⟨Good.is _, tag_made, Good.is _, tag_made, Good.is _, tag_made, tag_three, tag_threeAt, trivial⟩ (fun g0 hg => by simp at hg)
  (fun W W1 hS hE => ⟨(Ext.trans hS.1 hE), (hS.2.1.ext hE), (hS.2.2.1.ext hE), (hS.2.2.2.1.ext hE), (hS.2.2.2.2.1.ext hE), (hS.2.2.2.2.2.1.ext hE), (hS.2.2.2.2.2.2.1.ext hE), (hS.2.2.2.2.2.2.2.1.ext hE), (hS.2.2.2.2.2.2.2.2.1.ext hE), (hS.2.2.2.2.2.2.2.2.2.1.ext hE), (hS.2.2.2.2.2.2.2.2.2.2.1.ext hE), (Nat.le_trans hS.2.2.2.2.2.2.2.2.2.2.2 (Ext.size hE))⟩) ⟨E0, h0, h1, h2, h3, p4, p5, p6, p7, p9, f8, Nat.le_refl _⟩ (fun m hm => by simp at hm; rcases hm with rfl | rfl | rfl <;> rfl) (by kernel_rfl) (by kernel_rfl) (by kernel_rfl) (by kernel_rfl) (A := ?A1) ?hA1 ?howe1 ?hfin1
 case hA1 =>
  intro vs
  simp only [putAll, Act.put, sA, sZ, sS, Nat.zero_add, Nat.reduceAdd]
  exact rfl
 case howe1 =>
  clear E0 h0 h1 h2 h3 p4 p5 p6 p7 p9 f8
  intro hf
  refine ⟨oM0 0 [] hf rfl rfl, owesN 1 [0] hf rfl (by kernel_rfl) ?_, oM0 2 [] hf rfl rfl, owesN 3 [2] hf rfl (by kernel_rfl) ?_, oM0 4 [] hf rfl rfl, owesN 5 [4] hf rfl (by kernel_rfl) ?_, owesMM 6 [1, 3, 5] hf rfl rfl (by kernel_rfl) ?_, owesO 7 (w.heap.size + 1 + 1 + 1 + 1) [6] hf rfl (by omega) ⟨.inr trivial, .inr trivial, .inr trivial, .inr trivial, .inr trivial, .inr trivial, .inr trivial, .inl rfl, trivial⟩ rfl (by kernel_rfl) ?_, trivial⟩
  all_goals intro vs W hS hp hx KO hKO
  all_goals simp only [Act.put, sA, sZ, sS] at hKO
  ·have e0 := isOf hp.1; simp only [e0] at hKO
   have hmk := Try.makeI64 n (by omega) W
   have hm := RowI.made W n 2
   have hsz := hS.2.2.2.2.2.2.2.2.2.2.2
   go_simp
   exact hKO _ _ rfl ⟨_, rfl, hsz, hm⟩
  ·have e2 := isOf hp.1; simp only [e2] at hKO
   have hmk := Try.makeI64 n (by omega) W
   have hm := RowI.made W n 2
   have hsz := hS.2.2.2.2.2.2.2.2.2.2.2
   go_simp
   exact hKO _ _ rfl ⟨_, rfl, hsz, hm⟩
  ·have e4 := isOf hp.1; simp only [e4] at hKO
   have hmk := Try.makeI64 n (by omega) W
   have hm := RowI.made W n 2
   have hsz := hS.2.2.2.2.2.2.2.2.2.2.2
   go_simp
   exact hKO _ _ rfl ⟨_, rfl, hsz, hm⟩
  ·have q1 := hp.1; have q3 := hp.2.1; have q5 := hp.2.2.1
   obtain ⟨g1, ev1, hb1, hr1⟩ := q1
   obtain ⟨g2, ev3, hb2, hr2⟩ := q3
   obtain ⟨g3, ev5, hb3, hr3⟩ := q5
   replace ev1 : vs 1 = _ := ev1; replace ev3 : vs 3 = _ := ev3; replace ev5 : vs 5 = _ := ev5
   have n12 : g1 ≠ g2 := fun e => hS.2.2 1 (by simp) 3 (by simp) (by omega) g1 (by rw [ev1]; rfl) (by rw [ev3, ← e]; rfl)
   have n13 : g1 ≠ g3 := fun e => hS.2.2 1 (by simp) 5 (by simp) (by omega) g1 (by rw [ev1]; rfl) (by rw [ev5, ← e]; rfl)
   have n23 : g2 ≠ g3 := fun e => hS.2.2 3 (by simp) 5 (by simp) (by omega) g2 (by rw [ev3]; rfl) (by rw [ev5, ← e]; rfl)
   simp only [ev1, ev3, ev5] at hKO; clear hS; go_simp; exact hKO _ W (Ext.refl W) ⟨g1, g2, g3, rfl, ⟨hb1, hb2, hb3⟩, ⟨n12, n13, n23⟩, hr1, hr2, hr3⟩
  ·have q6 := hp.1
   obtain ⟨g1, g2, g3, ev, hT⟩ := q6
   replace ev : vs 6 = _ := ev
   simp only [Three.val] at ev
   have hf4 := hS.2.2.2.2.2.2.2.2.2.2.1
   obtain ⟨x0, x1, x2, x3, k0, k1, k2, k3, hz⟩ := hf4.cells
   have z0 := hz 0
   have z1 := hz 1
   have z2 := hz 2
   have z3 := hz 3
   clear hz
   obtain ⟨W2, hW2, hw, hq⟩ := hf4.put (some ⟨g1, 0, none⟩) n n (some ⟨g2, 0, none⟩) n n (some ⟨g3, 0, none⟩) n n none 0 0
   simp only [ev] at hKO; clear hf4; go_simp
   rw [← hW2]
   exact hKO _ hw ⟨(Ext.wr hS.1 hw (by omega)), (hS.2.1.wr hw (by omega)), (hS.2.2.1.wr hw (by omega)), (hS.2.2.2.1.wr hw (by omega)), (hS.2.2.2.2.1.wr hw (by omega)), (hS.2.2.2.2.2.1.wr hw (by omega)), (hS.2.2.2.2.2.2.1.wr hw (by omega)), (hS.2.2.2.2.2.2.2.1.wr hw (by omega)), (hS.2.2.2.2.2.2.2.2.1.wr hw (by omega)), (hS.2.2.2.2.2.2.2.2.2.1.wr hw (by omega)), (Form4.of hq), (Nat.le_trans hS.2.2.2.2.2.2.2.2.2.2.2 hw.apart.size)⟩ ⟨g1, g2, g3, hq, hT.wr hw (by omega)⟩
 intro vs W1 hS hM hp
 clear szw1 E0 h0 h1 h2 h3 p4 p5 p6 p7 p9 f8
 obtain ⟨E0, h0, h1, h2, h3, p4, p5, p6, p7, p9, f8, sz1⟩ := hS
 obtain ⟨h1_0, h1_1, h1_2, h1_3, h1_4, h1_5, h1_6, h1_7, -⟩ := hp
 have hh := h1_7
 obtain ⟨g1, g2, g3, p8, hT⟩ := hh
 replace p8 : BxA W1 (w.heap.size + 1 + 1 + 1 + 1) 27 #[.slice (some ⟨g1, 0, none⟩) n n, .slice (some ⟨g2, 0, none⟩) n n, .slice (some ⟨g3, 0, none⟩) n n, .slice none 0 0] := p8
 obtain ⟨hB3, hN3, r1, r2, r3⟩ := hT
 clear f8
 clear hM
 simp only [isOf h1_0, isOf h1_2, isOf h1_4]
 clear h1_0 h1_2 h1_4 h1_1 h1_3 h1_5 h1_6 h1_7; clear lt8
 rw [← partL_zero n (fun i => p1of (pl i))] at r1
 rw [← partL_zero n (fun i => p2of (pl i))] at r2
 rw [← partL_zero n (fun i => p3of (pl i))] at r3
 have k4a := p4.cell 0 (v := .int .i64 (K : Int)) rfl
 obtain ⟨k5a, k5b, k5c, k5d, k5e, k5f⟩ := p5.c6
 obtain ⟨k6a, k6b⟩ := p6.c2
 obtain ⟨k7a, k7b, k7c, k7d⟩ := p7.c4
 have k9a := p9.cell 0 (v := .int .i64 0) rfl
 obtain ⟨k8a, k8b, k8c, k8d⟩ := p8.c4
 go_wp2_with fail
 clear k4a k5a k5b k5c k5d k5e k5f k6a k6b k7a k7b k7c k7d k9a k8a k8b k8c k8d
 go_loopw [24] (fun i wr => ∃ k : Nat, i = .int .i64 (k : Int) ∧ k ≤ n ∧ Hid (∀ j, j < k → pl j ≠ none) ∧ Ext w wr ∧ Iw 0 w.heap.size wr a0 n c0 (lw) ∧ Iw 0 w.heap.size wr a1 n c1 (lm) ∧ Iw 0 w.heap.size wr a2 n c2 (lv) ∧ Iw 0 w.heap.size wr a3 n c3 (lg) ∧ BxA wr w.heap.size 62 #[.int .i64 (K : Int)] ∧ BxA wr (w.heap.size + 1) 42 #[.int .i64 lr, .int .i64 b1, .int .i64 b2, .int .i64 eps, .int .i64 wd, .bool ap] ∧ Bx2 wr (w.heap.size + 1 + 1) 43 (.int .i64 p0) (.int .i64 p1) ∧ BxA wr (w.heap.size + 1 + 1 + 1) 27 #[.slice a0 n c0, .slice a1 n c1, .slice a2 n c2, .slice a3 n c3] ∧ BxA wr (w.heap.size + 1 + 1 + 1 + 1 + 1) 32 #[.int .i64 0] ∧ BxA wr (w.heap.size + 1 + 1 + 1 + 1) 27 #[.slice (some ⟨g1, 0, none⟩) n n, .slice (some ⟨g2, 0, none⟩) n n, .slice (some ⟨g3, 0, none⟩) n n, .slice none 0 0] ∧ RowI wr g1 2 (partL n k fun i => p1of (pl i)) ∧ RowI wr g2 2 (partL n k fun i => p2of (pl i)) ∧ RowI wr g3 2 (partL n k fun i => p3of (pl i))) (fun i _ => n - (intOf i).toNat)
 case atStart => exact ⟨0, rfl, by omega, Lib.hid (fun j hj => absurd hj (by omega)), E0, h0, h1, h2, h3, p4, p5, p6, p7, p9, p8, r1, r2, r3⟩
 case round =>
  clear E0 h0 h1 h2 h3 p4 p5 p6 p7 p9 p8 r1 r2 r3
  obtain ⟨k, rfl, hk, HA, E0, h0, h1, h2, h3, p4, p5, p6, p7, p9, p8, r1, r2, r3⟩ := hrel
  by_cases hlt : k < n
  ·have hltI : (k : Int) < (n : Int) := by omega
   obtain ⟨ba0, oa0, rfl, -, -⟩ := h0.some (by omega)
   obtain ⟨ba1, oa1, rfl, -, -⟩ := h1.some (by omega)
   obtain ⟨ba2, oa2, rfl, -, -⟩ := h2.some (by omega)
   obtain ⟨ba3, oa3, rfl, -, -⟩ := h3.some (by omega)
   cases hp : pl k
   ·have HPK : Hid (placeO K ⟨lr, b1, b2, eps, wd, ap⟩ p0 p1 (atL lw k) (atL lm k) (atL lv k) (atL lg k) = none) := Lib.hid (by have h3 := hp; rw [HPL.out] at h3; exact h3)
    have HP := Lib.hid hp
    clear hp
    have k4a := p4.cell 0 (v := .int .i64 (K : Int)) rfl
    obtain ⟨k5a, k5b, k5c, k5d, k5e, k5f⟩ := p5.c6
    obtain ⟨k6a, k6b⟩ := p6.c2
    obtain ⟨k7a, k7b, k7c, k7d⟩ := p7.c4
    have k9a := p9.cell 0 (v := .int .i64 0) rfl
    obtain ⟨k8a, k8b, k8c, k8d⟩ := p8.c4
    go_upto_region 7 with (fail)
    clear k4a k5a k5b k5c k5d k5e k5f k6a k6b k7a k7b k7c k7d k9a k8a k8b k8c k8d
    have f1 := r1.but k
    clear r1
    have f2 := r2.but k
    clear r2
    have f3 := r3.but k
    clear r3; have ltp8 := p8.lt; have ltf1 := f1.lt; have ltf2 := f2.lt; have ltf3 := f3.lt; have szw2 := Ext.size E0
    refine region_go2 [isV (.pointer (some ⟨w.heap.size + 1 + 1 + 1 + 1, 0, none⟩)), isV (.slice (some ⟨g1, 0, none⟩) n n), isV (.int .i64 (k : Int)), isV (.pointer (some ⟨w.heap.size + 1 + 1 + 1 + 1, 1, none⟩)), isV (.slice (some ⟨g2, 0, none⟩) n n), isV (.int .i64 (k : Int)), isV (.pointer (some ⟨w.heap.size + 1 + 1 + 1 + 1, 2, none⟩)), isV (.slice (some ⟨g3, 0, none⟩) n n), isV (.int .i64 (k : Int)), isV (.agg #[.int .i64 (K : Int)]), isV (.agg #[.int .i64 lr, .int .i64 b1, .int .i64 b2, .int .i64 eps, .int .i64 wd, .bool ap]), isV (.agg #[.int .i64 p0, .int .i64 p1]), isV (.pointer (some ⟨w.heap.size + 1 + 1 + 1, 0, none⟩)), isV (.slice (some ⟨ba0, oa0, none⟩) n c0), isV (.int .i64 (k : Int)), isV (.pointer (some ⟨ba0, oa0 + k, none⟩)), isV (.int .i64 (atL lw k)), isV (.pointer (some ⟨w.heap.size + 1 + 1 + 1, 1, none⟩)), isV (.slice (some ⟨ba1, oa1, none⟩) n c1), isV (.int .i64 (k : Int)), isV (.pointer (some ⟨ba1, oa1 + k, none⟩)), isV (.int .i64 (atL lm k)), isV (.pointer (some ⟨w.heap.size + 1 + 1 + 1, 2, none⟩)), isV (.slice (some ⟨ba2, oa2, none⟩) n c2), isV (.int .i64 (k : Int)), isV (.pointer (some ⟨ba2, oa2 + k, none⟩)), isV (.int .i64 (atL lv k)), isV (.pointer (some ⟨w.heap.size + 1 + 1 + 1, 3, none⟩)),
      isV (.slice (some ⟨ba3, oa3, none⟩) n c3), isV (.int .i64 (k : Int)), isV (.pointer (some ⟨ba3, oa3 + k, none⟩)), isV (.int .i64 (atL lg k)),
      .one fun _ _ => False,
      .one fun _ _ => False,
      .one fun _ _ => False,
      .one fun _ _ => False,
      .one fun _ _ => False,
      .one fun _ _ => False,
      .one fun _ _ => False,
      .one fun _ _ => False,
      .one fun _ _ => False,
      .one fun _ _ => False,
      .one fun _ _ => False]
     (fun W => Ext w W ∧ Iw 0 w.heap.size W (some ⟨ba0, oa0, none⟩) n c0 (lw) ∧ Iw 0 w.heap.size W (some ⟨ba1, oa1, none⟩) n c1 (lm) ∧ Iw 0 w.heap.size W (some ⟨ba2, oa2, none⟩) n c2 (lv) ∧ Iw 0 w.heap.size W (some ⟨ba3, oa3, none⟩) n c3 (lg) ∧ BxA W w.heap.size 62 #[.int .i64 (K : Int)] ∧ BxA W (w.heap.size + 1) 42 #[.int .i64 lr, .int .i64 b1, .int .i64 b2, .int .i64 eps, .int .i64 wd, .bool ap] ∧ Bx2 W (w.heap.size + 1 + 1) 43 (.int .i64 p0) (.int .i64 p1) ∧ BxA W (w.heap.size + 1 + 1 + 1) 27 #[.slice (some ⟨ba0, oa0, none⟩) n c0, .slice (some ⟨ba1, oa1, none⟩) n c1, .slice (some ⟨ba2, oa2, none⟩) n c2, .slice (some ⟨ba3, oa3, none⟩) n c3] ∧ BxA W (w.heap.size + 1 + 1 + 1 + 1 + 1) 32 #[.int .i64 0] ∧ BxA W (w.heap.size + 1 + 1 + 1 + 1) 27 #[.slice (some ⟨g1, 0, none⟩) n n, .slice (some ⟨g2, 0, none⟩) n n, .slice (some ⟨g3, 0, none⟩) n n, .slice none 0 0] ∧ RowBut W g1 2 (partL n k fun i => p1of (pl i)) k ∧ RowBut W g2 2 (partL n k fun i => p2of (pl i)) k ∧ RowBut W g3 2 (partL n k fun i => p3of (pl i)) k ∧ wr.heap.size ≤ W.heap.size) wr.heap.size [] [Tag.any, Tag.any, Tag.any, Tag.any, Tag.any, Tag.any, Tag.any, Tag.any, Tag.any, Tag.any, Tag.any, Tag.any, Tag.any, Tag.any, Tag.any, Tag.any, Tag.any, Tag.any, Tag.any, Tag.any, Tag.any, Tag.any, Tag.any, Tag.any, Tag.any, Tag.any, Tag.any, Tag.any, Tag.any, Tag.any, Tag.any, Tag.any, Tag.any, Tag.any, Tag.any, Tag.any, Tag.any, Tag.any, Tag.any, Tag.any, Tag.any, Tag.any, Tag.any] ⟨Good.is _, Good.is _, Good.is _, Good.is _, Good.is _, Good.is _, Good.is _, Good.is _, Good.is _, Good.is _, Good.is _, Good.is _, Good.is _, Good.is _, Good.is _, Good.is _, Good.is _, Good.is _, Good.is _, Good.is _, Good.is _, Good.is _, Good.is _, Good.is _, Good.is _, Good.is _, Good.is _, Good.is _, Good.is _, Good.is _, Good.is _, Good.is _, Good.never, Good.never, Good.never, Good.never, Good.never, Good.never, Good.never, Good.never, Good.never, Good.never, Good.never, trivial⟩ (fun g0 hg => by simp at hg)
     (fun W W1 hS hE => ⟨(Ext.trans hS.1 hE), (hS.2.1.ext hE), (hS.2.2.1.ext hE), (hS.2.2.2.1.ext hE), (hS.2.2.2.2.1.ext hE), (hS.2.2.2.2.2.1.ext hE), (hS.2.2.2.2.2.2.1.ext hE), (hS.2.2.2.2.2.2.2.1.ext hE), (hS.2.2.2.2.2.2.2.2.1.ext hE), (hS.2.2.2.2.2.2.2.2.2.1.ext hE), (hS.2.2.2.2.2.2.2.2.2.2.1.ext hE), (hS.2.2.2.2.2.2.2.2.2.2.2.1.ext hE), (hS.2.2.2.2.2.2.2.2.2.2.2.2.1.ext hE), (hS.2.2.2.2.2.2.2.2.2.2.2.2.2.1.ext hE), (Nat.le_trans hS.2.2.2.2.2.2.2.2.2.2.2.2.2.2 (Ext.size hE))⟩) ⟨E0, h0, h1, h2, h3, p4, p5, p6, p7, p9, p8, f1, f2, f3, Nat.le_refl _⟩ (fun m hm => by simp at hm) (by kernel_rfl) (by kernel_rfl) (by kernel_rfl) (by kernel_rfl) (A := ?A2) ?hA2 ?howe2 ?hfin2
    case hA2 =>
     intro vs
     simp only [putAll, Act.put, sA, sZ, sS, Nat.zero_add, Nat.reduceAdd]
     exact rfl
    case howe2 =>
     clear E0 h0 h1 h2 h3 p4 p5 p6 p7 p9 p8 f1 f2 f3
     intro hf
     refine ⟨oM0 0 [] hf rfl rfl, owesM 1 [0] hf rfl rfl (by kernel_rfl) ?_, oM0 2 [] hf rfl rfl, oM0 3 [] hf rfl rfl, owesM 4 [3] hf rfl rfl (by kernel_rfl) ?_, oM0 5 [] hf rfl rfl, oM0 6 [] hf rfl rfl, owesM 7 [6] hf rfl rfl (by kernel_rfl) ?_, oM0 8 [] hf rfl rfl, owesM 9 [] hf rfl rfl (by kernel_rfl) ?_, owesM 10 [] hf rfl rfl (by kernel_rfl) ?_, owesM 11 [] hf rfl rfl (by kernel_rfl) ?_, oM0 12 [] hf rfl rfl, owesM 13 [12] hf rfl rfl (by kernel_rfl) ?_, oM0 14 [] hf rfl rfl, oM2 15 [13, 14] hf rfl rfl, owesM 16 [15] hf rfl rfl (by kernel_rfl) ?_, oM0 17 [] hf rfl rfl, owesM 18 [17] hf rfl rfl (by kernel_rfl) ?_, oM0 19 [] hf rfl rfl, oM2 20 [18, 19] hf rfl rfl, owesM 21 [20] hf rfl rfl (by kernel_rfl) ?_, oM0 22 [] hf rfl rfl, owesM 23 [22] hf rfl rfl (by kernel_rfl) ?_, oM0 24 [] hf rfl rfl, oM2 25 [23, 24] hf rfl rfl, owesM 26 [25] hf rfl rfl (by kernel_rfl) ?_, oM0 27 [] hf rfl rfl, owesM 28 [27] hf rfl rfl (by kernel_rfl) ?_, oM0 29 [] hf rfl rfl, oM2 30 [28, 29] hf rfl rfl, owesM 31 [30] hf rfl rfl (by kernel_rfl) ?_, owesM 32 [9, 10, 11, 16, 21, 26, 31] hf rfl rfl (by kernel_rfl) ?_, owesM 33 [32] hf rfl rfl (by kernel_rfl) ?_, owesM 34 [33] hf rfl rfl (by kernel_rfl) ?_, owesM 35 [33] hf rfl rfl (by kernel_rfl) ?_, owesM 36 [33] hf rfl rfl (by kernel_rfl) ?_, owesM 37 [32] hf rfl rfl (by kernel_rfl) ?_, owesM 38 [37] hf rfl rfl (by kernel_rfl) ?_, owesM 39 [32] hf rfl rfl (by kernel_rfl) ?_, owesM 40 [39] hf rfl rfl (by kernel_rfl) ?_, owesM 41 [32] hf rfl rfl (by kernel_rfl) ?_, owesM 42 [41] hf rfl rfl (by kernel_rfl) ?_, trivial⟩
     all_goals intro vs W hS hp hx KO hKO
     all_goals simp only [Act.put, sA, sZ, sS] at hKO
     ·have e0 := isOf hp.1; simp only [e0] at hKO; have fc0 := BxA.cell (hS.2.2.2.2.2.2.2.2.2.2.1) 0 (v := .slice (some ⟨g1, 0, none⟩) n n) rfl; go_simp; exact hKO _ W (.refl W) rfl
     ·have e3 := isOf hp.1; simp only [e3] at hKO; have fc1 := BxA.cell (hS.2.2.2.2.2.2.2.2.2.2.1) 1 (v := .slice (some ⟨g2, 0, none⟩) n n) rfl; go_simp; exact hKO _ W (.refl W) rfl
     ·have e6 := isOf hp.1; simp only [e6] at hKO; have fc2 := BxA.cell (hS.2.2.2.2.2.2.2.2.2.2.1) 2 (v := .slice (some ⟨g3, 0, none⟩) n n) rfl; go_simp; exact hKO _ W (.refl W) rfl
     ·have fc0 := BxA.cell (hS.2.2.2.2.2.1) 0 (v := .int .i64 (K : Int)) rfl; go_simp; exact hKO _ W (.refl W) rfl
     ·have fc0 := BxA.cell (hS.2.2.2.2.2.2.1) 0 (v := .int .i64 lr) rfl; have fc1 := BxA.cell (hS.2.2.2.2.2.2.1) 1 (v := .int .i64 b1) rfl; have fc2 := BxA.cell (hS.2.2.2.2.2.2.1) 2 (v := .int .i64 b2) rfl; have fc3 := BxA.cell (hS.2.2.2.2.2.2.1) 3 (v := .int .i64 eps) rfl; have fc4 := BxA.cell (hS.2.2.2.2.2.2.1) 4 (v := .int .i64 wd) rfl; have fc5 := BxA.cell (hS.2.2.2.2.2.2.1) 5 (v := .bool ap) rfl; go_simp; exact hKO _ W (.refl W) rfl
     ·have fc0 := hS.2.2.2.2.2.2.2.1.cell0; have fc1 := hS.2.2.2.2.2.2.2.1.cell1; go_simp; exact hKO _ W (.refl W) rfl
     ·have e12 := isOf hp.1; simp only [e12] at hKO; have fc0 := BxA.cell (hS.2.2.2.2.2.2.2.2.1) 0 (v := .slice (some ⟨ba0, oa0, none⟩) n c0) rfl; go_simp; exact hKO _ W (.refl W) rfl
     ·have e15 := isOf hp.1; simp only [e15] at hKO
      have fc := Iw.cell (hS.2.1) (i := k) (by omega)
      go_simp; exact hKO _ W (.refl W) rfl
     ·have e17 := isOf hp.1; simp only [e17] at hKO; have fc1 := BxA.cell (hS.2.2.2.2.2.2.2.2.1) 1 (v := .slice (some ⟨ba1, oa1, none⟩) n c1) rfl; go_simp; exact hKO _ W (.refl W) rfl
     ·have e20 := isOf hp.1; simp only [e20] at hKO
      have fc := Iw.cell (hS.2.2.1) (i := k) (by omega)
      go_simp; exact hKO _ W (.refl W) rfl
     ·have e22 := isOf hp.1; simp only [e22] at hKO; have fc2 := BxA.cell (hS.2.2.2.2.2.2.2.2.1) 2 (v := .slice (some ⟨ba2, oa2, none⟩) n c2) rfl; go_simp; exact hKO _ W (.refl W) rfl
     ·have e25 := isOf hp.1; simp only [e25] at hKO
      have fc := Iw.cell (hS.2.2.2.1) (i := k) (by omega)
      go_simp; exact hKO _ W (.refl W) rfl
     ·have e27 := isOf hp.1; simp only [e27] at hKO; have fc3 := BxA.cell (hS.2.2.2.2.2.2.2.2.1) 3 (v := .slice (some ⟨ba3, oa3, none⟩) n c3) rfl; go_simp; exact hKO _ W (.refl W) rfl
     ·have e30 := isOf hp.1; simp only [e30] at hKO
      have fc := Iw.cell (hS.2.2.2.2.1) (i := k) (by omega)
      go_simp; exact hKO _ W (.refl W) rfl
     ·have e9 := isOf hp.1; have e10 := isOf hp.2.1; have e11 := isOf hp.2.2.1; have e16 := isOf hp.2.2.2.1; have e21 := isOf hp.2.2.2.2.1; have e26 := isOf hp.2.2.2.2.2.1; have e31 := isOf hp.2.2.2.2.2.2.1; simp only [e9, e10, e11, e16, e21, e26, e31] at hKO; go_simp
      refine (Try.adamPlaceN (HIN.out k hlt) HPK.out _).mono ?_
      rintro e W1 ⟨⟨c, hc, rfl⟩, hE⟩
      refine leaves_cons (f := 44) (args := #[.pointer (some ⟨w.heap.size + 1 + 1 + 1 + 1, 0, none⟩), .pointer (some ⟨w.heap.size + 1 + 1 + 1 + 1 + 1, 0, none⟩)]) (by simp) (by simp [go_sem]) ?_
      refine (Try.adamCatch (by omega) hc (Form4.of (BxA.ext (hS.2.2.2.2.2.2.2.2.2.2.1) hE)) (BxA.ext (hS.2.2.2.2.2.2.2.2.2.1) hE)).mono ?_
      rintro e2 u2 W2 ⟨rfl, rfl, hAp, hq8, hq9⟩
      have k80 := hq8.cell 0 (v := .slice none 0 0) rfl
      have k81 := hq8.cell 1 (v := .slice none 0 0) rfl
      have k82 := hq8.cell 2 (v := .slice none 0 0) rfl
      have k83 := hq8.cell 3 (v := .slice none 0 0) rfl
      have k90 := hq9.cell 0 (v := .int .i64 2) rfl
      change ∃ v, (results _ _).run _ W2 = .ok v W2 ∧ _
      exact ⟨.tuple #[.agg #[.slice none 0 0, .slice none 0 0, .slice none 0 0, .slice none 0 0], .int .i64 2], by simp [results, Try.results27, go_sem, k80, k81, k82, k83, k90], Apart.ext hAp (Ext.trans hS.1 hE) (by simp; omega), .inr ⟨⟨k, hlt, HP.out⟩, rfl⟩⟩
     ·have q32 := hp.1
      exact False.elim q32
     ·have q33 := hp.1
      exact False.elim q33
     ·have q33 := hp.1
      exact False.elim q33
     ·have q33 := hp.1
      exact False.elim q33
     ·have q32 := hp.1
      exact False.elim q32
     ·have q37 := hp.1
      exact False.elim q37
     ·have q32 := hp.1
      exact False.elim q32
     ·have q39 := hp.1
      exact False.elim q39
     ·have q32 := hp.1
      exact False.elim q32
     ·have q41 := hp.1
      exact False.elim q41
    intro vs W2 hS hM hp
    obtain ⟨h2_0, h2_1, h2_2, h2_3, h2_4, h2_5, h2_6, h2_7, h2_8, h2_9, h2_10, h2_11, h2_12, h2_13, h2_14, h2_15, h2_16, h2_17, h2_18, h2_19, h2_20, h2_21, h2_22, h2_23, h2_24, h2_25, h2_26, h2_27, h2_28, h2_29, h2_30, h2_31, h2_32, h2_33, h2_34, h2_35, h2_36, h2_37, h2_38, h2_39, h2_40, h2_41, h2_42, -⟩ := hp
    exact False.elim h2_32
   ·rename_i t3
    obtain ⟨zx, zy, zz⟩ := t3
    have HPK : Hid (placeO K ⟨lr, b1, b2, eps, wd, ap⟩ p0 p1 (atL lw k) (atL lm k) (atL lv k) (atL lg k) = some (zx, zy, zz)) := Lib.hid (by have h3 := hp; rw [HPL.out] at h3; exact h3)
    have HP := Lib.hid hp
    clear hp
    have k4a := p4.cell 0 (v := .int .i64 (K : Int)) rfl
    obtain ⟨k5a, k5b, k5c, k5d, k5e, k5f⟩ := p5.c6
    obtain ⟨k6a, k6b⟩ := p6.c2
    obtain ⟨k7a, k7b, k7c, k7d⟩ := p7.c4
    have k9a := p9.cell 0 (v := .int .i64 0) rfl
    obtain ⟨k8a, k8b, k8c, k8d⟩ := p8.c4
    go_upto_region 7 with (fail)
    clear k4a k5a k5b k5c k5d k5e k5f k6a k6b k7a k7b k7c k7d k9a k8a k8b k8c k8d
    have f1 := r1.but k
    clear r1
    have f2 := r2.but k
    clear r2
    have f3 := r3.but k
    clear r3; have ltp8 := p8.lt; have ltf1 := f1.lt; have ltf2 := f2.lt; have ltf3 := f3.lt; have szw3 := Ext.size E0
    refine region_go2 [isV (.pointer (some ⟨w.heap.size + 1 + 1 + 1 + 1, 0, none⟩)), isV (.slice (some ⟨g1, 0, none⟩) n n), isV (.int .i64 (k : Int)), isV (.pointer (some ⟨w.heap.size + 1 + 1 + 1 + 1, 1, none⟩)), isV (.slice (some ⟨g2, 0, none⟩) n n), isV (.int .i64 (k : Int)), isV (.pointer (some ⟨w.heap.size + 1 + 1 + 1 + 1, 2, none⟩)), isV (.slice (some ⟨g3, 0, none⟩) n n), isV (.int .i64 (k : Int)), isV (.agg #[.int .i64 (K : Int)]), isV (.agg #[.int .i64 lr, .int .i64 b1, .int .i64 b2, .int .i64 eps, .int .i64 wd, .bool ap]), isV (.agg #[.int .i64 p0, .int .i64 p1]), isV (.pointer (some ⟨w.heap.size + 1 + 1 + 1, 0, none⟩)), isV (.slice (some ⟨ba0, oa0, none⟩) n c0), isV (.int .i64 (k : Int)), isV (.pointer (some ⟨ba0, oa0 + k, none⟩)), isV (.int .i64 (atL lw k)), isV (.pointer (some ⟨w.heap.size + 1 + 1 + 1, 1, none⟩)), isV (.slice (some ⟨ba1, oa1, none⟩) n c1), isV (.int .i64 (k : Int)), isV (.pointer (some ⟨ba1, oa1 + k, none⟩)), isV (.int .i64 (atL lm k)), isV (.pointer (some ⟨w.heap.size + 1 + 1 + 1, 2, none⟩)), isV (.slice (some ⟨ba2, oa2, none⟩) n c2), isV (.int .i64 (k : Int)), isV (.pointer (some ⟨ba2, oa2 + k, none⟩)), isV (.int .i64 (atL lv k)), isV (.pointer (some ⟨w.heap.size + 1 + 1 + 1, 3, none⟩)),
      isV (.slice (some ⟨ba3, oa3, none⟩) n c3), isV (.int .i64 (k : Int)), isV (.pointer (some ⟨ba3, oa3 + k, none⟩)), isV (.int .i64 (atL lg k)), isV (.tuple #[.int .i64 zx, .int .i64 zy, .int .i64 zz]), isV (.tuple #[.int .i64 zx, .int .i64 zy, .int .i64 zz]), isV (.int .i64 zx), isV (.int .i64 zy), isV (.int .i64 zz), isV (.pointer (some ⟨g1, k, none⟩)),
      .own fun W => RowI W g1 2 ((partL n k fun i => p1of (pl i)).set k zx),
      isV (.pointer (some ⟨g2, k, none⟩)),
      .own fun W => RowI W g2 2 ((partL n k fun i => p2of (pl i)).set k zy),
      isV (.pointer (some ⟨g3, k, none⟩)),
      .own fun W => RowI W g3 2 ((partL n k fun i => p3of (pl i)).set k zz)]
     (fun W => Ext w W ∧ Iw 0 w.heap.size W (some ⟨ba0, oa0, none⟩) n c0 (lw) ∧ Iw 0 w.heap.size W (some ⟨ba1, oa1, none⟩) n c1 (lm) ∧ Iw 0 w.heap.size W (some ⟨ba2, oa2, none⟩) n c2 (lv) ∧ Iw 0 w.heap.size W (some ⟨ba3, oa3, none⟩) n c3 (lg) ∧ BxA W w.heap.size 62 #[.int .i64 (K : Int)] ∧ BxA W (w.heap.size + 1) 42 #[.int .i64 lr, .int .i64 b1, .int .i64 b2, .int .i64 eps, .int .i64 wd, .bool ap] ∧ Bx2 W (w.heap.size + 1 + 1) 43 (.int .i64 p0) (.int .i64 p1) ∧ BxA W (w.heap.size + 1 + 1 + 1) 27 #[.slice (some ⟨ba0, oa0, none⟩) n c0, .slice (some ⟨ba1, oa1, none⟩) n c1, .slice (some ⟨ba2, oa2, none⟩) n c2, .slice (some ⟨ba3, oa3, none⟩) n c3] ∧ BxA W (w.heap.size + 1 + 1 + 1 + 1 + 1) 32 #[.int .i64 0] ∧ BxA W (w.heap.size + 1 + 1 + 1 + 1) 27 #[.slice (some ⟨g1, 0, none⟩) n n, .slice (some ⟨g2, 0, none⟩) n n, .slice (some ⟨g3, 0, none⟩) n n, .slice none 0 0] ∧ RowBut W g1 2 (partL n k fun i => p1of (pl i)) k ∧ RowBut W g2 2 (partL n k fun i => p2of (pl i)) k ∧ RowBut W g3 2 (partL n k fun i => p3of (pl i)) k ∧ wr.heap.size ≤ W.heap.size) wr.heap.size [] [Tag.any, Tag.any, Tag.any, Tag.any, Tag.any, Tag.any, Tag.any, Tag.any, Tag.any, Tag.any, Tag.any, Tag.any, Tag.any, Tag.any, Tag.any, Tag.any, Tag.any, Tag.any, Tag.any, Tag.any, Tag.any, Tag.any, Tag.any, Tag.any, Tag.any, Tag.any, Tag.any, Tag.any, Tag.any, Tag.any, Tag.any, Tag.any, Tag.any, Tag.any, Tag.any, Tag.any, Tag.any, Tag.any, Tag.old (g1), Tag.any, Tag.old (g2), Tag.any, Tag.old (g3)] ⟨Good.is _, Good.is _, Good.is _, Good.is _, Good.is _, Good.is _, Good.is _, Good.is _, Good.is _, Good.is _, Good.is _, Good.is _, Good.is _, Good.is _, Good.is _, Good.is _, Good.is _, Good.is _, Good.is _, Good.is _, Good.is _, Good.is _, Good.is _, Good.is _, Good.is _, Good.is _, Good.is _, Good.is _, Good.is _, Good.is _, Good.is _, Good.is _, Good.is _, Good.is _, Good.is _, Good.is _, Good.is _, Good.is _, tag_row, Good.is _, tag_row, Good.is _, tag_row, trivial⟩ (fun g0 hg => by simp at hg; omega)
     (fun W W1 hS hE => ⟨(Ext.trans hS.1 hE), (hS.2.1.ext hE), (hS.2.2.1.ext hE), (hS.2.2.2.1.ext hE), (hS.2.2.2.2.1.ext hE), (hS.2.2.2.2.2.1.ext hE), (hS.2.2.2.2.2.2.1.ext hE), (hS.2.2.2.2.2.2.2.1.ext hE), (hS.2.2.2.2.2.2.2.2.1.ext hE), (hS.2.2.2.2.2.2.2.2.2.1.ext hE), (hS.2.2.2.2.2.2.2.2.2.2.1.ext hE), (hS.2.2.2.2.2.2.2.2.2.2.2.1.ext hE), (hS.2.2.2.2.2.2.2.2.2.2.2.2.1.ext hE), (hS.2.2.2.2.2.2.2.2.2.2.2.2.2.1.ext hE), (Nat.le_trans hS.2.2.2.2.2.2.2.2.2.2.2.2.2.2 (Ext.size hE))⟩) ⟨E0, h0, h1, h2, h3, p4, p5, p6, p7, p9, p8, f1, f2, f3, Nat.le_refl _⟩ (fun m hm => by simp at hm) (by kernel_rfl) (by kernel_rfl) (by kernel_rfl) (by kernel_rfl) (A := ?A3) ?hA3 ?howe3 ?hfin3
    case hA3 =>
     intro vs
     simp only [putAll, Act.put, sA, sZ, sS, Nat.zero_add, Nat.reduceAdd]
     exact rfl
    case howe3 =>
     clear E0 h0 h1 h2 h3 p4 p5 p6 p7 p9 p8 f1 f2 f3
     intro hf
     refine ⟨oM0 0 [] hf rfl rfl, owesM 1 [0] hf rfl rfl (by kernel_rfl) ?_, oM0 2 [] hf rfl rfl, oM0 3 [] hf rfl rfl, owesM 4 [3] hf rfl rfl (by kernel_rfl) ?_, oM0 5 [] hf rfl rfl, oM0 6 [] hf rfl rfl, owesM 7 [6] hf rfl rfl (by kernel_rfl) ?_, oM0 8 [] hf rfl rfl, owesM 9 [] hf rfl rfl (by kernel_rfl) ?_, owesM 10 [] hf rfl rfl (by kernel_rfl) ?_, owesM 11 [] hf rfl rfl (by kernel_rfl) ?_, oM0 12 [] hf rfl rfl, owesM 13 [12] hf rfl rfl (by kernel_rfl) ?_, oM0 14 [] hf rfl rfl, oM2 15 [13, 14] hf rfl rfl, owesM 16 [15] hf rfl rfl (by kernel_rfl) ?_, oM0 17 [] hf rfl rfl, owesM 18 [17] hf rfl rfl (by kernel_rfl) ?_, oM0 19 [] hf rfl rfl, oM2 20 [18, 19] hf rfl rfl, owesM 21 [20] hf rfl rfl (by kernel_rfl) ?_, oM0 22 [] hf rfl rfl, owesM 23 [22] hf rfl rfl (by kernel_rfl) ?_, oM0 24 [] hf rfl rfl, oM2 25 [23, 24] hf rfl rfl, owesM 26 [25] hf rfl rfl (by kernel_rfl) ?_, oM0 27 [] hf rfl rfl, owesM 28 [27] hf rfl rfl (by kernel_rfl) ?_, oM0 29 [] hf rfl rfl, oM2 30 [28, 29] hf rfl rfl, owesM 31 [30] hf rfl rfl (by kernel_rfl) ?_, owesM 32 [9, 10, 11, 16, 21, 26, 31] hf rfl rfl (by kernel_rfl) ?_, oM1 33 [32] hf rfl rfl, oM1 34 [33] hf rfl rfl, oM1 35 [33] hf rfl rfl, oM1 36 [33] hf rfl rfl, oM2 37 [1, 2] hf rfl rfl, owesO 38 (g1) [37, 34] hf rfl (by omega) ⟨.inr trivial, .inr trivial, .inr trivial, .inr trivial, .inr trivial, .inr trivial, .inr trivial, .inr trivial, .inr trivial, .inr trivial, .inr trivial, .inr trivial, .inr trivial, .inr trivial, .inr trivial, .inr trivial, .inr trivial, .inr trivial, .inr trivial, .inr trivial, .inr trivial, .inr trivial, .inr trivial, .inr trivial, .inr trivial, .inr trivial, .inr trivial, .inr trivial, .inr trivial, .inr trivial, .inr trivial, .inr trivial, .inr trivial, .inr trivial, .inr trivial, .inr trivial, .inr trivial, .inr trivial, .inl rfl, .inr trivial, .inr (by omega), .inr trivial, .inr (by omega), trivial⟩ rfl (by kernel_rfl) ?_, oM2 39 [4, 5] hf rfl rfl, owesO 40 (g2) [39, 35] hf rfl (by omega) ⟨.inr trivial, .inr trivial, .inr trivial, .inr trivial, .inr trivial, .inr trivial, .inr trivial, .inr trivial, .inr trivial, .inr trivial, .inr trivial, .inr trivial, .inr trivial, .inr trivial, .inr trivial, .inr trivial, .inr trivial, .inr trivial, .inr trivial, .inr trivial, .inr trivial, .inr trivial, .inr trivial, .inr trivial, .inr trivial, .inr trivial, .inr trivial, .inr trivial, .inr trivial, .inr trivial, .inr trivial, .inr trivial, .inr trivial, .inr trivial, .inr trivial, .inr trivial, .inr trivial, .inr trivial, .inr (by omega), .inr trivial, .inl rfl, .inr trivial, .inr (by omega), trivial⟩ rfl (by kernel_rfl) ?_, oM2 41 [7, 8] hf rfl rfl, owesO 42 (g3) [41, 36] hf rfl (by omega) ⟨.inr trivial, .inr trivial, .inr trivial, .inr trivial, .inr trivial, .inr trivial, .inr trivial, .inr trivial, .inr trivial, .inr trivial, .inr trivial, .inr trivial, .inr trivial, .inr trivial, .inr trivial, .inr trivial, .inr trivial, .inr trivial, .inr trivial, .inr trivial, .inr trivial, .inr trivial, .inr trivial, .inr trivial, .inr trivial, .inr trivial, .inr trivial, .inr trivial, .inr trivial, .inr trivial, .inr trivial, .inr trivial, .inr trivial, .inr trivial, .inr trivial, .inr trivial, .inr trivial, .inr trivial, .inr (by omega), .inr trivial, .inr (by omega), .inr trivial, .inl rfl, trivial⟩ rfl (by kernel_rfl) ?_, trivial⟩
     all_goals intro vs W hS hp hx KO hKO
     all_goals simp only [Act.put, sA, sZ, sS] at hKO
     ·have e0 := isOf hp.1; simp only [e0] at hKO; have fc0 := BxA.cell (hS.2.2.2.2.2.2.2.2.2.2.1) 0 (v := .slice (some ⟨g1, 0, none⟩) n n) rfl; go_simp; exact hKO _ W (.refl W) rfl
     ·have e3 := isOf hp.1; simp only [e3] at hKO; have fc1 := BxA.cell (hS.2.2.2.2.2.2.2.2.2.2.1) 1 (v := .slice (some ⟨g2, 0, none⟩) n n) rfl; go_simp; exact hKO _ W (.refl W) rfl
     ·have e6 := isOf hp.1; simp only [e6] at hKO; have fc2 := BxA.cell (hS.2.2.2.2.2.2.2.2.2.2.1) 2 (v := .slice (some ⟨g3, 0, none⟩) n n) rfl; go_simp; exact hKO _ W (.refl W) rfl
     ·have fc0 := BxA.cell (hS.2.2.2.2.2.1) 0 (v := .int .i64 (K : Int)) rfl; go_simp; exact hKO _ W (.refl W) rfl
     ·have fc0 := BxA.cell (hS.2.2.2.2.2.2.1) 0 (v := .int .i64 lr) rfl; have fc1 := BxA.cell (hS.2.2.2.2.2.2.1) 1 (v := .int .i64 b1) rfl; have fc2 := BxA.cell (hS.2.2.2.2.2.2.1) 2 (v := .int .i64 b2) rfl; have fc3 := BxA.cell (hS.2.2.2.2.2.2.1) 3 (v := .int .i64 eps) rfl; have fc4 := BxA.cell (hS.2.2.2.2.2.2.1) 4 (v := .int .i64 wd) rfl; have fc5 := BxA.cell (hS.2.2.2.2.2.2.1) 5 (v := .bool ap) rfl; go_simp; exact hKO _ W (.refl W) rfl
     ·have fc0 := hS.2.2.2.2.2.2.2.1.cell0; have fc1 := hS.2.2.2.2.2.2.2.1.cell1; go_simp; exact hKO _ W (.refl W) rfl
     ·have e12 := isOf hp.1; simp only [e12] at hKO; have fc0 := BxA.cell (hS.2.2.2.2.2.2.2.2.1) 0 (v := .slice (some ⟨ba0, oa0, none⟩) n c0) rfl; go_simp; exact hKO _ W (.refl W) rfl
     ·have e15 := isOf hp.1; simp only [e15] at hKO
      have fc := Iw.cell (hS.2.1) (i := k) (by omega)
      go_simp; exact hKO _ W (.refl W) rfl
     ·have e17 := isOf hp.1; simp only [e17] at hKO; have fc1 := BxA.cell (hS.2.2.2.2.2.2.2.2.1) 1 (v := .slice (some ⟨ba1, oa1, none⟩) n c1) rfl; go_simp; exact hKO _ W (.refl W) rfl
     ·have e20 := isOf hp.1; simp only [e20] at hKO
      have fc := Iw.cell (hS.2.2.1) (i := k) (by omega)
      go_simp; exact hKO _ W (.refl W) rfl
     ·have e22 := isOf hp.1; simp only [e22] at hKO; have fc2 := BxA.cell (hS.2.2.2.2.2.2.2.2.1) 2 (v := .slice (some ⟨ba2, oa2, none⟩) n c2) rfl; go_simp; exact hKO _ W (.refl W) rfl
     ·have e25 := isOf hp.1; simp only [e25] at hKO
      have fc := Iw.cell (hS.2.2.2.1) (i := k) (by omega)
      go_simp; exact hKO _ W (.refl W) rfl
     ·have e27 := isOf hp.1; simp only [e27] at hKO; have fc3 := BxA.cell (hS.2.2.2.2.2.2.2.2.1) 3 (v := .slice (some ⟨ba3, oa3, none⟩) n c3) rfl; go_simp; exact hKO _ W (.refl W) rfl
     ·have e30 := isOf hp.1; simp only [e30] at hKO
      have fc := Iw.cell (hS.2.2.2.2.1) (i := k) (by omega)
      go_simp; exact hKO _ W (.refl W) rfl
     ·have e9 := isOf hp.1; have e10 := isOf hp.2.1; have e11 := isOf hp.2.2.1; have e16 := isOf hp.2.2.2.1; have e21 := isOf hp.2.2.2.2.1; have e26 := isOf hp.2.2.2.2.2.1; have e31 := isOf hp.2.2.2.2.2.2.1; simp only [e9, e10, e11, e16, e21, e26, e31] at hKO; go_simp
      refine (Try.adamPlaceS (HIN.out k hlt) HPK.out _).mono ?_
      rintro e W1 ⟨rfl, hE⟩
      exact hKO _ W1 hE rfl
     ·have e37 := isOf hp.1; have e34 := isOf hp.2.1; simp only [e37, e34] at hKO
      obtain ⟨⟨z, hz⟩, hfz, hw, hq⟩ := RowBut.put (hS.2.2.2.2.2.2.2.2.2.2.2.1) (by first | (rw [partL_len]; exact hlt) | (simp; omega)) zx
      go_simp
      exact hKO _ hw ⟨(Ext.wr hS.1 hw (by omega)), (hS.2.1.wr hw (by omega)), (hS.2.2.1.wr hw (by omega)), (hS.2.2.2.1.wr hw (by omega)), (hS.2.2.2.2.1.wr hw (by omega)), (hS.2.2.2.2.2.1.wr hw (by omega)), (hS.2.2.2.2.2.2.1.wr hw (by omega)), (hS.2.2.2.2.2.2.2.1.wr hw (by omega)), (hS.2.2.2.2.2.2.2.2.1.wr hw (by omega)), (hS.2.2.2.2.2.2.2.2.2.1.wr hw (by omega)), (hS.2.2.2.2.2.2.2.2.2.2.1.wr hw (by omega)), (hS.2.2.2.2.2.2.2.2.2.2.2.1.setBut _), (hS.2.2.2.2.2.2.2.2.2.2.2.2.1.wr hw (by omega)), (hS.2.2.2.2.2.2.2.2.2.2.2.2.2.1.wr hw (by omega)), (Nat.le_trans hS.2.2.2.2.2.2.2.2.2.2.2.2.2.2 hw.apart.size)⟩ hq
     ·have e39 := isOf hp.1; have e35 := isOf hp.2.1; simp only [e39, e35] at hKO
      obtain ⟨⟨z, hz⟩, hfz, hw, hq⟩ := RowBut.put (hS.2.2.2.2.2.2.2.2.2.2.2.2.1) (by first | (rw [partL_len]; exact hlt) | (simp; omega)) zy
      go_simp
      exact hKO _ hw ⟨(Ext.wr hS.1 hw (by omega)), (hS.2.1.wr hw (by omega)), (hS.2.2.1.wr hw (by omega)), (hS.2.2.2.1.wr hw (by omega)), (hS.2.2.2.2.1.wr hw (by omega)), (hS.2.2.2.2.2.1.wr hw (by omega)), (hS.2.2.2.2.2.2.1.wr hw (by omega)), (hS.2.2.2.2.2.2.2.1.wr hw (by omega)), (hS.2.2.2.2.2.2.2.2.1.wr hw (by omega)), (hS.2.2.2.2.2.2.2.2.2.1.wr hw (by omega)), (hS.2.2.2.2.2.2.2.2.2.2.1.wr hw (by omega)), (hS.2.2.2.2.2.2.2.2.2.2.2.1.wr hw (by omega)), (hS.2.2.2.2.2.2.2.2.2.2.2.2.1.setBut _), (hS.2.2.2.2.2.2.2.2.2.2.2.2.2.1.wr hw (by omega)), (Nat.le_trans hS.2.2.2.2.2.2.2.2.2.2.2.2.2.2 hw.apart.size)⟩ hq
     ·have e41 := isOf hp.1; have e36 := isOf hp.2.1; simp only [e41, e36] at hKO
      obtain ⟨⟨z, hz⟩, hfz, hw, hq⟩ := RowBut.put (hS.2.2.2.2.2.2.2.2.2.2.2.2.2.1) (by first | (rw [partL_len]; exact hlt) | (simp; omega)) zz
      go_simp
      exact hKO _ hw ⟨(Ext.wr hS.1 hw (by omega)), (hS.2.1.wr hw (by omega)), (hS.2.2.1.wr hw (by omega)), (hS.2.2.2.1.wr hw (by omega)), (hS.2.2.2.2.1.wr hw (by omega)), (hS.2.2.2.2.2.1.wr hw (by omega)), (hS.2.2.2.2.2.2.1.wr hw (by omega)), (hS.2.2.2.2.2.2.2.1.wr hw (by omega)), (hS.2.2.2.2.2.2.2.2.1.wr hw (by omega)), (hS.2.2.2.2.2.2.2.2.2.1.wr hw (by omega)), (hS.2.2.2.2.2.2.2.2.2.2.1.wr hw (by omega)), (hS.2.2.2.2.2.2.2.2.2.2.2.1.wr hw (by omega)), (hS.2.2.2.2.2.2.2.2.2.2.2.2.1.wr hw (by omega)), (hS.2.2.2.2.2.2.2.2.2.2.2.2.2.1.setBut _), (Nat.le_trans hS.2.2.2.2.2.2.2.2.2.2.2.2.2.2 hw.apart.size)⟩ hq
    intro vs W3 hS hM hp
    clear ltf1 ltf2 ltf3 szw3 E0 h0 h1 h2 h3 p4 p5 p6 p7 p9 p8 f1 f2 f3
    obtain ⟨E0, h0, h1, h2, h3, p4, p5, p6, p7, p9, p8, f1, f2, f3, sz3⟩ := hS
    obtain ⟨h3_0, h3_1, h3_2, h3_3, h3_4, h3_5, h3_6, h3_7, h3_8, h3_9, h3_10, h3_11, h3_12, h3_13, h3_14, h3_15, h3_16, h3_17, h3_18, h3_19, h3_20, h3_21, h3_22, h3_23, h3_24, h3_25, h3_26, h3_27, h3_28, h3_29, h3_30, h3_31, h3_32, h3_33, h3_34, h3_35, h3_36, h3_37, h3_38, h3_39, h3_40, h3_41, h3_42, -⟩ := hp
    have r3_38 : RowI W3 g1 2 ((partL n k fun i => p1of (pl i)).set k zx) := h3_38
    have r3_40 : RowI W3 g2 2 ((partL n k fun i => p2of (pl i)).set k zy) := h3_40
    have r3_42 : RowI W3 g3 2 ((partL n k fun i => p3of (pl i)).set k zz) := h3_42
    clear hM
    simp only [isOf h3_0, isOf h3_1, isOf h3_2, isOf h3_3, isOf h3_4, isOf h3_5, isOf h3_6, isOf h3_7, isOf h3_8, isOf h3_9, isOf h3_10, isOf h3_11, isOf h3_12, isOf h3_13, isOf h3_14, isOf h3_15, isOf h3_16, isOf h3_17, isOf h3_18, isOf h3_19, isOf h3_20, isOf h3_21, isOf h3_22, isOf h3_23, isOf h3_24, isOf h3_25, isOf h3_26, isOf h3_27, isOf h3_28, isOf h3_29, isOf h3_30, isOf h3_31, isOf h3_32, isOf h3_33, isOf h3_34, isOf h3_35, isOf h3_36, isOf h3_37, isOf h3_39, isOf h3_41]
    clear h3_0 h3_1 h3_2 h3_3 h3_4 h3_5 h3_6 h3_7 h3_8 h3_9 h3_10 h3_11 h3_12 h3_13 h3_14 h3_15 h3_16 h3_17 h3_18 h3_19 h3_20 h3_21 h3_22 h3_23 h3_24 h3_25 h3_26 h3_27 h3_28 h3_29 h3_30 h3_31 h3_32 h3_33 h3_34 h3_35 h3_36 h3_37 h3_39 h3_41 h3_38 h3_40 h3_42
    rw [partL_set (show p1of (pl k) = zx from by rw [HP.out]; rfl)] at r3_38
    rw [partL_set (show p2of (pl k) = zy from by rw [HP.out]; rfl)] at r3_40
    rw [partL_set (show p3of (pl k) = zz from by rw [HP.out]; rfl)] at r3_42
    have k4a := p4.cell 0 (v := .int .i64 (K : Int)) rfl
    obtain ⟨k5a, k5b, k5c, k5d, k5e, k5f⟩ := p5.c6
    obtain ⟨k6a, k6b⟩ := p6.c2
    obtain ⟨k7a, k7b, k7c, k7d⟩ := p7.c4
    have k9a := p9.cell 0 (v := .int .i64 0) rfl
    obtain ⟨k8a, k8b, k8c, k8d⟩ := p8.c4
    go_wp2
    go_roundw
    case rel => exact ⟨k + 1, by go_num, by omega, Lib.hid (grow_some HA.out HP.out), E0, h0, h1, h2, h3, p4, p5, p6, p7, p9, p8, r3_38, r3_40, r3_42⟩
    case measure => simp [intOf]; omega
  ·have hkn : k = n := by omega
   have hge : ¬ (k : Int) < (n : Int) := by omega
   rw [hkn, partL_full] at r1
   rw [hkn, partL_full] at r2
   rw [hkn, partL_full] at r3
   have HKN := Lib.hid hkn
   clear hkn
   have z8 : ∀ i, wr.frozen? ⟨w.heap.size + 1 + 1 + 1 + 1, i, none⟩ = false := fun i => by simp [World.frozen?, show wr.heap[w.heap.size + 1 + 1 + 1 + 1]? = _ from p8]
   have z9 : wr.frozen? ⟨w.heap.size + 1 + 1 + 1 + 1 + 1, 0, none⟩ = false := by simp [World.frozen?, show wr.heap[w.heap.size + 1 + 1 + 1 + 1 + 1]? = _ from p9]
   have z80 := z8 0
   have z81 := z8 1
   have z82 := z8 2
   have z83 := z8 3
   clear z8
   have k4a := p4.cell 0 (v := .int .i64 (K : Int)) rfl
   obtain ⟨k5a, k5b, k5c, k5d, k5e, k5f⟩ := p5.c6
   obtain ⟨k6a, k6b⟩ := p6.c2
   obtain ⟨k7a, k7b, k7c, k7d⟩ := p7.c4
   have k9a := p9.cell 0 (v := .int .i64 0) rfl
   obtain ⟨k8a, k8b, k8c, k8d⟩ := p8.c4
   go_wp2; clear k4a k5a k5b k5c k5d k5e k5f k6a k6b k7a k7b k7c k7d k9a k8a k8b k8c k8d
   obtain ⟨W2, hW2, hw, hq⟩ := (Form4.of p8).put (some ⟨g1, 0, none⟩) n n (some ⟨g2, 0, none⟩) n n (some ⟨g3, 0, none⟩) n n none 0 0
   have lt8 := BxA.lt p8
   have lt9 := BxA.lt p9
   have lt1 := r1.lt; have lt2 := r2.lt; have lt3 := r3.lt
   rw [← hW2]
   clear hW2
   have r9 : RowI W2 (w.heap.size + 1 + 1 + 1 + 1 + 1) 32 [0] := BxA.wr p9 hw (by omega)
   have hw2 := Wr.row r9 0 0
   have q9 := r9.set 0 0
   obtain ⟨W3, hW3⟩ : ∃ W3, W3 = W2.setCell ⟨w.heap.size + 1 + 1 + 1 + 1 + 1, 0, none⟩ (.int .i64 0) := ⟨_, rfl⟩
   rw [← hW3] at hw2 q9 ⊢
   clear hW3
   refine leaves_cons (f := 44) (args := #[.pointer (some ⟨w.heap.size + 1 + 1 + 1 + 1, 0, none⟩), .pointer (some ⟨w.heap.size + 1 + 1 + 1 + 1 + 1, 0, none⟩)]) (by simp) (by simp [go_sem]) ?_
   refine (Try.adamIdle _ _ _).mono ?_
   rintro e2 u2 W4 ⟨rfl, rfl, rfl⟩
   have q8 := hq.wr hw2 (by omega)
   have k80 := q8.cell 0 (v := .slice (some ⟨g1, 0, none⟩) n n) rfl
   have k81 := q8.cell 1 (v := .slice (some ⟨g2, 0, none⟩) n n) rfl
   have k82 := q8.cell 2 (v := .slice (some ⟨g3, 0, none⟩) n n) rfl
   have k83 := q8.cell 3 (v := .slice none 0 0) rfl
   have k90 := BxA.cell q9 0 (v := .int .i64 0) rfl
   have s1 := (r1.wr hw (by omega)).wr hw2 (by omega)
   have s2 := (r2.wr hw (by omega)).wr hw2 (by omega)
   have s3 := (r3.wr hw (by omega)).wr hw2 (by omega)
   have l1 := s1.lt
   have l2 := s2.lt
   have l3 := s3.lt
   change ∃ v, (results _ _).run _ _ = .ok v _ ∧ _
   exact ⟨.tuple #[.agg (Three.val n g1 g2 g3), .int .i64 0], by simp [results, Try.results27, go_sem, Three.val, k80, k81, k82, k83, k90], Ext.wr (Ext.wr E0 hw (by omega)) hw2 (by omega), .inl ⟨fun i hi => HA.out i (by have := HKN.out; omega), g1, g2, g3, rfl, (s1.iw (outL_i64 (fun i => (HG.out i).1)) (by simp [outL]) (by omega)).mono (by omega) (by omega), (s2.iw (outL_i64 (fun i => (HG.out i).2.1)) (by simp [outL]) (by omega)).mono (by omega) (by omega), (s3.iw (outL_i64 (fun i => (HG.out i).2.2)) (by simp [outL]) (by omega)).mono (by omega) (by omega)⟩⟩


end Go.Rt
