/-
  Adafactor: rows of one number; the mean of one number.
-/
import Derived.Test.YtkbalokicnogbaaGreatAdaA
import Derived.Test.YtkbalokicnogbaaGreatClipC
import Derived.Test.YtkbalokicnogbaaGreatOwnM
import Derived.Test.YtkbalokicnogbaaGreatGO
namespace Go.Rt
open Go Go.RowKit Go.Proofs

/-- a row of one number, its block from B on -/
def RowY (B : Nat) (W : World) (v : Value) (y : Int) : Prop := ∃ g cap, v = .slice (some ⟨g, 0, none⟩) 1 cap ∧ B ≤ g ∧ g < W.heap.size ∧ 1 ≤ cap ∧ cap ≤ maxLen ∧ W.cell? ⟨g, 0, none⟩ = some (.int .i64 y)

theorem RowY.ext {B : Nat} {W W' : World} {v : Value} {y : Int} (h : RowY B W v y) (hE : Ext W W') : RowY B W' v y :=
  let ⟨g, c, h1, h2, h3, h4, h5, h6⟩ := h; ⟨g, c, h1, h2, Nat.lt_of_lt_of_le h3 hE.size, h4, h5, hE.cell h6⟩

theorem RowY.wr {B k : Nat} {W W' : World} {v : Value} {y : Int} (h : RowY B W v y) (hw : Wr k W W') (hk : k < B) : RowY B W' v y :=
  let ⟨g, c, h1, h2, h3, h4, h5, h6⟩ := h; ⟨g, c, h1, h2, Nat.lt_of_lt_of_le h3 hw.apart.size, h4, h5, hw.apart.cell (by simp; omega) h6⟩

theorem RowY.mono {B B' : Nat} {W : World} {v : Value} {y : Int} (h : RowY B W v y) (hB : B' ≤ B) : RowY B' W v y :=
  let ⟨g, c, h1, h2, h3⟩ := h; ⟨g, c, h1, Nat.le_trans hB h2, h3⟩

theorem RowY.iw {B : Nat} {W : World} {v : Value} {y : Int} (h : RowY B W v y) (hy : I64 y) : ∃ g cap, v = .slice (some ⟨g, 0, none⟩) 1 cap ∧ Iw B W.heap.size W (some ⟨g, 0, none⟩) 1 cap [y] := by
  obtain ⟨g, c, h1, h2, h3, h4, h5, h6⟩ := h
  refine ⟨g, c, h1, ⟨rfl, ⟨g, 0, ⟨.inl rfl, h4, h5, fun i hi => ?_⟩, fun _ => ⟨h2, h3⟩⟩, fun x hx => by simp at hx; subst hx; exact hy⟩⟩
  obtain rfl : i = 0 := by omega
  exact h6

theorem RowY.own {base : Nat} {W : World} {g cap : Nat} {e : TypeId} {y : Int} (h : OwnI W base e (.slice (some ⟨g, 0, none⟩) 1 cap) [y]) : RowY base W (.slice (some ⟨g, 0, none⟩) 1 cap) y := by
  rcases h.2 with ⟨h1, -⟩ | ⟨g', cap', cur, h1, hb, hg, hc, hm, hs, ht⟩
  · cases h1
  · cases h1
    have hlt := (Array.getElem?_eq_some_iff.1 hg).1
    refine ⟨g, cap, rfl, hb, hlt, hc, hm, ?_⟩
    have h3 : (cur.toList.take 1)[0]? = some (.int .i64 y) := by
      have : cur.toList.take (1 * 1) = [Value.int .i64 y] := ht
      rw [show (1 : Nat) = 1 * 1 from rfl, this]
      rfl
    rw [List.getElem?_take, if_pos (by omega)] at h3
    simp [World.cell?, hg]
    rw [← Array.getElem?_toList]
    exact h3

/-- a slice written out, of one number -/
def NewY (B : Nat) (W : World) (v : Value) (y : Int) : Prop := ∃ g, v = .slice (some ⟨g, 0, none⟩) 1 1 ∧ B ≤ g ∧ g < W.heap.size ∧ W.cell? ⟨g, 0, none⟩ = some (.int .i64 y)

theorem tag_newy {B : Nat} {y : Int} : Tag.ok B .fresh (PS.one fun v W => NewY B W v y) :=
  ⟨fun _ _ _ _ hE ⟨g, h1, h2, h3, h4⟩ => ⟨g, h1, h2, Nat.lt_of_lt_of_le h3 hE.size, hE.cell h4⟩, fun _ _ _ _ _ hw hg ⟨g, h1, h2, h3, h4⟩ => ⟨g, h1, h2, Nat.lt_of_lt_of_le h3 hw.apart.size, hw.apart.cell (by simp; omega) h4⟩⟩

theorem tag_rowy {B : Nat} {y : Int} : Tag.ok B .fresh (PS.one fun v W => RowY B W v y) :=
  ⟨fun _ _ _ _ hE h => h.ext hE, fun _ _ _ _ _ hw hg h => h.wr hw (by omega)⟩

/-- 'append(s, y)' onto nothing, at a step of a region that draws its order -/
theorem step_append_y {P : Program} {t e : TypeId} (ht : P.underlying t = .some (.slice e)) (hi : InfoI P e) {ops : Array Oper} {o : Oper} {a : Act} {K : Act → World → Prop} {Q : Exit → Act → World → Prop} {E : Prop} {w : World} (hgd : o.guard = none) (s x : Operand)
    (ho : o.op = .call { callee := .builtin .append, args := #[s, x], argTypes := #[t, t] }) {b : Nat} {y : Int} (hs : a.eval s = .slice none 0 0) (hx : a.eval x = .slice (some ⟨b, 0, none⟩) 1 1) (hc : w.cell? ⟨b, 0, none⟩ = some (.int .i64 y))
    (h : ∀ v w', Ext w w' → RowY w.heap.size w' v y → K (a.put o.dst v) w') : if Region.wanted o (yielded ops a.tmps) = true then Oper.wp P o a w K Q else E := by
  obtain ⟨i0, h1, h2, h3, h4⟩ := hi.get
  refine step_append_lies w hgd s x t ho w.heap.size e i0 (.int .i64 0) 1 8 ht h1 h2 h3 h4 rfl (by decide) (.slice none 0 0) 0 [] hs (World.ownsRow_nil w w.heap.size e 1) ⟨b, 0, none⟩ 1 1 [.int .i64 y] hx rfl ?_ ?_ (by decide) (by decide) (by omega) (Nat.le_refl _) w.heap.size rfl ?_
  · intro j u hj
    match j, hj with
    | 0, hj => simp at hj; subst hj; simpa [Addr.add] using hc
  · intro u hu; simp at hu; subst hu; rfl
  · intro g cap w' ho' hg' _ _
    refine h _ w' (Ext.grown (Ext.refl w) hg' (fun k e => by cases e)) ?_
    have ho2 : OwnI w' w.heap.size e (.slice (some ⟨g, 0, none⟩) 1 cap) [y] := ho'
    exact RowY.own ho2

theorem iw_new {lo : Nat} {x : Int} (W : World) (t : TypeId) (hx : I64 x) (hlo : lo ≤ W.heap.size) : Iw lo (W.heap.size + 1) (W.alloc (.cells #[.int .i64 x] t)) (some ⟨W.heap.size, 0, none⟩) 1 1 [x] := by
  have hbx := BxA.new W t #[.int .i64 x]
  refine ⟨rfl, ⟨W.heap.size, 0, ⟨.inl rfl, Nat.le_refl _, by decide, fun i hi => ?_⟩, fun _ => ⟨hlo, Nat.lt_succ_self _⟩⟩, fun y hy => by simp at hy; subst hy; exact hx⟩
  obtain rfl : i = 0 := by omega
  exact hbx.cell 0 rfl

theorem mean_one {x : Int} (hx : I64 x) : meanL [[x]] = [x] := by
  show [meanV [[x]] 0] = [x]
  unfold meanV
  have h1 : colS [[x]] 0 = x := by unfold colS; simp [atL]
  have h2 : (mkRat x 1 * P2 0) = (x : Rat) := by
    rw [Rat.mkRat_one, show P2 0 = 1 from by unfold P2; rfl, Rat.mul_one]
  rw [h1]
  show [fitV (nearR (mkRat x 1 * P2 0))] = [x]
  rw [h2, near_int, fitV_in (fits_iff.2 hx)]

set_option maxRecDepth 100000 in
set_option maxHeartbeats 8000000 in
theorem Tryz.adaMean {lo hh c : Nat} {a : Option Addr} {x : Int} {w : World} (h : Iw lo hh w a 1 c [x]) :
    Calls Tryz.prog 142 #[.slice a 1 c] w fun e w' => e = .returned (.int .i64 x) ∧ Ext w w' := by
  obtain ⟨b, o, rfl, -, -⟩ := h.some (by decide)
  have HX := Lib.hid (h.in64 x (by simp))
  have h0 := h
  have E0 := Ext.refl w
  go_enter Tryz.func142, Tryz.ntmps142
  go_wp2_with fail
  go_loopw [3, 10] (fun v i wr => (i = .int .i64 0 ∧ v = .slice none 0 0 ∨ i = .int .i64 1 ∧ ∃ g cap, v = .slice (some ⟨g, 0, none⟩) 1 cap ∧ Mw w.heap.size wr.heap.size wr (some ⟨g, 0, none⟩) 1 cap [[x]]) ∧ Ext w wr) (fun _ i _ => 1 - (intOf i).toNat)
  case atStart => exact ⟨.inl ⟨rfl, rfl⟩, E0⟩
  case round =>
    clear E0
    obtain ⟨hr, E0⟩ := hrel
    rcases hr with ⟨rfl, rfl⟩ | ⟨rfl, g, cap, rfl, hm⟩
    · have hc0 := (h0.ext E0).cell (i := 0) (by omega)
      rw [Nat.add_zero] at hc0
      have hc1 : World.cell? wr ⟨b, o, none⟩ = some (.int .i64 x) := hc0
      clear hc0
      go_upto_region 5 with (fail)
      have hlw : w.heap.size ≤ wr.heap.size := Ext.size E0
      go_wp2_with (at_builtin; go_loud (refine append_v Tryz.underlying172 Tryz.infoM rfl _ _ rfl w.heap.size _ [] (some ⟨wr.heap.size, 0, none⟩) 1 1 (by rfl) (by first | rfl | (show Value.slice (some ⟨wr.heap.size + 1, 0, none⟩) 1 1 = _; simp)) (World.ownsRow_nil _ _ _ _) (by simp) (by simp; omega) ?_); intro g cap w4 ho4 hg4 hat4 hlt4)
      have E4 : Ext wr w4 := ((Ext.alloc1 wr _).trans (Ext.alloc1 _ _)).grown hg4 (fun k e => by cases e)
      have E5 : Ext (wr.alloc (.cells #[.int .i64 x] 2)) w4 := (Ext.alloc1 _ _).grown hg4 (fun k e => by cases e)
      have hi1 := ((iw_new wr 2 HX.out hlw).ext E5).mono (Nat.le_refl _) (show wr.heap.size + 1 ≤ w4.heap.size by have := E5.size; simpa using this)
      have ho5 : OwnV w4 w.heap.size 25 (.slice (some ⟨g, 0, none⟩) 1 cap) [.slice (some ⟨wr.heap.size, 0, none⟩) 1 1] := ho4
      obtain ⟨a2, c2, ev, hm⟩ := ho5.mw (lo := w.heap.size) (hh := w4.heap.size) (ls := [[x]]) rfl (fun g hg => ho5.block g hg) (fun i hi => by
        obtain rfl : i = 0 := by simp at hi; omega
        exact ⟨_, _, rfl, .inl hi1⟩)
      cases ev
      go_roundw
      case rel => exact ⟨.inr ⟨by go_num, g, _, rfl, hm⟩, E0.trans E4⟩
      case measure => simp [intOf]
    · go_wp2_with fail
      have hmn := Tryz.meanYes hm (by decide) (by omega) (by show 1 ≤ 1000; omega) (Nat.le_refl _) rfl
      rw [show (atR [[x]] 0).length = 1 from rfl, mean_one HX.out] at hmn
      refine hmn.mono ?_
      clear hmn
      rintro e V ⟨a2, c2, rfl, hi2, hE⟩
      obtain ⟨b2, o2, rfl, -, -⟩ := hi2.some (by decide)
      have hc0 := hi2.cell (i := 0) (by omega)
      rw [Nat.add_zero] at hc0
      have hc1 : World.cell? V ⟨b2, o2, none⟩ = some (.int .i64 x) := hc0
      have E1 := E0.trans hE
      clear hc0 hi2 hm hE E0
      go_wp2
      go_ret
      exact ⟨rfl, E1⟩
end Go.Rt
