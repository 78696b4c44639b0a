/-
  The live question of chapter 16.
-/
import Derived.Test.YtfgmfhdcdhanbaaGreatClipC
import Derived.Test.YtfgmfhdcdhanbaaGreatGT

namespace Go.Rt

open Go Go.RowKit Go.Proofs

theorem mwBox {W : World} {g lo hh : Nat} {t : TypeId} {vs : List Value} {ls : List (List Int)} (hb : BxA W g t vs.toArray) (hg : lo ≤ g ∧ g < hh) (hl : ls.length = vs.length) (hm : vs.length ≤ 9223372036854775807)
    (h : ∀ i, i < vs.length → ∃ ai ci, vs[i]? = some (.slice ai (atR ls i).length ci) ∧ Iz lo hh W ai (atR ls i).length ci (atR ls i)) : Mw lo hh W (some ⟨g, 0, none⟩) vs.length vs.length ls := by
  refine ⟨hl, ⟨g, 0, fun i => vs.getD i (.slice none 0 0), ⟨.inl rfl, Nat.le_refl _, by unfold maxLen; exact hm, fun i hi => ?_⟩, fun _ => hg, fun i hi => ?_⟩⟩
  · rw [Nat.zero_add]
    refine BxA.cell hb i ?_
    obtain ⟨ai, ci, e, -⟩ := h i hi
    show vs.toArray[i]? = some (vs.getD i (.slice none 0 0))
    rw [List.getD_eq_getElem?_getD, e]
    simpa using e
  · obtain ⟨ai, ci, e, k⟩ := h i hi
    refine ⟨ai, ci, ?_, k⟩
    show vs.getD i (.slice none 0 0) = _
    rw [List.getD_eq_getElem?_getD, e]
    rfl

theorem mwTwo {W : World} {g lo hh : Nat} {t : TypeId} {a0 a1 : Option Addr} {n0 c0 n1 c1 : Nat} {l0 l1 : List Int} (hb : BxA W g t #[.slice a0 n0 c0, .slice a1 n1 c1]) (hg : lo ≤ g ∧ g < hh) (h0 : Iz lo hh W a0 n0 c0 l0) (h1 : Iz lo hh W a1 n1 c1 l1) : Mw lo hh W (some ⟨g, 0, none⟩) 2 2 [l0, l1] := by
  obtain rfl := h0.len
  obtain rfl := h1.len
  exact mwBox (vs := [.slice a0 l0.length c0, .slice a1 l1.length c1]) hb hg rfl (by simp) fun i hi => by
    match i, hi with
    | 0, _ => exact ⟨_, _, rfl, h0⟩
    | 1, _ => exact ⟨_, _, rfl, h1⟩

theorem izLit1 {W : World} {g : Nat} {t : TypeId} {x : Int} (hb : BxA W g t #[.int .i64 x]) (hx : I64 x) : Iz g (g + 1) W (some ⟨g, 0, none⟩) 1 1 [x] :=
  .inl (RowI.iw (l := [x]) hb (fun y hy => by rw [List.mem_singleton] at hy; exact hy ▸ hx) rfl (by simp))

theorem izLit2 {W : World} {g : Nat} {t : TypeId} {x y : Int} (hb : BxA W g t #[.int .i64 x, .int .i64 y]) (hx : I64 x) (hy : I64 y) : Iz g (g + 1) W (some ⟨g, 0, none⟩) 2 2 [x, y] :=
  .inl (RowI.iw (l := [x, y]) hb (fun z hz => by rcases List.mem_cons.1 hz with h | h; exact h ▸ hx; (rw [List.mem_singleton] at h; exact h ▸ hy)) rfl (by simp))

theorem norm34 : rootU (sqs [3, 4]) 2 = 5 := by
  have r1 : rt 25 2 = 5 := rt_eq (by omega) ⟨by decide, by decide⟩
  show rootU 25 2 = 5
  rw [rootU_in (by omega)]
  show rtUp 25 2 = 5
  unfold rtUp
  rw [r1, if_pos (by decide)]

theorem mean34 : meanL [[3], [4]] = [4] := by
  have h : nearR (mkRat 7 2 * P2 0) = 4 := by
    rw [show mkRat 7 2 * P2 0 = ((7 : Nat) : Rat) / ((2 : Nat) : Rat) by decide +kernel, near_ratio 7 2 (by omega)]
    decide
  show [fitV (nearR (mkRat 7 2 * P2 0))] = [4]
  rw [h]
  decide

set_option maxRecDepth 100000 in
set_option maxHeartbeats 8000000 in
theorem Tryz.alive16 (w : World) : Calls Tryz.prog 6 #[] w fun e w' => e = .returned (.bool true) ∧ Ext w w' := by
 obtain ⟨W1, hW1⟩ : ∃ W1, W1 = ((w.alloc (.cells #[.int .i64 3] 2)).alloc (.cells #[.int .i64 4] 2)).alloc (.cells #[.slice (some ⟨w.heap.size, 0, none⟩) 1 1, .slice (some ⟨w.heap.size + 1, 0, none⟩) 1 1] 28) := ⟨_, rfl⟩
 have E0 : Ext w W1 := by rw [hW1]; exact ((Ext.alloc1 w _).alloc _).alloc _
 have hM : Mw w.heap.size W1.heap.size W1 (some ⟨w.heap.size + 1 + 1, 0, none⟩) 2 2 [[3], [4]] := by
  have b0 : BxA W1 w.heap.size 2 #[.int .i64 3] := by rw [hW1]; exact (BxA.new w _ _).ext ((Ext.alloc1 _ _).alloc _)
  have b1 : BxA W1 (w.heap.size + 1) 2 #[.int .i64 4] := by rw [hW1]; simpa using (BxA.new (w.alloc (.cells #[.int .i64 3] 2)) 2 #[.int .i64 4]).ext (Ext.alloc1 _ _)
  have b2 : BxA W1 (w.heap.size + 1 + 1) 28 #[.slice (some ⟨w.heap.size, 0, none⟩) 1 1, .slice (some ⟨w.heap.size + 1, 0, none⟩) 1 1] := by rw [hW1]; simpa using BxA.new ((w.alloc (.cells #[.int .i64 3] 2)).alloc (.cells #[.int .i64 4] 2)) 28 #[.slice (some ⟨w.heap.size, 0, none⟩) 1 1, .slice (some ⟨w.heap.size + 1, 0, none⟩) 1 1]
  have hz : W1.heap.size = w.heap.size + 1 + 1 + 1 := by rw [hW1]; simp
  exact mwTwo b2 (by omega) ((izLit1 b0 (by unfold I64; omega)).mono (by omega) (by omega)) ((izLit1 b1 (by unfold I64; omega)).mono (by omega) (by omega))
 have HSZ : Hid (W1.heap.size = W1.heap.size) := Lib.hid rfl
 go_enter Tryz.func6, Tryz.ntmps6
 go_wp2_with fail
 rw [← hW1]
 clear hW1
 refine (Tryz.clipNorm hM (by decide)).mono ?_
 rintro e W2 ⟨v2, rfl, hN, hE⟩
 rw [show ([[3], [4]] : List (List Int)).flatten = [3, 4] from rfl, norm34] at hN
 replace E0 := E0.trans hE
 replace hM := hM.ext hE
 have hz2 := hE.size
 clear hE
 obtain ⟨a2, n2, c2, rfl⟩ := Nw.slice hN
 go_wp2_with fail
 refine (Tryz.meanYes hM (by omega) (by omega) (by decide) hz2 (by decide)).mono ?_
 rintro e W3 ⟨a3, c3, rfl, h3, hE⟩
 rw [mean34] at h3
 replace h3 : Iw W2.heap.size W3.heap.size W3 a3 1 c3 [4] := h3
 rw [show (atR [[3], [4]] 0).length = 1 from rfl]
 replace E0 := E0.trans hE
 replace hN := hN.ext hE
 clear hE hM hz2
 obtain ⟨W4, hW4⟩ : ∃ W4, W4 = W3.alloc (.cells #[.int .i64 3, .int .i64 (-4)] 2) := ⟨_, rfl⟩
 have hE : Ext W3 W4 := by rw [hW4]; exact Ext.alloc1 _ _
 have hI : Iz W3.heap.size (W3.heap.size + 1) W4 (some ⟨W3.heap.size, 0, none⟩) 2 2 [3, -4] := by
  rw [hW4]
  exact izLit2 (BxA.new W3 2 #[.int .i64 3, .int .i64 (-4)]) (by unfold I64; omega) (by unfold I64; omega)
 go_wp2_with fail
 rw [← hW4]
 clear hW4
 replace E0 := E0.trans hE
 replace hN := hN.ext hE
 replace h3 := h3.ext hE
 clear hE
 refine (Tryz.clipYes (m := 2) hI (by omega) (by omega) (by unfold Sm; rw [B64_eq]; omega) hN).mono ?_
 rintro e W5 ⟨a5, c5, rfl, h5, hE⟩
 rw [show clipL 5 2 [3, -4] = [1, -1] by decide] at h5
 replace E0 := E0.trans hE
 replace hN := hN.ext hE
 replace h3 := h3.ext hE
 clear hE hI
 go_wp2_with fail
 refine (Tryz.meanNone W5).mono ?_
 rintro e W6 ⟨rfl, hE⟩
 replace E0 := E0.trans hE
 replace hN := hN.ext hE
 replace h3 := h3.ext hE
 replace h5 := h5.ext hE
 clear hE
 obtain ⟨x1, x2, x3, ex, x4, x5, x6⟩ := hN.cells (L := 0) (by decide) (by decide)
 obtain ⟨rfl, rfl, rfl⟩ := Value.slice.inj ex
 have x7 := x6 0 (by omega)
 simp only [Nat.pow_zero, Nat.div_one, Nat.add_zero, B64_eq] at x7
 clear hN x6 ex
 obtain ⟨b3, o3, rfl, -, -⟩ := h3.some (by omega)
 have y0 := h3.cell (i := 0) (by omega)
 obtain ⟨b5, o5, rfl, -, -⟩ := h5.some (by omega)
 have z0 := h5.cell (i := 0) (by omega)
 have z1 := h5.cell (i := 1) (by omega)
 rw [Nat.add_zero] at y0 z0
 rw [show atL [4] 0 = 4 from rfl] at y0
 rw [show atL [1, -1] 0 = 1 from rfl] at z0
 rw [show atL [1, -1] 1 = -1 from rfl] at z1
 clear h3 h5
 go_wp2
 go_ret
 exact ⟨rfl, E0⟩

end Go.Rt
