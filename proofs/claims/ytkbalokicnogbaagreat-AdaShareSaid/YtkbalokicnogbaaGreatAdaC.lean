/-
  Adafactor: the live question's step.
-/
import Derived.Test.YtkbalokicnogbaaGreatAdaB
import Derived.Test.YtkbalokicnogbaaGreatAdaS
import Derived.Test.YtkbalokicnogbaaGreatAdamF
import Derived.Recover
import Derived.Laws.Pointers
namespace Go.Rt
open Go Go.RowKit Go.Proofs

theorem M1024 : mulO 8 512 512 = some 1024 := mulO_nat (K := 8) (a := 512) (b := 512) (c := 1024) (by decide) (by omega)

theorem M0 : mulO 8 (oneZ 8 - 256) 9 = some 0 := by
  rw [show oneZ 8 - 256 = ((0 : Nat) : Int) from by decide]
  exact mulO_nat (K := 8) (a := 0) (b := 9) (c := 0) (by decide) (by omega)

theorem M1025 : mulO 8 256 1025 = some 1025 := mulO_nat (K := 8) (a := 256) (b := 1025) (c := 1025) (by decide) (by omega)

theorem M256 : mulO 8 256 256 = some 256 := mulO_nat (K := 8) (a := 256) (b := 256) (c := 256) (by decide) (by omega)

theorem M16 : mulO 8 16 256 = some 16 := mulO_nat (K := 8) (a := 16) (b := 256) (c := 16) (by decide) (by omega)

theorem D256 : divO 8 512 512 = some 256 := divO_nat (K := 8) (a := 512) (b := 512) (c := 256) (by omega) (by decide) (by omega)

theorem R512 : rt (1025 * 2 ^ 8) 2 = 512 := rt_eq (by decide) ⟨by decide, by decide⟩

theorem R256 : rt (256 * 2 ^ 8) 2 = 256 := rt_eq (by decide) ⟨by decide, by decide⟩

set_option maxRecDepth 100000 in
set_option maxHeartbeats 4000000 in
theorem Tryz.adaMoments1 {lo hi bw ow cw bv ov cv bg og cg : Nat} {w : World} (hv : Iw lo hi w (some ⟨bv, ov, none⟩) 1 cv [9]) (hg : Iw lo hi w (some ⟨bg, og, none⟩) 1 cg [512]) :
    Calls Tryz.prog 105 #[.agg #[.int .i64 16, .int .i64 1, .int .i64 256, .int .i64 8, .int .i64 1, .int .i64 256], .agg #[.slice (some ⟨bw, ow, none⟩) 1 cw, .slice none 0 0, .slice (some ⟨bv, ov, none⟩) 1 cv, .slice (some ⟨bg, og, none⟩) 1 cg]] w fun e w' => ∃ v, e = .returned (.tuple #[.slice none 0 0, v, v]) ∧ RowY w.heap.size w' v 1025 ∧ Ext w w' := by
  have hv0 := hv
  have hg0 := hg
  clear hv hg
  obtain ⟨B, hB⟩ : ∃ B, B = w.heap.size := ⟨_, rfl⟩
  have HB := Lib.hid hB
  obtain ⟨W0, hW0⟩ : ∃ W0, W0 = ((w.alloc (.cells #[.int .i64 16, .int .i64 1, .int .i64 256, .int .i64 8, .int .i64 1, .int .i64 256] 94)).alloc (.cells #[.slice (some ⟨bw, ow, none⟩) 1 cw, .slice none 0 0, .slice (some ⟨bv, ov, none⟩) 1 cv, .slice (some ⟨bg, og, none⟩) 1 cg] 27)) := ⟨_, rfl⟩
  have E0 : Ext w W0 := by rw [hW0]; exact ((Ext.alloc1 w (.cells #[.int .i64 16, .int .i64 1, .int .i64 256, .int .i64 8, .int .i64 1, .int .i64 256] 94)).alloc (.cells #[.slice (some ⟨bw, ow, none⟩) 1 cw, .slice none 0 0, .slice (some ⟨bv, ov, none⟩) 1 cv, .slice (some ⟨bg, og, none⟩) 1 cg] 27))
  have p2 : BxA W0 w.heap.size 94 #[.int .i64 16, .int .i64 1, .int .i64 256, .int .i64 8, .int .i64 1, .int .i64 256] := by rw [hW0]; exact (BxA.new w 94 #[.int .i64 16, .int .i64 1, .int .i64 256, .int .i64 8, .int .i64 1, .int .i64 256]).ext (Ext.alloc1 (w.alloc (.cells #[.int .i64 16, .int .i64 1, .int .i64 256, .int .i64 8, .int .i64 1, .int .i64 256] 94)) (.cells #[.slice (some ⟨bw, ow, none⟩) 1 cw, .slice none 0 0, .slice (some ⟨bv, ov, none⟩) 1 cv, .slice (some ⟨bg, og, none⟩) 1 cg] 27))
  have p3 : BxA W0 (w.heap.size + 1) 27 #[.slice (some ⟨bw, ow, none⟩) 1 cw, .slice none 0 0, .slice (some ⟨bv, ov, none⟩) 1 cv, .slice (some ⟨bg, og, none⟩) 1 cg] := by rw [hW0]; simpa using (BxA.new (w.alloc (.cells #[.int .i64 16, .int .i64 1, .int .i64 256, .int .i64 8, .int .i64 1, .int .i64 256] 94)) 27 #[.slice (some ⟨bw, ow, none⟩) 1 cw, .slice none 0 0, .slice (some ⟨bv, ov, none⟩) 1 cv, .slice (some ⟨bg, og, none⟩) 1 cg])
  go_enter Tryz.func105, Tryz.ntmps105
  obtain ⟨kp2_0, kp2_1, kp2_2, kp2_3, kp2_4, kp2_5⟩ := p2.c6
  obtain ⟨kp3_0, kp3_1, kp3_2, kp3_3⟩ := p3.c4
  go_wp2_with fail
  rw [← hW0]
  clear hW0
  clear kp2_0 kp2_1 kp2_2 kp2_3 kp2_4 kp2_5 kp3_0 kp3_1 kp3_2 kp3_3
  go_loopw [7, 25] (fun v i wr => (i = .int .i64 0 ∧ v = .slice none 0 0 ∨ i = .int .i64 1 ∧ RowY B wr v 1025) ∧ BxA wr w.heap.size 94 #[.int .i64 16, .int .i64 1, .int .i64 256, .int .i64 8, .int .i64 1, .int .i64 256] ∧ BxA wr (w.heap.size + 1) 27 #[.slice (some ⟨bw, ow, none⟩) 1 cw, .slice none 0 0, .slice (some ⟨bv, ov, none⟩) 1 cv, .slice (some ⟨bg, og, none⟩) 1 cg] ∧ Ext w wr) (fun _ i _ => 1 - (intOf i).toNat)
  case atStart => exact ⟨.inl ⟨rfl, rfl⟩, p2, p3, E0⟩
  case round =>
    clear p2 p3 E0
    obtain ⟨hr, p2, p3, E0⟩ := hrel
    rcases hr with ⟨rfl, rfl⟩ | ⟨rfl, hy⟩
    · have EB := Lib.hid E0
      have kc := (hg0.ext E0).cell (i := 0) (by omega)
      rw [Nat.add_zero] at kc
      have hx : atL [512] 0 = 512 := rfl
      rw [hx] at kc
      obtain ⟨kp2_0, kp2_1, kp2_2, kp2_3, kp2_4, kp2_5⟩ := p2.c6
      obtain ⟨kp3_0, kp3_1, kp3_2, kp3_3⟩ := p3.c4
      go_upto_region 5 with (fail)
      clear kp2_0 kp2_1 kp2_2 kp2_3 kp2_4 kp2_5 kp3_0 kp3_1 kp3_2 kp3_3
      clear kc hx
      have ltp2 := p2.lt
      have ltp3 := p3.lt
      have szw1 := Ext.size E0
      refine region_go2 [.one fun v _ => v = .slice none 0 0,
          .one fun v _ => v = .agg #[.int .i64 16, .int .i64 1, .int .i64 256, .int .i64 8, .int .i64 1, .int .i64 256],
          .one fun v _ => v = .int .i64 512,
          .one fun v _ => v = .int .i64 512,
          .one fun v _ => v = .int .i64 1024,
          .one fun v _ => v = .pointer (some ⟨w.heap.size, 0, none⟩),
          .one fun v _ => v = .pointer (some ⟨w.heap.size, 1, none⟩),
          .one fun v _ => v = .int .i64 1,
          .one fun v _ => v = .tuple #[.int .i64 1025, .int .i64 0],
          .one fun v _ => v = .int .i64 1025,
          .one fun v _ => v = .int .i64 0,
          .one fun v _ => v = .int .i64 1025,
          .one fun v W => NewY wr.heap.size W v 1025,
          .one fun v W => RowY wr.heap.size W v 1025,
          .one fun v W => RowY wr.heap.size W v 1025]
        (fun W => Ext w W ∧ BxA W w.heap.size 94 #[.int .i64 16, .int .i64 1, .int .i64 256, .int .i64 8, .int .i64 1, .int .i64 256] ∧ BxA W (w.heap.size + 1) 27 #[.slice (some ⟨bw, ow, none⟩) 1 cw, .slice none 0 0, .slice (some ⟨bv, ov, none⟩) 1 cv, .slice (some ⟨bg, og, none⟩) 1 cg] ∧ wr.heap.size ≤ W.heap.size) wr.heap.size [] [Tag.any, Tag.any, Tag.any, Tag.any, Tag.any, Tag.any, Tag.any, Tag.any, Tag.any, Tag.any, Tag.any, Tag.any, Tag.fresh, Tag.fresh, Tag.fresh] ⟨Good.is _, Good.is _, Good.is _, Good.is _, Good.is _, Good.is _, Good.is _, Good.is _, Good.is _, Good.is _, Good.is _, Good.is _, tag_newy, tag_rowy, tag_rowy, trivial⟩ (fun g0 hg => by simp at hg)
        (fun W W1 hS hE => ⟨(Ext.trans hS.1 hE), (hS.2.1.ext hE), (hS.2.2.1.ext hE), (Nat.le_trans hS.2.2.2 (Ext.size hE))⟩) ⟨E0, p2, p3, Nat.le_refl _⟩ (fun m hm => by simp at hm) (by kernel_rfl) (by kernel_rfl) (by kernel_rfl) (by kernel_rfl) (A := ?A1) ?hA1 ?howe1 ?hfin1
      case hA1 =>
        intro vs
        simp only [putAll, Act.put, List.setIfInBounds_toArray, List.set_cons_zero, List.set_cons_succ, Nat.zero_add, Nat.reduceAdd]
        exact rfl
      case howe1 =>
        clear E0 p2 p3
        intro hf
        refine ⟨owesM 0 [] hf rfl rfl (by kernel_rfl) ?_, owesM 1 [] hf rfl rfl (by kernel_rfl) ?_, owesM 2 [] hf rfl rfl (by kernel_rfl) ?_, owesM 3 [] hf rfl rfl (by kernel_rfl) ?_, owesM 4 [1, 2, 3] hf rfl rfl (by kernel_rfl) ?_, owesM 5 [] hf rfl rfl (by kernel_rfl) ?_, owesM 6 [5] hf rfl rfl (by kernel_rfl) ?_, owesM 7 [6] hf rfl rfl (by kernel_rfl) ?_, owesM 8 [4, 7] hf rfl rfl (by kernel_rfl) ?_, owesM 9 [8] hf rfl rfl (by kernel_rfl) ?_, owesM 10 [8] hf rfl rfl (by kernel_rfl) ?_, owesM 11 [9, 10] hf rfl rfl (by kernel_rfl) ?_, owesM 12 [11] hf rfl rfl (by kernel_rfl) ?_, owesM 13 [0, 12] hf rfl rfl (by kernel_rfl) ?_, owesM 14 [13] hf rfl rfl (by kernel_rfl) ?_, trivial⟩
        all_goals intro vs W hS hp hx KO hKO
        all_goals simp only [Act.put, List.setIfInBounds_toArray, List.set_cons_zero, List.set_cons_succ] at hKO
        · have eo14 : vs 14 = .slice none 0 0 := hx.at 14 rfl (by kernel_rfl) rfl
          simp only [eo14] at hKO
          go_simp
          exact hKO _ W (Ext.refl W) rfl
        · have fc0 := BxA.cell (hS.2.1) 0 (v := .int .i64 16) rfl
          have fc1 := BxA.cell (hS.2.1) 1 (v := .int .i64 1) rfl
          have fc2 := BxA.cell (hS.2.1) 2 (v := .int .i64 256) rfl
          have fc3 := BxA.cell (hS.2.1) 3 (v := .int .i64 8) rfl
          have fc4 := BxA.cell (hS.2.1) 4 (v := .int .i64 1) rfl
          have fc5 := BxA.cell (hS.2.1) 5 (v := .int .i64 256) rfl
          go_simp
          exact hKO _ W (Ext.refl W) rfl
        · go_simp
          exact hKO _ W (Ext.refl W) rfl
        · go_simp
          exact hKO _ W (Ext.refl W) rfl
        · have e1 := isOf hp.1
          have e2 := isOf hp.2.1
          have e3 := isOf hp.2.2.1
          simp only [e1, e2, e3] at hKO
          go_simp
          refine (Tryz.adaMul 16 1 256 1 256 8 (by omega) (a := 512) (b := 512) (z := 1024) (by unfold I64; omega) (by unfold I64; omega) M1024 _).mono ?_
          rintro e W1 ⟨rfl, hE⟩
          exact hKO _ W1 hE rfl
        · go_simp
          exact hKO _ W (Ext.refl W) rfl
        · have e5 := isOf hp.1
          simp only [e5] at hKO
          go_simp
          exact hKO _ W (Ext.refl W) rfl
        · have e6 := isOf hp.1
          simp only [e6] at hKO
          have fc1 := BxA.cell (hS.2.1) 1 (v := .int .i64 1) rfl
          go_simp
          exact hKO _ W (Ext.refl W) rfl
        · have e4 := isOf hp.1
          have e7 := isOf hp.2.1
          simp only [e4, e7] at hKO
          go_simp
          refine (Tryz.fixAddV 1024 1 _ (by omega) (by omega) (by omega) (by omega) (V := 1025) (E := 0) (by decide) (by decide)).mono ?_
          rintro e W1 ⟨rfl, hE⟩
          exact hKO _ W1 hE rfl
        · have e8 := isOf hp.1
          simp only [e8] at hKO
          go_simp
          exact hKO _ W (Ext.refl W) rfl
        · have e8 := isOf hp.1
          simp only [e8] at hKO
          go_simp
          exact hKO _ W (Ext.refl W) rfl
        · have e9 := isOf hp.1
          have e10 := isOf hp.2.1
          simp only [e9, e10] at hKO
          go_simp
          refine (Tryz.adaHeld 1025 _).mono ?_
          rintro e W1 ⟨rfl, hE⟩
          exact hKO _ W1 hE rfl
        · have e11 := isOf hp.1
          simp only [e11] at hKO
          have hE := Ext.alloc1 W (.cells #[.int .i64 1025] 2)
          have hbx := BxA.new W 2 #[.int .i64 1025]
          have hsz := hS.2.2.2
          go_simp
          exact hKO _ _ hE ⟨_, rfl, hsz, by simp, hbx.cell 0 rfl⟩
        · have e0 := isOf hp.1
          have q12 := hp.2.1
          simp only [e0] at hKO
          obtain ⟨g, ev, hg0, hg1, hc⟩ := q12
          replace ev : vs 12 = _ := ev
          have hsz := hS.2.2.2
          refine step_append_y Tryz.underlying25 Tryz.infoI rfl _ _ rfl (b := g) (y := 1025) (by first | rfl | exact e0) (by exact ev) hc ?_
          intro v w1 hE hy
          simp only [Act.put, List.setIfInBounds_toArray, List.set_cons_zero, List.set_cons_succ, e0]
          exact hKO _ _ hE (hy.mono hsz)
        · have q13 := hp.1
          go_simp
          exact hKO _ W (.refl W) q13
      intro vs W1 hS hM hp
      clear szw1 E0 p2 p3
      obtain ⟨E0, p2, p3, sz1⟩ := hS
      obtain ⟨h1_0, h1_1, h1_2, h1_3, h1_4, h1_5, h1_6, h1_7, h1_8, h1_9, h1_10, h1_11, h1_12, h1_13, h1_14, -⟩ := hp
      skip
      skip
      have hY1_14 : RowY wr.heap.size W1 (vs 14) 1025 := h1_14
      generalize vs 14 = y1_14 at h1_14 hY1_14 ⊢
      replace h1_0 : vs 0 = .slice none 0 0 := h1_0
      replace h1_1 : vs 1 = .agg #[.int .i64 16, .int .i64 1, .int .i64 256, .int .i64 8, .int .i64 1, .int .i64 256] := h1_1
      replace h1_2 : vs 2 = .int .i64 512 := h1_2
      replace h1_3 : vs 3 = .int .i64 512 := h1_3
      replace h1_4 : vs 4 = .int .i64 1024 := h1_4
      replace h1_5 : vs 5 = .pointer (some ⟨w.heap.size, 0, none⟩) := h1_5
      replace h1_6 : vs 6 = .pointer (some ⟨w.heap.size, 1, none⟩) := h1_6
      replace h1_7 : vs 7 = .int .i64 1 := h1_7
      replace h1_8 : vs 8 = .tuple #[.int .i64 1025, .int .i64 0] := h1_8
      replace h1_9 : vs 9 = .int .i64 1025 := h1_9
      replace h1_10 : vs 10 = .int .i64 0 := h1_10
      replace h1_11 : vs 11 = .int .i64 1025 := h1_11
      clear hM
      simp only [h1_0, h1_1, h1_2, h1_3, h1_4, h1_5, h1_6, h1_7, h1_8, h1_9, h1_10, h1_11]
      clear h1_0 h1_1 h1_2 h1_3 h1_4 h1_5 h1_6 h1_7 h1_8 h1_9 h1_10 h1_11 h1_12 h1_13 h1_14
      obtain ⟨kp2_0, kp2_1, kp2_2, kp2_3, kp2_4, kp2_5⟩ := p2.c6
      obtain ⟨kp3_0, kp3_1, kp3_2, kp3_3⟩ := p3.c4
      go_wp2
      clear kp2_0 kp2_1 kp2_2 kp2_3 kp2_4 kp2_5 kp3_0 kp3_1 kp3_2 kp3_3
      go_roundw
      case rel => exact ⟨.inr ⟨by go_num, hY1_14.mono (by rw [HB.out]; exact Ext.size EB.out)⟩, p2, p3, E0⟩
      case measure => simp [intOf]
    · obtain ⟨gq, cq, rfl, hqB, hqw, hc1, hc2, kq⟩ := hy
      obtain ⟨kp2_0, kp2_1, kp2_2, kp2_3, kp2_4, kp2_5⟩ := p2.c6
      obtain ⟨kp3_0, kp3_1, kp3_2, kp3_3⟩ := p3.c4
      obtain ⟨VA, hVA⟩ : ∃ V, V = wr.alloc (.cells #[.slice none 0 0] 25) := ⟨_, rfl⟩
      have hE : Ext wr VA := by rw [hVA]; exact Ext.alloc1 _ _
      go_upto_region 8 with (fail)
      rw [← hVA]
      clear hVA
      clear kp2_0 kp2_1 kp2_2 kp2_3 kp2_4 kp2_5 kp3_0 kp3_1 kp3_2 kp3_3
      replace E0 : Ext w VA := (Ext.trans E0 hE)
      replace p2 : BxA VA w.heap.size 94 #[.int .i64 16, .int .i64 1, .int .i64 256, .int .i64 8, .int .i64 1, .int .i64 256] := (p2.ext hE)
      replace p3 : BxA VA (w.heap.size + 1) 27 #[.slice (some ⟨bw, ow, none⟩) 1 cw, .slice none 0 0, .slice (some ⟨bv, ov, none⟩) 1 cv, .slice (some ⟨bg, og, none⟩) 1 cg] := (p3.ext hE)
      replace kq : World.cell? VA ⟨gq, 0, none⟩ = some (.int .i64 1025) := (Ext.cell hE kq)
      clear hE
      obtain ⟨kp2_0, kp2_1, kp2_2, kp2_3, kp2_4, kp2_5⟩ := p2.c6
      obtain ⟨kp3_0, kp3_1, kp3_2, kp3_3⟩ := p3.c4
      go_wp2_with fail
      clear kp2_0 kp2_1 kp2_2 kp2_3 kp2_4 kp2_5 kp3_0 kp3_1 kp3_2 kp3_3
      refine (Tryz.adaWhole 16 1 256 256 1 8 _).mono ?_
      rintro e V2 ⟨rfl, hE⟩
      replace E0 : Ext w V2 := (Ext.trans E0 hE)
      replace p2 : BxA V2 w.heap.size 94 #[.int .i64 16, .int .i64 1, .int .i64 256, .int .i64 8, .int .i64 1, .int .i64 256] := (p2.ext hE)
      replace p3 : BxA V2 (w.heap.size + 1) 27 #[.slice (some ⟨bw, ow, none⟩) 1 cw, .slice none 0 0, .slice (some ⟨bv, ov, none⟩) 1 cv, .slice (some ⟨bg, og, none⟩) 1 cg] := (p3.ext hE)
      replace kq : World.cell? V2 ⟨gq, 0, none⟩ = some (.int .i64 1025) := (Ext.cell hE kq)
      clear hE
      obtain ⟨kp2_0, kp2_1, kp2_2, kp2_3, kp2_4, kp2_5⟩ := p2.c6
      obtain ⟨kp3_0, kp3_1, kp3_2, kp3_3⟩ := p3.c4
      go_wp2_with fail
      clear kp2_0 kp2_1 kp2_2 kp2_3 kp2_4 kp2_5 kp3_0 kp3_1 kp3_2 kp3_3
      go_loopw [11, 52] (fun v i wr => (i = .int .i64 0 ∧ v = .slice none 0 0 ∨ i = .int .i64 1 ∧ RowY B wr v 1025) ∧ BxA wr w.heap.size 94 #[.int .i64 16, .int .i64 1, .int .i64 256, .int .i64 8, .int .i64 1, .int .i64 256] ∧ BxA wr (w.heap.size + 1) 27 #[.slice (some ⟨bw, ow, none⟩) 1 cw, .slice none 0 0, .slice (some ⟨bv, ov, none⟩) 1 cv, .slice (some ⟨bg, og, none⟩) 1 cg] ∧ Hid (World.cell? wr ⟨gq, 0, none⟩ = some (.int .i64 1025)) ∧ Ext w wr) (fun _ i _ => 1 - (intOf i).toNat)
      case atStart => exact ⟨.inl ⟨rfl, rfl⟩, p2, p3, Lib.hid kq, E0⟩
      case round =>
        clear p2 p3 kq E0
        obtain ⟨hr, p2, p3, kq, E0⟩ := hrel
        replace kq := kq.out
        rcases hr with ⟨rfl, rfl⟩ | ⟨rfl, hy⟩
        · have EB := Lib.hid E0
          have kc := (hv0.ext E0).cell (i := 0) (by omega)
          rw [Nat.add_zero] at kc
          have hx : atL [9] 0 = 9 := rfl
          rw [hx] at kc
          obtain ⟨kp2_0, kp2_1, kp2_2, kp2_3, kp2_4, kp2_5⟩ := p2.c6
          obtain ⟨kp3_0, kp3_1, kp3_2, kp3_3⟩ := p3.c4
          go_upto_region 12 with (fail)
          clear kp2_0 kp2_1 kp2_2 kp2_3 kp2_4 kp2_5 kp3_0 kp3_1 kp3_2 kp3_3
          clear kc hx
          have ltp2 := p2.lt
          have ltp3 := p3.lt
          have szw2 := Ext.size E0
          refine region_go2 [.one fun v _ => v = .slice none 0 0,
              .one fun v _ => v = .agg #[.int .i64 16, .int .i64 1, .int .i64 256, .int .i64 8, .int .i64 1, .int .i64 256],
              .one fun v _ => v = .int .i64 9,
              .one fun v _ => v = .slice (some ⟨gq, 0, none⟩) 1 cq,
              .one fun v _ => v = .int .i64 0,
              .one fun v _ => v = .pointer (some ⟨gq, 0, none⟩),
              .one fun v _ => v = .int .i64 1025,
              .one fun v _ => v = .int .i64 1025,
              .one fun v W => NewY wr.heap.size W v 1025,
              .one fun v W => RowY wr.heap.size W v 1025,
              .one fun v W => RowY wr.heap.size W v 1025]
            (fun W => Ext w W ∧ BxA W w.heap.size 94 #[.int .i64 16, .int .i64 1, .int .i64 256, .int .i64 8, .int .i64 1, .int .i64 256] ∧ BxA W (w.heap.size + 1) 27 #[.slice (some ⟨bw, ow, none⟩) 1 cw, .slice none 0 0, .slice (some ⟨bv, ov, none⟩) 1 cv, .slice (some ⟨bg, og, none⟩) 1 cg] ∧ World.cell? W ⟨gq, 0, none⟩ = some (.int .i64 1025) ∧ wr.heap.size ≤ W.heap.size) wr.heap.size [] [Tag.any, Tag.any, Tag.any, Tag.any, Tag.any, Tag.any, Tag.any, Tag.any, Tag.fresh, Tag.fresh, Tag.fresh] ⟨Good.is _, Good.is _, Good.is _, Good.is _, Good.is _, Good.is _, Good.is _, Good.is _, tag_newy, tag_rowy, tag_rowy, trivial⟩ (fun g0 hg => by simp at hg)
            (fun W W1 hS hE => ⟨(Ext.trans hS.1 hE), (hS.2.1.ext hE), (hS.2.2.1.ext hE), (Ext.cell hE hS.2.2.2.1), (Nat.le_trans hS.2.2.2.2 (Ext.size hE))⟩) ⟨E0, p2, p3, kq, Nat.le_refl _⟩ (fun m hm => by simp at hm) (by kernel_rfl) (by kernel_rfl) (by kernel_rfl) (by kernel_rfl) (A := ?A2) ?hA2 ?howe2 ?hfin2
          case hA2 =>
            intro vs
            simp only [putAll, Act.put, List.setIfInBounds_toArray, List.set_cons_zero, List.set_cons_succ, Nat.zero_add, Nat.reduceAdd]
            exact rfl
          case howe2 =>
            clear E0 p2 p3 kq
            intro hf
            refine ⟨owesM 0 [] hf rfl rfl (by kernel_rfl) ?_, owesM 1 [] hf rfl rfl (by kernel_rfl) ?_, owesM 2 [] hf rfl rfl (by kernel_rfl) ?_, owesM 3 [] hf rfl rfl (by kernel_rfl) ?_, owesM 4 [] hf rfl rfl (by kernel_rfl) ?_, owesM 5 [3, 4] hf rfl rfl (by kernel_rfl) ?_, owesM 6 [5] hf rfl rfl (by kernel_rfl) ?_, owesM 7 [1, 2, 6] hf rfl rfl (by kernel_rfl) ?_, owesM 8 [7] hf rfl rfl (by kernel_rfl) ?_, owesM 9 [0, 8] hf rfl rfl (by kernel_rfl) ?_, owesM 10 [9] hf rfl rfl (by kernel_rfl) ?_, trivial⟩
            all_goals intro vs W hS hp hx KO hKO
            all_goals simp only [Act.put, List.setIfInBounds_toArray, List.set_cons_zero, List.set_cons_succ] at hKO
            · have eo10 : vs 10 = .slice none 0 0 := hx.at 10 rfl (by kernel_rfl) rfl
              simp only [eo10] at hKO
              go_simp
              exact hKO _ W (Ext.refl W) rfl
            · have fc0 := BxA.cell (hS.2.1) 0 (v := .int .i64 16) rfl
              have fc1 := BxA.cell (hS.2.1) 1 (v := .int .i64 1) rfl
              have fc2 := BxA.cell (hS.2.1) 2 (v := .int .i64 256) rfl
              have fc3 := BxA.cell (hS.2.1) 3 (v := .int .i64 8) rfl
              have fc4 := BxA.cell (hS.2.1) 4 (v := .int .i64 1) rfl
              have fc5 := BxA.cell (hS.2.1) 5 (v := .int .i64 256) rfl
              go_simp
              exact hKO _ W (Ext.refl W) rfl
            · go_simp
              exact hKO _ W (Ext.refl W) rfl
            · go_simp
              exact hKO _ W (Ext.refl W) rfl
            · go_simp
              exact hKO _ W (Ext.refl W) rfl
            · have e3 := isOf hp.1
              have e4 := isOf hp.2.1
              simp only [e3, e4] at hKO
              go_simp
              exact hKO _ W (Ext.refl W) rfl
            · have e5 := isOf hp.1
              simp only [e5] at hKO
              have fc := hS.2.2.2.1
              go_simp
              exact hKO _ W (Ext.refl W) rfl
            · have e1 := isOf hp.1
              have e2 := isOf hp.2.1
              have e6 := isOf hp.2.2.1
              simp only [e1, e2, e6] at hKO
              go_simp
              refine (Tryz.adaMixed (old := 9) (q := 1025) (x := 0) (y := 1025) (z := 1025) 16 1 256 1 256 8 (by omega) (by omega) (by decide) (by unfold I64; omega) (by unfold I64; omega) M0 M1025 (by decide) _).mono ?_
              rintro e W1 ⟨rfl, hE⟩
              exact hKO _ W1 hE rfl
            · have e7 := isOf hp.1
              simp only [e7] at hKO
              have hE := Ext.alloc1 W (.cells #[.int .i64 1025] 2)
              have hbx := BxA.new W 2 #[.int .i64 1025]
              have hsz := hS.2.2.2.2
              go_simp
              exact hKO _ _ hE ⟨_, rfl, hsz, by simp, hbx.cell 0 rfl⟩
            · have e0 := isOf hp.1
              have q8 := hp.2.1
              simp only [e0] at hKO
              obtain ⟨g, ev, hg0, hg1, hc⟩ := q8
              replace ev : vs 8 = _ := ev
              have hsz := hS.2.2.2.2
              refine step_append_y Tryz.underlying25 Tryz.infoI rfl _ _ rfl (b := g) (y := 1025) (by first | rfl | exact e0) (by exact ev) hc ?_
              intro v w1 hE hy
              simp only [Act.put, List.setIfInBounds_toArray, List.set_cons_zero, List.set_cons_succ, e0]
              exact hKO _ _ hE (hy.mono hsz)
            · have q9 := hp.1
              go_simp
              exact hKO _ W (.refl W) q9
          intro vs W2 hS hM hp
          clear szw2 E0 p2 p3 kq
          obtain ⟨E0, p2, p3, kq, sz2⟩ := hS
          obtain ⟨h2_0, h2_1, h2_2, h2_3, h2_4, h2_5, h2_6, h2_7, h2_8, h2_9, h2_10, -⟩ := hp
          skip
          skip
          have hY2_10 : RowY wr.heap.size W2 (vs 10) 1025 := h2_10
          generalize vs 10 = y2_10 at h2_10 hY2_10 ⊢
          replace h2_0 : vs 0 = .slice none 0 0 := h2_0
          replace h2_1 : vs 1 = .agg #[.int .i64 16, .int .i64 1, .int .i64 256, .int .i64 8, .int .i64 1, .int .i64 256] := h2_1
          replace h2_2 : vs 2 = .int .i64 9 := h2_2
          replace h2_3 : vs 3 = .slice (some ⟨gq, 0, none⟩) 1 cq := h2_3
          replace h2_4 : vs 4 = .int .i64 0 := h2_4
          replace h2_5 : vs 5 = .pointer (some ⟨gq, 0, none⟩) := h2_5
          replace h2_6 : vs 6 = .int .i64 1025 := h2_6
          replace h2_7 : vs 7 = .int .i64 1025 := h2_7
          clear hM
          simp only [h2_0, h2_1, h2_2, h2_3, h2_4, h2_5, h2_6, h2_7]
          clear h2_0 h2_1 h2_2 h2_3 h2_4 h2_5 h2_6 h2_7 h2_8 h2_9 h2_10
          obtain ⟨kp2_0, kp2_1, kp2_2, kp2_3, kp2_4, kp2_5⟩ := p2.c6
          obtain ⟨kp3_0, kp3_1, kp3_2, kp3_3⟩ := p3.c4
          go_wp2
          clear kp2_0 kp2_1 kp2_2 kp2_3 kp2_4 kp2_5 kp3_0 kp3_1 kp3_2 kp3_3
          go_roundw
          case rel => exact ⟨.inr ⟨by go_num, hY2_10.mono (by rw [HB.out]; exact Ext.size EB.out)⟩, p2, p3, Lib.hid kq, E0⟩
          case measure => simp [intOf]
        · obtain ⟨gv, cv2, rfl, hvB, hvw, hd1, hd2, kv⟩ := hy
          obtain ⟨kp2_0, kp2_1, kp2_2, kp2_3, kp2_4, kp2_5⟩ := p2.c6
          obtain ⟨kp3_0, kp3_1, kp3_2, kp3_3⟩ := p3.c4
          go_wp2
          exact bodyPost_ret (v := .tuple #[.slice none 0 0, .slice (some ⟨gv, 0, none⟩) 1 cv2, .slice (some ⟨gv, 0, none⟩) 1 cv2]) (by simp [results, Tryz.results105, go_sem]) rfl ⟨_, rfl, ⟨gv, cv2, rfl, by rw [← HB.out]; exact hvB, hvw, hd1, hd2, kv⟩, E0⟩

set_option maxRecDepth 100000 in
set_option maxHeartbeats 4000000 in
theorem Tryz.adaUpdates1 {lo hi lo2 hi2 bg og cg bs os cs : Nat} {w : World} (hg : Iw lo hi w (some ⟨bg, og, none⟩) 1 cg [512]) (hs : Iw lo2 hi2 w (some ⟨bs, os, none⟩) 1 cs [1025]) :
    Calls Tryz.prog 106 #[.agg #[.int .i64 16, .int .i64 1, .int .i64 256, .int .i64 8, .int .i64 1, .int .i64 256], .slice (some ⟨bg, og, none⟩) 1 cg, .slice (some ⟨bs, os, none⟩) 1 cs] w fun e w' => ∃ v, e = .returned v ∧ RowY w.heap.size w' v 256 ∧ Ext w w' := by
  have kg0 := hg.cell (i := 0) (by omega)
  have ks0 := hs.cell (i := 0) (by omega)
  rw [Nat.add_zero] at kg0 ks0
  have kg : World.cell? w ⟨bg, og, none⟩ = some (.int .i64 512) := kg0
  have ks : World.cell? w ⟨bs, os, none⟩ = some (.int .i64 1025) := ks0
  clear kg0 ks0 hg hs
  obtain ⟨B, hB⟩ : ∃ B, B = w.heap.size := ⟨_, rfl⟩
  have HB := Lib.hid hB
  have hmx : max (512 : Int) 1 = 512 := rfl
  have HD := okZ_some D256
  have HDV : Hid (fitV (divZ 8 512 512) = 256 ∧ fitE (divZ 8 512 512) = 0) := Lib.hid ⟨(fitV_in HD.1).trans HD.2, fitE_in HD.1⟩
  clear HD
  obtain ⟨W0, hW0⟩ : ∃ W0, W0 = (w.alloc (.cells #[.int .i64 16, .int .i64 1, .int .i64 256, .int .i64 8, .int .i64 1, .int .i64 256] 94)) := ⟨_, rfl⟩
  have E0 : Ext w W0 := by rw [hW0]; exact (Ext.alloc1 w (.cells #[.int .i64 16, .int .i64 1, .int .i64 256, .int .i64 8, .int .i64 1, .int .i64 256] 94))
  have p3 : BxA W0 w.heap.size 94 #[.int .i64 16, .int .i64 1, .int .i64 256, .int .i64 8, .int .i64 1, .int .i64 256] := by rw [hW0]; exact (BxA.new w 94 #[.int .i64 16, .int .i64 1, .int .i64 256, .int .i64 8, .int .i64 1, .int .i64 256])
  go_enter Tryz.func106, Tryz.ntmps106
  replace kg := Ext.cell E0 kg
  replace ks := Ext.cell E0 ks
  obtain ⟨kp3_0, kp3_1, kp3_2, kp3_3, kp3_4, kp3_5⟩ := p3.c6
  go_wp2_with fail
  rw [← hW0]
  clear hW0
  clear kp3_0 kp3_1 kp3_2 kp3_3 kp3_4 kp3_5
  go_loopw [7, 8, 21] (fun u v i wr => (i = .int .i64 0 ∧ u = .slice none 0 0 ∧ v = .slice none 0 0 ∨ i = .int .i64 1 ∧ RowY B wr u 256 ∧ RowY B wr v 256) ∧ BxA wr w.heap.size 94 #[.int .i64 16, .int .i64 1, .int .i64 256, .int .i64 8, .int .i64 1, .int .i64 256] ∧ Hid (World.cell? wr ⟨bg, og, none⟩ = some (.int .i64 512) ∧ World.cell? wr ⟨bs, os, none⟩ = some (.int .i64 1025)) ∧ Ext w wr) (fun _ _ i _ => 1 - (intOf i).toNat)
  case atStart => exact ⟨.inl ⟨rfl, rfl, rfl⟩, p3, Lib.hid ⟨kg, ks⟩, E0⟩
  case round =>
    clear p3 E0 kg ks
    obtain ⟨hr, p3, hks, E0⟩ := hrel
    have kg := hks.out.1
    have ks := hks.out.2
    clear hks
    rcases hr with ⟨rfl, rfl, rfl⟩ | ⟨rfl, hu, hv⟩
    · have EB := Lib.hid E0
      obtain ⟨kp3_0, kp3_1, kp3_2, kp3_3, kp3_4, kp3_5⟩ := p3.c6
      go_upto_region 7 with (fail)
      clear kp3_0 kp3_1 kp3_2 kp3_3 kp3_4 kp3_5
      have ltp3 := p3.lt
      have szw3 := Ext.size E0
      refine region_go [.one fun v _ => v = .slice (some ⟨bs, os, none⟩) 1 cs,
          .one fun v _ => v = .int .i64 0,
          .one fun v _ => v = .pointer (some ⟨bs, os, none⟩),
          .one fun v _ => v = .int .i64 1025,
          .one fun v _ => v = .pointer (some ⟨w.heap.size, 3, none⟩),
          .one fun v _ => v = .int .i64 8,
          .one fun v _ => v = .tuple #[.int .i64 512, .int .i64 0],
          .one fun v _ => v = .int .i64 512,
          .one fun v _ => v = .int .i64 0,
          .one fun v _ => v = .int .i64 512,
          .one fun v _ => v = .int .i64 512,
          .one fun v _ => v = .int .i64 512]
        (fun W => Ext w W ∧ BxA W w.heap.size 94 #[.int .i64 16, .int .i64 1, .int .i64 256, .int .i64 8, .int .i64 1, .int .i64 256] ∧ World.cell? W ⟨bg, og, none⟩ = some (.int .i64 512) ∧ World.cell? W ⟨bs, os, none⟩ = some (.int .i64 1025) ∧ wr.heap.size ≤ W.heap.size) ⟨Good.is _, Good.is _, Good.is _, Good.is _, Good.is _, Good.is _, Good.is _, Good.is _, Good.is _, Good.is _, Good.is _, Good.is _, trivial⟩
        (fun W W1 hS hE => ⟨(Ext.trans hS.1 hE), (hS.2.1.ext hE), (Ext.cell hE hS.2.2.1), (Ext.cell hE hS.2.2.2.1), (Nat.le_trans hS.2.2.2.2 (Ext.size hE))⟩) ⟨E0, p3, kg, ks, Nat.le_refl _⟩ (by kernel_rfl) (by kernel_rfl) (by kernel_rfl) (by kernel_rfl) (A := ?A3) ?hA3 ?howe3 ?hfin3
      case hA3 =>
        intro vs
        simp only [putAll, Act.put, List.setIfInBounds_toArray, List.set_cons_zero, List.set_cons_succ, Nat.zero_add, Nat.reduceAdd]
        exact rfl
      case howe3 =>
        clear E0 p3 kg ks
        intro hf
        refine ⟨owesE 0 [] hf rfl (by kernel_rfl) ?_, owesE 1 [] hf rfl (by kernel_rfl) ?_, owesE 2 [0, 1] hf rfl (by kernel_rfl) ?_, owesE 3 [2] hf rfl (by kernel_rfl) ?_, owesE 4 [] hf rfl (by kernel_rfl) ?_, owesE 5 [4] hf rfl (by kernel_rfl) ?_, owesE 6 [3, 5] hf rfl (by kernel_rfl) ?_, owesE 7 [6] hf rfl (by kernel_rfl) ?_, owesE 8 [6] hf rfl (by kernel_rfl) ?_, owesE 9 [7, 8] hf rfl (by kernel_rfl) ?_, owesE 10 [9] hf rfl (by kernel_rfl) ?_, owesE 11 [10] hf rfl (by kernel_rfl) ?_, trivial⟩
        all_goals intro vs W hS hp hx KO hKO
        all_goals simp only [Act.put, List.setIfInBounds_toArray, List.set_cons_zero, List.set_cons_succ] at hKO
        · go_simp
          exact hKO _ W (Ext.refl W) rfl
        · go_simp
          exact hKO _ W (Ext.refl W) rfl
        · have e0 := isOf hp.1
          have e1 := isOf hp.2.1
          simp only [e0, e1] at hKO
          go_simp
          exact hKO _ W (Ext.refl W) rfl
        · have e2 := isOf hp.1
          simp only [e2] at hKO
          have fc := hS.2.2.2.1
          go_simp
          exact hKO _ W (Ext.refl W) rfl
        · go_simp
          exact hKO _ W (Ext.refl W) rfl
        · have e4 := isOf hp.1
          simp only [e4] at hKO
          have fc3 := BxA.cell (hS.2.1) 3 (v := .int .i64 8) rfl
          go_simp
          exact hKO _ W (Ext.refl W) rfl
        · have e3 := isOf hp.1
          have e5 := isOf hp.2.1
          simp only [e3, e5] at hKO
          go_simp
          refine (Tryz.fixSqrt 1025 8 _ (by omega) (by omega)).mono ?_
          rintro e W1 ⟨rfl, hE⟩
          rw [R512]
          exact hKO _ W1 hE rfl
        · have e6 := isOf hp.1
          simp only [e6] at hKO
          go_simp
          exact hKO _ W (Ext.refl W) rfl
        · have e6 := isOf hp.1
          simp only [e6] at hKO
          go_simp
          exact hKO _ W (Ext.refl W) rfl
        · have e7 := isOf hp.1
          have e8 := isOf hp.2.1
          simp only [e7, e8] at hKO
          go_simp
          refine (Tryz.adaHeld 512 _).mono ?_
          rintro e W1 ⟨rfl, hE⟩
          exact hKO _ W1 hE rfl
        · have e9 := isOf hp.1
          simp only [e9] at hKO
          go_simp
          exact hKO _ W (Ext.refl W) rfl
        · have e10 := isOf hp.1
          simp only [e10] at hKO
          go_simp
          exact hKO _ W (Ext.refl W) rfl
      intro vs W3 hS hp
      clear szw3 E0 p3 kg ks
      obtain ⟨E0, p3, kg, ks, sz3⟩ := hS
      obtain ⟨h3_0, h3_1, h3_2, h3_3, h3_4, h3_5, h3_6, h3_7, h3_8, h3_9, h3_10, h3_11, -⟩ := hp
      replace h3_0 : vs 0 = .slice (some ⟨bs, os, none⟩) 1 cs := h3_0
      replace h3_1 : vs 1 = .int .i64 0 := h3_1
      replace h3_2 : vs 2 = .pointer (some ⟨bs, os, none⟩) := h3_2
      replace h3_3 : vs 3 = .int .i64 1025 := h3_3
      replace h3_4 : vs 4 = .pointer (some ⟨w.heap.size, 3, none⟩) := h3_4
      replace h3_5 : vs 5 = .int .i64 8 := h3_5
      replace h3_6 : vs 6 = .tuple #[.int .i64 512, .int .i64 0] := h3_6
      replace h3_7 : vs 7 = .int .i64 512 := h3_7
      replace h3_8 : vs 8 = .int .i64 0 := h3_8
      replace h3_9 : vs 9 = .int .i64 512 := h3_9
      replace h3_10 : vs 10 = .int .i64 512 := h3_10
      replace h3_11 : vs 11 = .int .i64 512 := h3_11
      simp only [h3_0, h3_1, h3_2, h3_3, h3_4, h3_5, h3_6, h3_7, h3_8, h3_9, h3_10, h3_11]
      clear h3_0 h3_1 h3_2 h3_3 h3_4 h3_5 h3_6 h3_7 h3_8 h3_9 h3_10 h3_11
      obtain ⟨kp3_0, kp3_1, kp3_2, kp3_3, kp3_4, kp3_5⟩ := p3.c6
      go_upto_region 8 with (fail)
      clear kp3_0 kp3_1 kp3_2 kp3_3 kp3_4 kp3_5
      have szw4 := Ext.size E0
      refine region_go [.one fun v _ => v = .int .i64 512,
          .one fun v _ => v = .int .i64 512,
          .one fun v _ => v = .pointer (some ⟨w.heap.size, 3, none⟩),
          .one fun v _ => v = .int .i64 8,
          .one fun v _ => v = .tuple #[.int .i64 256, .int .i64 0],
          .one fun v _ => v = .int .i64 256,
          .one fun v _ => v = .int .i64 0,
          .one fun v _ => v = .int .i64 256,
          .one fun v _ => v = .int .i64 256]
        (fun W => Ext w W ∧ BxA W w.heap.size 94 #[.int .i64 16, .int .i64 1, .int .i64 256, .int .i64 8, .int .i64 1, .int .i64 256] ∧ World.cell? W ⟨bg, og, none⟩ = some (.int .i64 512) ∧ World.cell? W ⟨bs, os, none⟩ = some (.int .i64 1025) ∧ W3.heap.size ≤ W.heap.size) ⟨Good.is _, Good.is _, Good.is _, Good.is _, Good.is _, Good.is _, Good.is _, Good.is _, Good.is _, trivial⟩
        (fun W W1 hS hE => ⟨(Ext.trans hS.1 hE), (hS.2.1.ext hE), (Ext.cell hE hS.2.2.1), (Ext.cell hE hS.2.2.2.1), (Nat.le_trans hS.2.2.2.2 (Ext.size hE))⟩) ⟨E0, p3, kg, ks, Nat.le_refl _⟩ (by kernel_rfl) (by kernel_rfl) (by kernel_rfl) (by kernel_rfl) (A := ?A4) ?hA4 ?howe4 ?hfin4
      case hA4 =>
        intro vs
        simp only [putAll, Act.put, List.setIfInBounds_toArray, List.set_cons_zero, List.set_cons_succ, Nat.zero_add, Nat.reduceAdd]
        exact rfl
      case howe4 =>
        clear E0 p3 kg ks
        intro hf
        refine ⟨owesE 0 [] hf rfl (by kernel_rfl) ?_, owesE 1 [] hf rfl (by kernel_rfl) ?_, owesE 2 [] hf rfl (by kernel_rfl) ?_, owesE 3 [2] hf rfl (by kernel_rfl) ?_, owesE 4 [0, 1, 3] hf rfl (by kernel_rfl) ?_, owesE 5 [4] hf rfl (by kernel_rfl) ?_, owesE 6 [4] hf rfl (by kernel_rfl) ?_, owesE 7 [5, 6] hf rfl (by kernel_rfl) ?_, owesE 8 [7] hf rfl (by kernel_rfl) ?_, trivial⟩
        all_goals intro vs W hS hp hx KO hKO
        all_goals simp only [Act.put, List.setIfInBounds_toArray, List.set_cons_zero, List.set_cons_succ] at hKO
        · go_simp
          exact hKO _ W (Ext.refl W) rfl
        · go_simp
          exact hKO _ W (Ext.refl W) rfl
        · go_simp
          exact hKO _ W (Ext.refl W) rfl
        · have e2 := isOf hp.1
          simp only [e2] at hKO
          have fc3 := BxA.cell (hS.2.1) 3 (v := .int .i64 8) rfl
          go_simp
          exact hKO _ W (Ext.refl W) rfl
        · have e0 := isOf hp.1
          have e1 := isOf hp.2.1
          have e3 := isOf hp.2.2.1
          simp only [e0, e1, e3] at hKO
          go_simp
          refine (Tryz.fixDivV 512 512 8 (by omega) _ (by omega) (by omega) (by omega) (by omega) (by omega) HDV.out.1 HDV.out.2).mono ?_
          rintro e W1 ⟨rfl, hE⟩
          exact hKO _ W1 hE rfl
        · have e4 := isOf hp.1
          simp only [e4] at hKO
          go_simp
          exact hKO _ W (Ext.refl W) rfl
        · have e4 := isOf hp.1
          simp only [e4] at hKO
          go_simp
          exact hKO _ W (Ext.refl W) rfl
        · have e5 := isOf hp.1
          have e6 := isOf hp.2.1
          simp only [e5, e6] at hKO
          go_simp
          refine (Tryz.adaHeld 256 _).mono ?_
          rintro e W1 ⟨rfl, hE⟩
          exact hKO _ W1 hE rfl
        · have e7 := isOf hp.1
          simp only [e7] at hKO
          go_simp
          exact hKO _ W (Ext.refl W) rfl
      intro vs W4 hS hp
      clear szw4 E0 p3 kg ks
      obtain ⟨E0, p3, kg, ks, sz4⟩ := hS
      obtain ⟨h4_0, h4_1, h4_2, h4_3, h4_4, h4_5, h4_6, h4_7, h4_8, -⟩ := hp
      replace h4_0 : vs 0 = .int .i64 512 := h4_0
      replace h4_1 : vs 1 = .int .i64 512 := h4_1
      replace h4_2 : vs 2 = .pointer (some ⟨w.heap.size, 3, none⟩) := h4_2
      replace h4_3 : vs 3 = .int .i64 8 := h4_3
      replace h4_4 : vs 4 = .tuple #[.int .i64 256, .int .i64 0] := h4_4
      replace h4_5 : vs 5 = .int .i64 256 := h4_5
      replace h4_6 : vs 6 = .int .i64 0 := h4_6
      replace h4_7 : vs 7 = .int .i64 256 := h4_7
      replace h4_8 : vs 8 = .int .i64 256 := h4_8
      simp only [h4_0, h4_1, h4_2, h4_3, h4_4, h4_5, h4_6, h4_7, h4_8]
      clear h4_0 h4_1 h4_2 h4_3 h4_4 h4_5 h4_6 h4_7 h4_8
      obtain ⟨kp3_0, kp3_1, kp3_2, kp3_3, kp3_4, kp3_5⟩ := p3.c6
      go_upto_region 9 with (fail)
      clear kp3_0 kp3_1 kp3_2 kp3_3 kp3_4 kp3_5
      have EZ := Lib.hid E0
      have szw5 := Ext.size E0
      refine region_go2 [.one fun v _ => v = .slice none 0 0,
          .one fun v _ => v = .int .i64 256,
          .one fun v W => NewY W4.heap.size W v 256,
          .one fun v W => RowY W4.heap.size W v 256,
          .one fun v _ => v = .slice none 0 0,
          .one fun v _ => v = .agg #[.int .i64 16, .int .i64 1, .int .i64 256, .int .i64 8, .int .i64 1, .int .i64 256],
          .one fun v _ => v = .int .i64 256,
          .one fun v _ => v = .int .i64 256,
          .one fun v _ => v = .int .i64 256,
          .one fun v W => NewY W4.heap.size W v 256,
          .one fun v W => RowY W4.heap.size W v 256,
          .one fun v W => RowY W4.heap.size W v 256,
          .one fun v W => RowY W4.heap.size W v 256]
        (fun W => Ext w W ∧ BxA W w.heap.size 94 #[.int .i64 16, .int .i64 1, .int .i64 256, .int .i64 8, .int .i64 1, .int .i64 256] ∧ World.cell? W ⟨bg, og, none⟩ = some (.int .i64 512) ∧ World.cell? W ⟨bs, os, none⟩ = some (.int .i64 1025) ∧ W4.heap.size ≤ W.heap.size) W4.heap.size [] [Tag.any, Tag.any, Tag.fresh, Tag.fresh, Tag.any, Tag.any, Tag.any, Tag.any, Tag.any, Tag.fresh, Tag.fresh, Tag.fresh, Tag.fresh] ⟨Good.is _, Good.is _, tag_newy, tag_rowy, Good.is _, Good.is _, Good.is _, Good.is _, Good.is _, tag_newy, tag_rowy, tag_rowy, tag_rowy, trivial⟩ (fun g0 hg => by simp at hg)
        (fun W W1 hS hE => ⟨(Ext.trans hS.1 hE), (hS.2.1.ext hE), (Ext.cell hE hS.2.2.1), (Ext.cell hE hS.2.2.2.1), (Nat.le_trans hS.2.2.2.2 (Ext.size hE))⟩) ⟨E0, p3, kg, ks, Nat.le_refl _⟩ (fun m hm => by simp at hm) (by kernel_rfl) (by kernel_rfl) (by kernel_rfl) (by kernel_rfl) (A := ?A5) ?hA5 ?howe5 ?hfin5
      case hA5 =>
        intro vs
        simp only [putAll, Act.put, List.setIfInBounds_toArray, List.set_cons_zero, List.set_cons_succ, Nat.zero_add, Nat.reduceAdd]
        exact rfl
      case howe5 =>
        clear E0 p3 kg ks
        intro hf
        refine ⟨owesM 0 [] hf rfl rfl (by kernel_rfl) ?_, owesM 1 [] hf rfl rfl (by kernel_rfl) ?_, owesM 2 [1] hf rfl rfl (by kernel_rfl) ?_, owesM 3 [0, 2] hf rfl rfl (by kernel_rfl) ?_, owesM 4 [] hf rfl rfl (by kernel_rfl) ?_, owesM 5 [] hf rfl rfl (by kernel_rfl) ?_, owesM 6 [] hf rfl rfl (by kernel_rfl) ?_, owesM 7 [] hf rfl rfl (by kernel_rfl) ?_, owesM 8 [5, 6, 7] hf rfl rfl (by kernel_rfl) ?_, owesM 9 [8] hf rfl rfl (by kernel_rfl) ?_, owesM 10 [4, 9] hf rfl rfl (by kernel_rfl) ?_, owesM 11 [3] hf rfl rfl (by kernel_rfl) ?_, owesM 12 [10] hf rfl rfl (by kernel_rfl) ?_, trivial⟩
        all_goals intro vs W hS hp hx KO hKO
        all_goals simp only [Act.put, List.setIfInBounds_toArray, List.set_cons_zero, List.set_cons_succ] at hKO
        · have eo11 : vs 11 = .slice none 0 0 := hx.at 11 rfl (by kernel_rfl) rfl
          simp only [eo11] at hKO
          go_simp
          exact hKO _ W (Ext.refl W) rfl
        · go_simp
          exact hKO _ W (Ext.refl W) rfl
        · have e1 := isOf hp.1
          simp only [e1] at hKO
          have hE := Ext.alloc1 W (.cells #[.int .i64 256] 2)
          have hbx := BxA.new W 2 #[.int .i64 256]
          have hsz := hS.2.2.2.2
          go_simp
          exact hKO _ _ hE ⟨_, rfl, hsz, by simp, hbx.cell 0 rfl⟩
        · have e0 := isOf hp.1
          have q2 := hp.2.1
          simp only [e0] at hKO
          obtain ⟨g, ev, hg0, hg1, hc⟩ := q2
          replace ev : vs 2 = _ := ev
          have hsz := hS.2.2.2.2
          refine step_append_y Tryz.underlying25 Tryz.infoI rfl _ _ rfl (b := g) (y := 256) (by first | rfl | exact e0) (by exact ev) hc ?_
          intro v w1 hE hy
          simp only [Act.put, List.setIfInBounds_toArray, List.set_cons_zero, List.set_cons_succ, e0]
          exact hKO _ _ hE (hy.mono hsz)
        · have eo12 : vs 12 = .slice none 0 0 := hx.at 12 rfl (by kernel_rfl) rfl
          simp only [eo12] at hKO
          go_simp
          exact hKO _ W (Ext.refl W) rfl
        · have fc0 := BxA.cell (hS.2.1) 0 (v := .int .i64 16) rfl
          have fc1 := BxA.cell (hS.2.1) 1 (v := .int .i64 1) rfl
          have fc2 := BxA.cell (hS.2.1) 2 (v := .int .i64 256) rfl
          have fc3 := BxA.cell (hS.2.1) 3 (v := .int .i64 8) rfl
          have fc4 := BxA.cell (hS.2.1) 4 (v := .int .i64 1) rfl
          have fc5 := BxA.cell (hS.2.1) 5 (v := .int .i64 256) rfl
          go_simp
          exact hKO _ W (Ext.refl W) rfl
        · go_simp
          exact hKO _ W (Ext.refl W) rfl
        · go_simp
          exact hKO _ W (Ext.refl W) rfl
        · have e5 := isOf hp.1
          have e6 := isOf hp.2.1
          have e7 := isOf hp.2.2.1
          simp only [e5, e6, e7] at hKO
          go_simp
          refine (Tryz.adaMul 16 1 256 1 256 8 (by omega) (a := 256) (b := 256) (z := 256) (by unfold I64; omega) (by unfold I64; omega) M256 _).mono ?_
          rintro e W1 ⟨rfl, hE⟩
          exact hKO _ W1 hE rfl
        · have e8 := isOf hp.1
          simp only [e8] at hKO
          have hE := Ext.alloc1 W (.cells #[.int .i64 256] 2)
          have hbx := BxA.new W 2 #[.int .i64 256]
          have hsz := hS.2.2.2.2
          go_simp
          exact hKO _ _ hE ⟨_, rfl, hsz, by simp, hbx.cell 0 rfl⟩
        · have e4 := isOf hp.1
          have q9 := hp.2.1
          simp only [e4] at hKO
          obtain ⟨g, ev, hg0, hg1, hc⟩ := q9
          replace ev : vs 9 = _ := ev
          have hsz := hS.2.2.2.2
          refine step_append_y Tryz.underlying25 Tryz.infoI rfl _ _ rfl (b := g) (y := 256) (by first | rfl | exact e4) (by exact ev) hc ?_
          intro v w1 hE hy
          simp only [Act.put, List.setIfInBounds_toArray, List.set_cons_zero, List.set_cons_succ, e4]
          exact hKO _ _ hE (hy.mono hsz)
        · have q3 := hp.1
          go_simp
          exact hKO _ W (.refl W) q3
        · have q10 := hp.1
          go_simp
          exact hKO _ W (.refl W) q10
      intro vs W5 hS hM hp
      clear szw5 E0 p3 kg ks
      obtain ⟨E0, p3, kg, ks, sz5⟩ := hS
      obtain ⟨h5_0, h5_1, h5_2, h5_3, h5_4, h5_5, h5_6, h5_7, h5_8, h5_9, h5_10, h5_11, h5_12, -⟩ := hp
      skip
      skip
      have hY5_11 : RowY W4.heap.size W5 (vs 11) 256 := h5_11
      generalize vs 11 = y5_11 at h5_11 hY5_11 ⊢
      skip
      skip
      have hY5_12 : RowY W4.heap.size W5 (vs 12) 256 := h5_12
      generalize vs 12 = y5_12 at h5_12 hY5_12 ⊢
      replace h5_0 : vs 0 = .slice none 0 0 := h5_0
      replace h5_1 : vs 1 = .int .i64 256 := h5_1
      replace h5_4 : vs 4 = .slice none 0 0 := h5_4
      replace h5_5 : vs 5 = .agg #[.int .i64 16, .int .i64 1, .int .i64 256, .int .i64 8, .int .i64 1, .int .i64 256] := h5_5
      replace h5_6 : vs 6 = .int .i64 256 := h5_6
      replace h5_7 : vs 7 = .int .i64 256 := h5_7
      replace h5_8 : vs 8 = .int .i64 256 := h5_8
      clear hM
      simp only [h5_0, h5_1, h5_4, h5_5, h5_6, h5_7, h5_8]
      clear h5_0 h5_1 h5_4 h5_5 h5_6 h5_7 h5_8 h5_2 h5_3 h5_9 h5_10 h5_11 h5_12
      obtain ⟨kp3_0, kp3_1, kp3_2, kp3_3, kp3_4, kp3_5⟩ := p3.c6
      go_wp2
      clear kp3_0 kp3_1 kp3_2 kp3_3 kp3_4 kp3_5
      go_roundw
      case rel => exact ⟨.inr ⟨by go_num, hY5_11.mono (by rw [HB.out]; exact Ext.size EZ.out), hY5_12.mono (by rw [HB.out]; exact Ext.size EZ.out)⟩, p3, Lib.hid ⟨kg, ks⟩, E0⟩
      case measure => simp [intOf]
    · obtain ⟨gu, cu, rfl, hu1⟩ := hu
      obtain ⟨gq, cq, rfl, hi8⟩ := hv.iw (by unfold I64; omega)
      clear hv
      obtain ⟨H, hH⟩ : ∃ H, H = wr.heap.size := ⟨_, rfl⟩
      rw [← hH] at hi8
      have HHU := Lib.hid hu1
      clear hu1 hH
      have EB := Lib.hid E0
      have hu2 : RowY B wr (.slice (some ⟨gu, 0, none⟩) 1 cu) 256 := ⟨gu, cu, rfl, HHU.out⟩
      clear HHU
      obtain ⟨kp3_0, kp3_1, kp3_2, kp3_3, kp3_4, kp3_5⟩ := p3.c6
      go_upto_region 11 with (fail)
      clear kp3_0 kp3_1 kp3_2 kp3_3 kp3_4 kp3_5
      have ltp3 := p3.lt
      have szw6 := Ext.size E0
      refine region_go [.one fun v _ => v = .slice (some ⟨gq, 0, none⟩) 1 cq,
          .one fun v _ => v = .int .i64 256,
          .one fun v _ => v = .pointer (some ⟨w.heap.size, 3, none⟩),
          .one fun v _ => v = .int .i64 8,
          .one fun v _ => v = .tuple #[.int .i64 256, .int .i64 0],
          .one fun v _ => v = .int .i64 256,
          .one fun v _ => v = .int .i64 0,
          .one fun v _ => v = .int .i64 256,
          .one fun v _ => v = .int .i64 256]
        (fun W => Ext w W ∧ BxA W w.heap.size 94 #[.int .i64 16, .int .i64 1, .int .i64 256, .int .i64 8, .int .i64 1, .int .i64 256] ∧ World.cell? W ⟨bg, og, none⟩ = some (.int .i64 512) ∧ World.cell? W ⟨bs, os, none⟩ = some (.int .i64 1025) ∧ Iw B H W (some ⟨gq, 0, none⟩) 1 cq [256] ∧ RowY B W (.slice (some ⟨gu, 0, none⟩) 1 cu) 256 ∧ wr.heap.size ≤ W.heap.size) ⟨Good.is _, Good.is _, Good.is _, Good.is _, Good.is _, Good.is _, Good.is _, Good.is _, Good.is _, trivial⟩
        (fun W W1 hS hE => ⟨(Ext.trans hS.1 hE), (hS.2.1.ext hE), (Ext.cell hE hS.2.2.1), (Ext.cell hE hS.2.2.2.1), (hS.2.2.2.2.1.ext hE), (hS.2.2.2.2.2.1.ext hE), (Nat.le_trans hS.2.2.2.2.2.2 (Ext.size hE))⟩) ⟨E0, p3, kg, ks, hi8, hu2, Nat.le_refl _⟩ (by kernel_rfl) (by kernel_rfl) (by kernel_rfl) (by kernel_rfl) (A := ?A6) ?hA6 ?howe6 ?hfin6
      case hA6 =>
        intro vs
        simp only [putAll, Act.put, List.setIfInBounds_toArray, List.set_cons_zero, List.set_cons_succ, Nat.zero_add, Nat.reduceAdd]
        exact rfl
      case howe6 =>
        clear E0 p3 kg ks hi8 hu2
        intro hf
        refine ⟨owesE 0 [] hf rfl (by kernel_rfl) ?_, owesE 1 [0] hf rfl (by kernel_rfl) ?_, owesE 2 [] hf rfl (by kernel_rfl) ?_, owesE 3 [2] hf rfl (by kernel_rfl) ?_, owesE 4 [1, 3] hf rfl (by kernel_rfl) ?_, owesE 5 [4] hf rfl (by kernel_rfl) ?_, owesE 6 [4] hf rfl (by kernel_rfl) ?_, owesE 7 [5, 6] hf rfl (by kernel_rfl) ?_, owesE 8 [7] hf rfl (by kernel_rfl) ?_, trivial⟩
        all_goals intro vs W hS hp hx KO hKO
        all_goals simp only [Act.put, List.setIfInBounds_toArray, List.set_cons_zero, List.set_cons_succ] at hKO
        · go_simp
          exact hKO _ W (Ext.refl W) rfl
        · have e0 := isOf hp.1
          simp only [e0] at hKO
          go_simp
          refine (Tryz.adaMean hS.2.2.2.2.1).mono ?_
          rintro e W1 ⟨rfl, hE⟩
          exact hKO _ W1 hE rfl
        · go_simp
          exact hKO _ W (Ext.refl W) rfl
        · have e2 := isOf hp.1
          simp only [e2] at hKO
          have fc3 := BxA.cell (hS.2.1) 3 (v := .int .i64 8) rfl
          go_simp
          exact hKO _ W (Ext.refl W) rfl
        · have e1 := isOf hp.1
          have e3 := isOf hp.2.1
          simp only [e1, e3] at hKO
          go_simp
          refine (Tryz.fixSqrt 256 8 _ (by omega) (by omega)).mono ?_
          rintro e W1 ⟨rfl, hE⟩
          rw [R256]
          exact hKO _ W1 hE rfl
        · have e4 := isOf hp.1
          simp only [e4] at hKO
          go_simp
          exact hKO _ W (Ext.refl W) rfl
        · have e4 := isOf hp.1
          simp only [e4] at hKO
          go_simp
          exact hKO _ W (Ext.refl W) rfl
        · have e5 := isOf hp.1
          have e6 := isOf hp.2.1
          simp only [e5, e6] at hKO
          go_simp
          refine (Tryz.adaHeld 256 _).mono ?_
          rintro e W1 ⟨rfl, hE⟩
          exact hKO _ W1 hE rfl
        · have e7 := isOf hp.1
          simp only [e7] at hKO
          go_simp
          exact hKO _ W (Ext.refl W) rfl
      intro vs W6 hS hp
      clear szw6 E0 p3 kg ks hi8 hu2
      obtain ⟨E0, p3, kg, ks, hi8, hu2, sz6⟩ := hS
      obtain ⟨h6_0, h6_1, h6_2, h6_3, h6_4, h6_5, h6_6, h6_7, h6_8, -⟩ := hp
      replace h6_0 : vs 0 = .slice (some ⟨gq, 0, none⟩) 1 cq := h6_0
      replace h6_1 : vs 1 = .int .i64 256 := h6_1
      replace h6_2 : vs 2 = .pointer (some ⟨w.heap.size, 3, none⟩) := h6_2
      replace h6_3 : vs 3 = .int .i64 8 := h6_3
      replace h6_4 : vs 4 = .tuple #[.int .i64 256, .int .i64 0] := h6_4
      replace h6_5 : vs 5 = .int .i64 256 := h6_5
      replace h6_6 : vs 6 = .int .i64 0 := h6_6
      replace h6_7 : vs 7 = .int .i64 256 := h6_7
      replace h6_8 : vs 8 = .int .i64 256 := h6_8
      simp only [h6_0, h6_1, h6_2, h6_3, h6_4, h6_5, h6_6, h6_7, h6_8]
      clear h6_0 h6_1 h6_2 h6_3 h6_4 h6_5 h6_6 h6_7 h6_8
      obtain ⟨kp3_0, kp3_1, kp3_2, kp3_3, kp3_4, kp3_5⟩ := p3.c6
      go_wp2
      go_ret
      exact ⟨_, rfl, by rw [← HB.out]; exact hu2, E0⟩

end Go.Rt
