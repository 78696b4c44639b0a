/-
  Adafactor: the live question's step, with its deferred call.
-/
import Derived.Test.YtkbalokicnogbaaGreatAdaC
import Derived.Test.YtkbalokicnogbaaGreatAdaS
import Derived.Test.YtkbalokicnogbaaGreatAdamD
import Derived.Test.YtkbalokicnogbaaGreatGQ
import Derived.Recover
import Derived.Laws.Pointers
namespace Go.Rt
open Go Go.RowKit Go.Proofs

theorem Form.put1 {W : World} {g : Nat} {t : TypeId} (h : Form W g t 4) (i : Nat) (hi : i < 4) (v : Value) (hv : ∀ n, v ≠ .int .u64 n) :
    ∃ x, W.cell? ⟨g, i, none⟩ = some x ∧ W.frozen? ⟨g, i, none⟩ = false ∧ ∃ W', W' = W.setCell ⟨g, i, none⟩ v ∧ Wr g W W' ∧ W'.cell? ⟨g, i, none⟩ = some v ∧ ∀ j, j ≠ i → W'.cell? ⟨g, j, none⟩ = W.cell? ⟨g, j, none⟩ := by
  obtain ⟨cs, h1, h2, h3⟩ := h
  have hb : BxA W g t cs := h1
  have hp := hb.putN i v
  have hn : NoU (cs.setIfInBounds i v) := by
    intro j u hu n
    rw [Array.getElem?_setIfInBounds] at hu
    split at hu
    · split at hu
      · simp at hu; subst hu; exact hv n
      · cases hu
    · exact h2 j u hu n
  have hlt : i < cs.size := by omega
  refine ⟨cs[i], hb.cell i (by simp [hlt]), hb.frozN i, _, rfl, Wr.putN hb h2 i v hn, hp.cell i (by simp [hlt]), fun j hj => ?_⟩
  have e1 : (W.setCell ⟨g, i, none⟩ v).cell? ⟨g, j, none⟩ = (cs.setIfInBounds i v)[j]? := by simp [World.cell?, show (W.setCell ⟨g, i, none⟩ v).heap[g]? = _ from hp]
  have e2 : W.cell? ⟨g, j, none⟩ = cs[j]? := by simp [World.cell?, show W.heap[g]? = _ from hb]
  rw [e1, e2, Array.getElem?_setIfInBounds_ne (Ne.symm hj)]

theorem Form.box4 {W : World} {g : Nat} {t : TypeId} {x0 x1 x2 x3 : Value} (h : Form W g t 4) (k0 : W.cell? ⟨g, 0, none⟩ = some x0) (k1 : W.cell? ⟨g, 1, none⟩ = some x1) (k2 : W.cell? ⟨g, 2, none⟩ = some x2) (k3 : W.cell? ⟨g, 3, none⟩ = some x3) : BxA W g t #[x0, x1, x2, x3] := by
  obtain ⟨cs, h1, -, h3⟩ := h
  have hb : BxA W g t cs := h1
  have e : ∀ j, W.cell? ⟨g, j, none⟩ = cs[j]? := fun j => by simp [World.cell?, show W.heap[g]? = _ from hb]
  rw [e] at k0 k1 k2 k3
  have : cs = #[x0, x1, x2, x3] := by
    apply Array.ext_getElem?
    intro i
    match i with
    | 0 => exact k0
    | 1 => exact k1
    | 2 => exact k2
    | 3 => exact k3
    | i + 4 => rw [Array.getElem?_eq_none (by omega), Array.getElem?_eq_none (by simp)]
  rw [← this]
  exact hb

theorem tag_box4 {B g0 j : Nat} {t : TypeId} {x y z : Value} : Tag.ok B (.old g0) (PS.two j (fun r _ W => BxA W g0 t #[r, x, y, z])) :=
  ⟨fun _ _ _ _ hE h => BxA.ext h hE, fun _ _ _ _ _ hw hg h => BxA.wr h hw hg⟩

set_option maxRecDepth 100000 in
set_option maxHeartbeats 4000000 in
theorem Tryz.adaIdle (p q : Addr) (w : World) :
    CallsD Tryz.prog 104 #[.pointer (some p), .pointer (some q)] .returning w fun e u' w' => e = .returned (.tuple #[]) ∧ u' = .returning ∧ w' = w := by
  refine callsD_of_wpS Tryz.func104 rfl fun c₀ cs hu => ?_
  apply wpS_seq
  apply wpS_region
  simp [wpOpsS, go_sem, recoverD, hu, Tryz.ntmps104, Exit.thenS]
  refine wpS_of_wp ?_
  have HU := Lib.hid hu
  clear hu; go_wp2
  exact ⟨rfl, .returning, by rw [← HU.out], .tuple #[], by simp [results, Tryz.results104, go_sem], rfl, rfl, rfl⟩

set_option maxRecDepth 100000 in
set_option maxHeartbeats 8000000 in
theorem Tryz.adaStep1 {lo hi bw ow cw bv ov cv bg og cg : Nat} {w : World} (hhi : hi ≤ w.heap.size) (hw : Iw lo hi w (some ⟨bw, ow, none⟩) 1 cw [256]) (hv : Iw lo hi w (some ⟨bv, ov, none⟩) 1 cv [9]) (hg : Iw lo hi w (some ⟨bg, og, none⟩) 1 cg [512]) :
    Calls Tryz.prog 58 #[.agg #[.int .i64 16, .int .i64 1, .int .i64 256, .int .i64 8, .int .i64 1, .int .i64 256], .agg #[.slice (some ⟨bw, ow, none⟩) 1 cw, .slice none 0 0, .slice (some ⟨bv, ov, none⟩) 1 cv, .slice (some ⟨bg, og, none⟩) 1 cg]] w fun e w' => ∃ v1 v2, e = .returned (.tuple #[.agg #[v1, .slice none 0 0, v2, .slice none 0 0], .int .i64 0]) ∧ RowY w.heap.size w' v1 240 ∧ RowY w.heap.size w' v2 1025 ∧ Ext w w' := by
  have HHI := Lib.hid hhi
  have kw0 := hw.cell (i := 0) (by omega)
  rw [Nat.add_zero] at kw0
  have kw : World.cell? w ⟨bw, ow, none⟩ = some (.int .i64 256) := kw0
  clear kw0
  have hbw : bw < w.heap.size := World.block_lt_of_cell? _ _ kw
  have HBW := Lib.hid hbw
  have hvv := hv
  have hgg := hg
  clear hv hg hw hhi hbw
  have hmf : ∀ (fn : Fn) (first cap : Array Value) (W : World), (Instr.makeFunc fn first cap).run Tryz.prog W = .ok (.func fn first cap) W := fun _ _ _ _ => rfl
  obtain ⟨W0, hW0⟩ : ∃ W0, W0 = ((((w.alloc (.cells #[.int .i64 16, .int .i64 1, .int .i64 256, .int .i64 8, .int .i64 1, .int .i64 256] 94)).alloc (.cells #[.slice (some ⟨bw, ow, none⟩) 1 cw, .slice none 0 0, .slice (some ⟨bv, ov, none⟩) 1 cv, .slice (some ⟨bg, og, none⟩) 1 cg] 27)).alloc (.cells #[.slice none 0 0, .slice none 0 0, .slice none 0 0, .slice none 0 0] 27)).alloc (.cells #[.int .i64 0] 32)) := ⟨_, rfl⟩
  have E0 : Ext w W0 := by rw [hW0]; exact ((((Ext.alloc1 w (.cells #[.int .i64 16, .int .i64 1, .int .i64 256, .int .i64 8, .int .i64 1, .int .i64 256] 94)).alloc (.cells #[.slice (some ⟨bw, ow, none⟩) 1 cw, .slice none 0 0, .slice (some ⟨bv, ov, none⟩) 1 cv, .slice (some ⟨bg, og, none⟩) 1 cg] 27)).alloc (.cells #[.slice none 0 0, .slice none 0 0, .slice none 0 0, .slice none 0 0] 27)).alloc (.cells #[.int .i64 0] 32))
  replace hvv : Iw lo hi W0 (some ⟨bv, ov, none⟩) 1 cv [9] := hvv.ext E0
  replace hgg : Iw lo hi W0 (some ⟨bg, og, none⟩) 1 cg [512] := hgg.ext E0
  have p2 : BxA W0 w.heap.size 94 #[.int .i64 16, .int .i64 1, .int .i64 256, .int .i64 8, .int .i64 1, .int .i64 256] := by rw [hW0]; exact (BxA.new w 94 #[.int .i64 16, .int .i64 1, .int .i64 256, .int .i64 8, .int .i64 1, .int .i64 256]).ext (((Ext.alloc1 (w.alloc (.cells #[.int .i64 16, .int .i64 1, .int .i64 256, .int .i64 8, .int .i64 1, .int .i64 256] 94)) (.cells #[.slice (some ⟨bw, ow, none⟩) 1 cw, .slice none 0 0, .slice (some ⟨bv, ov, none⟩) 1 cv, .slice (some ⟨bg, og, none⟩) 1 cg] 27)).alloc (.cells #[.slice none 0 0, .slice none 0 0, .slice none 0 0, .slice none 0 0] 27)).alloc (.cells #[.int .i64 0] 32))
  have p3 : BxA W0 (w.heap.size + 1) 27 #[.slice (some ⟨bw, ow, none⟩) 1 cw, .slice none 0 0, .slice (some ⟨bv, ov, none⟩) 1 cv, .slice (some ⟨bg, og, none⟩) 1 cg] := by rw [hW0]; simpa using (BxA.new (w.alloc (.cells #[.int .i64 16, .int .i64 1, .int .i64 256, .int .i64 8, .int .i64 1, .int .i64 256] 94)) 27 #[.slice (some ⟨bw, ow, none⟩) 1 cw, .slice none 0 0, .slice (some ⟨bv, ov, none⟩) 1 cv, .slice (some ⟨bg, og, none⟩) 1 cg]).ext ((Ext.alloc1 ((w.alloc (.cells #[.int .i64 16, .int .i64 1, .int .i64 256, .int .i64 8, .int .i64 1, .int .i64 256] 94)).alloc (.cells #[.slice (some ⟨bw, ow, none⟩) 1 cw, .slice none 0 0, .slice (some ⟨bv, ov, none⟩) 1 cv, .slice (some ⟨bg, og, none⟩) 1 cg] 27)) (.cells #[.slice none 0 0, .slice none 0 0, .slice none 0 0, .slice none 0 0] 27)).alloc (.cells #[.int .i64 0] 32))
  have p4 : BxA W0 (w.heap.size + 1 + 1) 27 #[.slice none 0 0, .slice none 0 0, .slice none 0 0, .slice none 0 0] := by rw [hW0]; simpa using (BxA.new ((w.alloc (.cells #[.int .i64 16, .int .i64 1, .int .i64 256, .int .i64 8, .int .i64 1, .int .i64 256] 94)).alloc (.cells #[.slice (some ⟨bw, ow, none⟩) 1 cw, .slice none 0 0, .slice (some ⟨bv, ov, none⟩) 1 cv, .slice (some ⟨bg, og, none⟩) 1 cg] 27)) 27 #[.slice none 0 0, .slice none 0 0, .slice none 0 0, .slice none 0 0]).ext (Ext.alloc1 (((w.alloc (.cells #[.int .i64 16, .int .i64 1, .int .i64 256, .int .i64 8, .int .i64 1, .int .i64 256] 94)).alloc (.cells #[.slice (some ⟨bw, ow, none⟩) 1 cw, .slice none 0 0, .slice (some ⟨bv, ov, none⟩) 1 cv, .slice (some ⟨bg, og, none⟩) 1 cg] 27)).alloc (.cells #[.slice none 0 0, .slice none 0 0, .slice none 0 0, .slice none 0 0] 27)) (.cells #[.int .i64 0] 32))
  have p5 : BxA W0 (w.heap.size + 1 + 1 + 1) 32 #[.int .i64 0] := by rw [hW0]; simpa using (BxA.new (((w.alloc (.cells #[.int .i64 16, .int .i64 1, .int .i64 256, .int .i64 8, .int .i64 1, .int .i64 256] 94)).alloc (.cells #[.slice (some ⟨bw, ow, none⟩) 1 cw, .slice none 0 0, .slice (some ⟨bv, ov, none⟩) 1 cv, .slice (some ⟨bg, og, none⟩) 1 cg] 27)).alloc (.cells #[.slice none 0 0, .slice none 0 0, .slice none 0 0, .slice none 0 0] 27)) 32 #[.int .i64 0])
  go_enter_defers Tryz.func58, Tryz.ntmps58
  replace kw := Ext.cell E0 kw
  obtain ⟨kp2_0, kp2_1, kp2_2, kp2_3, kp2_4, kp2_5⟩ := p2.c6
  obtain ⟨kp3_0, kp3_1, kp3_2, kp3_3⟩ := p3.c4
  obtain ⟨kp4_0, kp4_1, kp4_2, kp4_3⟩ := p4.c4
  have kp5_0 := p5.cell 0 (v := .int .i64 0) rfl
  go_upto_region 2 with (fail)
  rw [← hW0]
  clear hW0
  clear kp2_0 kp2_1 kp2_2 kp2_3 kp2_4 kp2_5 kp3_0 kp3_1 kp3_2 kp3_3 kp4_0 kp4_1 kp4_2 kp4_3 kp5_0
  obtain ⟨B, hB⟩ : ∃ B, B = W0.heap.size := ⟨_, rfl⟩
  have HB : Hid (w.heap.size + 1 + 1 + 1 < B) := Lib.hid (by have := p5.lt; omega)
  have hBz : B ≤ W0.heap.size := Nat.le_of_eq hB
  have hhi := HHI.out
  obtain ⟨kp2_0, kp2_1, kp2_2, kp2_3, kp2_4, kp2_5⟩ := p2.c6
  obtain ⟨kp3_0, kp3_1, kp3_2, kp3_3⟩ := p3.c4
  obtain ⟨kp4_0, kp4_1, kp4_2, kp4_3⟩ := p4.c4
  have kp5_0 := p5.cell 0 (v := .int .i64 0) rfl
  go_wp2_with fail
  clear kp2_0 kp2_1 kp2_2 kp2_3 kp2_4 kp2_5 kp3_0 kp3_1 kp3_2 kp3_3 kp4_0 kp4_1 kp4_2 kp4_3 kp5_0
  refine (Tryz.adaMoments1 (bw := bw) (ow := ow) (cw := cw) hvv hgg).mono ?_
  rintro e V1 ⟨vm, rfl, hy, hE⟩
  rw [← hB] at hy
  clear hB
  replace E0 : Ext w V1 := (Ext.trans E0 hE)
  replace hvv : Iw lo hi V1 (some ⟨bv, ov, none⟩) 1 cv [9] := (hvv.ext hE)
  replace hgg : Iw lo hi V1 (some ⟨bg, og, none⟩) 1 cg [512] := (hgg.ext hE)
  replace p2 : BxA V1 w.heap.size 94 #[.int .i64 16, .int .i64 1, .int .i64 256, .int .i64 8, .int .i64 1, .int .i64 256] := (p2.ext hE)
  replace p3 : BxA V1 (w.heap.size + 1) 27 #[.slice (some ⟨bw, ow, none⟩) 1 cw, .slice none 0 0, .slice (some ⟨bv, ov, none⟩) 1 cv, .slice (some ⟨bg, og, none⟩) 1 cg] := (p3.ext hE)
  replace p4 : BxA V1 (w.heap.size + 1 + 1) 27 #[.slice none 0 0, .slice none 0 0, .slice none 0 0, .slice none 0 0] := (p4.ext hE)
  replace p5 : BxA V1 (w.heap.size + 1 + 1 + 1) 32 #[.int .i64 0] := (p5.ext hE)
  replace kw : World.cell? V1 ⟨bw, ow, none⟩ = some (.int .i64 256) := (Ext.cell hE kw)
  replace hBz : B ≤ Array.size (World.heap V1) := (Nat.le_trans hBz (Ext.size hE))
  clear hE
  have hvm := hy
  obtain ⟨gm, cm, rfl, -⟩ := hvm
  clear hvv
  have z1 := p4.frozN 1
  have z2 := p4.frozN 2
  obtain ⟨kp2_0, kp2_1, kp2_2, kp2_3, kp2_4, kp2_5⟩ := p2.c6
  obtain ⟨kp3_0, kp3_1, kp3_2, kp3_3⟩ := p3.c4
  obtain ⟨kp4_0, kp4_1, kp4_2, kp4_3⟩ := p4.c4
  have kp5_0 := p5.cell 0 (v := .int .i64 0) rfl
  go_upto_region 4 with (fail)
  clear kp2_0 kp2_1 kp2_2 kp2_3 kp2_4 kp2_5 kp3_0 kp3_1 kp3_2 kp3_3 kp4_0 kp4_1 kp4_2 kp4_3 kp5_0
  clear z1 z2
  obtain ⟨V2, hV2⟩ : ∃ V, V = V1.setCell ⟨w.heap.size + 1 + 1, 1, none⟩ (.slice none 0 0) := ⟨_, rfl⟩
  obtain ⟨V3, hV3⟩ : ∃ V, V = V2.setCell ⟨w.heap.size + 1 + 1, 2, none⟩ (.slice (some ⟨gm, 0, none⟩) 1 cm) := ⟨_, rfl⟩
  rw [← hV2, ← hV3]
  have hHB := HB.out
  have hbw := HBW.out
  have hw : Wr (w.heap.size + 1 + 1) V1 V2 := by rw [hV2]; exact Wr.putN p4 (noU4 _ _ _ _ _ _ _ _ _ _ _ _) 1 _ (noU4 _ _ _ _ _ _ _ _ _ _ _ _)
  replace E0 : Ext w V2 := (Ext.wr E0 hw (by omega))
  replace hgg : Iw lo hi V2 (some ⟨bg, og, none⟩) 1 cg [512] := (hgg.wr hw (by omega))
  replace p2 : BxA V2 w.heap.size 94 #[.int .i64 16, .int .i64 1, .int .i64 256, .int .i64 8, .int .i64 1, .int .i64 256] := (p2.wr hw (by omega))
  replace p3 : BxA V2 (w.heap.size + 1) 27 #[.slice (some ⟨bw, ow, none⟩) 1 cw, .slice none 0 0, .slice (some ⟨bv, ov, none⟩) 1 cv, .slice (some ⟨bg, og, none⟩) 1 cg] := (p3.wr hw (by omega))
  replace p4 : BxA V2 (w.heap.size + 1 + 1) 27 #[.slice none 0 0, .slice none 0 0, .slice none 0 0, .slice none 0 0] := by rw [hV2]; exact p4.putN 1 _
  replace p5 : BxA V2 (w.heap.size + 1 + 1 + 1) 32 #[.int .i64 0] := (p5.wr hw (by omega))
  replace kw : World.cell? V2 ⟨bw, ow, none⟩ = some (.int .i64 256) := (hw.apart.cell (by simp; omega) kw)
  replace hBz : B ≤ Array.size (World.heap V2) := (Nat.le_trans hBz hw.apart.size)
  replace hy : RowY B V2 (.slice (some ⟨gm, 0, none⟩) 1 cm) 1025 := (hy.wr hw (by omega))
  clear hw hV2
  have hw : Wr (w.heap.size + 1 + 1) V2 V3 := by rw [hV3]; exact Wr.putN p4 (noU4 _ _ _ _ _ _ _ _ _ _ _ _) 2 _ (noU4 _ _ _ _ _ _ _ _ _ _ _ _)
  replace E0 : Ext w V3 := (Ext.wr E0 hw (by omega))
  replace hgg : Iw lo hi V3 (some ⟨bg, og, none⟩) 1 cg [512] := (hgg.wr hw (by omega))
  replace p2 : BxA V3 w.heap.size 94 #[.int .i64 16, .int .i64 1, .int .i64 256, .int .i64 8, .int .i64 1, .int .i64 256] := (p2.wr hw (by omega))
  replace p3 : BxA V3 (w.heap.size + 1) 27 #[.slice (some ⟨bw, ow, none⟩) 1 cw, .slice none 0 0, .slice (some ⟨bv, ov, none⟩) 1 cv, .slice (some ⟨bg, og, none⟩) 1 cg] := (p3.wr hw (by omega))
  replace p4 : BxA V3 (w.heap.size + 1 + 1) 27 #[.slice none 0 0, .slice none 0 0, .slice (some ⟨gm, 0, none⟩) 1 cm, .slice none 0 0] := by rw [hV3]; exact p4.putN 2 _
  replace p5 : BxA V3 (w.heap.size + 1 + 1 + 1) 32 #[.int .i64 0] := (p5.wr hw (by omega))
  replace kw : World.cell? V3 ⟨bw, ow, none⟩ = some (.int .i64 256) := (hw.apart.cell (by simp; omega) kw)
  replace hBz : B ≤ Array.size (World.heap V3) := (Nat.le_trans hBz hw.apart.size)
  replace hy : RowY B V3 (.slice (some ⟨gm, 0, none⟩) 1 cm) 1025 := (hy.wr hw (by omega))
  clear hw hV3
  have him : Iw B V3.heap.size V3 (some ⟨gm, 0, none⟩) 1 cm [1025] := by obtain ⟨_, _, ev, h⟩ := hy.iw (by unfold I64; omega); cases ev; exact h
  obtain ⟨kp2_0, kp2_1, kp2_2, kp2_3, kp2_4, kp2_5⟩ := p2.c6
  obtain ⟨kp3_0, kp3_1, kp3_2, kp3_3⟩ := p3.c4
  obtain ⟨kp4_0, kp4_1, kp4_2, kp4_3⟩ := p4.c4
  have kp5_0 := p5.cell 0 (v := .int .i64 0) rfl
  go_wp2_with fail
  clear kp2_0 kp2_1 kp2_2 kp2_3 kp2_4 kp2_5 kp3_0 kp3_1 kp3_2 kp3_3 kp4_0 kp4_1 kp4_2 kp4_3 kp5_0
  refine (Tryz.adaUpdates1 hgg him).mono ?_
  rintro e V4 ⟨vu, rfl, hu, hE⟩
  clear him
  replace hu := hu.mono hBz
  clear hgg
  replace E0 : Ext w V4 := (Ext.trans E0 hE)
  replace p2 : BxA V4 w.heap.size 94 #[.int .i64 16, .int .i64 1, .int .i64 256, .int .i64 8, .int .i64 1, .int .i64 256] := (p2.ext hE)
  replace p3 : BxA V4 (w.heap.size + 1) 27 #[.slice (some ⟨bw, ow, none⟩) 1 cw, .slice none 0 0, .slice (some ⟨bv, ov, none⟩) 1 cv, .slice (some ⟨bg, og, none⟩) 1 cg] := (p3.ext hE)
  replace p4 : BxA V4 (w.heap.size + 1 + 1) 27 #[.slice none 0 0, .slice none 0 0, .slice (some ⟨gm, 0, none⟩) 1 cm, .slice none 0 0] := (p4.ext hE)
  replace p5 : BxA V4 (w.heap.size + 1 + 1 + 1) 32 #[.int .i64 0] := (p5.ext hE)
  replace kw : World.cell? V4 ⟨bw, ow, none⟩ = some (.int .i64 256) := (Ext.cell hE kw)
  replace hBz : B ≤ Array.size (World.heap V4) := (Nat.le_trans hBz (Ext.size hE))
  replace hy : RowY B V4 (.slice (some ⟨gm, 0, none⟩) 1 cm) 1025 := (hy.ext hE)
  clear hE
  obtain ⟨gu, cu, rfl, hguB, -, -, -, ku⟩ := hu
  obtain ⟨kp2_0, kp2_1, kp2_2, kp2_3, kp2_4, kp2_5⟩ := p2.c6
  obtain ⟨kp3_0, kp3_1, kp3_2, kp3_3⟩ := p3.c4
  obtain ⟨kp4_0, kp4_1, kp4_2, kp4_3⟩ := p4.c4
  have kp5_0 := p5.cell 0 (v := .int .i64 0) rfl
  go_wp2_with fail
  clear kp2_0 kp2_1 kp2_2 kp2_3 kp2_4 kp2_5 kp3_0 kp3_1 kp3_2 kp3_3 kp4_0 kp4_1 kp4_2 kp4_3 kp5_0
  clear hhi hHB hbw
  go_loopw [29] (fun i wr => (i = .int .i64 0 ∧ BxA wr (w.heap.size + 1 + 1) 27 #[.slice none 0 0, .slice none 0 0, .slice (some ⟨gm, 0, none⟩) 1 cm, .slice none 0 0] ∨ i = .int .i64 1 ∧ ∃ u, BxA wr (w.heap.size + 1 + 1) 27 #[u, .slice none 0 0, .slice (some ⟨gm, 0, none⟩) 1 cm, .slice none 0 0] ∧ RowY B wr u 240) ∧ BxA wr w.heap.size 94 #[.int .i64 16, .int .i64 1, .int .i64 256, .int .i64 8, .int .i64 1, .int .i64 256] ∧ BxA wr (w.heap.size + 1) 27 #[.slice (some ⟨bw, ow, none⟩) 1 cw, .slice none 0 0, .slice (some ⟨bv, ov, none⟩) 1 cv, .slice (some ⟨bg, og, none⟩) 1 cg] ∧ BxA wr (w.heap.size + 1 + 1 + 1) 32 #[.int .i64 0] ∧ Hid (World.cell? wr ⟨bw, ow, none⟩ = some (.int .i64 256) ∧ World.cell? wr ⟨gu, 0, none⟩ = some (.int .i64 256)) ∧ RowY B wr (.slice (some ⟨gm, 0, none⟩) 1 cm) 1025 ∧ B ≤ wr.heap.size ∧ Ext w wr) (fun i _ => 1 - (intOf i).toNat)
  case atStart => exact ⟨.inl ⟨rfl, p4⟩, p2, p3, p5, Lib.hid ⟨kw, ku⟩, hy, hBz, E0⟩
  case round =>
    clear p4 p2 p3 p5 kw ku hy hBz E0
    obtain ⟨hr, p2, p3, p5, hks, hy, hBz, E0⟩ := hrel
    have kw := hks.out.1
    have ku := hks.out.2
    clear hks
    rcases hr with ⟨rfl, p4⟩ | ⟨rfl, u, p4, hyu⟩
    · obtain ⟨kp2_0, kp2_1, kp2_2, kp2_3, kp2_4, kp2_5⟩ := p2.c6
      obtain ⟨kp3_0, kp3_1, kp3_2, kp3_3⟩ := p3.c4
      have kp5_0 := p5.cell 0 (v := .int .i64 0) rfl
      obtain ⟨kp4_0, kp4_1, kp4_2, kp4_3⟩ := p4.c4
      go_upto_region 7 with (fail)
      clear kp2_0 kp2_1 kp2_2 kp2_3 kp2_4 kp2_5 kp3_0 kp3_1 kp3_2 kp3_3 kp5_0 kp4_0 kp4_1 kp4_2 kp4_3
      have EZ := Lib.hid hBz
      have hHB := HB.out
      have hbw := HBW.out
      have hr : Rest (fun W => World.cell? W ⟨w.heap.size + 1 + 1, 0, none⟩ = some (.slice none 0 0)) (w.heap.size + 1 + 1) := ⟨fun W W1 h hE => Ext.cell hE h⟩
      have hRR := BxA.cell p4 0 (v := .slice none 0 0) rfl
      have lt4 := BxA.lt p4
      have fo4 : Form wr (w.heap.size + 1 + 1) 27 4 := ⟨_, p4, (noU4 _ _ _ _ _ _ _ _ _ _ _ _), rfl⟩
      have k41 := BxA.cell p4 1 (v := .slice none 0 0) rfl
      have k42 := BxA.cell p4 2 (v := .slice (some ⟨gm, 0, none⟩) 1 cm) rfl
      have k43 := BxA.cell p4 3 (v := .slice none 0 0) rfl
      clear p4
      have ltp2 := p2.lt
      have ltp3 := p3.lt
      have ltp5 := p5.lt
      have szw7 := Ext.size E0
      refine region_go3 [.one fun v _ => v = .pointer (some ⟨w.heap.size + 1 + 1, 0, none⟩),
          .one fun v _ => v = .slice none 0 0,
          .one fun v _ => v = .pointer (some ⟨w.heap.size + 1, 0, none⟩),
          .one fun v _ => v = .slice (some ⟨bw, ow, none⟩) 1 cw,
          .one fun v _ => v = .int .i64 0,
          .one fun v _ => v = .pointer (some ⟨bw, ow, none⟩),
          .one fun v _ => v = .int .i64 256,
          .one fun v _ => v = .agg #[.int .i64 16, .int .i64 1, .int .i64 256, .int .i64 8, .int .i64 1, .int .i64 256],
          .one fun v _ => v = .pointer (some ⟨w.heap.size, 0, none⟩),
          .one fun v _ => v = .pointer (some ⟨w.heap.size, 0, none⟩),
          .one fun v _ => v = .int .i64 16,
          .one fun v _ => v = .int .i64 256,
          .one fun v _ => v = .int .i64 16,
          .one fun v _ => v = .tuple #[.int .i64 240, .int .i64 0],
          .one fun v _ => v = .int .i64 240,
          .one fun v _ => v = .int .i64 0,
          .one fun v _ => v = .int .i64 240,
          .one fun v W => NewY wr.heap.size W v 240,
          .one fun v W => RowY wr.heap.size W v 240,
          .one fun v _ => v = .pointer (some ⟨w.heap.size + 1 + 1, 0, none⟩),
          .two 18 (fun r _ W => BxA W (w.heap.size + 1 + 1) 27 #[r, .slice none 0 0, .slice (some ⟨gm, 0, none⟩) 1 cm, .slice none 0 0])]
        (fun W => Ext w W ∧ BxA W w.heap.size 94 #[.int .i64 16, .int .i64 1, .int .i64 256, .int .i64 8, .int .i64 1, .int .i64 256] ∧ BxA W (w.heap.size + 1) 27 #[.slice (some ⟨bw, ow, none⟩) 1 cw, .slice none 0 0, .slice (some ⟨bv, ov, none⟩) 1 cv, .slice (some ⟨bg, og, none⟩) 1 cg] ∧ BxA W (w.heap.size + 1 + 1 + 1) 32 #[.int .i64 0] ∧ World.cell? W ⟨bw, ow, none⟩ = some (.int .i64 256) ∧ World.cell? W ⟨gu, 0, none⟩ = some (.int .i64 256) ∧ RowY B W (.slice (some ⟨gm, 0, none⟩) 1 cm) 1025 ∧ B ≤ Array.size (World.heap W) ∧ Form W (w.heap.size + 1 + 1) 27 4 ∧ World.cell? W ⟨w.heap.size + 1 + 1, 1, none⟩ = some (.slice none 0 0) ∧ World.cell? W ⟨w.heap.size + 1 + 1, 2, none⟩ = some (.slice (some ⟨gm, 0, none⟩) 1 cm) ∧ World.cell? W ⟨w.heap.size + 1 + 1, 3, none⟩ = some (.slice none 0 0) ∧ wr.heap.size ≤ W.heap.size) wr.heap.size [] [Tag.any, Tag.any, Tag.any, Tag.any, Tag.any, Tag.any, Tag.any, Tag.any, Tag.any, Tag.any, Tag.any, Tag.any, Tag.any, Tag.any, Tag.any, Tag.any, Tag.any, Tag.fresh, Tag.fresh, Tag.any, Tag.old (w.heap.size + 1 + 1)] ⟨Good.is _, Good.is _, Good.is _, Good.is _, Good.is _, Good.is _, Good.is _, Good.is _, Good.is _, Good.is _, Good.is _, Good.is _, Good.is _, Good.is _, Good.is _, Good.is _, Good.is _, tag_newy, tag_rowy, Good.is _, tag_box4, trivial⟩ (fun g0 hg => by simp at hg; omega)
        (fun W W1 hS hE => ⟨(Ext.trans hS.1 hE), (hS.2.1.ext hE), (hS.2.2.1.ext hE), (hS.2.2.2.1.ext hE), (Ext.cell hE hS.2.2.2.2.1), (Ext.cell hE hS.2.2.2.2.2.1), (hS.2.2.2.2.2.2.1.ext hE), (Nat.le_trans hS.2.2.2.2.2.2.2.1 (Ext.size hE)), (hS.2.2.2.2.2.2.2.2.1.ext hE), (Ext.cell hE hS.2.2.2.2.2.2.2.2.2.1), (Ext.cell hE hS.2.2.2.2.2.2.2.2.2.2.1), (Ext.cell hE hS.2.2.2.2.2.2.2.2.2.2.2.1), (Nat.le_trans hS.2.2.2.2.2.2.2.2.2.2.2.2 (Ext.size hE))⟩) ⟨E0, p2, p3, p5, kw, ku, hy, hBz, fo4, k41, k42, k43, Nat.le_refl _⟩ (fun m hm => by simp at hm) 20 hr hRR (by kernel_rfl) (by kernel_rfl) (by kernel_rfl) (by kernel_rfl) (A := ?A7) ?hA7 ?howe7 ?hfin7
      case hA7 =>
        intro vs
        simp only [putAll, Act.put, List.setIfInBounds_toArray, List.set_cons_zero, List.set_cons_succ, Nat.zero_add, Nat.reduceAdd]
        exact rfl
      case howe7 =>
        clear E0 p2 p3 p5 kw ku hy hBz fo4 k41 k42 k43
        intro hf
        refine ⟨owesM3 0 [] hf hr rfl rfl rfl (by kernel_rfl) ?_, owesR3 1 [0] hf hr rfl rfl (by kernel_rfl) rfl rfl rfl (by kernel_rfl) ?_, owesM3 2 [] hf hr rfl rfl rfl (by kernel_rfl) ?_, owesM3 3 [2] hf hr rfl rfl rfl (by kernel_rfl) ?_, owesM3 4 [] hf hr rfl rfl rfl (by kernel_rfl) ?_, owesM3 5 [3, 4] hf hr rfl rfl rfl (by kernel_rfl) ?_, owesM3 6 [5] hf hr rfl rfl rfl (by kernel_rfl) ?_, owesM3 7 [] hf hr rfl rfl rfl (by kernel_rfl) ?_, owesM3 8 [] hf hr rfl rfl rfl (by kernel_rfl) ?_, owesM3 9 [8] hf hr rfl rfl rfl (by kernel_rfl) ?_, owesM3 10 [9] hf hr rfl rfl rfl (by kernel_rfl) ?_, owesM3 11 [] hf hr rfl rfl rfl (by kernel_rfl) ?_, owesM3 12 [7, 10, 11] hf hr rfl rfl rfl (by kernel_rfl) ?_, owesM3 13 [6, 12] hf hr rfl rfl rfl (by kernel_rfl) ?_, owesM3 14 [13] hf hr rfl rfl rfl (by kernel_rfl) ?_, owesM3 15 [13] hf hr rfl rfl rfl (by kernel_rfl) ?_, owesM3 16 [14, 15] hf hr rfl rfl rfl (by kernel_rfl) ?_, owesM3 17 [16] hf hr rfl rfl rfl (by kernel_rfl) ?_, owesM3 18 [1, 17] hf hr rfl rfl rfl (by kernel_rfl) ?_, owesM3 19 [] hf hr rfl rfl rfl (by kernel_rfl) ?_, owesL3 (w.heap.size + 1 + 1) [19, 18] hf rfl (by omega) ⟨.inr trivial, .inr trivial, .inr trivial, .inr trivial, .inr trivial, .inr trivial, .inr trivial, .inr trivial, .inr trivial, .inr trivial, .inr trivial, .inr trivial, .inr trivial, .inr trivial, .inr trivial, .inr trivial, .inr trivial, .inr trivial, .inr trivial, .inr trivial, .inl rfl, trivial⟩ rfl (by kernel_rfl) ?_, trivial⟩
        all_goals intro vs W hS hp hx KO hKO
        all_goals simp only [Act.put, List.setIfInBounds_toArray, List.set_cons_zero, List.set_cons_succ] at hKO
        · go_simp
          exact hKO _ W (Ext.refl W) rfl
        · have e0 := isOf hp.1
          simp only [e0] at hKO
          have hb0 : World.cell? W ⟨w.heap.size + 1 + 1, 0, none⟩ = some (.slice none 0 0) := hS.2
          go_simp
          exact hKO _ W (Ext.refl W) rfl
        · go_simp
          exact hKO _ W (Ext.refl W) rfl
        · have e2 := isOf hp.1
          simp only [e2] at hKO
          have fc0 := BxA.cell (hS.2.2.1) 0 (v := .slice (some ⟨bw, ow, none⟩) 1 cw) rfl
          go_simp
          exact hKO _ W (Ext.refl W) rfl
        · go_simp
          exact hKO _ W (Ext.refl W) rfl
        · have e3 := isOf hp.1
          have e4 := isOf hp.2.1
          simp only [e3, e4] at hKO
          go_simp
          exact hKO _ W (Ext.refl W) rfl
        · have e5 := isOf hp.1
          simp only [e5] at hKO
          have fc := hS.2.2.2.2.1
          go_simp
          exact hKO _ W (Ext.refl W) rfl
        · have fc0 := BxA.cell (hS.2.1) 0 (v := .int .i64 16) rfl
          have fc1 := BxA.cell (hS.2.1) 1 (v := .int .i64 1) rfl
          have fc2 := BxA.cell (hS.2.1) 2 (v := .int .i64 256) rfl
          have fc3 := BxA.cell (hS.2.1) 3 (v := .int .i64 8) rfl
          have fc4 := BxA.cell (hS.2.1) 4 (v := .int .i64 1) rfl
          have fc5 := BxA.cell (hS.2.1) 5 (v := .int .i64 256) rfl
          go_simp
          exact hKO _ W (Ext.refl W) rfl
        · go_simp
          exact hKO _ W (Ext.refl W) rfl
        · have e8 := isOf hp.1
          simp only [e8] at hKO
          go_simp
          exact hKO _ W (Ext.refl W) rfl
        · have e9 := isOf hp.1
          simp only [e9] at hKO
          have fc0 := BxA.cell (hS.2.1) 0 (v := .int .i64 16) rfl
          go_simp
          exact hKO _ W (Ext.refl W) rfl
        · go_simp
          exact hKO _ W (Ext.refl W) rfl
        · have e7 := isOf hp.1
          have e10 := isOf hp.2.1
          have e11 := isOf hp.2.2.1
          simp only [e7, e10, e11] at hKO
          go_simp
          refine (Tryz.adaMul 16 1 256 1 256 8 (by omega) (a := 16) (b := 256) (z := 16) (by unfold I64; omega) (by unfold I64; omega) M16 _).mono ?_
          rintro e W1 ⟨rfl, hE⟩
          exact hKO _ W1 hE rfl
        · have e6 := isOf hp.1
          have e12 := isOf hp.2.1
          simp only [e6, e12] at hKO
          go_simp
          refine (Tryz.fixSubV 256 16 _ (by omega) (by omega) (by omega) (by omega) (V := 240) (E := 0) (by decide) (by decide)).mono ?_
          rintro e W1 ⟨rfl, hE⟩
          exact hKO _ W1 hE rfl
        · have e13 := isOf hp.1
          simp only [e13] at hKO
          go_simp
          exact hKO _ W (Ext.refl W) rfl
        · have e13 := isOf hp.1
          simp only [e13] at hKO
          go_simp
          exact hKO _ W (Ext.refl W) rfl
        · have e14 := isOf hp.1
          have e15 := isOf hp.2.1
          simp only [e14, e15] at hKO
          go_simp
          refine (Tryz.adaHeld 240 _).mono ?_
          rintro e W1 ⟨rfl, hE⟩
          exact hKO _ W1 hE rfl
        · have e16 := isOf hp.1
          simp only [e16] at hKO
          have hE := Ext.alloc1 W (.cells #[.int .i64 240] 2)
          have hbx := BxA.new W 2 #[.int .i64 240]
          have hsz := hS.2.2.2.2.2.2.2.2.2.2.2.2
          go_simp
          exact hKO _ _ hE ⟨_, rfl, hsz, by simp, hbx.cell 0 rfl⟩
        · have e1 := isOf hp.1
          have q17 := hp.2.1
          simp only [e1] at hKO
          obtain ⟨g, ev, hg0, hg1, hc⟩ := q17
          replace ev : vs 17 = _ := ev
          have hsz := hS.2.2.2.2.2.2.2.2.2.2.2.2
          refine step_append_y Tryz.underlying25 Tryz.infoI rfl _ _ rfl (b := g) (y := 240) (by first | rfl | exact e1) (by exact ev) hc ?_
          intro v w1 hE hy
          simp only [Act.put, List.setIfInBounds_toArray, List.set_cons_zero, List.set_cons_succ, e1]
          exact hKO _ _ hE (hy.mono hsz)
        · go_simp
          exact hKO _ W (Ext.refl W) rfl
        · have e19 := isOf hp.1
          have q18 := hp.2.1
          simp only [e19] at hKO
          obtain ⟨gr, cr, er, -⟩ := q18
          replace er : vs 18 = _ := er
          obtain ⟨x0, hx0, hz0, W2, hW2, hw, hc0, hcj⟩ := Form.put1 hS.2.2.2.2.2.2.2.2.1 0 (by omega) (vs 18) (fun n e => by rw [er] at e; cases e)
          rw [er] at hW2
          simp only [er] at hKO
          go_simp
          rw [← hW2]
          exact hKO _ hw ⟨(Ext.wr hS.1 hw (by omega)), (hS.2.1.wr hw (by omega)), (hS.2.2.1.wr hw (by omega)), (hS.2.2.2.1.wr hw (by omega)), (hw.apart.cell (by simp; omega) hS.2.2.2.2.1), (hw.apart.cell (by simp; omega) hS.2.2.2.2.2.1), (hS.2.2.2.2.2.2.1.wr hw (by omega)), (Nat.le_trans hS.2.2.2.2.2.2.2.1 hw.apart.size), (hS.2.2.2.2.2.2.2.2.1.wr hw), ((hcj 1 (by omega)).trans hS.2.2.2.2.2.2.2.2.2.1), ((hcj 2 (by omega)).trans hS.2.2.2.2.2.2.2.2.2.2.1), ((hcj 3 (by omega)).trans hS.2.2.2.2.2.2.2.2.2.2.2.1), (Nat.le_trans hS.2.2.2.2.2.2.2.2.2.2.2.2 hw.apart.size)⟩ (Form.box4 (Form.wr hS.2.2.2.2.2.2.2.2.1 hw) hc0 ((hcj 1 (by omega)).trans hS.2.2.2.2.2.2.2.2.2.1) ((hcj 2 (by omega)).trans hS.2.2.2.2.2.2.2.2.2.2.1) ((hcj 3 (by omega)).trans hS.2.2.2.2.2.2.2.2.2.2.2.1))
      intro vs W7 hS hM hp
      clear szw7 E0 p2 p3 p5 kw ku hy hBz fo4 k41 k42 k43
      obtain ⟨E0, p2, p3, p5, kw, ku, hy, hBz, fo4, k41, k42, k43, sz7⟩ := hS
      obtain ⟨h7_0, h7_1, h7_2, h7_3, h7_4, h7_5, h7_6, h7_7, h7_8, h7_9, h7_10, h7_11, h7_12, h7_13, h7_14, h7_15, h7_16, h7_17, h7_18, h7_19, h7_20, -⟩ := hp
      skip
      skip
      have hB7 : BxA W7 (w.heap.size + 1 + 1) 27 #[vs 18, .slice none 0 0, .slice (some ⟨gm, 0, none⟩) 1 cm, .slice none 0 0] := h7_20
      have hY7 : RowY wr.heap.size W7 (vs 18) 240 := h7_18
      generalize vs 18 = y7 at h7_20 hB7 hY7 h7_18 ⊢
      replace h7_0 : vs 0 = .pointer (some ⟨w.heap.size + 1 + 1, 0, none⟩) := h7_0
      replace h7_1 : vs 1 = .slice none 0 0 := h7_1
      replace h7_2 : vs 2 = .pointer (some ⟨w.heap.size + 1, 0, none⟩) := h7_2
      replace h7_3 : vs 3 = .slice (some ⟨bw, ow, none⟩) 1 cw := h7_3
      replace h7_4 : vs 4 = .int .i64 0 := h7_4
      replace h7_5 : vs 5 = .pointer (some ⟨bw, ow, none⟩) := h7_5
      replace h7_6 : vs 6 = .int .i64 256 := h7_6
      replace h7_7 : vs 7 = .agg #[.int .i64 16, .int .i64 1, .int .i64 256, .int .i64 8, .int .i64 1, .int .i64 256] := h7_7
      replace h7_8 : vs 8 = .pointer (some ⟨w.heap.size, 0, none⟩) := h7_8
      replace h7_9 : vs 9 = .pointer (some ⟨w.heap.size, 0, none⟩) := h7_9
      replace h7_10 : vs 10 = .int .i64 16 := h7_10
      replace h7_11 : vs 11 = .int .i64 256 := h7_11
      replace h7_12 : vs 12 = .int .i64 16 := h7_12
      replace h7_13 : vs 13 = .tuple #[.int .i64 240, .int .i64 0] := h7_13
      replace h7_14 : vs 14 = .int .i64 240 := h7_14
      replace h7_15 : vs 15 = .int .i64 0 := h7_15
      replace h7_16 : vs 16 = .int .i64 240 := h7_16
      replace h7_19 : vs 19 = .pointer (some ⟨w.heap.size + 1 + 1, 0, none⟩) := h7_19
      clear hM
      simp only [h7_0, h7_1, h7_2, h7_3, h7_4, h7_5, h7_6, h7_7, h7_8, h7_9, h7_10, h7_11, h7_12, h7_13, h7_14, h7_15, h7_16, h7_19]
      clear h7_0 h7_1 h7_2 h7_3 h7_4 h7_5 h7_6 h7_7 h7_8 h7_9 h7_10 h7_11 h7_12 h7_13 h7_14 h7_15 h7_16 h7_19 h7_17 h7_18 h7_20
      obtain ⟨kp2_0, kp2_1, kp2_2, kp2_3, kp2_4, kp2_5⟩ := p2.c6
      obtain ⟨kp3_0, kp3_1, kp3_2, kp3_3⟩ := p3.c4
      have kp5_0 := p5.cell 0 (v := .int .i64 0) rfl
      clear hr fo4 k41 k42 k43 hHB hbw
      go_wp2
      clear kp2_0 kp2_1 kp2_2 kp2_3 kp2_4 kp2_5 kp3_0 kp3_1 kp3_2 kp3_3 kp5_0
      go_roundw
      case rel => exact ⟨.inr ⟨by go_num, _, hB7, hY7.mono EZ.out⟩, p2, p3, p5, Lib.hid ⟨kw, ku⟩, hy, hBz, E0⟩
      case measure => simp [intOf]
    · have hyu2 := hyu
      obtain ⟨gw, cw2, rfl, -⟩ := hyu2
      have z40 := p4.frozN 0
      have z41 := p4.frozN 1
      have z42 := p4.frozN 2
      have z43 := p4.frozN 3
      have z50 := p5.frozN 0
      obtain ⟨kp2_0, kp2_1, kp2_2, kp2_3, kp2_4, kp2_5⟩ := p2.c6
      obtain ⟨kp3_0, kp3_1, kp3_2, kp3_3⟩ := p3.c4
      have kp5_0 := p5.cell 0 (v := .int .i64 0) rfl
      obtain ⟨kp4_0, kp4_1, kp4_2, kp4_3⟩ := p4.c4
      go_wp2
      clear kp2_0 kp2_1 kp2_2 kp2_3 kp2_4 kp2_5 kp3_0 kp3_1 kp3_2 kp3_3 kp5_0 kp4_0 kp4_1 kp4_2 kp4_3
      obtain ⟨V2, hV2, hw, hq⟩ := (Form4.of p4).put (some ⟨gw, 0, none⟩) 1 cw2 none 0 0 (some ⟨gm, 0, none⟩) 1 cm none 0 0
      have hHB := HB.out
      rw [← hV2]
      clear hV2
      have p5a : BxA V2 (w.heap.size + 1 + 1 + 1) 32 #[.int .i64 0] := BxA.wr p5 hw (by omega)
      have hr9 : RowI V2 (w.heap.size + 1 + 1 + 1) 32 [0] := p5a
      have hw2 := Wr.row hr9 0 0
      have q9 := hr9.set 0 0
      obtain ⟨V3, hV3⟩ : ∃ V, V = V2.setCell ⟨w.heap.size + 1 + 1 + 1, 0, none⟩ (.int .i64 0) := ⟨_, rfl⟩
      rw [← hV3] at hw2 q9 ⊢
      clear hV3
      refine leaves_cons (f := 104) (args := #[.pointer (some ⟨w.heap.size + 1 + 1, 0, none⟩), .pointer (some ⟨w.heap.size + 1 + 1 + 1, 0, none⟩)]) (by simp) (by simp [go_sem]) ?_
      refine (Tryz.adaIdle _ _ _).mono ?_
      rintro e2 u2 V5 ⟨rfl, rfl, rfl⟩
      have q8 := hq.wr hw2 (by omega)
      have k80 := q8.cell 0 (v := .slice (some ⟨gw, 0, none⟩) 1 cw2) rfl
      have k81 := q8.cell 1 (v := .slice none 0 0) rfl
      have k82 := q8.cell 2 (v := .slice (some ⟨gm, 0, none⟩) 1 cm) rfl
      have k83 := q8.cell 3 (v := .slice none 0 0) rfl
      have k90 := BxA.cell q9 0 (v := .int .i64 0) rfl
      change ∃ v, (results _ _).run _ _ = .ok v _ ∧ _
      exact ⟨.tuple #[.agg #[.slice (some ⟨gw, 0, none⟩) 1 cw2, .slice none 0 0, .slice (some ⟨gm, 0, none⟩) 1 cm, .slice none 0 0], .int .i64 0], by simp [results, Tryz.results58, go_sem, k80, k81, k82, k83, k90], _, _, rfl, ((hyu.wr hw (by omega)).wr hw2 (by omega)).mono (by omega), ((hy.wr hw (by omega)).wr hw2 (by omega)).mono (by omega), Ext.wr (Ext.wr E0 hw (by omega)) hw2 (by omega)⟩

end Go.Rt
