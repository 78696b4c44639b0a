/-
  A number, clipped; each of a row; a row's copy; a row, clipped.
-/
import Derived.Test.YtfgmfhdcdhanbaaGreatClipA
import Derived.Test.YtfgmfhdcdhanbaaGreatGQ
import Derived.Test.YtfgmfhdcdhanbaaGreatGM
import Derived.Test.YtfgmfhdcdhanbaaGreatGL
import Derived.Test.YtfgmfhdcdhanbaaGreatDyadP
namespace Go.Rt
open Go Go.RowKit Go.Proofs

/-- a box whose first cell is this Boolean -/
def HalfB (W : World) (g : Nat) (t : TypeId) (b : Bool) : Prop := ∃ a n c, Bx2 W g t (.bool b) (.slice a n c)

theorem HalfB.ext {W W' : World} {g : Nat} {t : TypeId} {b : Bool} (h : HalfB W g t b) (hE : Ext W W') : HalfB W' g t b := let ⟨a, n, c, k⟩ := h; ⟨a, n, c, k.ext hE⟩

theorem HalfB.wr {W W' : World} {g k : Nat} {t : TypeId} {b : Bool} (h : HalfB W k t b) (hw : Wr g W W') (hn : k ≠ g) : HalfB W' k t b := let ⟨a, n, c, q⟩ := h; ⟨a, n, c, q.wr hw hn⟩

theorem HalfB.lt {W : World} {g : Nat} {t : TypeId} {b : Bool} (h : HalfB W g t b) : g < W.heap.size := let ⟨_, _, _, k⟩ := h; k.lt

theorem sgn_nb (Q : Nat) : false = decide (sgn false Q < 0) := (decide_eq_false (by show ¬ ((Q : Int) < 0); omega)).symm

theorem sgn_nt {Q : Nat} (h : 0 < Q) : true = decide (sgn true Q < 0) := (decide_eq_true (by show -(Q : Int) < 0; omega)).symm

def AtN (g : Nat) (t : TypeId) (x r : Value) (W : World) : Prop := ∃ a n c, r = .slice a n c ∧ Bx2 W g t x (.slice a n c)

theorem tag_atN {B g0 j : Nat} {t : TypeId} {x : Value} : Tag.ok B (.old g0) (PS.two j (fun r _ W => AtN g0 t x r W)) :=
  ⟨fun _ _ _ _ hE ⟨a, n, c, h1, h2⟩ => ⟨a, n, c, h1, h2.ext hE⟩, fun _ _ _ _ _ hw hg ⟨a, n, c, h1, h2⟩ => ⟨a, n, c, h1, h2.wr hw hg⟩⟩

theorem noU_zed (b : Bool) (a : Option Addr) (n c : Nat) : NoU #[.bool b, .slice a n c] := fun i v h k q => by
  match i, h with
  | 0, h => simp at h; subst h; cases q
  | 1, h => simp at h; subst h; cases q
  | i + 2, h => simp at h

/-- one cell of a box of two is put anew -/
theorem Bx2.putB {W : World} {g : Nat} {t : TypeId} {b b' : Bool} {a : Option Addr} {n c : Nat} (h : Bx2 W g t (.bool b) (.slice a n c)) : ∃ W', W' = W.setCell ⟨g, 0, none⟩ (.bool b') ∧ Wr g W W' ∧ Bx2 W' g t (.bool b') (.slice a n c) :=
  ⟨_, rfl, Wr.putN (xs := #[.bool b, .slice a n c]) h (noU_zed b a n c) 0 (.bool b') (noU_zed b' a n c), BxA.putN (xs := #[.bool b, .slice a n c]) h 0 (.bool b')⟩

theorem HalfB.put {W : World} {g : Nat} {t : TypeId} {b : Bool} (h : HalfB W g t b) (a : Option Addr) (n c : Nat) :
    ∃ x, W.cell? ⟨g, 1, none⟩ = some x ∧ W.frozen? ⟨g, 1, none⟩ = false ∧ ∃ W', W' = W.setCell ⟨g, 1, none⟩ (.slice a n c) ∧ Wr g W W' ∧ Bx2 W' g t (.bool b) (.slice a n c) := by
  obtain ⟨a0, n0, c0, k⟩ := h
  exact ⟨_, k.cell1, BxA.frozN (xs := #[.bool b, .slice a0 n0 c0]) k 1, _, rfl, Wr.putN (xs := #[.bool b, .slice a0 n0 c0]) k (noU_zed b a0 n0 c0) 1 (.slice a n c) (noU_zed b a n c), BxA.putN (xs := #[.bool b, .slice a0 n0 c0]) k 1 (.slice a n c)⟩

set_option maxRecDepth 100000 in
set_option maxHeartbeats 8000000 in
theorem Tryz.clip1 {gl gn nl cl nn cn m N : Nat} {al an : Option Addr} {w : World} (x : Int) (hx : I64 x) (hmN : m < N) (sN : Sm 4 N) (hl : Nw w (.slice al nl cl) m) (hn : Nw w (.slice an nn cn) N) (pl : BxA w gl 24 #[.slice al nl cl]) (pn : BxA w gn 24 #[.slice an nn cn]) :
    Calls Tryz.prog 36 #[.int .i64 x, .pointer (some ⟨gl, 0, none⟩), .pointer (some ⟨gn, 0, none⟩)] w fun e w' => e = .returned (.int .i64 (clipV N m x)) ∧ Ext w w' := by
  have HX := Lib.hid hx
  have HMN : Hid (N ≠ 0) := Lib.hid (by omega)
  have SX : Hid (Sm 4 x.natAbs) := Lib.hid (by unfold I64 at hx; unfold Sm; rw [B64_eq]; omega)
  have SM : Hid (Sm 4 m) := Lib.hid (sN.le (Nat.le_of_lt hmN))
  have HV : Hid (fitV (clipV N m x) = clipV N m x) := Lib.hid (clipV_fits hmN hx)
  clear hx hmN sN
  obtain ⟨W0, hW0⟩ : ∃ W0, W0 = w := ⟨_, rfl⟩
  have E0 : Ext w W0 := by rw [hW0]; exact Ext.refl w
  replace hl : Nw W0 (.slice al nl cl) m := hl.ext E0
  replace hn : Nw W0 (.slice an nn cn) N := hn.ext E0
  replace pl : BxA W0 gl 24 #[.slice al nl cl] := pl.ext E0
  replace pn : BxA W0 gn 24 #[.slice an nn cn] := pn.ext E0
  go_enter Tryz.func36, Tryz.ntmps36
  have kpl_0 := pl.cell 0 (v := .slice al nl cl) rfl
  have kpn_0 := pn.cell 0 (v := .slice an nn cn) rfl
  go_wp2_with fail
  rw [← hW0]
  clear hW0
  clear kpl_0 kpn_0
  refine (Tryz.zedOf x _ HX.out.1 HX.out.2).mono ?_
  rintro e Wz ⟨vz, rfl, hz, hE⟩
  obtain ⟨bz, az, nz, cz, rfl, hbz, hz⟩ := hz
  replace E0 := (Ext.trans E0 hE)
  replace hl := (hl.ext hE)
  replace hn := (hn.ext hE)
  replace pl := (pl.ext hE)
  replace pn := (pn.ext hE)
  clear hE
  have kpl_0 := pl.cell 0 (v := .slice al nl cl) rfl
  have kpn_0 := pn.cell 0 (v := .slice an nn cn) rfl
  go_upto_region 2 with (fail)
  clear kpl_0 kpn_0
  have p5 := BxA.new Wz 42 #[.bool bz, .slice az nz cz]
  have hE := Ext.alloc1 Wz (.cells #[.bool bz, .slice az nz cz] 42)
  have lt0 := Ext.size E0
  have ltpl := pl.lt
  have ltpn := pn.lt
  obtain ⟨U5, hU5⟩ : ∃ U5, U5 = Wz.alloc (.cells #[.bool bz, .slice az nz cz] 42) := ⟨_, rfl⟩
  rw [← hU5] at p5 hE ⊢
  clear hU5
  replace E0 := (Ext.trans E0 hE)
  replace hl := (hl.ext hE)
  replace hn := (hn.ext hE)
  replace pl := (pl.ext hE)
  replace pn := (pn.ext hE)
  replace hz := (hz.ext hE)
  clear hE
  obtain ⟨g5, hg5⟩ : ∃ g, g = Wz.heap.size := ⟨_, rfl⟩
  rw [← hg5] at p5 lt0 ltpl ltpn ⊢
  clear hg5
  have HS5 := Lib.hid (And.intro lt0 (And.intro ltpl ltpn))
  clear lt0 ltpl ltpn
  replace p5 : Bx2 U5 g5 42 (.bool bz) (.slice az nz cz) := p5
  have hr : Rest (fun W => Bx2 W g5 42 (.bool bz) (.slice az nz cz)) g5 := ⟨fun W W1 h hE => h.ext hE⟩
  have hRR := p5
  have hh5 : HalfB U5 g5 42 bz := ⟨_, _, _, p5⟩
  clear p5
  have lt5 := hh5.lt
  have ltl := pl.lt
  have ltn := pn.lt
  have sHS5 := HS5.out
  have szw1 := Ext.size E0
  refine region_go3 [.one fun v _ => v = .pointer (some ⟨g5, 1, none⟩),
      .one fun v _ => v = .slice az nz cz,
      .one fun v _ => v = .slice al nl cl,
      .one fun v W => Nw W v (x.natAbs * m),
      .one fun v _ => v = .slice an nn cn,
      .one fun v W => ∃ v' v'', v = .tuple #[v', v'', .int .i64 0] ∧ (fun v W => Nw W v (x.natAbs * m / N)) v' W ∧ (fun v W => Nw W v (x.natAbs * m % N)) v'' W,
      .one fun v W => ∃ v' v'', v = .tuple #[v', v'', .int .i64 0] ∧ (fun v W => Nw W v (x.natAbs * m / N)) v' W ∧ (fun v W => Nw W v (x.natAbs * m % N)) v'' W,
      .one fun v W => Nw W v (x.natAbs * m / N),
      .one fun v W => Nw W v (x.natAbs * m % N),
      .one fun v _ => v = .int .i64 0,
      .one fun v _ => v = .pointer (some ⟨g5, 1, none⟩),
      .two 7 (fun r _ W => AtN g5 42 (.bool bz) r W)]
    (fun W => Ext w W ∧ Nw W (.slice al nl cl) m ∧ Nw W (.slice an nn cn) N ∧ BxA W gl 24 #[.slice al nl cl] ∧ BxA W gn 24 #[.slice an nn cn] ∧ Nw W (.slice az nz cz) x.natAbs ∧ HalfB W g5 42 bz ∧ U5.heap.size ≤ W.heap.size) U5.heap.size [] [Tag.any, Tag.any, Tag.any, Tag.any, Tag.any, Tag.any, Tag.any, Tag.any, Tag.any, Tag.any, Tag.any, Tag.old g5] ⟨Good.is _, Good.is _, Good.is _, Good.num _, Good.is _, (Good.num _).tup3 (Good.num _) _, (Good.num _).tup3 (Good.num _) _, Good.num _, Good.num _, Good.is _, Good.is _, tag_atN, trivial⟩ (fun g0 hg => by simp at hg; omega)
    (fun W W1 hS hE => ⟨(Ext.trans hS.1 hE), (hS.2.1.ext hE), (hS.2.2.1.ext hE), (hS.2.2.2.1.ext hE), (hS.2.2.2.2.1.ext hE), (hS.2.2.2.2.2.1.ext hE), (hS.2.2.2.2.2.2.1.ext hE), (Nat.le_trans hS.2.2.2.2.2.2.2 (Ext.size hE))⟩) ⟨E0, hl, hn, pl, pn, hz, hh5, Nat.le_refl _⟩ (fun m hm => by simp at hm) 11 hr hRR (by kernel_rfl) (by kernel_rfl) (by kernel_rfl) (by kernel_rfl) (A := ?A1) ?hA1 ?howe1 ?hfin1
  case hA1 =>
    intro vs
    simp only [putAll, Act.put, List.setIfInBounds_toArray, List.set_cons_zero, List.set_cons_succ, Nat.zero_add, Nat.reduceAdd]
    exact rfl
  case howe1 =>
    clear E0 hl hn pl pn hz hh5
    intro hf
    refine ⟨owesM3 0 [] hf hr rfl rfl rfl (by kernel_rfl) ?_, owesR3 1 [0] hf hr rfl rfl (by kernel_rfl) rfl rfl rfl (by kernel_rfl) ?_, owesM3 2 [] hf hr rfl rfl rfl (by kernel_rfl) ?_, owesM3 3 [1, 2] hf hr rfl rfl rfl (by kernel_rfl) ?_, owesM3 4 [] hf hr rfl rfl rfl (by kernel_rfl) ?_, owesM3 5 [3, 4] hf hr rfl rfl rfl (by kernel_rfl) ?_, owesM3 6 [5] hf hr rfl rfl rfl (by kernel_rfl) ?_, owesM3 7 [6] hf hr rfl rfl rfl (by kernel_rfl) ?_, owesM3 8 [6] hf hr rfl rfl rfl (by kernel_rfl) ?_, owesM3 9 [6] hf hr rfl rfl rfl (by kernel_rfl) ?_, owesM3 10 [] hf hr rfl rfl rfl (by kernel_rfl) ?_, owesL3 g5 [7, 10] hf rfl (by omega) ⟨.inr trivial, .inr trivial, .inr trivial, .inr trivial, .inr trivial, .inr trivial, .inr trivial, .inr trivial, .inr trivial, .inr trivial, .inr trivial, .inl rfl, trivial⟩ rfl (by kernel_rfl) ?_, trivial⟩
    all_goals intro vs W hS hp hx KO hKO
    all_goals simp only [Act.put, List.setIfInBounds_toArray, List.set_cons_zero, List.set_cons_succ] at hKO
    · go_simp
      exact hKO _ W (Ext.refl W) rfl
    · have e0 := isOf hp.1
      simp only [e0] at hKO
      have hb0 : Bx2 W g5 42 (.bool bz) (.slice az nz cz) := hS.2
      have fc1 := hb0.cell1
      clear hb0
      go_simp
      exact hKO _ W (Ext.refl W) rfl
    · have fc0 := BxA.cell (hS.2.2.2.1) 0 (v := .slice al nl cl) rfl
      go_simp
      exact hKO _ W (Ext.refl W) rfl
    · have e1 := isOf hp.1
      have e2 := isOf hp.2.1
      simp only [e1, e2] at hKO
      go_simp
      refine (Tryz.natMul (hS.2.2.2.2.2.1) (hS.2.1) SX.out SM.out (by omega)).mono ?_
      rintro e W1 ⟨v, rfl, hv, hE, -⟩
      exact hKO _ W1 hE hv
    · have fc0 := BxA.cell (hS.2.2.2.2.1) 0 (v := .slice an nn cn) rfl
      go_simp
      exact hKO _ W (Ext.refl W) rfl
    · have q3 := hp.1
      have e4 := isOf hp.2.1
      simp only [e4] at hKO
      go_simp
      refine (Tryz.divDivModK q3 (hS.2.2.1) (Sm.mul SX.out SM.out) (by omega) HMN.out).mono ?_
      rintro e W1 ⟨vq, vr, rfl, hv, hv2, hE⟩
      exact hKO _ W1 hE ⟨_, _, rfl, hv, hv2⟩
    · have q5 := hp.1
      obtain ⟨u, u2, ev, hu, hu2⟩ := q5
      replace ev : vs 5 = _ := ev
      simp only [ev] at hKO
      go_simp
      exact hKO _ W (Ext.refl W) ⟨u, u2, rfl, hu, hu2⟩
    · have q6 := hp.1
      obtain ⟨u, u2, ev, hu, hu2⟩ := q6
      replace ev : vs 6 = _ := ev
      simp only [ev] at hKO
      go_simp
      exact hKO _ W (Ext.refl W) hu
    · have q6 := hp.1
      obtain ⟨u, u2, ev, hu, hu2⟩ := q6
      replace ev : vs 6 = _ := ev
      simp only [ev] at hKO
      go_simp
      exact hKO _ W (Ext.refl W) hu2
    · have q6 := hp.1
      obtain ⟨u, u2, ev, hu, hu2⟩ := q6
      replace ev : vs 6 = _ := ev
      simp only [ev] at hKO
      go_simp
      exact hKO _ W (Ext.refl W) rfl
    · go_simp
      exact hKO _ W (Ext.refl W) rfl
    · have q7 := hp.1
      have e10 := isOf hp.2.1
      simp only [e10] at hKO
      have ev7 := q7
      obtain ⟨a7, n7, c7, ev7⟩ := Nw.slice (show Nw W (vs 7) (x.natAbs * m / N) from q7)
      replace ev7 : vs 7 = _ := ev7
      have hfo := hS.2.2.2.2.2.2.1
      obtain ⟨x0, t0, z0, W2, hW2, hw, hq⟩ := hfo.put a7 n7 c7
      simp only [ev7] at hKO
      clear hfo
      go_simp
      rw [← hW2]
      exact hKO _ hw ⟨(Ext.wr hS.1 hw (by omega)), (hS.2.1.wr hw), (hS.2.2.1.wr hw), (hS.2.2.2.1.wr hw (by omega)), (hS.2.2.2.2.1.wr hw (by omega)), (hS.2.2.2.2.2.1.wr hw), ⟨_, _, _, hq⟩, (Nat.le_trans hS.2.2.2.2.2.2.2 hw.apart.size)⟩ ⟨_, _, _, ev7, hq⟩
  intro vs W1 hS hM hp
  clear szw1 E0 hl hn pl pn hz hh5
  obtain ⟨E0, hl, hn, pl, pn, hz, hh5, sz1⟩ := hS
  obtain ⟨h1_0, h1_1, h1_2, h1_3, h1_4, h1_5, h1_6, h1_7, h1_8, h1_9, h1_10, h1_11, -⟩ := hp
  have hh := h1_11
  obtain ⟨aq, nq, cq, ev7, p5⟩ := hh
  replace ev7 : vs 7 = _ := ev7
  clear hh5
  have hqq : Nw W1 (vs 7) (x.natAbs * m / N) := h1_7
  rw [ev7] at hqq
  replace h1_0 : vs 0 = .pointer (some ⟨g5, 1, none⟩) := h1_0
  replace h1_1 : vs 1 = .slice az nz cz := h1_1
  replace h1_2 : vs 2 = .slice al nl cl := h1_2
  replace h1_4 : vs 4 = .slice an nn cn := h1_4
  replace h1_9 : vs 9 = .int .i64 0 := h1_9
  replace h1_10 : vs 10 = .pointer (some ⟨g5, 1, none⟩) := h1_10
  clear hM
  simp only [ev7, h1_0, h1_1, h1_2, h1_4, h1_9, h1_10]
  replace h1_3 : Nw W1 (vs 3) (x.natAbs * m) := h1_3
  generalize vs 3 = u1_3 at h1_3 ⊢
  replace h1_7 : Nw W1 (vs 7) (x.natAbs * m / N) := h1_7
  generalize vs 7 = u1_7 at h1_7 ⊢
  replace h1_8 : Nw W1 (vs 8) (x.natAbs * m % N) := h1_8
  generalize vs 8 = u1_8 at h1_8 ⊢
  clear ev7 h1_0 h1_1 h1_2 h1_4 h1_9 h1_10 h1_5 h1_6 h1_11
  clear hl hn pl pn hz h1_3 h1_7 h1_8
  clear hr hRR lt5 ltl ltn sz1
  have hg5 := sHS5.1
  clear sHS5
  obtain ⟨a9, n9, c9, ez, zq, -⟩ := hqq.len
  obtain ⟨rfl, rfl, rfl⟩ := Value.slice.inj ez
  clear ez
  have HG := Lib.hid hg5
  clear hg5
  have HBZ := hbz
  clear hbz
  cases bz
  · clear zq
    have kp5_0 := p5.cell0
    have kp5_1 := p5.cell1
    have zf := BxA.frozN (xs := #[.bool false, .slice aq nq cq]) p5 0
    go_upto_region 4 with (fail)
    clear kp5_0 kp5_1
    clear zf
    obtain ⟨V, hV, hw, hp⟩ := p5.putB (b' := false)
    rw [← hV]
    have hg5 := HG.out
    replace E0 := Ext.wr E0 hw hg5
    replace hqq := hqq.wr hw
    clear hV hw p5 hg5
    have hv : Zw V (.agg #[.bool false, .slice aq nq cq]) (clipV N m x) := Zw.put hqq (sgn_nb _) (by unfold clipV; rw [← HBZ.out])
    have kp0 := hp.cell0
    have kp1 := hp.cell1
    clear hqq
    go_wp2_with fail
    refine (Tryz.zedInt hv).mono ?_
    rintro e Wi ⟨rfl, hE⟩
    rw [HV.out]
    replace E0 := E0.trans hE
    clear hE kp0 kp1 hp hv
    go_wp2
    go_ret
    exact ⟨rfl, E0⟩
  · by_cases hq : 0 < nq
    · have hqI : (nq : Int) > 0 := by omega
      have HQP : Hid (0 < x.natAbs * m / N) := Lib.hid (Nat.pos_of_ne_zero fun e => by have := zq.2 e; omega)
      clear zq
      have kp5_0 := p5.cell0
      have kp5_1 := p5.cell1
      have zf := BxA.frozN (xs := #[.bool true, .slice aq nq cq]) p5 0
      go_upto_region 4 with (fail)
      clear kp5_0 kp5_1
      clear zf
      obtain ⟨V, hV, hw, hp⟩ := p5.putB (b' := true)
      rw [← hV]
      have hg5 := HG.out
      replace E0 := Ext.wr E0 hw hg5
      replace hqq := hqq.wr hw
      clear hV hw p5 hg5
      have hv : Zw V (.agg #[.bool true, .slice aq nq cq]) (clipV N m x) := Zw.put hqq (sgn_nt HQP.out) (by unfold clipV; rw [← HBZ.out])
      have kp0 := hp.cell0
      have kp1 := hp.cell1
      clear hqq
      go_wp2_with fail
      refine (Tryz.zedInt hv).mono ?_
      rintro e Wi ⟨rfl, hE⟩
      rw [HV.out]
      replace E0 := E0.trans hE
      clear hE kp0 kp1 hp hv
      go_wp2
      go_ret
      exact ⟨rfl, E0⟩
    · have hqI : ¬ (nq : Int) > 0 := by omega
      have HQ0 : Hid (x.natAbs * m / N = 0) := Lib.hid (zq.1 (by omega))
      clear zq
      have kp5_0 := p5.cell0
      have kp5_1 := p5.cell1
      have zf := BxA.frozN (xs := #[.bool true, .slice aq nq cq]) p5 0
      go_upto_region 4 with (fail)
      clear kp5_0 kp5_1
      clear zf
      obtain ⟨V, hV, hw, hp⟩ := p5.putB (b' := false)
      rw [← hV]
      have hg5 := HG.out
      replace E0 := Ext.wr E0 hw hg5
      replace hqq := hqq.wr hw
      clear hV hw p5 hg5
      have hv : Zw V (.agg #[.bool false, .slice aq nq cq]) (clipV N m x) := Zw.put hqq (sgn_nb _) (by unfold clipV; rw [← HBZ.out, HQ0.out]; rfl)
      have kp0 := hp.cell0
      have kp1 := hp.cell1
      clear hqq
      go_wp2_with fail
      refine (Tryz.zedInt hv).mono ?_
      rintro e Wi ⟨rfl, hE⟩
      rw [HV.out]
      replace E0 := E0.trans hE
      clear hE kp0 kp1 hp hv
      go_wp2
      go_ret
      exact ⟨rfl, E0⟩

theorem OwnI.made (w : World) (t : TypeId) : OwnI (w.alloc (.cells #[] t)) w.heap.size t (.slice (some ⟨w.heap.size, 0, none⟩) 0 0) [] :=
  ⟨rfl, .inr ⟨w.heap.size, 0, #[], rfl, Nat.le_refl _, heap_alloc_new w _, Nat.le_refl _, Nat.zero_le _, rfl, rfl⟩⟩

set_option maxRecDepth 100000 in
set_option maxHeartbeats 4000000 in
/-- a row's copy -/
theorem Tryz.cloneI {lo hh n c : Nat} {a : Option Addr} {l : List Int} {w : World} (h : Iz lo hh w a n c l) (hn : n ≤ 1099511627776) :
  Calls Tryz.prog 34 #[.slice a n c] w fun e w' => ∃ a' c', e = .returned (.slice a' n c') ∧ Iw w.heap.size w'.heap.size w' a' n c' l ∧ Ext w w' := by
 have q22 : ∀ (w : World) (a : Option Addr) (n c n' c' : Nat), (binOp .eql 28 (.slice a n c) (.slice none n' c')).run Tryz.prog w = .ok (.bool a.isNone) w := fun w a n c n' c' => Lib.run_eql_slice_nil w _ _ a n c n' c' Tryz.underlying28
 have HLN := Lib.hid h.len
 have HI := Lib.hid h.in64
 cases a with
 | none =>
  obtain ⟨rfl, rfl⟩ := h.none
  clear h
  go_enter Tryz.func34, Tryz.ntmps34
  go_wp2; go_ret
  exact ⟨_, _, rfl, Iw.nil _ _ _, Ext.refl _⟩
 | some ad =>
  have h2 : Iz lo hh (w.alloc (.cells #[] 2)) (some ad) n c l := h.ext (Ext.alloc1 _ _)
  have ho := OwnI.made w 2
  have hE := Ext.alloc1 w (.cells #[] 2)
  have hsm : ([] : List Int).length + n ≤ 1099511627776 := by simpa using hn
  have szw : w.heap.size ≤ (w.alloc (.cells #[] 2)).heap.size := hE.size
  clear h hn
  go_enter Tryz.func34, Tryz.ntmps34
  go_wp2_with (at_builtin; go_loud (refine append_row Tryz.underlying28 Tryz.infoI rfl _ _ rfl w.heap.size _ [] l lo hh n c (some ad) (by rfl) (by rfl) ho h2 hsm szw ?_); intro v' w3 ho1 hg1 hat)
  rw [List.nil_append] at ho1
  obtain ⟨a', c', rfl, hi⟩ := ho1.iw HI.out (fun g hg => (ho1.block g hg).2)
  have hE2 : Ext w w3 := hE.grown hg1 (fun q e => (ho.block q e).1)
  clear h2 hsm szw ho hE hg1 hat
  go_wp2; go_ret
  exact ⟨a', c', by rw [HLN.out]; rfl, HLN.out ▸ hi, hE2⟩

/-- what is made of the first k -/
def padL (f : Int → Int) (l : List Int) (k : Nat) : List Int := (l.take k).map f ++ List.replicate (l.length - k) 0

theorem padL_zero (f : Int → Int) (l : List Int) : padL f l 0 = List.replicate l.length 0 := by simp [padL]

theorem padL_len (f : Int → Int) {l : List Int} {k : Nat} (h : k ≤ l.length) : (padL f l k).length = l.length := by simp [padL]; omega

theorem padL_all (f : Int → Int) (l : List Int) : padL f l l.length = l.map f := by simp [padL]

theorem padL_set (f : Int → Int) {l : List Int} {k : Nat} (h : k < l.length) : (padL f l k).set k (f (atL l k)) = padL f l (k + 1) := by
  unfold padL
  have h1 : ((l.take k).map f).length = k := by simp; omega
  have h2 : l.length - k = (l.length - (k + 1)) + 1 := by omega
  rw [List.set_append_right _ _ (by omega), h1, Nat.sub_self, h2, List.replicate_succ, List.set_cons_zero, List.take_succ_eq_append_getElem h, List.map_append, List.append_assoc, ← atL_eq h]
  rfl

theorem Tryz.makeR (n : Nat) (hn : n ≤ 1000) (w : World) : (Instr.makeSlice 28 (.int .i64 (n : Int)) (.int .i64 (n : Int))).run Tryz.prog w = .ok (.slice (some ⟨w.heap.size, 0, none⟩) n n) (w.alloc (.cells (madeCells #[.int .i64 0] n) 2)) :=
 run_make_row' _ _ _ 8 Tryz.underlying28 (by kernel_rfl) rfl .i64 .i64 n (by omega) (by omega) w

set_option maxRecDepth 100000 in
set_option maxHeartbeats 4000000 in
theorem Tryz.clipEach {lo hh n c gl gn nl cl nn cn m N : Nat} {a al an : Option Addr} {l : List Int} {w : World} (h : Iz lo hh w a n c l) (hn : n ≤ 1000) (hmN : m < N) (sN : Sm 4 N) (hl : Nw w (.slice al nl cl) m) (hN : Nw w (.slice an nn cn) N) (pl : BxA w gl 24 #[.slice al nl cl]) (pn : BxA w gn 24 #[.slice an nn cn]) :
  Calls Tryz.prog 35 #[.slice a n c, .func (.func 36) #[] #[.pointer (some ⟨gl, 0, none⟩), .pointer (some ⟨gn, 0, none⟩)]] w fun e w' => ∃ a' c', e = .returned (.slice a' n c') ∧ Iw w.heap.size w'.heap.size w' a' n c' (l.map (clipV N m)) ∧ Ext w w' := by
 have HLN := Lib.hid h.len
 have HI := Lib.hid h.in64
 have HMN := Lib.hid hmN
 have HSN := Lib.hid sN
 have hn63 : n ≤ 9223372036854775807 := by omega
 have hmk := Tryz.makeR n hn w
 obtain ⟨W0, hW0⟩ : ∃ W0, W0 = w.alloc (.cells (madeCells #[.int .i64 0] n) 2) := ⟨_, rfl⟩
 have row : RowI W0 w.heap.size 2 (padL (clipV N m) l 0) := by rw [hW0, padL_zero, h.len]; exact RowI.made w n 2
 have E0 : Ext w W0 := by rw [hW0]; exact Ext.alloc1 _ _
 rw [← hW0] at hmk
 have HN := Lib.hid hn
 clear hmN sN hn hW0
 go_enter Tryz.func35, Tryz.ntmps35
 go_wp2_with fail
 go_loopw [13] (fun i wr => ∃ k : Nat, i = .int .i64 (k : Int) ∧ k ≤ n ∧ RowI wr w.heap.size 2 (padL (clipV N m) l k) ∧ Ext w wr) (fun i _ => n - (intOf i).toNat)
 case atStart => exact ⟨0, rfl, by omega, row, E0⟩
 case round =>
  clear row E0 hmk
  obtain ⟨k, rfl, hk, row, E0⟩ := hrel
  by_cases hlt : k < n
  ·have hltI : (k : Int) < (n : Int) := by omega
   have hiw := (h.ext E0).iw (by omega)
   obtain ⟨b, o, rfl, -, -⟩ := hiw.some (by omega)
   have hc := hiw.cell hlt
   have HX : Hid (I64 (atL l k)) := Lib.hid (hiw.i64 hlt)
   have HKL : Hid (k < l.length) := Lib.hid (by have := HLN.out; omega)
   have HPL : Hid ((padL (clipV N m) l k).length = l.length) := Lib.hid (padL_len _ (Nat.le_of_lt HKL.out))
   have hk63 : (k : Int) < 9223372036854775807 := by omega
   clear hiw
   go_wp2_with fail
   refine (Tryz.clip1 (atL l k) HX.out HMN.out HSN.out (hl.ext E0) (hN.ext E0) (BxA.ext pl E0) (BxA.ext pn E0)).mono ?_
   rintro e W ⟨rfl, hE⟩
   replace row := row.ext hE
   replace E0 := E0.trans hE
   have fz := row.froz k
   have rc := row.cell (i := k) (by rw [HPL.out]; exact HKL.out)
   have hw := Wr.row row k (clipV N m (atL l k))
   have r2 := row.set k (clipV N m (atL l k))
   obtain ⟨W2, hW2⟩ : ∃ W2, W2 = W.setCell ⟨w.heap.size, k, none⟩ (.int .i64 (clipV N m (atL l k))) := ⟨_, rfl⟩
   rw [← hW2] at hw r2
   rw [padL_set _ HKL.out] at r2
   have E2 : Ext w W2 := Ext.wr E0 hw (Nat.le_refl _)
   clear hE row E0 hc hw
   go_wp2
   rw [← hW2]
   go_roundw
   case rel => exact ⟨k + 1, by go_num, by omega, r2, E2⟩
   case measure => simp [intOf]; omega
  ·have hge : ¬ (k : Int) < (n : Int) := by omega
   have HE : Hid (padL (clipV N m) l k = l.map (clipV N m)) := Lib.hid (by rw [show k = l.length by have := HLN.out; omega, padL_all])
   rw [HE.out] at row
   have hi : Iw w.heap.size wr.heap.size wr (some ⟨w.heap.size, 0, none⟩) n n (l.map (clipV N m)) := (row.iw (fun x hx => by obtain ⟨y, hy, rfl⟩ := List.mem_map.1 hx; exact clipV_i64 HMN.out (HI.out y hy)) (by rw [List.length_map, HLN.out]) (by omega)).mono (Nat.le_refl _) row.lt
   clear h row; go_wp2; go_ret
   exact ⟨_, _, rfl, hi, E0⟩

set_option maxRecDepth 100000 in
set_option maxHeartbeats 8000000 in
theorem Tryz.clipNo {a an : Option Addr} {n c nn cn : Nat} (k : Int) (hk : k < 0) (w : World) :
    Calls Tryz.prog 13 #[.slice a n c, .slice an nn cn, .int .i64 k] w fun e w' => e = .returned (.tuple #[.slice none 0 0, .int .i64 1]) ∧ Ext w w' := by
  go_enter Tryz.func13, Tryz.ntmps13
  go_wp2
  go_ret2
  exact ⟨rfl, Ext.alloc1 _ _⟩

set_option maxRecDepth 100000 in
set_option maxHeartbeats 8000000 in
theorem Tryz.clipYes {lo hh n c nn cn m N : Nat} {a an : Option Addr} {l : List Int} {w : World} (h : Iz lo hh w a n c l) (hn : n ≤ 1000) (hm : m < 9223372036854775808) (sN : Sm 4 N) (hN : Nw w (.slice an nn cn) N) :
    Calls Tryz.prog 13 #[.slice a n c, .slice an nn cn, .int .i64 (m : Int)] w fun e w' => ∃ a' c', e = .returned (.tuple #[.slice a' n c', .int .i64 0]) ∧ Iw w.heap.size w'.heap.size w' a' n c' (clipL N m l) ∧ Ext w w' := by
  have HNN := Lib.hid hn
  have HM : Hid (m < B64) := Lib.hid (by rw [B64_eq]; omega)
  have HSN := Lib.hid sN
  have hm0 : ¬ ((m : Int) < 0) := by omega
  have hwm : IntKind.u64.wrap (m : Int) = (m : Int) := by rw [IntKind.wrap_u64]; omega
  clear hn hm sN
  obtain ⟨W0, hW0⟩ : ∃ W0, W0 = (w.alloc (.cells #[.slice an nn cn] 24)) := ⟨_, rfl⟩
  have E0 : Ext w W0 := by rw [hW0]; exact (Ext.alloc1 w (.cells #[.slice an nn cn] 24))
  replace h : Iz lo hh W0 a n c l := h.ext E0
  replace hN : Nw W0 (.slice an nn cn) N := hN.ext E0
  have p4 : BxA W0 w.heap.size 24 #[.slice an nn cn] := by rw [hW0]; exact (BxA.new w 24 #[.slice an nn cn])
  go_enter Tryz.func13, Tryz.ntmps13
  have kp4_0 := p4.cell 0 (v := .slice an nn cn) rfl
  go_wp2_with fail
  rw [← hW0]
  clear hW0
  clear kp4_0
  refine (Tryz.natOf m _ HM.out).mono ?_
  rintro e Wl ⟨vl, rfl, hl, hE, -⟩
  obtain ⟨al, nl, cl, rfl⟩ := Nw.slice hl
  replace E0 := (Ext.trans E0 hE)
  replace h := (h.ext hE)
  replace hN := (hN.ext hE)
  replace p4 := (p4.ext hE)
  clear hE
  have kp4_0 := p4.cell 0 (v := .slice an nn cn) rfl
  go_upto_region 4 with (fail)
  clear kp4_0
  have p8 := BxA.new Wl 24 #[.slice al nl cl]
  have hE := Ext.alloc1 Wl (.cells #[.slice al nl cl] 24)
  have lt0 := Ext.size E0
  have ltp4 := p4.lt
  obtain ⟨U8, hU8⟩ : ∃ U8, U8 = Wl.alloc (.cells #[.slice al nl cl] 24) := ⟨_, rfl⟩
  rw [← hU8] at p8 hE ⊢
  clear hU8
  replace E0 := (Ext.trans E0 hE)
  replace h := (h.ext hE)
  replace hN := (hN.ext hE)
  replace p4 := (p4.ext hE)
  replace hl := (hl.ext hE)
  clear hE
  obtain ⟨g8, hg8⟩ : ∃ g, g = Wl.heap.size := ⟨_, rfl⟩
  rw [← hg8] at p8 lt0 ltp4 ⊢
  clear hg8
  have HS8 := Lib.hid (And.intro lt0 ltp4)
  clear lt0 ltp4
  by_cases hz : m = 0
  · have hzI : (m : Int) = 0 := by omega
    have HC : Hid (clipL N m l = l) := Lib.hid (if_pos (decide_eq_true (.inl hz)))
    clear hz
    have kp4_0 := p4.cell 0 (v := .slice an nn cn) rfl
    have kp8_0 := p8.cell 0 (v := .slice al nl cl) rfl
    go_wp2_with fail
    clear kp4_0 kp8_0
    refine (Tryz.cloneI h (by have := HNN.out; omega)).mono ?_
    rintro e Wc ⟨a', c', rfl, hi, hE⟩
    have szc := Ext.size E0
    rw [← HC.out] at hi
    replace E0 := (Ext.trans E0 hE)
    replace h := (h.ext hE)
    replace hN := (hN.ext hE)
    replace p4 := (p4.ext hE)
    replace hl := (hl.ext hE)
    replace p8 := (p8.ext hE)
    clear hE
    clear h hN p4 hl p8
    go_wp2
    go_ret2
    exact ⟨_, _, rfl, hi.mono szc (Nat.le_refl _), E0⟩
  · have hzI : ¬ (m : Int) = 0 := by omega
    have HZ := Lib.hid hz
    have hzB : ((m : Int) == 0) = false := by simp; omega
    clear hz
    have kp4_0 := p4.cell 0 (v := .slice an nn cn) rfl
    have kp8_0 := p8.cell 0 (v := .slice al nl cl) rfl
    go_wp2_with fail
    clear kp4_0 kp8_0
    refine (Tryz.natCmp hN hl).mono ?_
    rintro e Wm ⟨rfl, hE⟩
    obtain ⟨cc, hcc⟩ : ∃ cc, cc = cmpI (N : Int) (m : Int) := ⟨_, rfl⟩
    rw [← hcc]
    replace E0 := (Ext.trans E0 hE)
    replace h := (h.ext hE)
    replace hN := (hN.ext hE)
    replace p4 := (p4.ext hE)
    replace hl := (hl.ext hE)
    replace p8 := (p8.ext hE)
    clear hE
    by_cases hle : N ≤ m
    · have hci : cc ≤ 0 := by rw [hcc]; rcases Nat.lt_or_eq_of_le hle with q | q; (rw [cmpI_nat_lt q]; omega); (rw [cmpI_nat_eq q]; omega)
      have hcd : decide (cc ≤ 0) = true := decide_eq_true hci
      have HC : Hid (clipL N m l = l) := Lib.hid (if_pos (decide_eq_true (.inr hle)))
      clear hle hcc
      have kp4_0 := p4.cell 0 (v := .slice an nn cn) rfl
      have kp8_0 := p8.cell 0 (v := .slice al nl cl) rfl
      go_wp2_with fail
      clear kp4_0 kp8_0
      refine (Tryz.cloneI h (by have := HNN.out; omega)).mono ?_
      rintro e Wc ⟨a', c', rfl, hi, hE⟩
      have szc := Ext.size E0
      rw [← HC.out] at hi
      replace E0 := (Ext.trans E0 hE)
      replace h := (h.ext hE)
      replace hN := (hN.ext hE)
      replace p4 := (p4.ext hE)
      replace hl := (hl.ext hE)
      replace p8 := (p8.ext hE)
      clear hE
      clear h hN p4 hl p8
      go_wp2
      go_ret2
      exact ⟨_, _, rfl, hi.mono szc (Nat.le_refl _), E0⟩
    · have hci : ¬ cc ≤ 0 := by rw [hcc, cmpI_nat_gt (by omega)]; omega
      have hcd : decide (cc ≤ 0) = false := decide_eq_false hci
      have HLT : Hid (m < N) := Lib.hid (by omega)
      have HC : Hid (clipL N m l = l.map (clipV N m)) := Lib.hid (if_neg (by unfold cutB; have := HZ.out; simp; omega))
      clear hle hcc
      have kp4_0 := p4.cell 0 (v := .slice an nn cn) rfl
      have kp8_0 := p8.cell 0 (v := .slice al nl cl) rfl
      go_wp2_with fail
      clear kp4_0 kp8_0
      refine (Tryz.clipEach h HNN.out HLT.out HSN.out hl hN p8 p4).mono ?_
      rintro e Wc ⟨a', c', rfl, hi, hE⟩
      have szc := Ext.size E0
      rw [← HC.out] at hi
      replace E0 := (Ext.trans E0 hE)
      replace h := (h.ext hE)
      replace hN := (hN.ext hE)
      replace p4 := (p4.ext hE)
      replace hl := (hl.ext hE)
      replace p8 := (p8.ext hE)
      clear hE
      clear h hN p4 hl p8
      go_wp2
      go_ret2
      exact ⟨_, _, rfl, hi.mono szc (Nat.le_refl _), E0⟩

end Go.Rt
