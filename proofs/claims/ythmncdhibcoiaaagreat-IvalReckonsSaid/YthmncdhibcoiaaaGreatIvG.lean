/-
  Intervals, by definition: around some numbers; products.
-/
import Derived.Test.YthmncdhibcoiaaaGreatIvF
namespace Go.Rt
open Go Go.RowKit Go.Proofs

theorem minQ_step (l : List Rat) (k : Nat) : minQ l k = if atQ l k < minQ l (k - 1) then atQ l k else minQ l (k - 1) := by
  cases k with
  | zero =>
    show atQ l 0 = _
    rw [if_neg (by show ¬ atQ l 0 < atQ l 0; exact Rat.lt_irrefl)]
    rfl
  | succ k => rfl

theorem maxQ_step (l : List Rat) (k : Nat) : maxQ l k = if maxQ l (k - 1) < atQ l k then atQ l k else maxQ l (k - 1) := by
  cases k with
  | zero =>
    show atQ l 0 = _
    rw [if_neg (by show ¬ atQ l 0 < atQ l 0; exact Rat.lt_irrefl)]
    rfl
  | succ k => rfl
section
variable {W : World} {g : Nat} {t : TypeId} {b : Bool} {a : Option Addr} {n c : Nat} {d : Option Addr} {m o : Nat} {b2 : Bool} {a2 : Option Addr} {n2 c2 : Nat} {d2 : Option Addr} {m2 o2 : Nat}
theorem Bx6.lo6 (h : Bx6 W g t (.bool b) (.slice a n c) (.slice d m o) (.bool b2) (.slice a2 n2 c2) (.slice d2 m2 o2)) (s : Bool) (x : Option Addr) (y z : Nat) (x' : Option Addr) (y' z' : Nat) :
    ∃ W', W' = ((W.setCell ⟨g, 0, none⟩ (.bool s)).setCell ⟨g, 1, none⟩ (.slice x y z)).setCell ⟨g, 2, none⟩ (.slice x' y' z') ∧ Wr g W W' ∧ Bx6 W' g t (.bool s) (.slice x y z) (.slice x' y' z') (.bool b2) (.slice a2 n2 c2) (.slice d2 m2 o2) := by
  have hp : Bx6 (((W.setCell ⟨g, 0, none⟩ (.bool s)).setCell ⟨g, 1, none⟩ (.slice x y z)).setCell ⟨g, 2, none⟩ (.slice x' y' z')) g t (.bool s) (.slice x y z) (.slice x' y' z') (.bool b2) (.slice a2 n2 c2) (.slice d2 m2 o2) :=
    BxA.put (BxA.put (BxA.put h 0 (.bool s)) 1 (.slice x y z)) 2 (.slice x' y' z')
  refine ⟨_, rfl, ⟨((Apart.setCell (p := ⟨g, 0, none⟩) _ (by simp) _).trans (Apart.setCell (p := ⟨g, 1, none⟩) _ (by simp) _)).trans (Apart.setCell (p := ⟨g, 2, none⟩) _ (by simp) _), ⟨_, t, h, noU6 _ _ _ _ _ _ _ _ _ _ _ _ _ _⟩, fun cs t' hc => ?_⟩, hp⟩
  rw [show W.heap[g]? = _ from h] at hc
  cases hc
  exact ⟨_, hp, noU6 _ _ _ _ _ _ _ _ _ _ _ _ _ _, rfl⟩

theorem Bx6.hi6 (h : Bx6 W g t (.bool b) (.slice a n c) (.slice d m o) (.bool b2) (.slice a2 n2 c2) (.slice d2 m2 o2)) (s : Bool) (x : Option Addr) (y z : Nat) (x' : Option Addr) (y' z' : Nat) :
    ∃ W', W' = ((W.setCell ⟨g, 3, none⟩ (.bool s)).setCell ⟨g, 4, none⟩ (.slice x y z)).setCell ⟨g, 5, none⟩ (.slice x' y' z') ∧ Wr g W W' ∧ Bx6 W' g t (.bool b) (.slice a n c) (.slice d m o) (.bool s) (.slice x y z) (.slice x' y' z') := by
  have hp : Bx6 (((W.setCell ⟨g, 3, none⟩ (.bool s)).setCell ⟨g, 4, none⟩ (.slice x y z)).setCell ⟨g, 5, none⟩ (.slice x' y' z')) g t (.bool b) (.slice a n c) (.slice d m o) (.bool s) (.slice x y z) (.slice x' y' z') :=
    BxA.put (BxA.put (BxA.put h 3 (.bool s)) 4 (.slice x y z)) 5 (.slice x' y' z')
  refine ⟨_, rfl, ⟨((Apart.setCell (p := ⟨g, 3, none⟩) _ (by simp) _).trans (Apart.setCell (p := ⟨g, 4, none⟩) _ (by simp) _)).trans (Apart.setCell (p := ⟨g, 5, none⟩) _ (by simp) _), ⟨_, t, h, noU6 _ _ _ _ _ _ _ _ _ _ _ _ _ _⟩, fun cs t' hc => ?_⟩, hp⟩
  rw [show W.heap[g]? = _ from h] at hc
  cases hc
  exact ⟨_, hp, noU6 _ _ _ _ _ _ _ _ _ _ _ _ _ _, rfl⟩
end

set_option maxRecDepth 100000 in
set_option maxHeartbeats 8000000 in
theorem Tryz.rsAround {b c L n : Nat} {l : List Rat} {w : World} (h : RowR w b l) (hb : b < w.heap.size) (hln : l.length = n + 1) (hn2 : n < 1000) (hs : ∀ x ∈ l, SmR L x) (hL : L ≤ 1000) :
    Calls Tryz.prog 69 #[.slice (some ⟨b, 0, none⟩) (n + 1) c] w fun e w' => ∃ v', e = .returned v' ∧ Sw w' v' (minQ l n, maxQ l n) ∧ Ext w w' := by
  obtain ⟨N, hN⟩ : ∃ N, N = n + 1 := ⟨_, rfl⟩
  rw [← hN] at hln ⊢
  have HN := Lib.hid hN
  have HLN := Lib.hid hln
  have hn63 : N ≤ 1000 := by omega
  have hN0 : 0 < N := by omega
  have hl0 : 0 < l.length := by omega
  clear hN hln hn2
  obtain ⟨W0, hW0⟩ : ∃ W0, W0 = (w.alloc (.cells #[.bool false, .slice none 0 0, .slice none 0 0, .bool false, .slice none 0 0, .slice none 0 0] 29)) := ⟨_, rfl⟩
  have E0 : Ext w W0 := by rw [hW0]; exact (Ext.alloc1 w (.cells #[.bool false, .slice none 0 0, .slice none 0 0, .bool false, .slice none 0 0, .slice none 0 0] 29))
  have p2 : Bx6 W0 w.heap.size 29 (.bool false) (.slice none 0 0) (.slice none 0 0) (.bool false) (.slice none 0 0) (.slice none 0 0) := by rw [hW0]; exact (Bx6.new w 29 (.bool false) (.slice none 0 0) (.slice none 0 0) (.bool false) (.slice none 0 0) (.slice none 0 0))
  go_enter Tryz.func69, Tryz.ntmps69
  obtain ⟨s0, a0, n0, c0, d0, m0, o0, k0, k1, k2, hr0⟩ := (h.ext E0) 0 hl0
  rw [Nat.zero_mul, Nat.zero_add] at k1 k2
  rw [Nat.zero_mul] at k0
  have hNI : (0 : Int) < (N : Int) := by omega
  clear hl0
  have kp2_0 := p2.cell0
  have kp2_1 := p2.cell1
  have kp2_2 := p2.cell2
  have kp2_3 := p2.cell3
  have kp2_4 := p2.cell4
  have kp2_5 := p2.cell5
  go_upto_region 1 with (fail)
  rw [← hW0]
  clear hW0
  clear kp2_0 kp2_1 kp2_2 kp2_3 kp2_4 kp2_5
  have hb0 := hb
  have HP2 := Lib.hid p2.lt
  have ltp2 := p2.lt
  have szw1 := Ext.size E0
  refine region_go [.one fun v _ => v = .slice (some ⟨b, 0, none⟩) N c,
      .one fun v _ => v = .pointer (some ⟨b, 0, none⟩),
      .one fun v _ => v = .agg #[.bool s0, .slice a0 n0 c0, .slice d0 m0 o0],
      .one fun v W => Sw W v ((atQ l 0, atQ l 0)),
      .one fun v W => ∃ g, v = .pointer (some ⟨g, 0, none⟩) ∧ W0.heap.size ≤ g ∧ Form W g 29 6,
      .three 4 3 (fun p r _ W => Put6 W0.heap.size 29 p r W)]
    (fun W => Ext w W ∧ Bx6 W w.heap.size 29 (.bool false) (.slice none 0 0) (.slice none 0 0) (.bool false) (.slice none 0 0) (.slice none 0 0) ∧ Rw W (.agg #[.bool s0, .slice a0 n0 c0, .slice d0 m0 o0]) (atQ l 0) ∧ World.cell? W ⟨b, 0, none⟩ = some (.bool s0) ∧ World.cell? W ⟨b, 1, none⟩ = some (.slice a0 n0 c0) ∧ World.cell? W ⟨b, 2, none⟩ = some (.slice d0 m0 o0) ∧ W0.heap.size ≤ W.heap.size) ⟨Good.is _, Good.is _, Good.is _, Good.span _, Good.box _ _ _, cert_put6, trivial⟩
    (fun W W1 hS hE => ⟨(Ext.trans hS.1 hE), (hS.2.1.ext hE), (hS.2.2.1.ext hE), (Ext.cell hE hS.2.2.2.1), (Ext.cell hE hS.2.2.2.2.1), (Ext.cell hE hS.2.2.2.2.2.1), (Nat.le_trans hS.2.2.2.2.2.2 (Ext.size hE))⟩) ⟨E0, p2, hr0, k0, k1, k2, Nat.le_refl _⟩ (by kernel_rfl) (by kernel_rfl) (by kernel_rfl) (by kernel_rfl) (A := ?A1) ?hA1 ?howe1 ?hfin1
  case hA1 =>
    intro vs
    simp only [putAll, Act.put, List.setIfInBounds_toArray, List.set_cons_zero, List.set_cons_succ, Nat.zero_add, Nat.reduceAdd]
    exact rfl
  case howe1 =>
    clear E0 p2 hr0 k0 k1 k2
    intro hf
    refine ⟨owesE 0 [] hf rfl (by kernel_rfl) ?_, owesE 1 [0] hf rfl (by kernel_rfl) ?_, owesE 2 [1] hf rfl (by kernel_rfl) ?_, owesE 3 [2] hf rfl (by kernel_rfl) ?_, owesE 4 [] hf rfl (by kernel_rfl) ?_, owesW 5 [4, 3] hf rfl (by kernel_rfl) (by kernel_rfl) ?_, trivial⟩
    all_goals intro vs W hS hp hx KO hKO
    all_goals simp only [Act.put, List.setIfInBounds_toArray, List.set_cons_zero, List.set_cons_succ] at hKO
    · go_simp
      exact hKO _ W (Ext.refl W) rfl
    · have e0 := isOf hp.1
      simp only [e0] at hKO
      go_simp
      exact hKO _ W (Ext.refl W) rfl
    · have e1 := isOf hp.1
      simp only [e1] at hKO
      have fc0 := hS.2.2.2.1
      have fc1 := hS.2.2.2.2.1
      have fc2 := hS.2.2.2.2.2.1
      go_simp
      exact hKO _ W (Ext.refl W) rfl
    · have e2 := isOf hp.1
      simp only [e2] at hKO
      go_simp
      refine (Tryz.rsOf (hS.2.2.1)).mono ?_
      rintro e W1 ⟨v, rfl, hv, hE⟩
      exact hKO _ W1 hE hv
    · have hn := Bx6.new W 29 (.bool false) (.slice none 0 0) (.slice none 0 0) (.bool false) (.slice none 0 0) (.slice none 0 0)
      have hE := Ext.alloc1 W (.cells #[.bool false, .slice none 0 0, .slice none 0 0, .bool false, .slice none 0 0, .slice none 0 0] 29)
      have hsz := hS.2.2.2.2.2.2
      go_simp
      exact hKO _ _ hE ⟨_, rfl, hsz, hn.form⟩
    · have q4 := hp.1
      have q3 := hp.2.1
      obtain ⟨g, ev, hg, hf⟩ := q4
      replace ev : vs 4 = _ := ev
      obtain ⟨x0_0, x0_1, x0_2, x0_3, x0_4, x0_5, hx, hno⟩ := hf.bx6
      have qr := q3
      obtain ⟨b3, a3, n3, c3, d3, m3, o3, bb3, aa3, nn3, cc3, dd3, mm3, oo3, er, -, -⟩ := qr
      replace er : vs 3 = _ := er
      have r0 := hx.froz0
      have t0 := hx.cell0
      have r1 := hx.froz1
      have t1 := hx.cell1
      have r2 := hx.froz2
      have t2 := hx.cell2
      have r3 := hx.froz3
      have t3 := hx.cell3
      have r4 := hx.froz4
      have t4 := hx.cell4
      have r5 := hx.froz5
      have t5 := hx.cell5
      have hw := Wr.set6 hx hno b3 a3 n3 c3 d3 m3 o3 bb3 aa3 nn3 cc3 dd3 mm3 oo3
      have hq := hx.set (.bool b3) (.slice a3 n3 c3) (.slice d3 m3 o3) (.bool bb3) (.slice aa3 nn3 cc3) (.slice dd3 mm3 oo3)
      simp only [ev, er] at hKO
      go_simp
      exact hKO _ _ hw ⟨(Ext.wr hS.1 hw (by omega)), (hS.2.1.wr hw (by omega)), (hS.2.2.1.wr hw), (hw.apart.cell (by simp; omega) hS.2.2.2.1), (hw.apart.cell (by simp; omega) hS.2.2.2.2.1), (hw.apart.cell (by simp; omega) hS.2.2.2.2.2.1), (Nat.le_trans hS.2.2.2.2.2.2 hw.apart.size)⟩ ⟨g, b3, a3, n3, c3, d3, m3, o3, bb3, aa3, nn3, cc3, dd3, mm3, oo3, ev, er, hg, hq⟩
  intro vs W1 hS hp
  clear szw1 E0 p2 hr0 k0 k1 k2
  obtain ⟨E0, p2, hr0, k0, k1, k2, sz1⟩ := hS
  obtain ⟨h1_0, h1_1, h1_2, h1_3, h1_4, h1_5, -⟩ := hp
  obtain ⟨g1_5, b1_5, a1_5, n1_5, c1_5, d1_5, m1_5, o1_5, bb1_5, aa1_5, nn1_5, cc1_5, dd1_5, mm1_5, oo1_5, ev1_5, er1_5, hg1_5, p1_5⟩ := h1_5
  replace ev1_5 : vs 4 = _ := ev1_5
  replace er1_5 : vs 3 = _ := er1_5
  replace h1_3 := (show Sw W1 (vs 3) ((atQ l 0, atQ l 0)) from h1_3)
  rw [er1_5] at h1_3
  replace h1_0 : vs 0 = .slice (some ⟨b, 0, none⟩) N c := h1_0
  replace h1_1 : vs 1 = .pointer (some ⟨b, 0, none⟩) := h1_1
  replace h1_2 : vs 2 = .agg #[.bool s0, .slice a0 n0 c0, .slice d0 m0 o0] := h1_2
  simp only [ev1_5, er1_5, h1_0, h1_1, h1_2]
  clear ev1_5 er1_5 h1_0 h1_1 h1_2 h1_4
  have lo := h1_3.lo
  have hi := h1_3.hi
  obtain ⟨g2, hg2⟩ : ∃ g, g = w.heap.size := ⟨_, rfl⟩
  obtain ⟨g3, hg3⟩ : ∃ g, g = g1_5 := ⟨_, rfl⟩
  have HG : Hid (b < g2 ∧ w.heap.size ≤ g2 ∧ g2 < g3) := Lib.hid ⟨by omega, by omega, by have h8 := HP2.out; have h9 := hg1_5; omega⟩
  rw [← hg3] at p1_5
  rw [← hg2] at p2
  have kq := p1_5.c6
  clear kq
  have kp2_0 := p2.cell0
  have kp2_1 := p2.cell1
  have kp2_2 := p2.cell2
  have kp2_3 := p2.cell3
  have kp2_4 := p2.cell4
  have kp2_5 := p2.cell5
  have kp1_5_0 := p1_5.cell0
  have kp1_5_1 := p1_5.cell1
  have kp1_5_2 := p1_5.cell2
  have kp1_5_3 := p1_5.cell3
  have kp1_5_4 := p1_5.cell4
  have kp1_5_5 := p1_5.cell5
  go_wp2_with fail
  rw [← hg2, ← hg3]
  clear kp2_0 kp2_1 kp2_2 kp2_3 kp2_4 kp2_5 kp1_5_0 kp1_5_1 kp1_5_2 kp1_5_3 kp1_5_4 kp1_5_5
  go_loopw [4] (fun i wr => ∃ (k : Nat) (s : Bool) (a : Option Addr) (n' c' : Nat) (d : Option Addr) (m o : Nat) (t : Bool) (aa : Option Addr) (nn cc : Nat) (dd : Option Addr) (mm oo : Nat), i = .int .i64 (k : Int) ∧ k ≤ N ∧ Bx6 wr g3 29 (.bool s) (.slice a n' c') (.slice d m o) (.bool t) (.slice aa nn cc) (.slice dd mm oo) ∧ Rw wr (.agg #[.bool s, .slice a n' c', .slice d m o]) (minQ l (k - 1)) ∧ Rw wr (.agg #[.bool t, .slice aa nn cc, .slice dd mm oo]) (maxQ l (k - 1)) ∧ Bx6 wr g2 29 (.bool false) (.slice none 0 0) (.slice none 0 0) (.bool false) (.slice none 0 0) (.slice none 0 0) ∧ Ext w wr) (fun i _ => N - (intOf i).toNat)
  case atStart => exact ⟨0, _, _, _, _, _, _, _, _, _, _, _, _, _, _, rfl, by omega, p1_5, lo, hi, p2, E0⟩
  case round =>
    clear E0 p2 hr0 k0 k1 k2 h1_3 p1_5 lo hi hg2 hg3
    obtain ⟨k, s, a, n', c', d, m, o, t, aa, nn, cc, dd, mm, oo, rfl, hk, p3, lo, hi, p2, E0⟩ := hrel
    by_cases hlt : k < N
    · have hltI : (k : Int) < (N : Int) := by omega
      have hk63 : (k : Int) < 9223372036854775807 := by omega
      obtain ⟨s1, a1, n1, c1, d1, m1, o1, k0, k1, k2, hr1⟩ := (h.ext E0) k (by have := HLN.out; omega)
      have HSM : Hid (SmR L (atQ l k) ∧ SmR L (minQ l (k - 1)) ∧ SmR L (maxQ l (k - 1))) := Lib.hid ⟨hs _ (atQ_mem (by have := HLN.out; omega)), hs _ (minQ_mem (by have := HLN.out; omega)), hs _ (maxQ_mem (by have := HLN.out; omega))⟩
      have hg := HG.out
      obtain ⟨cx, hcx⟩ : ∃ c, cmpR (atQ l k) (minQ l (k - 1)) = c := ⟨_, rfl⟩
      have HCX := Lib.hid hcx
      obtain ⟨cy, hcy⟩ : ∃ c, cmpR (atQ l k) (maxQ l (k - 1)) = c := ⟨_, rfl⟩
      have HCY := Lib.hid hcy
      clear h
      by_cases hc : atQ l k < minQ l (k - 1)
      · have HD1 : Hid (decide (cx < 0) = true) := Lib.hid (decide_eq_true (by rw [← hcx]; exact cmpR_lt0.2 hc))
        have HV1 : Hid (minQ l (k + 1 - 1) = atQ l k) := Lib.hid (by rw [Nat.add_sub_cancel, minQ_step]; exact if_pos hc)
        clear hcx hc
        have kp3_0 := p3.cell0
        have kp3_1 := p3.cell1
        have kp3_2 := p3.cell2
        have kp3_3 := p3.cell3
        have kp3_4 := p3.cell4
        have kp3_5 := p3.cell5
        have kp2_0 := p2.cell0
        have kp2_1 := p2.cell1
        have kp2_2 := p2.cell2
        have kp2_3 := p2.cell3
        have kp2_4 := p2.cell4
        have kp2_5 := p2.cell5
        go_upto_region 5 with (fail)
        clear kp3_0 kp3_1 kp3_2 kp3_3 kp3_4 kp3_5 kp2_0 kp2_1 kp2_2 kp2_3 kp2_4 kp2_5
        have ltp3 := p3.lt
        have ltp2 := p2.lt
        have szw2 := Ext.size E0
        refine region_go [.one fun v _ => v = .slice (some ⟨b, 0, none⟩) N c,
            .one fun v _ => v = .int .i64 (k : Int),
            .one fun v _ => v = .pointer (some ⟨b, k * 3, none⟩),
            .one fun v _ => v = .agg #[.bool s1, .slice a1 n1 c1, .slice d1 m1 o1],
            .one fun v _ => v = .pointer (some ⟨g3, 0, none⟩),
            .one fun v _ => v = .agg #[.bool s, .slice a n' c', .slice d m o],
            .one fun v _ => v = .int .i64 cx,
            .one fun v _ => v = .bool true]
          (fun W => Ext w W ∧ Bx6 W g3 29 (.bool s) (.slice a n' c') (.slice d m o) (.bool t) (.slice aa nn cc) (.slice dd mm oo) ∧ Bx6 W g2 29 (.bool false) (.slice none 0 0) (.slice none 0 0) (.bool false) (.slice none 0 0) (.slice none 0 0) ∧ Rw W (.agg #[.bool s, .slice a n' c', .slice d m o]) (minQ l (k - 1)) ∧ Rw W (.agg #[.bool t, .slice aa nn cc, .slice dd mm oo]) (maxQ l (k - 1)) ∧ Rw W (.agg #[.bool s1, .slice a1 n1 c1, .slice d1 m1 o1]) (atQ l k) ∧ World.cell? W ⟨b, k * 3, none⟩ = some (.bool s1) ∧ World.cell? W ⟨b, k * 3 + 1, none⟩ = some (.slice a1 n1 c1) ∧ World.cell? W ⟨b, k * 3 + 2, none⟩ = some (.slice d1 m1 o1) ∧ wr.heap.size ≤ W.heap.size) ⟨Good.is _, Good.is _, Good.is _, Good.is _, Good.is _, Good.is _, Good.is _, Good.is _, trivial⟩
          (fun W W1 hS hE => ⟨(Ext.trans hS.1 hE), (hS.2.1.ext hE), (hS.2.2.1.ext hE), (hS.2.2.2.1.ext hE), (hS.2.2.2.2.1.ext hE), (hS.2.2.2.2.2.1.ext hE), (Ext.cell hE hS.2.2.2.2.2.2.1), (Ext.cell hE hS.2.2.2.2.2.2.2.1), (Ext.cell hE hS.2.2.2.2.2.2.2.2.1), (Nat.le_trans hS.2.2.2.2.2.2.2.2.2 (Ext.size hE))⟩) ⟨E0, p3, p2, lo, hi, hr1, k0, k1, k2, Nat.le_refl _⟩ (by kernel_rfl) (by kernel_rfl) (by kernel_rfl) (by kernel_rfl) (A := ?A2) ?hA2 ?howe2 ?hfin2
        case hA2 =>
          intro vs
          simp only [putAll, Act.put, List.setIfInBounds_toArray, List.set_cons_zero, List.set_cons_succ, Nat.zero_add, Nat.reduceAdd]
          exact rfl
        case howe2 =>
          clear E0 p3 p2 lo hi hr1 k0 k1 k2
          intro hf
          refine ⟨owesE 0 [] hf rfl (by kernel_rfl) ?_, owesE 1 [] hf rfl (by kernel_rfl) ?_, owesE 2 [0, 1] hf rfl (by kernel_rfl) ?_, owesE 3 [2] hf rfl (by kernel_rfl) ?_, owesE 4 [] hf rfl (by kernel_rfl) ?_, owesE 5 [4] hf rfl (by kernel_rfl) ?_, owesE 6 [3, 5] hf rfl (by kernel_rfl) ?_, owesE 7 [6] hf rfl (by kernel_rfl) ?_, trivial⟩
          all_goals intro vs W hS hp hx KO hKO
          all_goals simp only [Act.put, List.setIfInBounds_toArray, List.set_cons_zero, List.set_cons_succ] at hKO
          · go_simp
            exact hKO _ W (Ext.refl W) rfl
          · go_simp
            exact hKO _ W (Ext.refl W) rfl
          · have e0 := isOf hp.1
            have e1 := isOf hp.2.1
            simp only [e0, e1] at hKO
            go_simp
            exact hKO _ W (Ext.refl W) rfl
          · have e2 := isOf hp.1
            simp only [e2] at hKO
            have fc0 := hS.2.2.2.2.2.2.1
            have fc1 := hS.2.2.2.2.2.2.2.1
            have fc2 := hS.2.2.2.2.2.2.2.2.1
            go_simp
            exact hKO _ W (Ext.refl W) rfl
          · go_simp
            exact hKO _ W (Ext.refl W) rfl
          · have e4 := isOf hp.1
            simp only [e4] at hKO
            have fc0 := hS.2.1.cell0
            have fc1 := hS.2.1.cell1
            have fc2 := hS.2.1.cell2
            go_simp
            exact hKO _ W (Ext.refl W) rfl
          · have e3 := isOf hp.1
            have e5 := isOf hp.2.1
            simp only [e3, e5] at hKO
            go_simp
            refine (Tryz.refRCmpR (hS.2.2.2.2.2.1) (hS.2.2.2.1) HSM.out.1 HSM.out.2.1 hL HCX.out).mono ?_
            rintro e W1 ⟨rfl, hE⟩
            exact hKO _ W1 hE rfl
          · have e6 := isOf hp.1
            simp only [e6] at hKO
            go_simp
            exact hKO _ W (Ext.refl W) (by first | rfl | exact congrArg Value.bool HD1.out)
        intro vs W2 hS hp
        clear szw2 E0 p3 p2 lo hi hr1 k0 k1 k2
        obtain ⟨E0, p3, p2, lo, hi, hr1, k0, k1, k2, sz2⟩ := hS
        obtain ⟨h2_0, h2_1, h2_2, h2_3, h2_4, h2_5, h2_6, h2_7, -⟩ := hp
        replace h2_0 : vs 0 = .slice (some ⟨b, 0, none⟩) N c := h2_0
        replace h2_1 : vs 1 = .int .i64 (k : Int) := h2_1
        replace h2_2 : vs 2 = .pointer (some ⟨b, k * 3, none⟩) := h2_2
        replace h2_3 : vs 3 = .agg #[.bool s1, .slice a1 n1 c1, .slice d1 m1 o1] := h2_3
        replace h2_4 : vs 4 = .pointer (some ⟨g3, 0, none⟩) := h2_4
        replace h2_5 : vs 5 = .agg #[.bool s, .slice a n' c', .slice d m o] := h2_5
        replace h2_6 : vs 6 = .int .i64 cx := h2_6
        replace h2_7 : vs 7 = .bool true := h2_7
        simp only [h2_0, h2_1, h2_2, h2_3, h2_4, h2_5, h2_6, h2_7]
        clear h2_0 h2_1 h2_2 h2_3 h2_4 h2_5 h2_6 h2_7
        have zf0 := p3.froz0
        have zf1 := p3.froz1
        have zf2 := p3.froz2
        have kp3_0 := p3.cell0
        have kp3_1 := p3.cell1
        have kp3_2 := p3.cell2
        have kp3_3 := p3.cell3
        have kp3_4 := p3.cell4
        have kp3_5 := p3.cell5
        have kp2_0 := p2.cell0
        have kp2_1 := p2.cell1
        have kp2_2 := p2.cell2
        have kp2_3 := p2.cell3
        have kp2_4 := p2.cell4
        have kp2_5 := p2.cell5
        go_upto_region 7 with (fail)
        clear kp3_0 kp3_1 kp3_2 kp3_3 kp3_4 kp3_5 kp2_0 kp2_1 kp2_2 kp2_3 kp2_4 kp2_5
        clear zf0 zf1 zf2
        obtain ⟨V, hV, hw, hp6⟩ := p3.lo6 s1 a1 n1 c1 d1 m1 o1
        rw [← hV]
        replace E0 := (Ext.wr E0 hw (by omega))
        replace p2 := (p2.wr hw (by omega))
        replace lo := (lo.wr hw)
        replace hi := (hi.wr hw)
        replace hr1 := (hr1.wr hw)
        replace k0 := (hw.apart.cell (by simp; omega) k0)
        replace k1 := (hw.apart.cell (by simp; omega) k1)
        replace k2 := (hw.apart.cell (by simp; omega) k2)
        clear hV hw p3
        have p3 := hp6
        clear hp6
        clear lo
        have lo := hr1
        by_cases hc : maxQ l (k - 1) < atQ l k
        · have HD2 : Hid (decide (0 < cy) = true) := Lib.hid (decide_eq_true (by rw [← hcy]; exact cmpR_gt0.2 hc))
          have HV2 : Hid (maxQ l (k + 1 - 1) = atQ l k) := Lib.hid (by rw [Nat.add_sub_cancel, maxQ_step]; exact if_pos hc)
          clear hcy hc
          have kp3_0 := p3.cell0
          have kp3_1 := p3.cell1
          have kp3_2 := p3.cell2
          have kp3_3 := p3.cell3
          have kp3_4 := p3.cell4
          have kp3_5 := p3.cell5
          have kp2_0 := p2.cell0
          have kp2_1 := p2.cell1
          have kp2_2 := p2.cell2
          have kp2_3 := p2.cell3
          have kp2_4 := p2.cell4
          have kp2_5 := p2.cell5
          go_upto_region 7 with (fail)
          clear kp3_0 kp3_1 kp3_2 kp3_3 kp3_4 kp3_5 kp2_0 kp2_1 kp2_2 kp2_3 kp2_4 kp2_5
          have szw3 := Ext.size E0
          refine region_go [.one fun v _ => v = .slice (some ⟨b, 0, none⟩) N c,
              .one fun v _ => v = .int .i64 (k : Int),
              .one fun v _ => v = .pointer (some ⟨b, k * 3, none⟩),
              .one fun v _ => v = .agg #[.bool s1, .slice a1 n1 c1, .slice d1 m1 o1],
              .one fun v _ => v = .pointer (some ⟨g3, 3, none⟩),
              .one fun v _ => v = .agg #[.bool t, .slice aa nn cc, .slice dd mm oo],
              .one fun v _ => v = .int .i64 cy,
              .one fun v _ => v = .bool true]
            (fun W => Ext w W ∧ Bx6 W g3 29 (.bool s1) (.slice a1 n1 c1) (.slice d1 m1 o1) (.bool t) (.slice aa nn cc) (.slice dd mm oo) ∧ Bx6 W g2 29 (.bool false) (.slice none 0 0) (.slice none 0 0) (.bool false) (.slice none 0 0) (.slice none 0 0) ∧ Rw W (.agg #[.bool s1, .slice a1 n1 c1, .slice d1 m1 o1]) (atQ l k) ∧ Rw W (.agg #[.bool t, .slice aa nn cc, .slice dd mm oo]) (maxQ l (k - 1)) ∧ Rw W (.agg #[.bool s1, .slice a1 n1 c1, .slice d1 m1 o1]) (atQ l k) ∧ World.cell? W ⟨b, k * 3, none⟩ = some (.bool s1) ∧ World.cell? W ⟨b, k * 3 + 1, none⟩ = some (.slice a1 n1 c1) ∧ World.cell? W ⟨b, k * 3 + 2, none⟩ = some (.slice d1 m1 o1) ∧ V.heap.size ≤ W.heap.size) ⟨Good.is _, Good.is _, Good.is _, Good.is _, Good.is _, Good.is _, Good.is _, Good.is _, trivial⟩
            (fun W W1 hS hE => ⟨(Ext.trans hS.1 hE), (hS.2.1.ext hE), (hS.2.2.1.ext hE), (hS.2.2.2.1.ext hE), (hS.2.2.2.2.1.ext hE), (hS.2.2.2.2.2.1.ext hE), (Ext.cell hE hS.2.2.2.2.2.2.1), (Ext.cell hE hS.2.2.2.2.2.2.2.1), (Ext.cell hE hS.2.2.2.2.2.2.2.2.1), (Nat.le_trans hS.2.2.2.2.2.2.2.2.2 (Ext.size hE))⟩) ⟨E0, p3, p2, lo, hi, hr1, k0, k1, k2, Nat.le_refl _⟩ (by kernel_rfl) (by kernel_rfl) (by kernel_rfl) (by kernel_rfl) (A := ?A3) ?hA3 ?howe3 ?hfin3
          case hA3 =>
            intro vs
            simp only [putAll, Act.put, List.setIfInBounds_toArray, List.set_cons_zero, List.set_cons_succ, Nat.zero_add, Nat.reduceAdd]
            exact rfl
          case howe3 =>
            clear E0 p3 p2 lo hi hr1 k0 k1 k2
            intro hf
            refine ⟨owesE 0 [] hf rfl (by kernel_rfl) ?_, owesE 1 [] hf rfl (by kernel_rfl) ?_, owesE 2 [0, 1] hf rfl (by kernel_rfl) ?_, owesE 3 [2] hf rfl (by kernel_rfl) ?_, owesE 4 [] hf rfl (by kernel_rfl) ?_, owesE 5 [4] hf rfl (by kernel_rfl) ?_, owesE 6 [3, 5] hf rfl (by kernel_rfl) ?_, owesE 7 [6] hf rfl (by kernel_rfl) ?_, trivial⟩
            all_goals intro vs W hS hp hx KO hKO
            all_goals simp only [Act.put, List.setIfInBounds_toArray, List.set_cons_zero, List.set_cons_succ] at hKO
            · go_simp
              exact hKO _ W (Ext.refl W) rfl
            · go_simp
              exact hKO _ W (Ext.refl W) rfl
            · have e0 := isOf hp.1
              have e1 := isOf hp.2.1
              simp only [e0, e1] at hKO
              go_simp
              exact hKO _ W (Ext.refl W) rfl
            · have e2 := isOf hp.1
              simp only [e2] at hKO
              have fc0 := hS.2.2.2.2.2.2.1
              have fc1 := hS.2.2.2.2.2.2.2.1
              have fc2 := hS.2.2.2.2.2.2.2.2.1
              go_simp
              exact hKO _ W (Ext.refl W) rfl
            · go_simp
              exact hKO _ W (Ext.refl W) rfl
            · have e4 := isOf hp.1
              simp only [e4] at hKO
              have fc3 := hS.2.1.cell3
              have fc4 := hS.2.1.cell4
              have fc5 := hS.2.1.cell5
              go_simp
              exact hKO _ W (Ext.refl W) rfl
            · have e3 := isOf hp.1
              have e5 := isOf hp.2.1
              simp only [e3, e5] at hKO
              go_simp
              refine (Tryz.refRCmpR hS.2.2.2.2.2.1 hS.2.2.2.2.1 HSM.out.1 HSM.out.2.2 hL HCY.out).mono ?_
              rintro e W1 ⟨rfl, hE⟩
              exact hKO _ W1 hE rfl
            · have e6 := isOf hp.1
              simp only [e6] at hKO
              go_simp
              exact hKO _ W (Ext.refl W) (by first | rfl | exact congrArg Value.bool HD2.out)
          intro vs W3 hS hp
          clear szw3 E0 p3 p2 lo hi hr1 k0 k1 k2
          obtain ⟨E0, p3, p2, lo, hi, hr1, k0, k1, k2, sz3⟩ := hS
          obtain ⟨h3_0, h3_1, h3_2, h3_3, h3_4, h3_5, h3_6, h3_7, -⟩ := hp
          replace h3_0 : vs 0 = .slice (some ⟨b, 0, none⟩) N c := h3_0
          replace h3_1 : vs 1 = .int .i64 (k : Int) := h3_1
          replace h3_2 : vs 2 = .pointer (some ⟨b, k * 3, none⟩) := h3_2
          replace h3_3 : vs 3 = .agg #[.bool s1, .slice a1 n1 c1, .slice d1 m1 o1] := h3_3
          replace h3_4 : vs 4 = .pointer (some ⟨g3, 3, none⟩) := h3_4
          replace h3_5 : vs 5 = .agg #[.bool t, .slice aa nn cc, .slice dd mm oo] := h3_5
          replace h3_6 : vs 6 = .int .i64 cy := h3_6
          replace h3_7 : vs 7 = .bool true := h3_7
          simp only [h3_0, h3_1, h3_2, h3_3, h3_4, h3_5, h3_6, h3_7]
          clear h3_0 h3_1 h3_2 h3_3 h3_4 h3_5 h3_6 h3_7
          have zf3 := p3.froz3
          have zf4 := p3.froz4
          have zf5 := p3.froz5
          have kp3_0 := p3.cell0
          have kp3_1 := p3.cell1
          have kp3_2 := p3.cell2
          have kp3_3 := p3.cell3
          have kp3_4 := p3.cell4
          have kp3_5 := p3.cell5
          have kp2_0 := p2.cell0
          have kp2_1 := p2.cell1
          have kp2_2 := p2.cell2
          have kp2_3 := p2.cell3
          have kp2_4 := p2.cell4
          have kp2_5 := p2.cell5
          go_wp2_with fail
          clear kp3_0 kp3_1 kp3_2 kp3_3 kp3_4 kp3_5 kp2_0 kp2_1 kp2_2 kp2_3 kp2_4 kp2_5
          clear zf3 zf4 zf5
          obtain ⟨V, hV, hw, hp6⟩ := p3.hi6 s1 a1 n1 c1 d1 m1 o1
          rw [← hV]
          replace E0 := (Ext.wr E0 hw (by omega))
          replace p2 := (p2.wr hw (by omega))
          replace lo := (lo.wr hw)
          replace hi := (hi.wr hw)
          replace hr1 := (hr1.wr hw)
          replace k0 := (hw.apart.cell (by simp; omega) k0)
          replace k1 := (hw.apart.cell (by simp; omega) k1)
          replace k2 := (hw.apart.cell (by simp; omega) k2)
          clear hV hw p3
          have p3 := hp6
          clear hp6
          clear hi
          have hi := hr1
          clear hg
          go_roundw
          case rel => exact ⟨k + 1, _, _, _, _, _, _, _, _, _, _, _, _, _, _, by go_num, by omega, p3, by rw [HV1.out]; exact lo, by rw [HV2.out]; exact hi, p2, E0⟩
          case measure => simp [intOf]; omega
        · have HD2 : Hid (decide (0 < cy) = false) := Lib.hid (decide_eq_false (by rw [← hcy]; exact fun h => hc (cmpR_gt0.1 h)))
          have HV2 : Hid (maxQ l (k + 1 - 1) = maxQ l (k - 1)) := Lib.hid (by rw [Nat.add_sub_cancel, maxQ_step]; exact if_neg hc)
          clear hcy hc
          have kp3_0 := p3.cell0
          have kp3_1 := p3.cell1
          have kp3_2 := p3.cell2
          have kp3_3 := p3.cell3
          have kp3_4 := p3.cell4
          have kp3_5 := p3.cell5
          have kp2_0 := p2.cell0
          have kp2_1 := p2.cell1
          have kp2_2 := p2.cell2
          have kp2_3 := p2.cell3
          have kp2_4 := p2.cell4
          have kp2_5 := p2.cell5
          go_upto_region 7 with (fail)
          clear kp3_0 kp3_1 kp3_2 kp3_3 kp3_4 kp3_5 kp2_0 kp2_1 kp2_2 kp2_3 kp2_4 kp2_5
          have szw4 := Ext.size E0
          refine region_go [.one fun v _ => v = .slice (some ⟨b, 0, none⟩) N c,
              .one fun v _ => v = .int .i64 (k : Int),
              .one fun v _ => v = .pointer (some ⟨b, k * 3, none⟩),
              .one fun v _ => v = .agg #[.bool s1, .slice a1 n1 c1, .slice d1 m1 o1],
              .one fun v _ => v = .pointer (some ⟨g3, 3, none⟩),
              .one fun v _ => v = .agg #[.bool t, .slice aa nn cc, .slice dd mm oo],
              .one fun v _ => v = .int .i64 cy,
              .one fun v _ => v = .bool false]
            (fun W => Ext w W ∧ Bx6 W g3 29 (.bool s1) (.slice a1 n1 c1) (.slice d1 m1 o1) (.bool t) (.slice aa nn cc) (.slice dd mm oo) ∧ Bx6 W g2 29 (.bool false) (.slice none 0 0) (.slice none 0 0) (.bool false) (.slice none 0 0) (.slice none 0 0) ∧ Rw W (.agg #[.bool s1, .slice a1 n1 c1, .slice d1 m1 o1]) (atQ l k) ∧ Rw W (.agg #[.bool t, .slice aa nn cc, .slice dd mm oo]) (maxQ l (k - 1)) ∧ Rw W (.agg #[.bool s1, .slice a1 n1 c1, .slice d1 m1 o1]) (atQ l k) ∧ World.cell? W ⟨b, k * 3, none⟩ = some (.bool s1) ∧ World.cell? W ⟨b, k * 3 + 1, none⟩ = some (.slice a1 n1 c1) ∧ World.cell? W ⟨b, k * 3 + 2, none⟩ = some (.slice d1 m1 o1) ∧ V.heap.size ≤ W.heap.size) ⟨Good.is _, Good.is _, Good.is _, Good.is _, Good.is _, Good.is _, Good.is _, Good.is _, trivial⟩
            (fun W W1 hS hE => ⟨(Ext.trans hS.1 hE), (hS.2.1.ext hE), (hS.2.2.1.ext hE), (hS.2.2.2.1.ext hE), (hS.2.2.2.2.1.ext hE), (hS.2.2.2.2.2.1.ext hE), (Ext.cell hE hS.2.2.2.2.2.2.1), (Ext.cell hE hS.2.2.2.2.2.2.2.1), (Ext.cell hE hS.2.2.2.2.2.2.2.2.1), (Nat.le_trans hS.2.2.2.2.2.2.2.2.2 (Ext.size hE))⟩) ⟨E0, p3, p2, lo, hi, hr1, k0, k1, k2, Nat.le_refl _⟩ (by kernel_rfl) (by kernel_rfl) (by kernel_rfl) (by kernel_rfl) (A := ?A4) ?hA4 ?howe4 ?hfin4
          case hA4 =>
            intro vs
            simp only [putAll, Act.put, List.setIfInBounds_toArray, List.set_cons_zero, List.set_cons_succ, Nat.zero_add, Nat.reduceAdd]
            exact rfl
          case howe4 =>
            clear E0 p3 p2 lo hi hr1 k0 k1 k2
            intro hf
            refine ⟨owesE 0 [] hf rfl (by kernel_rfl) ?_, owesE 1 [] hf rfl (by kernel_rfl) ?_, owesE 2 [0, 1] hf rfl (by kernel_rfl) ?_, owesE 3 [2] hf rfl (by kernel_rfl) ?_, owesE 4 [] hf rfl (by kernel_rfl) ?_, owesE 5 [4] hf rfl (by kernel_rfl) ?_, owesE 6 [3, 5] hf rfl (by kernel_rfl) ?_, owesE 7 [6] hf rfl (by kernel_rfl) ?_, trivial⟩
            all_goals intro vs W hS hp hx KO hKO
            all_goals simp only [Act.put, List.setIfInBounds_toArray, List.set_cons_zero, List.set_cons_succ] at hKO
            · go_simp
              exact hKO _ W (Ext.refl W) rfl
            · go_simp
              exact hKO _ W (Ext.refl W) rfl
            · have e0 := isOf hp.1
              have e1 := isOf hp.2.1
              simp only [e0, e1] at hKO
              go_simp
              exact hKO _ W (Ext.refl W) rfl
            · have e2 := isOf hp.1
              simp only [e2] at hKO
              have fc0 := hS.2.2.2.2.2.2.1
              have fc1 := hS.2.2.2.2.2.2.2.1
              have fc2 := hS.2.2.2.2.2.2.2.2.1
              go_simp
              exact hKO _ W (Ext.refl W) rfl
            · go_simp
              exact hKO _ W (Ext.refl W) rfl
            · have e4 := isOf hp.1
              simp only [e4] at hKO
              have fc3 := hS.2.1.cell3
              have fc4 := hS.2.1.cell4
              have fc5 := hS.2.1.cell5
              go_simp
              exact hKO _ W (Ext.refl W) rfl
            · have e3 := isOf hp.1
              have e5 := isOf hp.2.1
              simp only [e3, e5] at hKO
              go_simp
              refine (Tryz.refRCmpR hS.2.2.2.2.2.1 hS.2.2.2.2.1 HSM.out.1 HSM.out.2.2 hL HCY.out).mono ?_
              rintro e W1 ⟨rfl, hE⟩
              exact hKO _ W1 hE rfl
            · have e6 := isOf hp.1
              simp only [e6] at hKO
              go_simp
              exact hKO _ W (Ext.refl W) (by first | rfl | exact congrArg Value.bool HD2.out)
          intro vs W4 hS hp
          clear szw4 E0 p3 p2 lo hi hr1 k0 k1 k2
          obtain ⟨E0, p3, p2, lo, hi, hr1, k0, k1, k2, sz4⟩ := hS
          obtain ⟨h4_0, h4_1, h4_2, h4_3, h4_4, h4_5, h4_6, h4_7, -⟩ := hp
          replace h4_0 : vs 0 = .slice (some ⟨b, 0, none⟩) N c := h4_0
          replace h4_1 : vs 1 = .int .i64 (k : Int) := h4_1
          replace h4_2 : vs 2 = .pointer (some ⟨b, k * 3, none⟩) := h4_2
          replace h4_3 : vs 3 = .agg #[.bool s1, .slice a1 n1 c1, .slice d1 m1 o1] := h4_3
          replace h4_4 : vs 4 = .pointer (some ⟨g3, 3, none⟩) := h4_4
          replace h4_5 : vs 5 = .agg #[.bool t, .slice aa nn cc, .slice dd mm oo] := h4_5
          replace h4_6 : vs 6 = .int .i64 cy := h4_6
          replace h4_7 : vs 7 = .bool false := h4_7
          simp only [h4_0, h4_1, h4_2, h4_3, h4_4, h4_5, h4_6, h4_7]
          clear h4_0 h4_1 h4_2 h4_3 h4_4 h4_5 h4_6 h4_7
          have kp3_0 := p3.cell0
          have kp3_1 := p3.cell1
          have kp3_2 := p3.cell2
          have kp3_3 := p3.cell3
          have kp3_4 := p3.cell4
          have kp3_5 := p3.cell5
          have kp2_0 := p2.cell0
          have kp2_1 := p2.cell1
          have kp2_2 := p2.cell2
          have kp2_3 := p2.cell3
          have kp2_4 := p2.cell4
          have kp2_5 := p2.cell5
          go_wp2
          clear kp3_0 kp3_1 kp3_2 kp3_3 kp3_4 kp3_5 kp2_0 kp2_1 kp2_2 kp2_3 kp2_4 kp2_5
          clear hg
          go_roundw
          case rel => exact ⟨k + 1, _, _, _, _, _, _, _, _, _, _, _, _, _, _, by go_num, by omega, p3, by rw [HV1.out]; exact lo, by rw [HV2.out]; exact hi, p2, E0⟩
          case measure => simp [intOf]; omega
      · have HD1 : Hid (decide (cx < 0) = false) := Lib.hid (decide_eq_false (by rw [← hcx]; exact fun h => hc (cmpR_lt0.1 h)))
        have HV1 : Hid (minQ l (k + 1 - 1) = minQ l (k - 1)) := Lib.hid (by rw [Nat.add_sub_cancel, minQ_step]; exact if_neg hc)
        clear hcx hc
        have kp3_0 := p3.cell0
        have kp3_1 := p3.cell1
        have kp3_2 := p3.cell2
        have kp3_3 := p3.cell3
        have kp3_4 := p3.cell4
        have kp3_5 := p3.cell5
        have kp2_0 := p2.cell0
        have kp2_1 := p2.cell1
        have kp2_2 := p2.cell2
        have kp2_3 := p2.cell3
        have kp2_4 := p2.cell4
        have kp2_5 := p2.cell5
        go_upto_region 5 with (fail)
        clear kp3_0 kp3_1 kp3_2 kp3_3 kp3_4 kp3_5 kp2_0 kp2_1 kp2_2 kp2_3 kp2_4 kp2_5
        have ltp3 := p3.lt
        have ltp2 := p2.lt
        have szw5 := Ext.size E0
        refine region_go [.one fun v _ => v = .slice (some ⟨b, 0, none⟩) N c,
            .one fun v _ => v = .int .i64 (k : Int),
            .one fun v _ => v = .pointer (some ⟨b, k * 3, none⟩),
            .one fun v _ => v = .agg #[.bool s1, .slice a1 n1 c1, .slice d1 m1 o1],
            .one fun v _ => v = .pointer (some ⟨g3, 0, none⟩),
            .one fun v _ => v = .agg #[.bool s, .slice a n' c', .slice d m o],
            .one fun v _ => v = .int .i64 cx,
            .one fun v _ => v = .bool false]
          (fun W => Ext w W ∧ Bx6 W g3 29 (.bool s) (.slice a n' c') (.slice d m o) (.bool t) (.slice aa nn cc) (.slice dd mm oo) ∧ Bx6 W g2 29 (.bool false) (.slice none 0 0) (.slice none 0 0) (.bool false) (.slice none 0 0) (.slice none 0 0) ∧ Rw W (.agg #[.bool s, .slice a n' c', .slice d m o]) (minQ l (k - 1)) ∧ Rw W (.agg #[.bool t, .slice aa nn cc, .slice dd mm oo]) (maxQ l (k - 1)) ∧ Rw W (.agg #[.bool s1, .slice a1 n1 c1, .slice d1 m1 o1]) (atQ l k) ∧ World.cell? W ⟨b, k * 3, none⟩ = some (.bool s1) ∧ World.cell? W ⟨b, k * 3 + 1, none⟩ = some (.slice a1 n1 c1) ∧ World.cell? W ⟨b, k * 3 + 2, none⟩ = some (.slice d1 m1 o1) ∧ wr.heap.size ≤ W.heap.size) ⟨Good.is _, Good.is _, Good.is _, Good.is _, Good.is _, Good.is _, Good.is _, Good.is _, trivial⟩
          (fun W W1 hS hE => ⟨(Ext.trans hS.1 hE), (hS.2.1.ext hE), (hS.2.2.1.ext hE), (hS.2.2.2.1.ext hE), (hS.2.2.2.2.1.ext hE), (hS.2.2.2.2.2.1.ext hE), (Ext.cell hE hS.2.2.2.2.2.2.1), (Ext.cell hE hS.2.2.2.2.2.2.2.1), (Ext.cell hE hS.2.2.2.2.2.2.2.2.1), (Nat.le_trans hS.2.2.2.2.2.2.2.2.2 (Ext.size hE))⟩) ⟨E0, p3, p2, lo, hi, hr1, k0, k1, k2, Nat.le_refl _⟩ (by kernel_rfl) (by kernel_rfl) (by kernel_rfl) (by kernel_rfl) (A := ?A5) ?hA5 ?howe5 ?hfin5
        case hA5 =>
          intro vs
          simp only [putAll, Act.put, List.setIfInBounds_toArray, List.set_cons_zero, List.set_cons_succ, Nat.zero_add, Nat.reduceAdd]
          exact rfl
        case howe5 =>
          clear E0 p3 p2 lo hi hr1 k0 k1 k2
          intro hf
          refine ⟨owesE 0 [] hf rfl (by kernel_rfl) ?_, owesE 1 [] hf rfl (by kernel_rfl) ?_, owesE 2 [0, 1] hf rfl (by kernel_rfl) ?_, owesE 3 [2] hf rfl (by kernel_rfl) ?_, owesE 4 [] hf rfl (by kernel_rfl) ?_, owesE 5 [4] hf rfl (by kernel_rfl) ?_, owesE 6 [3, 5] hf rfl (by kernel_rfl) ?_, owesE 7 [6] hf rfl (by kernel_rfl) ?_, trivial⟩
          all_goals intro vs W hS hp hx KO hKO
          all_goals simp only [Act.put, List.setIfInBounds_toArray, List.set_cons_zero, List.set_cons_succ] at hKO
          · go_simp
            exact hKO _ W (Ext.refl W) rfl
          · go_simp
            exact hKO _ W (Ext.refl W) rfl
          · have e0 := isOf hp.1
            have e1 := isOf hp.2.1
            simp only [e0, e1] at hKO
            go_simp
            exact hKO _ W (Ext.refl W) rfl
          · have e2 := isOf hp.1
            simp only [e2] at hKO
            have fc0 := hS.2.2.2.2.2.2.1
            have fc1 := hS.2.2.2.2.2.2.2.1
            have fc2 := hS.2.2.2.2.2.2.2.2.1
            go_simp
            exact hKO _ W (Ext.refl W) rfl
          · go_simp
            exact hKO _ W (Ext.refl W) rfl
          · have e4 := isOf hp.1
            simp only [e4] at hKO
            have fc0 := hS.2.1.cell0
            have fc1 := hS.2.1.cell1
            have fc2 := hS.2.1.cell2
            go_simp
            exact hKO _ W (Ext.refl W) rfl
          · have e3 := isOf hp.1
            have e5 := isOf hp.2.1
            simp only [e3, e5] at hKO
            go_simp
            refine (Tryz.refRCmpR (hS.2.2.2.2.2.1) (hS.2.2.2.1) HSM.out.1 HSM.out.2.1 hL HCX.out).mono ?_
            rintro e W1 ⟨rfl, hE⟩
            exact hKO _ W1 hE rfl
          · have e6 := isOf hp.1
            simp only [e6] at hKO
            go_simp
            exact hKO _ W (Ext.refl W) (by first | rfl | exact congrArg Value.bool HD1.out)
        intro vs W5 hS hp
        clear szw5 E0 p3 p2 lo hi hr1 k0 k1 k2
        obtain ⟨E0, p3, p2, lo, hi, hr1, k0, k1, k2, sz5⟩ := hS
        obtain ⟨h5_0, h5_1, h5_2, h5_3, h5_4, h5_5, h5_6, h5_7, -⟩ := hp
        replace h5_0 : vs 0 = .slice (some ⟨b, 0, none⟩) N c := h5_0
        replace h5_1 : vs 1 = .int .i64 (k : Int) := h5_1
        replace h5_2 : vs 2 = .pointer (some ⟨b, k * 3, none⟩) := h5_2
        replace h5_3 : vs 3 = .agg #[.bool s1, .slice a1 n1 c1, .slice d1 m1 o1] := h5_3
        replace h5_4 : vs 4 = .pointer (some ⟨g3, 0, none⟩) := h5_4
        replace h5_5 : vs 5 = .agg #[.bool s, .slice a n' c', .slice d m o] := h5_5
        replace h5_6 : vs 6 = .int .i64 cx := h5_6
        replace h5_7 : vs 7 = .bool false := h5_7
        simp only [h5_0, h5_1, h5_2, h5_3, h5_4, h5_5, h5_6, h5_7]
        clear h5_0 h5_1 h5_2 h5_3 h5_4 h5_5 h5_6 h5_7
        by_cases hc : maxQ l (k - 1) < atQ l k
        · have HD2 : Hid (decide (0 < cy) = true) := Lib.hid (decide_eq_true (by rw [← hcy]; exact cmpR_gt0.2 hc))
          have HV2 : Hid (maxQ l (k + 1 - 1) = atQ l k) := Lib.hid (by rw [Nat.add_sub_cancel, maxQ_step]; exact if_pos hc)
          clear hcy hc
          have kp3_0 := p3.cell0
          have kp3_1 := p3.cell1
          have kp3_2 := p3.cell2
          have kp3_3 := p3.cell3
          have kp3_4 := p3.cell4
          have kp3_5 := p3.cell5
          have kp2_0 := p2.cell0
          have kp2_1 := p2.cell1
          have kp2_2 := p2.cell2
          have kp2_3 := p2.cell3
          have kp2_4 := p2.cell4
          have kp2_5 := p2.cell5
          go_upto_region 7 with (fail)
          clear kp3_0 kp3_1 kp3_2 kp3_3 kp3_4 kp3_5 kp2_0 kp2_1 kp2_2 kp2_3 kp2_4 kp2_5
          have szw6 := Ext.size E0
          refine region_go [.one fun v _ => v = .slice (some ⟨b, 0, none⟩) N c,
              .one fun v _ => v = .int .i64 (k : Int),
              .one fun v _ => v = .pointer (some ⟨b, k * 3, none⟩),
              .one fun v _ => v = .agg #[.bool s1, .slice a1 n1 c1, .slice d1 m1 o1],
              .one fun v _ => v = .pointer (some ⟨g3, 3, none⟩),
              .one fun v _ => v = .agg #[.bool t, .slice aa nn cc, .slice dd mm oo],
              .one fun v _ => v = .int .i64 cy,
              .one fun v _ => v = .bool true]
            (fun W => Ext w W ∧ Bx6 W g3 29 (.bool s) (.slice a n' c') (.slice d m o) (.bool t) (.slice aa nn cc) (.slice dd mm oo) ∧ Bx6 W g2 29 (.bool false) (.slice none 0 0) (.slice none 0 0) (.bool false) (.slice none 0 0) (.slice none 0 0) ∧ Rw W (.agg #[.bool s, .slice a n' c', .slice d m o]) (minQ l (k - 1)) ∧ Rw W (.agg #[.bool t, .slice aa nn cc, .slice dd mm oo]) (maxQ l (k - 1)) ∧ Rw W (.agg #[.bool s1, .slice a1 n1 c1, .slice d1 m1 o1]) (atQ l k) ∧ World.cell? W ⟨b, k * 3, none⟩ = some (.bool s1) ∧ World.cell? W ⟨b, k * 3 + 1, none⟩ = some (.slice a1 n1 c1) ∧ World.cell? W ⟨b, k * 3 + 2, none⟩ = some (.slice d1 m1 o1) ∧ W5.heap.size ≤ W.heap.size) ⟨Good.is _, Good.is _, Good.is _, Good.is _, Good.is _, Good.is _, Good.is _, Good.is _, trivial⟩
            (fun W W1 hS hE => ⟨(Ext.trans hS.1 hE), (hS.2.1.ext hE), (hS.2.2.1.ext hE), (hS.2.2.2.1.ext hE), (hS.2.2.2.2.1.ext hE), (hS.2.2.2.2.2.1.ext hE), (Ext.cell hE hS.2.2.2.2.2.2.1), (Ext.cell hE hS.2.2.2.2.2.2.2.1), (Ext.cell hE hS.2.2.2.2.2.2.2.2.1), (Nat.le_trans hS.2.2.2.2.2.2.2.2.2 (Ext.size hE))⟩) ⟨E0, p3, p2, lo, hi, hr1, k0, k1, k2, Nat.le_refl _⟩ (by kernel_rfl) (by kernel_rfl) (by kernel_rfl) (by kernel_rfl) (A := ?A6) ?hA6 ?howe6 ?hfin6
          case hA6 =>
            intro vs
            simp only [putAll, Act.put, List.setIfInBounds_toArray, List.set_cons_zero, List.set_cons_succ, Nat.zero_add, Nat.reduceAdd]
            exact rfl
          case howe6 =>
            clear E0 p3 p2 lo hi hr1 k0 k1 k2
            intro hf
            refine ⟨owesE 0 [] hf rfl (by kernel_rfl) ?_, owesE 1 [] hf rfl (by kernel_rfl) ?_, owesE 2 [0, 1] hf rfl (by kernel_rfl) ?_, owesE 3 [2] hf rfl (by kernel_rfl) ?_, owesE 4 [] hf rfl (by kernel_rfl) ?_, owesE 5 [4] hf rfl (by kernel_rfl) ?_, owesE 6 [3, 5] hf rfl (by kernel_rfl) ?_, owesE 7 [6] hf rfl (by kernel_rfl) ?_, trivial⟩
            all_goals intro vs W hS hp hx KO hKO
            all_goals simp only [Act.put, List.setIfInBounds_toArray, List.set_cons_zero, List.set_cons_succ] at hKO
            · go_simp
              exact hKO _ W (Ext.refl W) rfl
            · go_simp
              exact hKO _ W (Ext.refl W) rfl
            · have e0 := isOf hp.1
              have e1 := isOf hp.2.1
              simp only [e0, e1] at hKO
              go_simp
              exact hKO _ W (Ext.refl W) rfl
            · have e2 := isOf hp.1
              simp only [e2] at hKO
              have fc0 := hS.2.2.2.2.2.2.1
              have fc1 := hS.2.2.2.2.2.2.2.1
              have fc2 := hS.2.2.2.2.2.2.2.2.1
              go_simp
              exact hKO _ W (Ext.refl W) rfl
            · go_simp
              exact hKO _ W (Ext.refl W) rfl
            · have e4 := isOf hp.1
              simp only [e4] at hKO
              have fc3 := hS.2.1.cell3
              have fc4 := hS.2.1.cell4
              have fc5 := hS.2.1.cell5
              go_simp
              exact hKO _ W (Ext.refl W) rfl
            · have e3 := isOf hp.1
              have e5 := isOf hp.2.1
              simp only [e3, e5] at hKO
              go_simp
              refine (Tryz.refRCmpR hS.2.2.2.2.2.1 hS.2.2.2.2.1 HSM.out.1 HSM.out.2.2 hL HCY.out).mono ?_
              rintro e W1 ⟨rfl, hE⟩
              exact hKO _ W1 hE rfl
            · have e6 := isOf hp.1
              simp only [e6] at hKO
              go_simp
              exact hKO _ W (Ext.refl W) (by first | rfl | exact congrArg Value.bool HD2.out)
          intro vs W6 hS hp
          clear szw6 E0 p3 p2 lo hi hr1 k0 k1 k2
          obtain ⟨E0, p3, p2, lo, hi, hr1, k0, k1, k2, sz6⟩ := hS
          obtain ⟨h6_0, h6_1, h6_2, h6_3, h6_4, h6_5, h6_6, h6_7, -⟩ := hp
          replace h6_0 : vs 0 = .slice (some ⟨b, 0, none⟩) N c := h6_0
          replace h6_1 : vs 1 = .int .i64 (k : Int) := h6_1
          replace h6_2 : vs 2 = .pointer (some ⟨b, k * 3, none⟩) := h6_2
          replace h6_3 : vs 3 = .agg #[.bool s1, .slice a1 n1 c1, .slice d1 m1 o1] := h6_3
          replace h6_4 : vs 4 = .pointer (some ⟨g3, 3, none⟩) := h6_4
          replace h6_5 : vs 5 = .agg #[.bool t, .slice aa nn cc, .slice dd mm oo] := h6_5
          replace h6_6 : vs 6 = .int .i64 cy := h6_6
          replace h6_7 : vs 7 = .bool true := h6_7
          simp only [h6_0, h6_1, h6_2, h6_3, h6_4, h6_5, h6_6, h6_7]
          clear h6_0 h6_1 h6_2 h6_3 h6_4 h6_5 h6_6 h6_7
          have zf3 := p3.froz3
          have zf4 := p3.froz4
          have zf5 := p3.froz5
          have kp3_0 := p3.cell0
          have kp3_1 := p3.cell1
          have kp3_2 := p3.cell2
          have kp3_3 := p3.cell3
          have kp3_4 := p3.cell4
          have kp3_5 := p3.cell5
          have kp2_0 := p2.cell0
          have kp2_1 := p2.cell1
          have kp2_2 := p2.cell2
          have kp2_3 := p2.cell3
          have kp2_4 := p2.cell4
          have kp2_5 := p2.cell5
          go_wp2_with fail
          clear kp3_0 kp3_1 kp3_2 kp3_3 kp3_4 kp3_5 kp2_0 kp2_1 kp2_2 kp2_3 kp2_4 kp2_5
          clear zf3 zf4 zf5
          obtain ⟨V, hV, hw, hp6⟩ := p3.hi6 s1 a1 n1 c1 d1 m1 o1
          rw [← hV]
          replace E0 := (Ext.wr E0 hw (by omega))
          replace p2 := (p2.wr hw (by omega))
          replace lo := (lo.wr hw)
          replace hi := (hi.wr hw)
          replace hr1 := (hr1.wr hw)
          replace k0 := (hw.apart.cell (by simp; omega) k0)
          replace k1 := (hw.apart.cell (by simp; omega) k1)
          replace k2 := (hw.apart.cell (by simp; omega) k2)
          clear hV hw p3
          have p3 := hp6
          clear hp6
          clear hi
          have hi := hr1
          clear hg
          go_roundw
          case rel => exact ⟨k + 1, _, _, _, _, _, _, _, _, _, _, _, _, _, _, by go_num, by omega, p3, by rw [HV1.out]; exact lo, by rw [HV2.out]; exact hi, p2, E0⟩
          case measure => simp [intOf]; omega
        · have HD2 : Hid (decide (0 < cy) = false) := Lib.hid (decide_eq_false (by rw [← hcy]; exact fun h => hc (cmpR_gt0.1 h)))
          have HV2 : Hid (maxQ l (k + 1 - 1) = maxQ l (k - 1)) := Lib.hid (by rw [Nat.add_sub_cancel, maxQ_step]; exact if_neg hc)
          clear hcy hc
          have kp3_0 := p3.cell0
          have kp3_1 := p3.cell1
          have kp3_2 := p3.cell2
          have kp3_3 := p3.cell3
          have kp3_4 := p3.cell4
          have kp3_5 := p3.cell5
          have kp2_0 := p2.cell0
          have kp2_1 := p2.cell1
          have kp2_2 := p2.cell2
          have kp2_3 := p2.cell3
          have kp2_4 := p2.cell4
          have kp2_5 := p2.cell5
          go_upto_region 7 with (fail)
          clear kp3_0 kp3_1 kp3_2 kp3_3 kp3_4 kp3_5 kp2_0 kp2_1 kp2_2 kp2_3 kp2_4 kp2_5
          have szw7 := Ext.size E0
          refine region_go [.one fun v _ => v = .slice (some ⟨b, 0, none⟩) N c,
              .one fun v _ => v = .int .i64 (k : Int),
              .one fun v _ => v = .pointer (some ⟨b, k * 3, none⟩),
              .one fun v _ => v = .agg #[.bool s1, .slice a1 n1 c1, .slice d1 m1 o1],
              .one fun v _ => v = .pointer (some ⟨g3, 3, none⟩),
              .one fun v _ => v = .agg #[.bool t, .slice aa nn cc, .slice dd mm oo],
              .one fun v _ => v = .int .i64 cy,
              .one fun v _ => v = .bool false]
            (fun W => Ext w W ∧ Bx6 W g3 29 (.bool s) (.slice a n' c') (.slice d m o) (.bool t) (.slice aa nn cc) (.slice dd mm oo) ∧ Bx6 W g2 29 (.bool false) (.slice none 0 0) (.slice none 0 0) (.bool false) (.slice none 0 0) (.slice none 0 0) ∧ Rw W (.agg #[.bool s, .slice a n' c', .slice d m o]) (minQ l (k - 1)) ∧ Rw W (.agg #[.bool t, .slice aa nn cc, .slice dd mm oo]) (maxQ l (k - 1)) ∧ Rw W (.agg #[.bool s1, .slice a1 n1 c1, .slice d1 m1 o1]) (atQ l k) ∧ World.cell? W ⟨b, k * 3, none⟩ = some (.bool s1) ∧ World.cell? W ⟨b, k * 3 + 1, none⟩ = some (.slice a1 n1 c1) ∧ World.cell? W ⟨b, k * 3 + 2, none⟩ = some (.slice d1 m1 o1) ∧ W5.heap.size ≤ W.heap.size) ⟨Good.is _, Good.is _, Good.is _, Good.is _, Good.is _, Good.is _, Good.is _, Good.is _, trivial⟩
            (fun W W1 hS hE => ⟨(Ext.trans hS.1 hE), (hS.2.1.ext hE), (hS.2.2.1.ext hE), (hS.2.2.2.1.ext hE), (hS.2.2.2.2.1.ext hE), (hS.2.2.2.2.2.1.ext hE), (Ext.cell hE hS.2.2.2.2.2.2.1), (Ext.cell hE hS.2.2.2.2.2.2.2.1), (Ext.cell hE hS.2.2.2.2.2.2.2.2.1), (Nat.le_trans hS.2.2.2.2.2.2.2.2.2 (Ext.size hE))⟩) ⟨E0, p3, p2, lo, hi, hr1, k0, k1, k2, Nat.le_refl _⟩ (by kernel_rfl) (by kernel_rfl) (by kernel_rfl) (by kernel_rfl) (A := ?A7) ?hA7 ?howe7 ?hfin7
          case hA7 =>
            intro vs
            simp only [putAll, Act.put, List.setIfInBounds_toArray, List.set_cons_zero, List.set_cons_succ, Nat.zero_add, Nat.reduceAdd]
            exact rfl
          case howe7 =>
            clear E0 p3 p2 lo hi hr1 k0 k1 k2
            intro hf
            refine ⟨owesE 0 [] hf rfl (by kernel_rfl) ?_, owesE 1 [] hf rfl (by kernel_rfl) ?_, owesE 2 [0, 1] hf rfl (by kernel_rfl) ?_, owesE 3 [2] hf rfl (by kernel_rfl) ?_, owesE 4 [] hf rfl (by kernel_rfl) ?_, owesE 5 [4] hf rfl (by kernel_rfl) ?_, owesE 6 [3, 5] hf rfl (by kernel_rfl) ?_, owesE 7 [6] hf rfl (by kernel_rfl) ?_, trivial⟩
            all_goals intro vs W hS hp hx KO hKO
            all_goals simp only [Act.put, List.setIfInBounds_toArray, List.set_cons_zero, List.set_cons_succ] at hKO
            · go_simp
              exact hKO _ W (Ext.refl W) rfl
            · go_simp
              exact hKO _ W (Ext.refl W) rfl
            · have e0 := isOf hp.1
              have e1 := isOf hp.2.1
              simp only [e0, e1] at hKO
              go_simp
              exact hKO _ W (Ext.refl W) rfl
            · have e2 := isOf hp.1
              simp only [e2] at hKO
              have fc0 := hS.2.2.2.2.2.2.1
              have fc1 := hS.2.2.2.2.2.2.2.1
              have fc2 := hS.2.2.2.2.2.2.2.2.1
              go_simp
              exact hKO _ W (Ext.refl W) rfl
            · go_simp
              exact hKO _ W (Ext.refl W) rfl
            · have e4 := isOf hp.1
              simp only [e4] at hKO
              have fc3 := hS.2.1.cell3
              have fc4 := hS.2.1.cell4
              have fc5 := hS.2.1.cell5
              go_simp
              exact hKO _ W (Ext.refl W) rfl
            · have e3 := isOf hp.1
              have e5 := isOf hp.2.1
              simp only [e3, e5] at hKO
              go_simp
              refine (Tryz.refRCmpR hS.2.2.2.2.2.1 hS.2.2.2.2.1 HSM.out.1 HSM.out.2.2 hL HCY.out).mono ?_
              rintro e W1 ⟨rfl, hE⟩
              exact hKO _ W1 hE rfl
            · have e6 := isOf hp.1
              simp only [e6] at hKO
              go_simp
              exact hKO _ W (Ext.refl W) (by first | rfl | exact congrArg Value.bool HD2.out)
          intro vs W7 hS hp
          clear szw7 E0 p3 p2 lo hi hr1 k0 k1 k2
          obtain ⟨E0, p3, p2, lo, hi, hr1, k0, k1, k2, sz7⟩ := hS
          obtain ⟨h7_0, h7_1, h7_2, h7_3, h7_4, h7_5, h7_6, h7_7, -⟩ := hp
          replace h7_0 : vs 0 = .slice (some ⟨b, 0, none⟩) N c := h7_0
          replace h7_1 : vs 1 = .int .i64 (k : Int) := h7_1
          replace h7_2 : vs 2 = .pointer (some ⟨b, k * 3, none⟩) := h7_2
          replace h7_3 : vs 3 = .agg #[.bool s1, .slice a1 n1 c1, .slice d1 m1 o1] := h7_3
          replace h7_4 : vs 4 = .pointer (some ⟨g3, 3, none⟩) := h7_4
          replace h7_5 : vs 5 = .agg #[.bool t, .slice aa nn cc, .slice dd mm oo] := h7_5
          replace h7_6 : vs 6 = .int .i64 cy := h7_6
          replace h7_7 : vs 7 = .bool false := h7_7
          simp only [h7_0, h7_1, h7_2, h7_3, h7_4, h7_5, h7_6, h7_7]
          clear h7_0 h7_1 h7_2 h7_3 h7_4 h7_5 h7_6 h7_7
          have kp3_0 := p3.cell0
          have kp3_1 := p3.cell1
          have kp3_2 := p3.cell2
          have kp3_3 := p3.cell3
          have kp3_4 := p3.cell4
          have kp3_5 := p3.cell5
          have kp2_0 := p2.cell0
          have kp2_1 := p2.cell1
          have kp2_2 := p2.cell2
          have kp2_3 := p2.cell3
          have kp2_4 := p2.cell4
          have kp2_5 := p2.cell5
          go_wp2
          clear kp3_0 kp3_1 kp3_2 kp3_3 kp3_4 kp3_5 kp2_0 kp2_1 kp2_2 kp2_3 kp2_4 kp2_5
          clear hg
          go_roundw
          case rel => exact ⟨k + 1, _, _, _, _, _, _, _, _, _, _, _, _, _, _, by go_num, by omega, p3, by rw [HV1.out]; exact lo, by rw [HV2.out]; exact hi, p2, E0⟩
          case measure => simp [intOf]; omega
    · have hge : ¬ (k : Int) < (N : Int) := by omega
      have HE : Hid (k - 1 = n) := Lib.hid (by have := HN.out; omega)
      have hg := HG.out
      clear h
      have kp3_0 := p3.cell0
      have kp3_1 := p3.cell1
      have kp3_2 := p3.cell2
      have kp3_3 := p3.cell3
      have kp3_4 := p3.cell4
      have kp3_5 := p3.cell5
      have kp2_0 := p2.cell0
      have kp2_1 := p2.cell1
      have kp2_2 := p2.cell2
      have kp2_3 := p2.cell3
      have kp2_4 := p2.cell4
      have kp2_5 := p2.cell5
      go_upto_region 9 with (fail)
      clear kp3_0 kp3_1 kp3_2 kp3_3 kp3_4 kp3_5 kp2_0 kp2_1 kp2_2 kp2_3 kp2_4 kp2_5
      have fp2 := p2.form
      have ltp3 := p3.lt
      have ltfp2 := fp2.lt
      have szw8 := Ext.size E0
      refine region_go [.one fun v _ => v = .agg #[.bool s, .slice a n' c', .slice d m o, .bool t, .slice aa nn cc, .slice dd mm oo],
          .own fun W => Bx6 W g2 29 (.bool s) (.slice a n' c') (.slice d m o) (.bool t) (.slice aa nn cc) (.slice dd mm oo)]
        (fun W => Ext w W ∧ Bx6 W g3 29 (.bool s) (.slice a n' c') (.slice d m o) (.bool t) (.slice aa nn cc) (.slice dd mm oo) ∧ Form W g2 29 6 ∧ Rw W (.agg #[.bool s, .slice a n' c', .slice d m o]) (minQ l (k - 1)) ∧ Rw W (.agg #[.bool t, .slice aa nn cc, .slice dd mm oo]) (maxQ l (k - 1)) ∧ wr.heap.size ≤ W.heap.size) ⟨Good.is _, cert_bx6, trivial⟩
        (fun W W1 hS hE => ⟨(Ext.trans hS.1 hE), (hS.2.1.ext hE), (hS.2.2.1.ext hE), (hS.2.2.2.1.ext hE), (hS.2.2.2.2.1.ext hE), (Nat.le_trans hS.2.2.2.2.2 (Ext.size hE))⟩) ⟨E0, p3, fp2, lo, hi, Nat.le_refl _⟩ (by kernel_rfl) (by kernel_rfl) (by kernel_rfl) (by kernel_rfl) (A := ?A8) ?hA8 ?howe8 ?hfin8
      case hA8 =>
        intro vs
        simp only [putAll, Act.put, List.setIfInBounds_toArray, List.set_cons_zero, List.set_cons_succ]
        exact rfl
      case howe8 =>
        clear E0 p3 fp2 lo hi
        intro hf
        refine ⟨owesE 0 [] hf rfl (by kernel_rfl) ?_, owesW 1 [0] hf rfl (by kernel_rfl) (by kernel_rfl) ?_, trivial⟩
        all_goals intro vs W hS hp hx KO hKO
        all_goals simp only [Act.put, List.setIfInBounds_toArray, List.set_cons_zero, List.set_cons_succ] at hKO
        · have fc0 := hS.2.1.cell0
          have fc1 := hS.2.1.cell1
          have fc2 := hS.2.1.cell2
          have fc3 := hS.2.1.cell3
          have fc4 := hS.2.1.cell4
          have fc5 := hS.2.1.cell5
          go_simp
          exact hKO _ W (Ext.refl W) rfl
        · have e0 := isOf hp.1
          simp only [e0] at hKO
          have hf := hS.2.2.1
          obtain ⟨x0_0, x0_1, x0_2, x0_3, x0_4, x0_5, hx, hno⟩ := hf.bx6
          have r0 := hx.froz0
          have t0 := hx.cell0
          have r1 := hx.froz1
          have t1 := hx.cell1
          have r2 := hx.froz2
          have t2 := hx.cell2
          have r3 := hx.froz3
          have t3 := hx.cell3
          have r4 := hx.froz4
          have t4 := hx.cell4
          have r5 := hx.froz5
          have t5 := hx.cell5
          have hw := Wr.set6 hx hno s a n' c' d m o t aa nn cc dd mm oo
          have hq := hx.set (.bool s) (.slice a n' c') (.slice d m o) (.bool t) (.slice aa nn cc) (.slice dd mm oo)
          have hg : g2 ≤ g2 := Nat.le_refl _
          go_simp
          exact hKO _ _ hw ⟨(Ext.wr hS.1 hw (by omega)), (hS.2.1.wr hw (by omega)), (hS.2.2.1.wr hw), (hS.2.2.2.1.wr hw), (hS.2.2.2.2.1.wr hw), (Nat.le_trans hS.2.2.2.2.2 hw.apart.size)⟩ hq
      intro vs W8 hS hp
      clear szw8 E0 p3 fp2 lo hi
      obtain ⟨E0, p3, fp2, lo, hi, sz8⟩ := hS
      obtain ⟨h8_0, h8_1, -⟩ := hp
      have p8_1 : Bx6 W8 g2 29 (.bool s) (.slice a n' c') (.slice d m o) (.bool t) (.slice aa nn cc) (.slice dd mm oo) := h8_1
      replace h8_0 : vs 0 = .agg #[.bool s, .slice a n' c', .slice d m o, .bool t, .slice aa nn cc, .slice dd mm oo] := h8_0
      simp only [h8_0]
      clear h8_0
      clear hg
      have kp3_0 := p3.cell0
      have kp3_1 := p3.cell1
      have kp3_2 := p3.cell2
      have kp3_3 := p3.cell3
      have kp3_4 := p3.cell4
      have kp3_5 := p3.cell5
      have kp8_1_0 := p8_1.cell0
      have kp8_1_1 := p8_1.cell1
      have kp8_1_2 := p8_1.cell2
      have kp8_1_3 := p8_1.cell3
      have kp8_1_4 := p8_1.cell4
      have kp8_1_5 := p8_1.cell5
      go_wp2
      exact bodyPost_ret (v := .agg #[.bool s, .slice a n' c', .slice d m o, .bool t, .slice aa nn cc, .slice dd mm oo]) (by simp [results, Tryz.results69, go_sem, kp8_1_0, kp8_1_1, kp8_1_2, kp8_1_3, kp8_1_4, kp8_1_5]) rfl ⟨_, rfl, by rw [← HE.out]; exact Sw.mk lo hi, E0⟩

set_option maxRecDepth 100000 in
set_option maxHeartbeats 8000000 in
theorem Tryz.rsMul {v1 v2 : Value} {p q : Rat × Rat} {L : Nat} {w : World} (h1 : Sw w v1 p) (h2 : Sw w v2 q) (s1 : SmS L p) (s2 : SmS L q) (hL : L ≤ 60) :
    Calls Tryz.prog 34 #[v1, v2] w fun e w' => ∃ v', e = .returned v' ∧ Sw w' v' (mulS p q) ∧ Ext w w' := by
  obtain ⟨b1, a1, n1, c1, d1, m1, o1, bb1, aa1, nn1, cc1, dd1, mm1, oo1, rfl, q1⟩ : ∃ b1 a1 n1 c1 d1 m1 o1 bb1 aa1 nn1 cc1 dd1 mm1 oo1, v1 = .agg #[.bool b1, .slice a1 n1 c1, .slice d1 m1 o1, .bool bb1, .slice aa1 nn1 cc1, .slice dd1 mm1 oo1] ∧ True := let ⟨b1, a1, n1, c1, d1, m1, o1, bb1, aa1, nn1, cc1, dd1, mm1, oo1, e, _⟩ := h1; ⟨b1, a1, n1, c1, d1, m1, o1, bb1, aa1, nn1, cc1, dd1, mm1, oo1, e, trivial⟩
  clear q1
  obtain ⟨b2, a2, n2, c2, d2, m2, o2, bb2, aa2, nn2, cc2, dd2, mm2, oo2, rfl, q2⟩ : ∃ b2 a2 n2 c2 d2 m2 o2 bb2 aa2 nn2 cc2 dd2 mm2 oo2, v2 = .agg #[.bool b2, .slice a2 n2 c2, .slice d2 m2 o2, .bool bb2, .slice aa2 nn2 cc2, .slice dd2 mm2 oo2] ∧ True := let ⟨b2, a2, n2, c2, d2, m2, o2, bb2, aa2, nn2, cc2, dd2, mm2, oo2, e, _⟩ := h2; ⟨b2, a2, n2, c2, d2, m2, o2, bb2, aa2, nn2, cc2, dd2, mm2, oo2, e, trivial⟩
  clear q2
  have HSM := Lib.hid (mulL_sm s1 s2)
  obtain ⟨W0, hW0⟩ : ∃ W0, W0 = (((w.alloc (.cells #[.bool b1, .slice a1 n1 c1, .slice d1 m1 o1, .bool bb1, .slice aa1 nn1 cc1, .slice dd1 mm1 oo1] 29)).alloc (.cells #[.bool b2, .slice a2 n2 c2, .slice d2 m2 o2, .bool bb2, .slice aa2 nn2 cc2, .slice dd2 mm2 oo2] 29)).alloc (.cells #[.bool false, .slice none 0 0, .slice none 0 0, .bool false, .slice none 0 0, .slice none 0 0] 29)) := ⟨_, rfl⟩
  have E0 : Ext w W0 := by rw [hW0]; exact (((Ext.alloc1 w (.cells #[.bool b1, .slice a1 n1 c1, .slice d1 m1 o1, .bool bb1, .slice aa1 nn1 cc1, .slice dd1 mm1 oo1] 29)).alloc (.cells #[.bool b2, .slice a2 n2 c2, .slice d2 m2 o2, .bool bb2, .slice aa2 nn2 cc2, .slice dd2 mm2 oo2] 29)).alloc (.cells #[.bool false, .slice none 0 0, .slice none 0 0, .bool false, .slice none 0 0, .slice none 0 0] 29))
  replace h1 : Sw W0 (.agg #[.bool b1, .slice a1 n1 c1, .slice d1 m1 o1, .bool bb1, .slice aa1 nn1 cc1, .slice dd1 mm1 oo1]) p := h1.ext E0
  replace h2 : Sw W0 (.agg #[.bool b2, .slice a2 n2 c2, .slice d2 m2 o2, .bool bb2, .slice aa2 nn2 cc2, .slice dd2 mm2 oo2]) q := h2.ext E0
  have p2 : Bx6 W0 w.heap.size 29 (.bool b1) (.slice a1 n1 c1) (.slice d1 m1 o1) (.bool bb1) (.slice aa1 nn1 cc1) (.slice dd1 mm1 oo1) := by rw [hW0]; exact (Bx6.new w 29 (.bool b1) (.slice a1 n1 c1) (.slice d1 m1 o1) (.bool bb1) (.slice aa1 nn1 cc1) (.slice dd1 mm1 oo1)).ext ((Ext.alloc1 (w.alloc (.cells #[.bool b1, .slice a1 n1 c1, .slice d1 m1 o1, .bool bb1, .slice aa1 nn1 cc1, .slice dd1 mm1 oo1] 29)) (.cells #[.bool b2, .slice a2 n2 c2, .slice d2 m2 o2, .bool bb2, .slice aa2 nn2 cc2, .slice dd2 mm2 oo2] 29)).alloc (.cells #[.bool false, .slice none 0 0, .slice none 0 0, .bool false, .slice none 0 0, .slice none 0 0] 29))
  have p3 : Bx6 W0 (w.heap.size + 1) 29 (.bool b2) (.slice a2 n2 c2) (.slice d2 m2 o2) (.bool bb2) (.slice aa2 nn2 cc2) (.slice dd2 mm2 oo2) := by rw [hW0]; simpa using (Bx6.new (w.alloc (.cells #[.bool b1, .slice a1 n1 c1, .slice d1 m1 o1, .bool bb1, .slice aa1 nn1 cc1, .slice dd1 mm1 oo1] 29)) 29 (.bool b2) (.slice a2 n2 c2) (.slice d2 m2 o2) (.bool bb2) (.slice aa2 nn2 cc2) (.slice dd2 mm2 oo2)).ext (Ext.alloc1 ((w.alloc (.cells #[.bool b1, .slice a1 n1 c1, .slice d1 m1 o1, .bool bb1, .slice aa1 nn1 cc1, .slice dd1 mm1 oo1] 29)).alloc (.cells #[.bool b2, .slice a2 n2 c2, .slice d2 m2 o2, .bool bb2, .slice aa2 nn2 cc2, .slice dd2 mm2 oo2] 29)) (.cells #[.bool false, .slice none 0 0, .slice none 0 0, .bool false, .slice none 0 0, .slice none 0 0] 29))
  have p4 : Bx6 W0 (w.heap.size + 1 + 1) 29 (.bool false) (.slice none 0 0) (.slice none 0 0) (.bool false) (.slice none 0 0) (.slice none 0 0) := by rw [hW0]; simpa using (Bx6.new ((w.alloc (.cells #[.bool b1, .slice a1 n1 c1, .slice d1 m1 o1, .bool bb1, .slice aa1 nn1 cc1, .slice dd1 mm1 oo1] 29)).alloc (.cells #[.bool b2, .slice a2 n2 c2, .slice d2 m2 o2, .bool bb2, .slice aa2 nn2 cc2, .slice dd2 mm2 oo2] 29)) 29 (.bool false) (.slice none 0 0) (.slice none 0 0) (.bool false) (.slice none 0 0) (.slice none 0 0))
  go_enter Tryz.func34, Tryz.ntmps34
  have kp2_0 := p2.cell0
  have kp2_1 := p2.cell1
  have kp2_2 := p2.cell2
  have kp2_3 := p2.cell3
  have kp2_4 := p2.cell4
  have kp2_5 := p2.cell5
  have kp3_0 := p3.cell0
  have kp3_1 := p3.cell1
  have kp3_2 := p3.cell2
  have kp3_3 := p3.cell3
  have kp3_4 := p3.cell4
  have kp3_5 := p3.cell5
  have kp4_0 := p4.cell0
  have kp4_1 := p4.cell1
  have kp4_2 := p4.cell2
  have kp4_3 := p4.cell3
  have kp4_4 := p4.cell4
  have kp4_5 := p4.cell5
  go_upto_region 1 with (fail)
  rw [← hW0]
  clear hW0
  clear kp2_0 kp2_1 kp2_2 kp2_3 kp2_4 kp2_5 kp3_0 kp3_1 kp3_2 kp3_3 kp3_4 kp3_5 kp4_0 kp4_1 kp4_2 kp4_3 kp4_4 kp4_5
  have fp4 := p4.form
  have ltp2 := p2.lt
  have ltp3 := p3.lt
  have ltfp4 := fp4.lt
  have szw9 := Ext.size E0
  refine region_go2 [.one fun v _ => v = .pointer (some ⟨w.heap.size, 0, none⟩),
      .one fun v _ => v = .agg #[.bool b1, .slice a1 n1 c1, .slice d1 m1 o1],
      .one fun v _ => v = .pointer (some ⟨w.heap.size + 1, 0, none⟩),
      .one fun v _ => v = .agg #[.bool b2, .slice a2 n2 c2, .slice d2 m2 o2],
      .one fun v W => Rw W v (p.1 * q.1),
      .one fun v _ => v = .pointer (some ⟨w.heap.size, 0, none⟩),
      .one fun v _ => v = .agg #[.bool b1, .slice a1 n1 c1, .slice d1 m1 o1],
      .one fun v _ => v = .pointer (some ⟨w.heap.size + 1, 3, none⟩),
      .one fun v _ => v = .agg #[.bool bb2, .slice aa2 nn2 cc2, .slice dd2 mm2 oo2],
      .one fun v W => Rw W v (p.1 * q.2),
      .one fun v _ => v = .pointer (some ⟨w.heap.size, 3, none⟩),
      .one fun v _ => v = .agg #[.bool bb1, .slice aa1 nn1 cc1, .slice dd1 mm1 oo1],
      .one fun v _ => v = .pointer (some ⟨w.heap.size + 1, 0, none⟩),
      .one fun v _ => v = .agg #[.bool b2, .slice a2 n2 c2, .slice d2 m2 o2],
      .one fun v W => Rw W v (p.2 * q.1),
      .one fun v _ => v = .pointer (some ⟨w.heap.size, 3, none⟩),
      .one fun v _ => v = .agg #[.bool bb1, .slice aa1 nn1 cc1, .slice dd1 mm1 oo1],
      .one fun v _ => v = .pointer (some ⟨w.heap.size + 1, 3, none⟩),
      .one fun v _ => v = .agg #[.bool bb2, .slice aa2 nn2 cc2, .slice dd2 mm2 oo2],
      .one fun v W => Rw W v (p.2 * q.2),
      .one fun v W => NewRow W0.heap.size 4 (mulL p q) v W,
      .one fun v W => Sw W v (mulS p q),
      .two 21 (fun r _ W => At6 (w.heap.size + 1 + 1) 29 r W)]
    (fun W => Ext w W ∧ Sw W (.agg #[.bool b1, .slice a1 n1 c1, .slice d1 m1 o1, .bool bb1, .slice aa1 nn1 cc1, .slice dd1 mm1 oo1]) p ∧ Sw W (.agg #[.bool b2, .slice a2 n2 c2, .slice d2 m2 o2, .bool bb2, .slice aa2 nn2 cc2, .slice dd2 mm2 oo2]) q ∧ Bx6 W w.heap.size 29 (.bool b1) (.slice a1 n1 c1) (.slice d1 m1 o1) (.bool bb1) (.slice aa1 nn1 cc1) (.slice dd1 mm1 oo1) ∧ Bx6 W (w.heap.size + 1) 29 (.bool b2) (.slice a2 n2 c2) (.slice d2 m2 o2) (.bool bb2) (.slice aa2 nn2 cc2) (.slice dd2 mm2 oo2) ∧ Form W (w.heap.size + 1 + 1) 29 6 ∧ W0.heap.size ≤ W.heap.size) W0.heap.size [] [Tag.any, Tag.any, Tag.any, Tag.any, Tag.any, Tag.any, Tag.any, Tag.any, Tag.any, Tag.any, Tag.any, Tag.any, Tag.any, Tag.any, Tag.any, Tag.any, Tag.any, Tag.any, Tag.any, Tag.any, Tag.fresh, Tag.any, Tag.old (w.heap.size + 1 + 1)] ⟨Good.is _, Good.is _, Good.is _, Good.is _, Good.rat _, Good.is _, Good.is _, Good.is _, Good.is _, Good.rat _, Good.is _, Good.is _, Good.is _, Good.is _, Good.rat _, Good.is _, Good.is _, Good.is _, Good.is _, Good.rat _, tag_newrow, Good.span _, tag_at6, trivial⟩ (fun g0 hg => by simp at hg; omega)
    (fun W W1 hS hE => ⟨(Ext.trans hS.1 hE), (hS.2.1.ext hE), (hS.2.2.1.ext hE), (hS.2.2.2.1.ext hE), (hS.2.2.2.2.1.ext hE), (hS.2.2.2.2.2.1.ext hE), (Nat.le_trans hS.2.2.2.2.2.2 (Ext.size hE))⟩) ⟨E0, h1, h2, p2, p3, fp4, Nat.le_refl _⟩ (fun m hm => by simp at hm) (by kernel_rfl) (by kernel_rfl) (by kernel_rfl) (by kernel_rfl) (A := ?A9) ?hA9 ?howe9 ?hfin9
  case hA9 =>
    intro vs
    simp only [putAll, Act.put, List.setIfInBounds_toArray, List.set_cons_zero, List.set_cons_succ, Nat.zero_add, Nat.reduceAdd]
    exact rfl
  case howe9 =>
    clear E0 h1 h2 p2 p3 fp4
    intro hf
    refine ⟨owesM 0 [] hf rfl rfl (by kernel_rfl) ?_, owesM 1 [0] hf rfl rfl (by kernel_rfl) ?_, owesM 2 [] hf rfl rfl (by kernel_rfl) ?_, owesM 3 [2] hf rfl rfl (by kernel_rfl) ?_, owesM 4 [1, 3] hf rfl rfl (by kernel_rfl) ?_, owesM 5 [] hf rfl rfl (by kernel_rfl) ?_, owesM 6 [5] hf rfl rfl (by kernel_rfl) ?_, owesM 7 [] hf rfl rfl (by kernel_rfl) ?_, owesM 8 [7] hf rfl rfl (by kernel_rfl) ?_, owesM 9 [6, 8] hf rfl rfl (by kernel_rfl) ?_, owesM 10 [] hf rfl rfl (by kernel_rfl) ?_, owesM 11 [10] hf rfl rfl (by kernel_rfl) ?_, owesM 12 [] hf rfl rfl (by kernel_rfl) ?_, owesM 13 [12] hf rfl rfl (by kernel_rfl) ?_, owesM 14 [11, 13] hf rfl rfl (by kernel_rfl) ?_, owesM 15 [] hf rfl rfl (by kernel_rfl) ?_, owesM 16 [15] hf rfl rfl (by kernel_rfl) ?_, owesM 17 [] hf rfl rfl (by kernel_rfl) ?_, owesM 18 [17] hf rfl rfl (by kernel_rfl) ?_, owesM 19 [16, 18] hf rfl rfl (by kernel_rfl) ?_, owesM 20 [4, 9, 14, 19] hf rfl rfl (by kernel_rfl) ?_, owesM 21 [20] hf rfl rfl (by kernel_rfl) ?_, owesO 22 (w.heap.size + 1 + 1) [21] hf rfl (by omega) ⟨.inr trivial, .inr trivial, .inr trivial, .inr trivial, .inr trivial, .inr trivial, .inr trivial, .inr trivial, .inr trivial, .inr trivial, .inr trivial, .inr trivial, .inr trivial, .inr trivial, .inr trivial, .inr trivial, .inr trivial, .inr trivial, .inr trivial, .inr trivial, .inr trivial, .inr trivial, .inl rfl, trivial⟩ rfl (by kernel_rfl) ?_, trivial⟩
    all_goals intro vs W hS hp hx KO hKO
    all_goals simp only [Act.put, List.setIfInBounds_toArray, List.set_cons_zero, List.set_cons_succ] at hKO
    · go_simp
      exact hKO _ W (Ext.refl W) rfl
    · have e0 := isOf hp.1
      simp only [e0] at hKO
      have fc0 := hS.2.2.2.1.cell0
      have fc1 := hS.2.2.2.1.cell1
      have fc2 := hS.2.2.2.1.cell2
      go_simp
      exact hKO _ W (Ext.refl W) rfl
    · go_simp
      exact hKO _ W (Ext.refl W) rfl
    · have e2 := isOf hp.1
      simp only [e2] at hKO
      have fc0 := hS.2.2.2.2.1.cell0
      have fc1 := hS.2.2.2.2.1.cell1
      have fc2 := hS.2.2.2.2.1.cell2
      go_simp
      exact hKO _ W (Ext.refl W) rfl
    · have e1 := isOf hp.1
      have e3 := isOf hp.2.1
      simp only [e1, e3] at hKO
      go_simp
      refine (Tryz.refRMul (hS.2.1.lo) (hS.2.2.1.lo) s1.lo s2.lo (by omega)).mono ?_
      rintro e W1 ⟨v, rfl, hv, hE⟩
      exact hKO _ W1 hE hv
    · go_simp
      exact hKO _ W (Ext.refl W) rfl
    · have e5 := isOf hp.1
      simp only [e5] at hKO
      have fc0 := hS.2.2.2.1.cell0
      have fc1 := hS.2.2.2.1.cell1
      have fc2 := hS.2.2.2.1.cell2
      go_simp
      exact hKO _ W (Ext.refl W) rfl
    · go_simp
      exact hKO _ W (Ext.refl W) rfl
    · have e7 := isOf hp.1
      simp only [e7] at hKO
      have fc3 := hS.2.2.2.2.1.cell3
      have fc4 := hS.2.2.2.2.1.cell4
      have fc5 := hS.2.2.2.2.1.cell5
      go_simp
      exact hKO _ W (Ext.refl W) rfl
    · have e6 := isOf hp.1
      have e8 := isOf hp.2.1
      simp only [e6, e8] at hKO
      go_simp
      refine (Tryz.refRMul (hS.2.1.lo) (hS.2.2.1.hi) s1.lo s2.hi (by omega)).mono ?_
      rintro e W1 ⟨v, rfl, hv, hE⟩
      exact hKO _ W1 hE hv
    · go_simp
      exact hKO _ W (Ext.refl W) rfl
    · have e10 := isOf hp.1
      simp only [e10] at hKO
      have fc3 := hS.2.2.2.1.cell3
      have fc4 := hS.2.2.2.1.cell4
      have fc5 := hS.2.2.2.1.cell5
      go_simp
      exact hKO _ W (Ext.refl W) rfl
    · go_simp
      exact hKO _ W (Ext.refl W) rfl
    · have e12 := isOf hp.1
      simp only [e12] at hKO
      have fc0 := hS.2.2.2.2.1.cell0
      have fc1 := hS.2.2.2.2.1.cell1
      have fc2 := hS.2.2.2.2.1.cell2
      go_simp
      exact hKO _ W (Ext.refl W) rfl
    · have e11 := isOf hp.1
      have e13 := isOf hp.2.1
      simp only [e11, e13] at hKO
      go_simp
      refine (Tryz.refRMul (hS.2.1.hi) (hS.2.2.1.lo) s1.hi s2.lo (by omega)).mono ?_
      rintro e W1 ⟨v, rfl, hv, hE⟩
      exact hKO _ W1 hE hv
    · go_simp
      exact hKO _ W (Ext.refl W) rfl
    · have e15 := isOf hp.1
      simp only [e15] at hKO
      have fc3 := hS.2.2.2.1.cell3
      have fc4 := hS.2.2.2.1.cell4
      have fc5 := hS.2.2.2.1.cell5
      go_simp
      exact hKO _ W (Ext.refl W) rfl
    · go_simp
      exact hKO _ W (Ext.refl W) rfl
    · have e17 := isOf hp.1
      simp only [e17] at hKO
      have fc3 := hS.2.2.2.2.1.cell3
      have fc4 := hS.2.2.2.2.1.cell4
      have fc5 := hS.2.2.2.2.1.cell5
      go_simp
      exact hKO _ W (Ext.refl W) rfl
    · have e16 := isOf hp.1
      have e18 := isOf hp.2.1
      simp only [e16, e18] at hKO
      go_simp
      refine (Tryz.refRMul (hS.2.1.hi) (hS.2.2.1.hi) s1.hi s2.hi (by omega)).mono ?_
      rintro e W1 ⟨v, rfl, hv, hE⟩
      exact hKO _ W1 hE hv
    · have q4 := hp.1
      have q9 := hp.2.1
      have q14 := hp.2.2.1
      have q19 := hp.2.2.2.1
      have qr := q4
      obtain ⟨b4, a4, n4, c4, d4, m4, o4, ev4, -, -, -⟩ := qr
      replace ev4 : vs 4 = _ := ev4
      have qr := q9
      obtain ⟨b9, a9, n9, c9, d9, m9, o9, ev9, -, -, -⟩ := qr
      replace ev9 : vs 9 = _ := ev9
      have qr := q14
      obtain ⟨b14, a14, n14, c14, d14, m14, o14, ev14, -, -, -⟩ := qr
      replace ev14 : vs 14 = _ := ev14
      have qr := q19
      obtain ⟨b19, a19, n19, c19, d19, m19, o19, ev19, -, -, -⟩ := qr
      replace ev19 : vs 19 = _ := ev19
      replace q4 : Rw W (vs 4) (p.1 * q.1) := q4
      rw [ev4] at q4
      replace q9 : Rw W (vs 9) (p.1 * q.2) := q9
      rw [ev9] at q9
      replace q14 : Rw W (vs 14) (p.2 * q.1) := q14
      rw [ev14] at q14
      replace q19 : Rw W (vs 19) (p.2 * q.2) := q19
      rw [ev19] at q19
      have hE := Ext.alloc1 W (.cells #[.bool b4, .slice a4 n4 c4, .slice d4 m4 o4, .bool b9, .slice a9 n9 c9, .slice d9 m9 o9, .bool b14, .slice a14 n14 c14, .slice d14 m14 o14, .bool b19, .slice a19 n19 c19, .slice d19 m19 o19] 27)
      have hbx := BxA.new W 27 #[.bool b4, .slice a4 n4 c4, .slice d4 m4 o4, .bool b9, .slice a9 n9 c9, .slice d9 m9 o9, .bool b14, .slice a14 n14 c14, .slice d14 m14 o14, .bool b19, .slice a19 n19 c19, .slice d19 m19 o19]
      have hsz := hS.2.2.2.2.2.2
      have hrow : RowR (W.alloc (.cells #[.bool b4, .slice a4 n4 c4, .slice d4 m4 o4, .bool b9, .slice a9 n9 c9, .slice d9 m9 o9, .bool b14, .slice a14 n14 c14, .slice d14 m14 o14, .bool b19, .slice a19 n19 c19, .slice d19 m19 o19] 27)) W.heap.size (mulL p q) := fun i hi => by
        match i, hi with
        | 0, _ => exact ⟨_, _, _, _, _, _, _, hbx.cell 0 rfl, hbx.cell 1 rfl, hbx.cell 2 rfl, q4.ext hE⟩
        | 1, _ => exact ⟨_, _, _, _, _, _, _, hbx.cell 3 rfl, hbx.cell 4 rfl, hbx.cell 5 rfl, q9.ext hE⟩
        | 2, _ => exact ⟨_, _, _, _, _, _, _, hbx.cell 6 rfl, hbx.cell 7 rfl, hbx.cell 8 rfl, q14.ext hE⟩
        | 3, _ => exact ⟨_, _, _, _, _, _, _, hbx.cell 9 rfl, hbx.cell 10 rfl, hbx.cell 11 rfl, q19.ext hE⟩
      simp only [ev4, ev9, ev14, ev19] at hKO
      go_simp
      exact hKO _ _ hE ⟨_, rfl, hsz, by simp, hrow⟩
    · have q20 := hp.1
      obtain ⟨g, ev, hgB, hg, hrow⟩ := q20
      replace ev : vs 20 = _ := ev
      simp only [ev] at hKO
      go_simp
      refine (Tryz.rsAround (n := 3) hrow hg rfl (by omega) HSM.out (by omega)).mono ?_
      rintro e W1 ⟨v, rfl, hv, hE⟩
      exact hKO _ W1 hE hv
    · have q21 := hp.1
      have hf := hS.2.2.2.2.2.1
      obtain ⟨x0_0, x0_1, x0_2, x0_3, x0_4, x0_5, hx, hno⟩ := hf.bx6
      have qr := q21
      obtain ⟨b3, a3, n3, c3, d3, m3, o3, bb3, aa3, nn3, cc3, dd3, mm3, oo3, er, -, -⟩ := qr
      replace er : vs 21 = _ := er
      have r0 := hx.froz0
      have t0 := hx.cell0
      have r1 := hx.froz1
      have t1 := hx.cell1
      have r2 := hx.froz2
      have t2 := hx.cell2
      have r3 := hx.froz3
      have t3 := hx.cell3
      have r4 := hx.froz4
      have t4 := hx.cell4
      have r5 := hx.froz5
      have t5 := hx.cell5
      have hw := Wr.set6 hx hno b3 a3 n3 c3 d3 m3 o3 bb3 aa3 nn3 cc3 dd3 mm3 oo3
      have hq := hx.set (.bool b3) (.slice a3 n3 c3) (.slice d3 m3 o3) (.bool bb3) (.slice aa3 nn3 cc3) (.slice dd3 mm3 oo3)
      have hg : (w.heap.size + 1 + 1) ≤ (w.heap.size + 1 + 1) := Nat.le_refl _
      simp only [er] at hKO
      go_simp
      exact hKO _ hw ⟨(Ext.wr hS.1 hw (by omega)), (hS.2.1.wr hw), (hS.2.2.1.wr hw), (hS.2.2.2.1.wr hw (by omega)), (hS.2.2.2.2.1.wr hw (by omega)), (hS.2.2.2.2.2.1.wr hw), (Nat.le_trans hS.2.2.2.2.2.2 hw.apart.size)⟩ ⟨b3, a3, n3, c3, d3, m3, o3, bb3, aa3, nn3, cc3, dd3, mm3, oo3, er, hq⟩
  intro vs W9 hS hM hp
  clear szw9 E0 h1 h2 p2 p3 fp4
  obtain ⟨E0, h1, h2, p2, p3, fp4, sz9⟩ := hS
  obtain ⟨h9_0, h9_1, h9_2, h9_3, h9_4, h9_5, h9_6, h9_7, h9_8, h9_9, h9_10, h9_11, h9_12, h9_13, h9_14, h9_15, h9_16, h9_17, h9_18, h9_19, h9_20, h9_21, h9_22, -⟩ := hp
  obtain ⟨b9_22, a9_22, n9_22, c9_22, d9_22, m9_22, o9_22, bb9_22, aa9_22, nn9_22, cc9_22, dd9_22, mm9_22, oo9_22, er9_22, p9_22⟩ := h9_22
  replace er9_22 : vs 21 = _ := er9_22
  replace h9_21 := (show Sw W9 (vs 21) (mulS p q) from h9_21)
  rw [er9_22] at h9_21
  skip
  replace h9_0 : vs 0 = .pointer (some ⟨w.heap.size, 0, none⟩) := h9_0
  replace h9_1 : vs 1 = .agg #[.bool b1, .slice a1 n1 c1, .slice d1 m1 o1] := h9_1
  replace h9_2 : vs 2 = .pointer (some ⟨w.heap.size + 1, 0, none⟩) := h9_2
  replace h9_3 : vs 3 = .agg #[.bool b2, .slice a2 n2 c2, .slice d2 m2 o2] := h9_3
  replace h9_5 : vs 5 = .pointer (some ⟨w.heap.size, 0, none⟩) := h9_5
  replace h9_6 : vs 6 = .agg #[.bool b1, .slice a1 n1 c1, .slice d1 m1 o1] := h9_6
  replace h9_7 : vs 7 = .pointer (some ⟨w.heap.size + 1, 3, none⟩) := h9_7
  replace h9_8 : vs 8 = .agg #[.bool bb2, .slice aa2 nn2 cc2, .slice dd2 mm2 oo2] := h9_8
  replace h9_10 : vs 10 = .pointer (some ⟨w.heap.size, 3, none⟩) := h9_10
  replace h9_11 : vs 11 = .agg #[.bool bb1, .slice aa1 nn1 cc1, .slice dd1 mm1 oo1] := h9_11
  replace h9_12 : vs 12 = .pointer (some ⟨w.heap.size + 1, 0, none⟩) := h9_12
  replace h9_13 : vs 13 = .agg #[.bool b2, .slice a2 n2 c2, .slice d2 m2 o2] := h9_13
  replace h9_15 : vs 15 = .pointer (some ⟨w.heap.size, 3, none⟩) := h9_15
  replace h9_16 : vs 16 = .agg #[.bool bb1, .slice aa1 nn1 cc1, .slice dd1 mm1 oo1] := h9_16
  replace h9_17 : vs 17 = .pointer (some ⟨w.heap.size + 1, 3, none⟩) := h9_17
  replace h9_18 : vs 18 = .agg #[.bool bb2, .slice aa2 nn2 cc2, .slice dd2 mm2 oo2] := h9_18
  clear hM
  simp only [er9_22, h9_0, h9_1, h9_2, h9_3, h9_5, h9_6, h9_7, h9_8, h9_10, h9_11, h9_12, h9_13, h9_15, h9_16, h9_17, h9_18]
  replace h9_4 : Rw W9 (vs 4) (p.1 * q.1) := h9_4
  generalize vs 4 = u9_4 at h9_4 ⊢
  replace h9_9 : Rw W9 (vs 9) (p.1 * q.2) := h9_9
  generalize vs 9 = u9_9 at h9_9 ⊢
  replace h9_14 : Rw W9 (vs 14) (p.2 * q.1) := h9_14
  generalize vs 14 = u9_14 at h9_14 ⊢
  replace h9_19 : Rw W9 (vs 19) (p.2 * q.2) := h9_19
  generalize vs 19 = u9_19 at h9_19 ⊢
  clear er9_22 h9_0 h9_1 h9_2 h9_3 h9_5 h9_6 h9_7 h9_8 h9_10 h9_11 h9_12 h9_13 h9_15 h9_16 h9_17 h9_18 h9_20
  have kp2_0 := p2.cell0
  have kp2_1 := p2.cell1
  have kp2_2 := p2.cell2
  have kp2_3 := p2.cell3
  have kp2_4 := p2.cell4
  have kp2_5 := p2.cell5
  have kp3_0 := p3.cell0
  have kp3_1 := p3.cell1
  have kp3_2 := p3.cell2
  have kp3_3 := p3.cell3
  have kp3_4 := p3.cell4
  have kp3_5 := p3.cell5
  have kp9_22_0 := p9_22.cell0
  have kp9_22_1 := p9_22.cell1
  have kp9_22_2 := p9_22.cell2
  have kp9_22_3 := p9_22.cell3
  have kp9_22_4 := p9_22.cell4
  have kp9_22_5 := p9_22.cell5
  go_wp2
  exact bodyPost_ret (v := .agg #[.bool b9_22, .slice a9_22 n9_22 c9_22, .slice d9_22 m9_22 o9_22, .bool bb9_22, .slice aa9_22 nn9_22 cc9_22, .slice dd9_22 mm9_22 oo9_22]) (by simp [results, Tryz.results34, go_sem, kp9_22_0, kp9_22_1, kp9_22_2, kp9_22_3, kp9_22_4, kp9_22_5]) rfl ⟨_, rfl, h9_21, E0⟩

end Go.Rt
