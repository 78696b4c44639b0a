/-
  The laws of chapter 05 (fractions): their walks.
-/
import Derived.Test.YtepidkmahladpaaZCmp
namespace Go.Rt
open Go.RowKit Go.Proofs

theorem Try.refRSameT {v1 v2 : Value} {x y : Rat} {w : World} (h1 : Rw w v1 x) (h2 : Rw w v2 y) (e : x = y) : Calls Try.prog 57 #[v1, v2] w fun e w' => e = .returned (.bool true) ∧ Ext w w' := by
  have := Try.refRSame h1 h2
  rwa [decide_eq_true e] at this

/-- which is greater -/
def cmpR (x y : Rat) : Int := if x < y then -1 else if y < x then 1 else 0

theorem Try.ratCmpR {v1 v2 : Value} {x y : Rat} {L : Nat} {w : World} (h1 : Rw w v1 x) (h2 : Rw w v2 y) (s1 : SmR L x) (s2 : SmR L y) (hL : L ≤ 1000) {c : Int} (hc : cmpR x y = c) :
    Calls Try.prog 66 #[v1, v2] w fun e w' => e = .returned (.int .i64 c) ∧ Ext w w' := by subst hc; exact Try.ratCmp h1 h2 s1 s2 (by omega)

theorem Try.refRCmpR {v1 v2 : Value} {x y : Rat} {L : Nat} {w : World} (h1 : Rw w v1 x) (h2 : Rw w v2 y) (s1 : SmR L x) (s2 : SmR L y) (hL : L ≤ 1000) {c : Int} (hc : cmpR x y = c) :
    Calls Try.prog 33 #[v1, v2] w fun e w' => e = .returned (.int .i64 c) ∧ Ext w w' := by subst hc; exact Try.refRCmp h1 h2 s1.1 s1.2 s2.1 s2.2 (by omega)

theorem rw_right {W : World} {b : Bool} {a : Option Addr} {n c : Nat} {a' : Option Addr} {n' c' L : Nat} {x : Rat} (h : Rw W (.agg #[.bool b, .slice a n c, .slice a' n' c']) x) (s : SmR L x) :
    ∃ xs ys, Nt W (.slice a n c) xs ∧ Nt W (.slice a' n' c') ys ∧ n ≤ L ∧ n' ≤ L ∧ rightR b xs ys = true := by
  obtain ⟨xs, h1, h2, h3, l1⟩ := h.top.num.lens s.1
  obtain ⟨ys, k1, k2, k3, l2⟩ := h.den.lens s.2
  have e1 := h1.slice
  have e2 := k1.slice
  refine ⟨xs, ys, h1, k1, by omega, by omega, ?_⟩
  have hb := h.top.neg.out
  have hy : 0 < ys.length := by
    have := (Norm.zero_iff B64_pos k2)
    have := x.den_nz
    omega
  have hg : Nat.gcd (ev B64 xs) (ev B64 ys) = 1 := by rw [h3, k3]; exact x.reduced
  unfold rightR rightZ
  rw [normB_iff.2 h2, normB_iff.2 k2, decide_eq_true hy, decide_eq_true hg, hb]
  have hz := Norm.zero_iff B64_pos h2
  by_cases hx : x.num < 0
  · rw [decide_eq_true hx, decide_eq_true (by omega)]; rfl
  · rw [decide_eq_false hx]; simp

theorem Try.ratRightT {v : Value} {L : Nat} {x : Rat} {w : World} (h : Rw w v x) (s : SmR L x) (hL : L ≤ 300) : Calls Try.prog 55 #[v] w fun e w' => e = .returned (.bool true) ∧ Ext w w' := by
  have h' := h
  obtain ⟨b, a, n, c, a', n', c', rfl, -⟩ := h
  obtain ⟨xs, ys, h1, h2, l1, l2, hr⟩ := rw_right h' s
  have := Try.ratRight (b1 := b) h1 h2 l1 l2 hL
  rwa [hr] at this

theorem Try.refRRightT {v : Value} {L : Nat} {x : Rat} {w : World} (h : Rw w v x) (s : SmR L x) (hL : L ≤ 300) : Calls Try.prog 56 #[v] w fun e w' => e = .returned (.bool true) ∧ Ext w w' := by
  have h' := h
  obtain ⟨b, a, n, c, a', n', c', rfl, -⟩ := h
  obtain ⟨xs, ys, h1, h2, l1, l2, hr⟩ := rw_right h' s
  have := Try.refRRight (b1 := b) h1 h2 l1 l2 hL
  rwa [hr] at this

theorem Rw.zero0 (W : World) : Zw W (.agg #[.bool false, .slice none 0 0]) 0 := ⟨false, none, 0, 0, rfl, Lib.hid rfl, Nw.nil W⟩

set_option maxRecDepth 100000 in
set_option maxHeartbeats 400000 in
theorem Try.refRSame0 (w : World) : Calls Try.prog 57 #[.agg #[.bool false, .slice none 0 0, .slice none 0 0], .agg #[.bool false, .slice none 0 0, .slice none 0 0]] w fun e w' => e = .returned (.bool true) ∧ Ext w w' := by
  have hz := Rw.zero0 w
  have hn := Nw.nil w
  obtain ⟨W0, hW0⟩ : ∃ W0, W0 = ((w.alloc (.cells #[.bool false, .slice none 0 0, .slice none 0 0] 35)).alloc (.cells #[.bool false, .slice none 0 0, .slice none 0 0] 35)) := ⟨_, rfl⟩
  have E0 : Ext w W0 := by rw [hW0]; exact ((Ext.alloc1 w (.cells #[.bool false, .slice none 0 0, .slice none 0 0] 35)).alloc (.cells #[.bool false, .slice none 0 0, .slice none 0 0] 35))
  replace hz : Zw W0 (.agg #[.bool false, .slice none 0 0]) 0 := hz.ext E0
  replace hn : Nw W0 (.slice none 0 0) 0 := hn.ext E0
  have p2 : Bx3 W0 w.heap.size 35 (.bool false) (.slice none 0 0) (.slice none 0 0) := by rw [hW0]; exact (Bx3.new w 35 (.bool false) (.slice none 0 0) (.slice none 0 0)).ext (Ext.alloc1 (w.alloc (.cells #[.bool false, .slice none 0 0, .slice none 0 0] 35)) (.cells #[.bool false, .slice none 0 0, .slice none 0 0] 35))
  have p3 : Bx3 W0 (w.heap.size + 1) 35 (.bool false) (.slice none 0 0) (.slice none 0 0) := by rw [hW0]; simpa using (Bx3.new (w.alloc (.cells #[.bool false, .slice none 0 0, .slice none 0 0] 35)) 35 (.bool false) (.slice none 0 0) (.slice none 0 0))
  go_enter Try.func57, Try.ntmps57
  have kp2_0 := p2.cell0
  have kp2_1 := p2.cell1
  have kp2_2 := p2.cell2
  have kp3_0 := p3.cell0
  have kp3_1 := p3.cell1
  have kp3_2 := p3.cell2
  go_wp2_with fail
  rw [← hW0]
  clear hW0
  clear kp2_0 kp2_1 kp2_2 kp3_0 kp3_1 kp3_2
  refine (Try.refZSame hz hz).mono ?_
  rintro e Wa ⟨rfl, hE⟩
  rw [show decide ((0 : Int) = 0) = true from rfl]
  replace E0 : Ext w Wa := (Ext.trans E0 hE)
  replace hz : Zw Wa (.agg #[.bool false, .slice none 0 0]) 0 := (hz.ext hE)
  replace hn : Nw Wa (.slice none 0 0) 0 := (hn.ext hE)
  replace p2 : Bx3 Wa w.heap.size 35 (.bool false) (.slice none 0 0) (.slice none 0 0) := (p2.ext hE)
  replace p3 : Bx3 Wa (w.heap.size + 1) 35 (.bool false) (.slice none 0 0) (.slice none 0 0) := (p3.ext hE)
  clear hE
  have kp2_0 := p2.cell0
  have kp2_1 := p2.cell1
  have kp2_2 := p2.cell2
  have kp3_0 := p3.cell0
  have kp3_1 := p3.cell1
  have kp3_2 := p3.cell2
  go_wp2_with fail
  clear kp2_0 kp2_1 kp2_2 kp3_0 kp3_1 kp3_2
  refine (Try.refSame hn hn).mono ?_
  rintro e Wb ⟨rfl, hE⟩
  rw [show decide ((0 : Nat) = 0) = true from rfl]
  replace E0 : Ext w Wb := (Ext.trans E0 hE)
  replace hz : Zw Wb (.agg #[.bool false, .slice none 0 0]) 0 := (hz.ext hE)
  replace hn : Nw Wb (.slice none 0 0) 0 := (hn.ext hE)
  replace p2 : Bx3 Wb w.heap.size 35 (.bool false) (.slice none 0 0) (.slice none 0 0) := (p2.ext hE)
  replace p3 : Bx3 Wb (w.heap.size + 1) 35 (.bool false) (.slice none 0 0) (.slice none 0 0) := (p3.ext hE)
  clear hE
  have kp2_0 := p2.cell0
  have kp2_1 := p2.cell1
  have kp2_2 := p2.cell2
  have kp3_0 := p3.cell0
  have kp3_1 := p3.cell1
  have kp3_2 := p3.cell2
  go_wp2
  go_ret
  exact ⟨rfl, E0⟩

set_option maxRecDepth 100000 in
set_option maxHeartbeats 1000000 in
theorem Try.alive05 (w : World) : Calls Try.prog 51 #[] w fun e w' => e = .returned (.bool true) ∧ Ext w w' := by
  obtain ⟨A, hA⟩ : ∃ A : Rat, A = mkRat (-6) 4 := ⟨_, rfl⟩
  have HA := Lib.hid hA
  have SA : Hid (SmR 1 A) := Lib.hid (by rw [hA]; exact SmR.mk (Sm.small (by omega)) (Sm.small (by omega)) (by omega))
  have S6 : Hid (Sm 1 ((-6 : Int).natAbs)) := Lib.hid (Sm.small (by omega))
  have S4 : Hid (Sm 1 4) := Lib.hid (Sm.small (by omega))
  have S2 : Hid (SmR 1 ((2 : Int) : Rat)) := Lib.hid (SmR.int (by omega))
  have SB : Hid (SmR 3 (A + ((2 : Int) : Rat))) := Lib.hid (SA.out.add S2.out)
  have HC : Hid (cmpR A (A + ((2 : Int) : Rat)) = -1) := Lib.hid (by unfold cmpR; rw [if_pos (by rw [show ((2 : Int) : Rat) = 2 from rfl]; grind)])
  have HF1 : Hid (A = mkRat (-3) (2 : Int).natAbs) := Lib.hid (by rw [hA, Rat.mkRat_eq_div, Rat.mkRat_eq_div]; rw [show ((2 : Int).natAbs) = 2 from rfl]; decide +kernel)
  have HF2 : Hid (A + ((2 : Int) : Rat) = mkRat 1 (2 : Int).natAbs) := Lib.hid (by rw [hA]; decide +kernel)
  clear hA
  obtain ⟨W0, hW0⟩ : ∃ W0, W0 = w := ⟨_, rfl⟩
  have E0 : Ext w W0 := by rw [hW0]; exact Ext.refl w
  go_enter Try.func51, Try.ntmps51
  go_upto_region 1 with (fail)
  rw [← hW0]
  clear hW0
  have szw1 := Ext.size E0
  refine region_go [.one fun v W => Nw W v 6,
      .one fun v W => Zw W v ((-6)),
      .one fun v W => Nw W v 4,
      .one fun v W => ∃ v', v = .tuple #[v', .int .i64 0] ∧ (fun v W => Rw W v A) v' W,
      .one fun v W => ∃ v', v = .tuple #[v', .int .i64 0] ∧ (fun v W => Rw W v A) v' W,
      .one fun v W => Rw W v A,
      .one fun v _ => v = .int .i64 0,
      .one fun v W => ∃ g, v = .pointer (some ⟨g, 0, none⟩) ∧ W0.heap.size ≤ g ∧ Form W g 35 3,
      .three 7 5 (fun p r _ W => Put3 W0.heap.size 35 p r W),
      .one fun v _ => v = .int .i64 0]
    (fun W => Ext w W ∧ W0.heap.size ≤ W.heap.size) ⟨Good.num _, Good.zed _, Good.num _, (Good.rat _).tup _, (Good.rat _).tup _, Good.rat _, Good.is _, Good.box _ _ _, cert_put3, Good.is _, trivial⟩
    (fun W W1 hS hE => ⟨(Ext.trans hS.1 hE), (Nat.le_trans hS.2 (Ext.size hE))⟩) ⟨E0, Nat.le_refl _⟩ (by kernel_rfl) (by kernel_rfl) (by kernel_rfl) (by kernel_rfl) (A := ?A1) ?hA1 ?howe1 ?hfin1
  case hA1 =>
    intro vs
    simp only [putAll, Act.put, List.setIfInBounds_toArray, List.set_cons_zero, List.set_cons_succ, Nat.zero_add, Nat.reduceAdd]
    exact rfl
  case howe1 =>
    clear E0
    intro hf
    refine ⟨owesE 0 [] hf rfl (by kernel_rfl) ?_, owesE 1 [0] hf rfl (by kernel_rfl) ?_, owesE 2 [] hf rfl (by kernel_rfl) ?_, owesE 3 [1, 2] hf rfl (by kernel_rfl) ?_, owesE 4 [3] hf rfl (by kernel_rfl) ?_, owesE 5 [4] hf rfl (by kernel_rfl) ?_, owesE 6 [4] hf rfl (by kernel_rfl) ?_, owesE 7 [] hf rfl (by kernel_rfl) ?_, owesW 8 [7, 5] hf rfl (by kernel_rfl) (by kernel_rfl) ?_, owesE 9 [6] hf rfl (by kernel_rfl) ?_, trivial⟩
    all_goals intro vs W hS hp hx KO hKO
    all_goals simp only [Act.put, List.setIfInBounds_toArray, List.set_cons_zero, List.set_cons_succ] at hKO
    · have hE := Ext.alloc1 W (.cells #[.int .u64 6] 53)
      have hn := Nw.lit1 W 6 53 (by rw [B64_eq]; omega) (by omega)
      go_simp
      exact hKO _ _ hE hn
    · have q0 := hp.1
      have ev0 := q0
      obtain ⟨a0, n0, c0, ev0⟩ := Nw.slice (show Nw W (vs 0) 6 from q0)
      replace q0 : Nw W (vs 0) 6 := q0
      rw [ev0] at q0
      replace ev0 : vs 0 = _ := ev0
      simp only [ev0] at hKO
      go_simp
      exact hKO _ W (Ext.refl W) ⟨true, a0, n0, c0, rfl, Lib.hid rfl, q0⟩
    · have hE := Ext.alloc1 W (.cells #[.int .u64 4] 53)
      have hn := Nw.lit1 W 4 53 (by rw [B64_eq]; omega) (by omega)
      go_simp
      exact hKO _ _ hE hn
    · have q1 := hp.1
      have q2 := hp.2.1
      go_simp
      refine (Try.ratMake q1 q2 S6.out S4.out (by omega) (by omega)).mono ?_
      rintro e W1 ⟨v, rfl, hv, hE⟩
      rw [← HA.out] at hv
      exact hKO _ W1 hE ⟨_, rfl, hv⟩
    · have q3 := hp.1
      obtain ⟨u, ev, hu⟩ := q3
      replace ev : vs 3 = _ := ev
      simp only [ev] at hKO
      go_simp
      exact hKO _ W (Ext.refl W) ⟨u, rfl, hu⟩
    · have q4 := hp.1
      obtain ⟨u, ev, hu⟩ := q4
      replace ev : vs 4 = _ := ev
      simp only [ev] at hKO
      go_simp
      exact hKO _ W (Ext.refl W) hu
    · have q4 := hp.1
      obtain ⟨u, ev, hu⟩ := q4
      replace ev : vs 4 = _ := ev
      simp only [ev] at hKO
      go_simp
      exact hKO _ W (Ext.refl W) rfl
    · have hn := Bx3.new W 35 (.bool false) (.slice none 0 0) (.slice none 0 0)
      have hE := Ext.alloc1 W (.cells #[.bool false, .slice none 0 0, .slice none 0 0] 35)
      have hsz := hS.2
      go_simp
      exact hKO _ _ hE ⟨_, rfl, hsz, hn.form⟩
    · have q7 := hp.1
      have q5 := hp.2.1
      obtain ⟨g, ev, hg, hf⟩ := q7
      replace ev : vs 7 = _ := ev
      obtain ⟨x0, y0, z0, hx, hno⟩ := hf.bx3
      have qr := q5
      obtain ⟨b3, a3, n3, c3, d3, m3, o3, er, -, -, -⟩ := qr
      replace er : vs 5 = _ := er
      have r0 := hx.froz0
      have t0 := hx.cell0
      have r1 := hx.froz1
      have t1 := hx.cell1
      have r2 := hx.froz2
      have t2 := hx.cell2
      have hw := Wr.set3 hx hno b3 a3 n3 c3 d3 m3 o3
      have hq := hx.set (.bool b3) (.slice a3 n3 c3) (.slice d3 m3 o3)
      simp only [ev, er] at hKO
      go_simp
      exact hKO _ _ hw ⟨(Ext.wr hS.1 hw (by omega)), (Nat.le_trans hS.2 hw.apart.size)⟩ ⟨g, b3, a3, n3, c3, d3, m3, o3, ev, er, hg, hq⟩
    · have e6 := isOf hp.1
      simp only [e6] at hKO
      go_simp
      exact hKO _ W (Ext.refl W) rfl
  intro vs W1 hS hp
  clear szw1 E0
  obtain ⟨E0, sz1⟩ := hS
  obtain ⟨h1_0, h1_1, h1_2, h1_3, h1_4, h1_5, h1_6, h1_7, h1_8, h1_9, -⟩ := hp
  obtain ⟨g1_8, b1_8, a1_8, n1_8, c1_8, d1_8, m1_8, o1_8, ev1_8, er1_8, hg1_8, p1_8⟩ := h1_8
  replace ev1_8 : vs 7 = _ := ev1_8
  replace er1_8 : vs 5 = _ := er1_8
  replace h1_5 := (show Rw W1 (vs 5) A from h1_5)
  rw [er1_8] at h1_5
  replace h1_6 : vs 6 = .int .i64 0 := h1_6
  replace h1_9 : vs 9 = .int .i64 0 := h1_9
  simp only [ev1_8, er1_8, h1_6, h1_9]
  replace h1_0 : Nw W1 (vs 0) 6 := h1_0
  generalize vs 0 = u1_0 at h1_0 ⊢
  replace h1_1 : Zw W1 (vs 1) ((-6)) := h1_1
  generalize vs 1 = u1_1 at h1_1 ⊢
  replace h1_2 : Nw W1 (vs 2) 4 := h1_2
  generalize vs 2 = u1_2 at h1_2 ⊢
  clear ev1_8 er1_8 h1_6 h1_9 h1_3 h1_4 h1_7
  have hz0 := Rw.zero0 W1
  have hn0 := Nw.nil W1
  have kp1_8_0 := p1_8.cell0
  have kp1_8_1 := p1_8.cell1
  have kp1_8_2 := p1_8.cell2
  go_upto_region 2 with (fail)
  clear kp1_8_0 kp1_8_1 kp1_8_2
  have ltp1_8 := p1_8.lt
  have szw2 := Ext.size E0
  refine region_go [.one fun v _ => v = .agg #[.bool false, .slice none 0 0],
      .one fun v _ => v = .tuple #[.agg #[.bool false, .slice none 0 0, .slice none 0 0], .int .i64 4],
      .one fun v _ => v = .tuple #[.agg #[.bool false, .slice none 0 0, .slice none 0 0], .int .i64 4],
      .one fun v _ => v = .agg #[.bool false, .slice none 0 0, .slice none 0 0],
      .one fun v _ => v = .int .i64 4,
      .one fun v W => ∃ g, v = .pointer (some ⟨g, 0, none⟩) ∧ W1.heap.size ≤ g ∧ Form W g 35 3,
      .two 5 (fun p _ W => New3 W1.heap.size 35 (.bool false) (.slice none 0 0) (.slice none 0 0) p W),
      .one fun v _ => v = .int .i64 4]
    (fun W => Ext w W ∧ Rw W (.agg #[.bool b1_8, .slice a1_8 n1_8 c1_8, .slice d1_8 m1_8 o1_8]) A ∧ Bx3 W g1_8 35 (.bool b1_8) (.slice a1_8 n1_8 c1_8) (.slice d1_8 m1_8 o1_8) ∧ Nw W u1_0 6 ∧ Zw W u1_1 ((-6)) ∧ Nw W u1_2 4 ∧ Zw W (.agg #[.bool false, .slice none 0 0]) 0 ∧ Nw W (.slice none 0 0) 0 ∧ W1.heap.size ≤ W.heap.size) ⟨Good.is _, Good.is _, Good.is _, Good.is _, Good.is _, Good.box _ _ _, cert_new3, Good.is _, trivial⟩
    (fun W W1 hS hE => ⟨(Ext.trans hS.1 hE), (hS.2.1.ext hE), (hS.2.2.1.ext hE), (hS.2.2.2.1.ext hE), (hS.2.2.2.2.1.ext hE), (hS.2.2.2.2.2.1.ext hE), (hS.2.2.2.2.2.2.1.ext hE), (hS.2.2.2.2.2.2.2.1.ext hE), (Nat.le_trans hS.2.2.2.2.2.2.2.2 (Ext.size hE))⟩) ⟨E0, h1_5, p1_8, h1_0, h1_1, h1_2, hz0, hn0, Nat.le_refl _⟩ (by kernel_rfl) (by kernel_rfl) (by kernel_rfl) (by kernel_rfl) (A := ?A2) ?hA2 ?howe2 ?hfin2
  case hA2 =>
    intro vs
    simp only [putAll, Act.put, List.setIfInBounds_toArray, List.set_cons_zero, List.set_cons_succ, Nat.zero_add, Nat.reduceAdd]
    exact rfl
  case howe2 =>
    clear E0 h1_5 p1_8 h1_0 h1_1 h1_2 hz0 hn0
    intro hf
    refine ⟨owesE 0 [] hf rfl (by kernel_rfl) ?_, owesE 1 [0] hf rfl (by kernel_rfl) ?_, owesE 2 [1] hf rfl (by kernel_rfl) ?_, owesE 3 [2] hf rfl (by kernel_rfl) ?_, owesE 4 [2] hf rfl (by kernel_rfl) ?_, owesE 5 [] hf rfl (by kernel_rfl) ?_, owesW 6 [5, 3] hf rfl (by kernel_rfl) (by kernel_rfl) ?_, owesE 7 [4] hf rfl (by kernel_rfl) ?_, trivial⟩
    all_goals intro vs W hS hp hx KO hKO
    all_goals simp only [Act.put, List.setIfInBounds_toArray, List.set_cons_zero, List.set_cons_succ] at hKO
    · go_simp
      exact hKO _ W (Ext.refl W) rfl
    · have e0 := isOf hp.1
      simp only [e0] at hKO
      go_simp
      refine (Try.ratMake0 (hS.2.2.2.2.2.2.1) (hS.2.2.2.2.2.2.2.1)).mono ?_
      rintro e W1 ⟨rfl, hE⟩
      exact hKO _ W1 hE rfl
    · have e1 := isOf hp.1
      simp only [e1] at hKO
      go_simp
      exact hKO _ W (Ext.refl W) rfl
    · have e2 := isOf hp.1
      simp only [e2] at hKO
      go_simp
      exact hKO _ W (Ext.refl W) rfl
    · have e2 := isOf hp.1
      simp only [e2] at hKO
      go_simp
      exact hKO _ W (Ext.refl W) rfl
    · have hn := Bx3.new W 35 (.bool false) (.slice none 0 0) (.slice none 0 0)
      have hE := Ext.alloc1 W (.cells #[.bool false, .slice none 0 0, .slice none 0 0] 35)
      have hsz := hS.2.2.2.2.2.2.2.2
      go_simp
      exact hKO _ _ hE ⟨_, rfl, hsz, hn.form⟩
    · have q5 := hp.1
      have e3 := isOf hp.2.1
      simp only [e3] at hKO
      obtain ⟨g, ev, hg, hf⟩ := q5
      replace ev : vs 5 = _ := ev
      obtain ⟨x0, y0, z0, hx, hno⟩ := hf.bx3
      have r0 := hx.froz0
      have t0 := hx.cell0
      have r1 := hx.froz1
      have t1 := hx.cell1
      have r2 := hx.froz2
      have t2 := hx.cell2
      have hw := Wr.set3 hx hno false none 0 0 none 0 0
      have hq := hx.set (.bool false) (.slice none 0 0) (.slice none 0 0)
      simp only [ev] at hKO
      go_simp
      exact hKO _ _ hw ⟨(Ext.wr hS.1 hw (by omega)), (hS.2.1.wr hw), (hS.2.2.1.wr hw (by omega)), (hS.2.2.2.1.wr hw), (hS.2.2.2.2.1.wr hw), (hS.2.2.2.2.2.1.wr hw), (hS.2.2.2.2.2.2.1.wr hw), (hS.2.2.2.2.2.2.2.1.wr hw), (Nat.le_trans hS.2.2.2.2.2.2.2.2 hw.apart.size)⟩ ⟨g, ev, hg, hq⟩
    · have e4 := isOf hp.1
      simp only [e4] at hKO
      go_simp
      exact hKO _ W (Ext.refl W) rfl
  intro vs W2 hS hp
  clear szw2 E0 h1_5 p1_8 h1_0 h1_1 h1_2 hz0 hn0
  obtain ⟨E0, h1_5, p1_8, h1_0, h1_1, h1_2, hz0, hn0, sz2⟩ := hS
  obtain ⟨h2_0, h2_1, h2_2, h2_3, h2_4, h2_5, h2_6, h2_7, -⟩ := hp
  obtain ⟨g2_6, ev2_6, hg2_6, p2_6⟩ := h2_6
  replace ev2_6 : vs 5 = _ := ev2_6
  replace h2_0 : vs 0 = .agg #[.bool false, .slice none 0 0] := h2_0
  replace h2_1 : vs 1 = .tuple #[.agg #[.bool false, .slice none 0 0, .slice none 0 0], .int .i64 4] := h2_1
  replace h2_2 : vs 2 = .tuple #[.agg #[.bool false, .slice none 0 0, .slice none 0 0], .int .i64 4] := h2_2
  replace h2_3 : vs 3 = .agg #[.bool false, .slice none 0 0, .slice none 0 0] := h2_3
  replace h2_4 : vs 4 = .int .i64 4 := h2_4
  replace h2_7 : vs 7 = .int .i64 4 := h2_7
  simp only [ev2_6, h2_0, h2_1, h2_2, h2_3, h2_4, h2_7]
  clear ev2_6 h2_0 h2_1 h2_2 h2_3 h2_4 h2_7 h2_5
  have kp1_8_0 := p1_8.cell0
  have kp1_8_1 := p1_8.cell1
  have kp1_8_2 := p1_8.cell2
  have kp2_6_0 := p2_6.cell0
  have kp2_6_1 := p2_6.cell1
  have kp2_6_2 := p2_6.cell2
  go_upto_region 3 with (fail)
  clear kp1_8_0 kp1_8_1 kp1_8_2 kp2_6_0 kp2_6_1 kp2_6_2
  have ltp2_6 := p2_6.lt
  have szw3 := Ext.size E0
  refine region_go [.one fun v _ => v = .agg #[.bool b1_8, .slice a1_8 n1_8 c1_8, .slice d1_8 m1_8 o1_8],
      .one fun v W => Rw W v (((2 : Int) : Rat)),
      .one fun v W => Rw W v (A + ((2 : Int) : Rat)),
      .one fun v W => ∃ g, v = .pointer (some ⟨g, 0, none⟩) ∧ W2.heap.size ≤ g ∧ Form W g 35 3,
      .three 3 2 (fun p r _ W => Put3 W2.heap.size 35 p r W)]
    (fun W => Ext w W ∧ Rw W (.agg #[.bool b1_8, .slice a1_8 n1_8 c1_8, .slice d1_8 m1_8 o1_8]) A ∧ Bx3 W g1_8 35 (.bool b1_8) (.slice a1_8 n1_8 c1_8) (.slice d1_8 m1_8 o1_8) ∧ Nw W u1_0 6 ∧ Zw W u1_1 ((-6)) ∧ Nw W u1_2 4 ∧ Zw W (.agg #[.bool false, .slice none 0 0]) 0 ∧ Nw W (.slice none 0 0) 0 ∧ Bx3 W g2_6 35 (.bool false) (.slice none 0 0) (.slice none 0 0) ∧ W2.heap.size ≤ W.heap.size) ⟨Good.is _, Good.rat _, Good.rat _, Good.box _ _ _, cert_put3, trivial⟩
    (fun W W1 hS hE => ⟨(Ext.trans hS.1 hE), (hS.2.1.ext hE), (hS.2.2.1.ext hE), (hS.2.2.2.1.ext hE), (hS.2.2.2.2.1.ext hE), (hS.2.2.2.2.2.1.ext hE), (hS.2.2.2.2.2.2.1.ext hE), (hS.2.2.2.2.2.2.2.1.ext hE), (hS.2.2.2.2.2.2.2.2.1.ext hE), (Nat.le_trans hS.2.2.2.2.2.2.2.2.2 (Ext.size hE))⟩) ⟨E0, h1_5, p1_8, h1_0, h1_1, h1_2, hz0, hn0, p2_6, Nat.le_refl _⟩ (by kernel_rfl) (by kernel_rfl) (by kernel_rfl) (by kernel_rfl) (A := ?A3) ?hA3 ?howe3 ?hfin3
  case hA3 =>
    intro vs
    simp only [putAll, Act.put, List.setIfInBounds_toArray, List.set_cons_zero, List.set_cons_succ, Nat.zero_add, Nat.reduceAdd]
    exact rfl
  case howe3 =>
    clear E0 h1_5 p1_8 h1_0 h1_1 h1_2 hz0 hn0 p2_6
    intro hf
    refine ⟨owesE 0 [] hf rfl (by kernel_rfl) ?_, owesE 1 [] hf rfl (by kernel_rfl) ?_, owesE 2 [0, 1] hf rfl (by kernel_rfl) ?_, owesE 3 [] hf rfl (by kernel_rfl) ?_, owesW 4 [3, 2] hf rfl (by kernel_rfl) (by kernel_rfl) ?_, trivial⟩
    all_goals intro vs W hS hp hx KO hKO
    all_goals simp only [Act.put, List.setIfInBounds_toArray, List.set_cons_zero, List.set_cons_succ] at hKO
    · have fc0 := hS.2.2.1.cell0
      have fc1 := hS.2.2.1.cell1
      have fc2 := hS.2.2.1.cell2
      go_simp
      exact hKO _ W (Ext.refl W) rfl
    · go_simp
      refine (Try.ratOf 2 _ (by omega) (by omega)).mono ?_
      rintro e W1 ⟨v, rfl, hv, hE⟩
      exact hKO _ W1 hE hv
    · have e0 := isOf hp.1
      have q1 := hp.2.1
      simp only [e0] at hKO
      go_simp
      refine (Try.ratAdd (hS.2.1) q1 SA.out S2.out (by omega)).mono ?_
      rintro e W1 ⟨v, rfl, hv, hE⟩
      exact hKO _ W1 hE hv
    · have hn := Bx3.new W 35 (.bool false) (.slice none 0 0) (.slice none 0 0)
      have hE := Ext.alloc1 W (.cells #[.bool false, .slice none 0 0, .slice none 0 0] 35)
      have hsz := hS.2.2.2.2.2.2.2.2.2
      go_simp
      exact hKO _ _ hE ⟨_, rfl, hsz, hn.form⟩
    · have q3 := hp.1
      have q2 := hp.2.1
      obtain ⟨g, ev, hg, hf⟩ := q3
      replace ev : vs 3 = _ := ev
      obtain ⟨x0, y0, z0, hx, hno⟩ := hf.bx3
      have qr := q2
      obtain ⟨b3, a3, n3, c3, d3, m3, o3, er, -, -, -⟩ := qr
      replace er : vs 2 = _ := er
      have r0 := hx.froz0
      have t0 := hx.cell0
      have r1 := hx.froz1
      have t1 := hx.cell1
      have r2 := hx.froz2
      have t2 := hx.cell2
      have hw := Wr.set3 hx hno b3 a3 n3 c3 d3 m3 o3
      have hq := hx.set (.bool b3) (.slice a3 n3 c3) (.slice d3 m3 o3)
      simp only [ev, er] at hKO
      go_simp
      exact hKO _ _ hw ⟨(Ext.wr hS.1 hw (by omega)), (hS.2.1.wr hw), (hS.2.2.1.wr hw (by omega)), (hS.2.2.2.1.wr hw), (hS.2.2.2.2.1.wr hw), (hS.2.2.2.2.2.1.wr hw), (hS.2.2.2.2.2.2.1.wr hw), (hS.2.2.2.2.2.2.2.1.wr hw), (hS.2.2.2.2.2.2.2.2.1.wr hw (by omega)), (Nat.le_trans hS.2.2.2.2.2.2.2.2.2 hw.apart.size)⟩ ⟨g, b3, a3, n3, c3, d3, m3, o3, ev, er, hg, hq⟩
  intro vs W3 hS hp
  clear szw3 E0 h1_5 p1_8 h1_0 h1_1 h1_2 hz0 hn0 p2_6
  obtain ⟨E0, h1_5, p1_8, h1_0, h1_1, h1_2, hz0, hn0, p2_6, sz3⟩ := hS
  obtain ⟨h3_0, h3_1, h3_2, h3_3, h3_4, -⟩ := hp
  obtain ⟨g3_4, b3_4, a3_4, n3_4, c3_4, d3_4, m3_4, o3_4, ev3_4, er3_4, hg3_4, p3_4⟩ := h3_4
  replace ev3_4 : vs 3 = _ := ev3_4
  replace er3_4 : vs 2 = _ := er3_4
  replace h3_2 := (show Rw W3 (vs 2) (A + ((2 : Int) : Rat)) from h3_2)
  rw [er3_4] at h3_2
  replace h3_0 : vs 0 = .agg #[.bool b1_8, .slice a1_8 n1_8 c1_8, .slice d1_8 m1_8 o1_8] := h3_0
  simp only [ev3_4, er3_4, h3_0]
  replace h3_1 : Rw W3 (vs 1) (((2 : Int) : Rat)) := h3_1
  generalize vs 1 = u3_1 at h3_1 ⊢
  clear ev3_4 er3_4 h3_0 h3_3
  have kp1_8_0 := p1_8.cell0
  have kp1_8_1 := p1_8.cell1
  have kp1_8_2 := p1_8.cell2
  have kp2_6_0 := p2_6.cell0
  have kp2_6_1 := p2_6.cell1
  have kp2_6_2 := p2_6.cell2
  have kp3_4_0 := p3_4.cell0
  have kp3_4_1 := p3_4.cell1
  have kp3_4_2 := p3_4.cell2
  go_upto_region 4 with (fail)
  clear kp1_8_0 kp1_8_1 kp1_8_2 kp2_6_0 kp2_6_1 kp2_6_2 kp3_4_0 kp3_4_1 kp3_4_2
  have ltp3_4 := p3_4.lt
  have szw4 := Ext.size E0
  refine region_go [.one fun v _ => v = .int .i64 0,
      .one fun v _ => v = .bool true,
      .one fun v _ => v = .bool true,
      .one fun v _ => v = .int .i64 4,
      .one fun v _ => v = .bool true,
      .one fun v _ => v = .bool true,
      .one fun v _ => v = .bool true,
      .one fun v _ => v = .agg #[.bool b1_8, .slice a1_8 n1_8 c1_8, .slice d1_8 m1_8 o1_8],
      .one fun v _ => v = .bool true,
      .one fun v _ => v = .bool true,
      .one fun v _ => v = .bool true,
      .one fun v _ => v = .agg #[.bool b1_8, .slice a1_8 n1_8 c1_8, .slice d1_8 m1_8 o1_8],
      .one fun v W => Rw W v (mkRat (-3) (2 : Int).natAbs),
      .one fun v _ => v = .bool true,
      .one fun v _ => v = .bool true,
      .one fun v _ => v = .bool true,
      .one fun v _ => v = .agg #[.bool b3_4, .slice a3_4 n3_4 c3_4, .slice d3_4 m3_4 o3_4],
      .one fun v W => Rw W v (mkRat 1 (2 : Int).natAbs),
      .one fun v _ => v = .bool true,
      .one fun v _ => v = .bool true,
      .one fun v _ => v = .bool true,
      .one fun v _ => v = .agg #[.bool b1_8, .slice a1_8 n1_8 c1_8, .slice d1_8 m1_8 o1_8],
      .one fun v _ => v = .agg #[.bool b3_4, .slice a3_4 n3_4 c3_4, .slice d3_4 m3_4 o3_4],
      .one fun v _ => v = .int .i64 (-1),
      .one fun v _ => v = .bool true,
      .one fun v _ => v = .bool true,
      .one fun v _ => v = .bool true]
    (fun W => Ext w W ∧ Rw W (.agg #[.bool b1_8, .slice a1_8 n1_8 c1_8, .slice d1_8 m1_8 o1_8]) A ∧ Bx3 W g1_8 35 (.bool b1_8) (.slice a1_8 n1_8 c1_8) (.slice d1_8 m1_8 o1_8) ∧ Nw W u1_0 6 ∧ Zw W u1_1 ((-6)) ∧ Nw W u1_2 4 ∧ Zw W (.agg #[.bool false, .slice none 0 0]) 0 ∧ Nw W (.slice none 0 0) 0 ∧ Bx3 W g2_6 35 (.bool false) (.slice none 0 0) (.slice none 0 0) ∧ Rw W (.agg #[.bool b3_4, .slice a3_4 n3_4 c3_4, .slice d3_4 m3_4 o3_4]) (A + ((2 : Int) : Rat)) ∧ Bx3 W g3_4 35 (.bool b3_4) (.slice a3_4 n3_4 c3_4) (.slice d3_4 m3_4 o3_4) ∧ Rw W u3_1 (((2 : Int) : Rat)) ∧ W3.heap.size ≤ W.heap.size) ⟨Good.is _, Good.is _, Good.is _, Good.is _, Good.is _, Good.is _, Good.is _, Good.is _, Good.is _, Good.is _, Good.is _, Good.is _, Good.rat _, Good.is _, Good.is _, Good.is _, Good.is _, Good.rat _, Good.is _, Good.is _, Good.is _, Good.is _, Good.is _, Good.is _, Good.is _, Good.is _, Good.is _, trivial⟩
    (fun W W1 hS hE => ⟨(Ext.trans hS.1 hE), (hS.2.1.ext hE), (hS.2.2.1.ext hE), (hS.2.2.2.1.ext hE), (hS.2.2.2.2.1.ext hE), (hS.2.2.2.2.2.1.ext hE), (hS.2.2.2.2.2.2.1.ext hE), (hS.2.2.2.2.2.2.2.1.ext hE), (hS.2.2.2.2.2.2.2.2.1.ext hE), (hS.2.2.2.2.2.2.2.2.2.1.ext hE), (hS.2.2.2.2.2.2.2.2.2.2.1.ext hE), (hS.2.2.2.2.2.2.2.2.2.2.2.1.ext hE), (Nat.le_trans hS.2.2.2.2.2.2.2.2.2.2.2.2 (Ext.size hE))⟩) ⟨E0, h1_5, p1_8, h1_0, h1_1, h1_2, hz0, hn0, p2_6, h3_2, p3_4, h3_1, Nat.le_refl _⟩ (by kernel_rfl) (by kernel_rfl) (by kernel_rfl) (by kernel_rfl) (A := ?A4) ?hA4 ?howe4 ?hfin4
  case hA4 =>
    intro vs
    simp only [putAll, Act.put, List.setIfInBounds_toArray, List.set_cons_zero, List.set_cons_succ, Nat.zero_add, Nat.reduceAdd]
    exact rfl
  case howe4 =>
    clear E0 h1_5 p1_8 h1_0 h1_1 h1_2 hz0 hn0 p2_6 h3_2 p3_4 h3_1
    intro hf
    refine ⟨owesE 0 [] hf rfl (by kernel_rfl) ?_, owesE 1 [0] hf rfl (by kernel_rfl) ?_, owesE 2 [1] hf rfl (by kernel_rfl) ?_, owesE 3 [2] hf rfl (by kernel_rfl) ?_, owesE 4 [2, 3] hf rfl (by kernel_rfl) ?_, owesE 5 [2, 4] hf rfl (by kernel_rfl) ?_, owesE 6 [5] hf rfl (by kernel_rfl) ?_, owesE 7 [6] hf rfl (by kernel_rfl) ?_, owesE 8 [6, 7] hf rfl (by kernel_rfl) ?_, owesE 9 [6, 8] hf rfl (by kernel_rfl) ?_, owesE 10 [9] hf rfl (by kernel_rfl) ?_, owesE 11 [10] hf rfl (by kernel_rfl) ?_, owesE 12 [10] hf rfl (by kernel_rfl) ?_, owesE 13 [10, 11, 12] hf rfl (by kernel_rfl) ?_, owesE 14 [10, 13] hf rfl (by kernel_rfl) ?_, owesE 15 [14] hf rfl (by kernel_rfl) ?_, owesE 16 [15] hf rfl (by kernel_rfl) ?_, owesE 17 [15] hf rfl (by kernel_rfl) ?_, owesE 18 [15, 16, 17] hf rfl (by kernel_rfl) ?_, owesE 19 [15, 18] hf rfl (by kernel_rfl) ?_, owesE 20 [19] hf rfl (by kernel_rfl) ?_, owesE 21 [20] hf rfl (by kernel_rfl) ?_, owesE 22 [20] hf rfl (by kernel_rfl) ?_, owesE 23 [20, 21, 22] hf rfl (by kernel_rfl) ?_, owesE 24 [20, 23] hf rfl (by kernel_rfl) ?_, owesE 25 [20, 24] hf rfl (by kernel_rfl) ?_, owesE 26 [25] hf rfl (by kernel_rfl) ?_, trivial⟩
    all_goals intro vs W hS hp hx KO hKO
    all_goals simp only [Act.put, List.setIfInBounds_toArray, List.set_cons_zero, List.set_cons_succ] at hKO
    · go_simp
      exact hKO _ W (Ext.refl W) rfl
    · have e0 := isOf hp.1
      simp only [e0] at hKO
      go_simp
      exact hKO _ W (Ext.refl W) rfl
    · have e1 := isOf hp.1
      simp only [e1] at hKO
      go_simp
      exact hKO _ W (Ext.refl W) rfl
    · have e2 := isOf hp.1
      simp only [e2] at hKO
      go_simp
      exact hKO _ W (Ext.refl W) rfl
    · have e2 := isOf hp.1
      have e3 := isOf hp.2.1
      simp only [e2, e3] at hKO
      go_simp
      exact hKO _ W (Ext.refl W) rfl
    · have e2 := isOf hp.1
      have e4 := isOf hp.2.1
      simp only [e2, e4] at hKO
      go_simp
      exact hKO _ W (Ext.refl W) rfl
    · have e5 := isOf hp.1
      simp only [e5] at hKO
      go_simp
      exact hKO _ W (Ext.refl W) rfl
    · have e6 := isOf hp.1
      simp only [e6] at hKO
      have fc0 := hS.2.2.1.cell0
      have fc1 := hS.2.2.1.cell1
      have fc2 := hS.2.2.1.cell2
      go_simp
      exact hKO _ W (Ext.refl W) rfl
    · have e6 := isOf hp.1
      have e7 := isOf hp.2.1
      simp only [e6, e7] at hKO
      go_simp
      refine (Try.ratRightT (hS.2.1) SA.out (by omega)).mono ?_
      rintro e W1 ⟨rfl, hE⟩
      exact hKO _ W1 hE rfl
    · have e6 := isOf hp.1
      have e8 := isOf hp.2.1
      simp only [e6, e8] at hKO
      go_simp
      exact hKO _ W (Ext.refl W) rfl
    · have e9 := isOf hp.1
      simp only [e9] at hKO
      go_simp
      exact hKO _ W (Ext.refl W) rfl
    · have e10 := isOf hp.1
      simp only [e10] at hKO
      have fc0 := hS.2.2.1.cell0
      have fc1 := hS.2.2.1.cell1
      have fc2 := hS.2.2.1.cell2
      go_simp
      exact hKO _ W (Ext.refl W) rfl
    · have e10 := isOf hp.1
      simp only [e10] at hKO
      go_simp
      refine (Try.refRFrac (-3) 2 _ (by omega) (by omega) (by omega) (by omega)).mono ?_
      rintro e W1 ⟨v, rfl, hv, hE⟩
      exact hKO _ W1 hE hv
    · have e10 := isOf hp.1
      have e11 := isOf hp.2.1
      have q12 := hp.2.2.1
      simp only [e10, e11] at hKO
      go_simp
      refine (Try.refRSameT (hS.2.1) q12 HF1.out).mono ?_
      rintro e W1 ⟨rfl, hE⟩
      exact hKO _ W1 hE rfl
    · have e10 := isOf hp.1
      have e13 := isOf hp.2.1
      simp only [e10, e13] at hKO
      go_simp
      exact hKO _ W (Ext.refl W) rfl
    · have e14 := isOf hp.1
      simp only [e14] at hKO
      go_simp
      exact hKO _ W (Ext.refl W) rfl
    · have e15 := isOf hp.1
      simp only [e15] at hKO
      have fc0 := hS.2.2.2.2.2.2.2.2.2.2.1.cell0
      have fc1 := hS.2.2.2.2.2.2.2.2.2.2.1.cell1
      have fc2 := hS.2.2.2.2.2.2.2.2.2.2.1.cell2
      go_simp
      exact hKO _ W (Ext.refl W) rfl
    · have e15 := isOf hp.1
      simp only [e15] at hKO
      go_simp
      refine (Try.refRFrac 1 2 _ (by omega) (by omega) (by omega) (by omega)).mono ?_
      rintro e W1 ⟨v, rfl, hv, hE⟩
      exact hKO _ W1 hE hv
    · have e15 := isOf hp.1
      have e16 := isOf hp.2.1
      have q17 := hp.2.2.1
      simp only [e15, e16] at hKO
      go_simp
      refine (Try.refRSameT (hS.2.2.2.2.2.2.2.2.2.1) q17 HF2.out).mono ?_
      rintro e W1 ⟨rfl, hE⟩
      exact hKO _ W1 hE rfl
    · have e15 := isOf hp.1
      have e18 := isOf hp.2.1
      simp only [e15, e18] at hKO
      go_simp
      exact hKO _ W (Ext.refl W) rfl
    · have e19 := isOf hp.1
      simp only [e19] at hKO
      go_simp
      exact hKO _ W (Ext.refl W) rfl
    · have e20 := isOf hp.1
      simp only [e20] at hKO
      have fc0 := hS.2.2.1.cell0
      have fc1 := hS.2.2.1.cell1
      have fc2 := hS.2.2.1.cell2
      go_simp
      exact hKO _ W (Ext.refl W) rfl
    · have e20 := isOf hp.1
      simp only [e20] at hKO
      have fc0 := hS.2.2.2.2.2.2.2.2.2.2.1.cell0
      have fc1 := hS.2.2.2.2.2.2.2.2.2.2.1.cell1
      have fc2 := hS.2.2.2.2.2.2.2.2.2.2.1.cell2
      go_simp
      exact hKO _ W (Ext.refl W) rfl
    · have e20 := isOf hp.1
      have e21 := isOf hp.2.1
      have e22 := isOf hp.2.2.1
      simp only [e20, e21, e22] at hKO
      go_simp
      refine (Try.ratCmpR (hS.2.1) (hS.2.2.2.2.2.2.2.2.2.1) (SA.out.mono (by omega)) SB.out (by omega) HC.out).mono ?_
      rintro e W1 ⟨rfl, hE⟩
      exact hKO _ W1 hE rfl
    · have e20 := isOf hp.1
      have e23 := isOf hp.2.1
      simp only [e20, e23] at hKO
      go_simp
      exact hKO _ W (Ext.refl W) rfl
    · have e20 := isOf hp.1
      have e24 := isOf hp.2.1
      simp only [e20, e24] at hKO
      go_simp
      exact hKO _ W (Ext.refl W) rfl
    · have e25 := isOf hp.1
      simp only [e25] at hKO
      go_simp
      exact hKO _ W (Ext.refl W) rfl
  intro vs W4 hS hp
  clear szw4 E0 h1_5 p1_8 h1_0 h1_1 h1_2 hz0 hn0 p2_6 h3_2 p3_4 h3_1
  obtain ⟨E0, h1_5, p1_8, h1_0, h1_1, h1_2, hz0, hn0, p2_6, h3_2, p3_4, h3_1, sz4⟩ := hS
  obtain ⟨h4_0, h4_1, h4_2, h4_3, h4_4, h4_5, h4_6, h4_7, h4_8, h4_9, h4_10, h4_11, h4_12, h4_13, h4_14, h4_15, h4_16, h4_17, h4_18, h4_19, h4_20, h4_21, h4_22, h4_23, h4_24, h4_25, h4_26, -⟩ := hp
  replace h4_0 : vs 0 = .int .i64 0 := h4_0
  replace h4_1 : vs 1 = .bool true := h4_1
  replace h4_2 : vs 2 = .bool true := h4_2
  replace h4_3 : vs 3 = .int .i64 4 := h4_3
  replace h4_4 : vs 4 = .bool true := h4_4
  replace h4_5 : vs 5 = .bool true := h4_5
  replace h4_6 : vs 6 = .bool true := h4_6
  replace h4_7 : vs 7 = .agg #[.bool b1_8, .slice a1_8 n1_8 c1_8, .slice d1_8 m1_8 o1_8] := h4_7
  replace h4_8 : vs 8 = .bool true := h4_8
  replace h4_9 : vs 9 = .bool true := h4_9
  replace h4_10 : vs 10 = .bool true := h4_10
  replace h4_11 : vs 11 = .agg #[.bool b1_8, .slice a1_8 n1_8 c1_8, .slice d1_8 m1_8 o1_8] := h4_11
  replace h4_13 : vs 13 = .bool true := h4_13
  replace h4_14 : vs 14 = .bool true := h4_14
  replace h4_15 : vs 15 = .bool true := h4_15
  replace h4_16 : vs 16 = .agg #[.bool b3_4, .slice a3_4 n3_4 c3_4, .slice d3_4 m3_4 o3_4] := h4_16
  replace h4_18 : vs 18 = .bool true := h4_18
  replace h4_19 : vs 19 = .bool true := h4_19
  replace h4_20 : vs 20 = .bool true := h4_20
  replace h4_21 : vs 21 = .agg #[.bool b1_8, .slice a1_8 n1_8 c1_8, .slice d1_8 m1_8 o1_8] := h4_21
  replace h4_22 : vs 22 = .agg #[.bool b3_4, .slice a3_4 n3_4 c3_4, .slice d3_4 m3_4 o3_4] := h4_22
  replace h4_23 : vs 23 = .int .i64 (-1) := h4_23
  replace h4_24 : vs 24 = .bool true := h4_24
  replace h4_25 : vs 25 = .bool true := h4_25
  replace h4_26 : vs 26 = .bool true := h4_26
  simp only [h4_0, h4_1, h4_2, h4_3, h4_4, h4_5, h4_6, h4_7, h4_8, h4_9, h4_10, h4_11, h4_13, h4_14, h4_15, h4_16, h4_18, h4_19, h4_20, h4_21, h4_22, h4_23, h4_24, h4_25, h4_26]
  replace h4_12 : Rw W4 (vs 12) (mkRat (-3) (2 : Int).natAbs) := h4_12
  generalize vs 12 = u4_12 at h4_12 ⊢
  replace h4_17 : Rw W4 (vs 17) (mkRat 1 (2 : Int).natAbs) := h4_17
  generalize vs 17 = u4_17 at h4_17 ⊢
  clear h4_0 h4_1 h4_2 h4_3 h4_4 h4_5 h4_6 h4_7 h4_8 h4_9 h4_10 h4_11 h4_13 h4_14 h4_15 h4_16 h4_18 h4_19 h4_20 h4_21 h4_22 h4_23 h4_24 h4_25 h4_26
  have kp1_8_0 := p1_8.cell0
  have kp1_8_1 := p1_8.cell1
  have kp1_8_2 := p1_8.cell2
  have kp2_6_0 := p2_6.cell0
  have kp2_6_1 := p2_6.cell1
  have kp2_6_2 := p2_6.cell2
  have kp3_4_0 := p3_4.cell0
  have kp3_4_1 := p3_4.cell1
  have kp3_4_2 := p3_4.cell2
  go_wp2
  go_ret
  exact ⟨rfl, E0⟩

set_option maxRecDepth 100000 in
set_option maxHeartbeats 1000000 in
theorem Try.lawRatReckons {b1 : Bool} {a1 : Option Addr} {n1 c1 : Nat} {d1 : Option Addr} {m1 o1 : Nat} {xs1 ys1 : List Nat} {b2 : Bool} {a2 : Option Addr} {n2 c2 : Nat} {d2 : Option Addr} {m2 o2 : Nat} {xs2 ys2 : List Nat} {w : World} (h1 : Nt w (.slice a1 n1 c1) xs1) (k1 : Nt w (.slice d1 m1 o1) ys1) (h2 : Nt w (.slice a2 n2 c2) xs2) (k2 : Nt w (.slice d2 m2 o2) ys2) :
    Calls Try.prog 19 #[.agg #[.bool b1, .slice a1 n1 c1, .slice d1 m1 o1], .agg #[.bool b2, .slice a2 n2 c2, .slice d2 m2 o2]] w fun e w' => e = .returned (.bool true) ∧ Ext w w' := by
  cases hg0 : fewR b1 xs1 ys1 ((4 : Nat) : Int)
  · have HG0 := Lib.hid hg0
    clear hg0
    obtain ⟨W0, hW0⟩ : ∃ W0, W0 = ((w.alloc (.cells #[.bool b1, .slice a1 n1 c1, .slice d1 m1 o1] 35)).alloc (.cells #[.bool b2, .slice a2 n2 c2, .slice d2 m2 o2] 35)) := ⟨_, rfl⟩
    have E0 : Ext w W0 := by rw [hW0]; exact ((Ext.alloc1 w (.cells #[.bool b1, .slice a1 n1 c1, .slice d1 m1 o1] 35)).alloc (.cells #[.bool b2, .slice a2 n2 c2, .slice d2 m2 o2] 35))
    replace h1 : Nt W0 (.slice a1 n1 c1) xs1 := h1.ext E0
    replace k1 : Nt W0 (.slice d1 m1 o1) ys1 := k1.ext E0
    replace h2 : Nt W0 (.slice a2 n2 c2) xs2 := h2.ext E0
    replace k2 : Nt W0 (.slice d2 m2 o2) ys2 := k2.ext E0
    have p2 : Bx3 W0 w.heap.size 35 (.bool b1) (.slice a1 n1 c1) (.slice d1 m1 o1) := by rw [hW0]; exact (Bx3.new w 35 (.bool b1) (.slice a1 n1 c1) (.slice d1 m1 o1)).ext (Ext.alloc1 (w.alloc (.cells #[.bool b1, .slice a1 n1 c1, .slice d1 m1 o1] 35)) (.cells #[.bool b2, .slice a2 n2 c2, .slice d2 m2 o2] 35))
    have p3 : Bx3 W0 (w.heap.size + 1) 35 (.bool b2) (.slice a2 n2 c2) (.slice d2 m2 o2) := by rw [hW0]; simpa using (Bx3.new (w.alloc (.cells #[.bool b1, .slice a1 n1 c1, .slice d1 m1 o1] 35)) 35 (.bool b2) (.slice a2 n2 c2) (.slice d2 m2 o2))
    go_enter Try.func19, Try.ntmps19
    have kp2_0 := p2.cell0
    have kp2_1 := p2.cell1
    have kp2_2 := p2.cell2
    have kp3_0 := p3.cell0
    have kp3_1 := p3.cell1
    have kp3_2 := p3.cell2
    go_wp2_with fail
    rw [← hW0]
    clear hW0
    clear kp2_0 kp2_1 kp2_2 kp3_0 kp3_1 kp3_2
    refine (Try.refRFew h1 k1 4 (by omega)).mono ?_
    rintro e Wf0 ⟨rfl, hE⟩
    rw [HG0.out]
    replace E0 : Ext w Wf0 := (Ext.trans E0 hE)
    replace h1 : Nt Wf0 (.slice a1 n1 c1) xs1 := (h1.ext hE)
    replace k1 : Nt Wf0 (.slice d1 m1 o1) ys1 := (k1.ext hE)
    replace h2 : Nt Wf0 (.slice a2 n2 c2) xs2 := (h2.ext hE)
    replace k2 : Nt Wf0 (.slice d2 m2 o2) ys2 := (k2.ext hE)
    replace p2 : Bx3 Wf0 w.heap.size 35 (.bool b1) (.slice a1 n1 c1) (.slice d1 m1 o1) := (p2.ext hE)
    replace p3 : Bx3 Wf0 (w.heap.size + 1) 35 (.bool b2) (.slice a2 n2 c2) (.slice d2 m2 o2) := (p3.ext hE)
    clear hE
    have kp2_0 := p2.cell0
    have kp2_1 := p2.cell1
    have kp2_2 := p2.cell2
    have kp3_0 := p3.cell0
    have kp3_1 := p3.cell1
    have kp3_2 := p3.cell2
    go_wp2_with fail
    clear kp2_0 kp2_1 kp2_2 kp3_0 kp3_1 kp3_2
    refine (Try.alive05 _).mono ?_
    rintro e We ⟨rfl, hE⟩
    replace E0 : Ext w We := (Ext.trans E0 hE)
    replace h1 : Nt We (.slice a1 n1 c1) xs1 := (h1.ext hE)
    replace k1 : Nt We (.slice d1 m1 o1) ys1 := (k1.ext hE)
    replace h2 : Nt We (.slice a2 n2 c2) xs2 := (h2.ext hE)
    replace k2 : Nt We (.slice d2 m2 o2) ys2 := (k2.ext hE)
    replace p2 : Bx3 We w.heap.size 35 (.bool b1) (.slice a1 n1 c1) (.slice d1 m1 o1) := (p2.ext hE)
    replace p3 : Bx3 We (w.heap.size + 1) 35 (.bool b2) (.slice a2 n2 c2) (.slice d2 m2 o2) := (p3.ext hE)
    clear hE
    have kp2_0 := p2.cell0
    have kp2_1 := p2.cell1
    have kp2_2 := p2.cell2
    have kp3_0 := p3.cell0
    have kp3_1 := p3.cell1
    have kp3_2 := p3.cell2
    go_wp2
    go_ret
    exact ⟨rfl, E0⟩
  · have HG0 := Lib.hid hg0
    clear hg0
    obtain ⟨W0, hW0⟩ : ∃ W0, W0 = ((w.alloc (.cells #[.bool b1, .slice a1 n1 c1, .slice d1 m1 o1] 35)).alloc (.cells #[.bool b2, .slice a2 n2 c2, .slice d2 m2 o2] 35)) := ⟨_, rfl⟩
    have E0 : Ext w W0 := by rw [hW0]; exact ((Ext.alloc1 w (.cells #[.bool b1, .slice a1 n1 c1, .slice d1 m1 o1] 35)).alloc (.cells #[.bool b2, .slice a2 n2 c2, .slice d2 m2 o2] 35))
    replace h1 : Nt W0 (.slice a1 n1 c1) xs1 := h1.ext E0
    replace k1 : Nt W0 (.slice d1 m1 o1) ys1 := k1.ext E0
    replace h2 : Nt W0 (.slice a2 n2 c2) xs2 := h2.ext E0
    replace k2 : Nt W0 (.slice d2 m2 o2) ys2 := k2.ext E0
    have p2 : Bx3 W0 w.heap.size 35 (.bool b1) (.slice a1 n1 c1) (.slice d1 m1 o1) := by rw [hW0]; exact (Bx3.new w 35 (.bool b1) (.slice a1 n1 c1) (.slice d1 m1 o1)).ext (Ext.alloc1 (w.alloc (.cells #[.bool b1, .slice a1 n1 c1, .slice d1 m1 o1] 35)) (.cells #[.bool b2, .slice a2 n2 c2, .slice d2 m2 o2] 35))
    have p3 : Bx3 W0 (w.heap.size + 1) 35 (.bool b2) (.slice a2 n2 c2) (.slice d2 m2 o2) := by rw [hW0]; simpa using (Bx3.new (w.alloc (.cells #[.bool b1, .slice a1 n1 c1, .slice d1 m1 o1] 35)) 35 (.bool b2) (.slice a2 n2 c2) (.slice d2 m2 o2))
    go_enter Try.func19, Try.ntmps19
    have kp2_0 := p2.cell0
    have kp2_1 := p2.cell1
    have kp2_2 := p2.cell2
    have kp3_0 := p3.cell0
    have kp3_1 := p3.cell1
    have kp3_2 := p3.cell2
    go_wp2_with fail
    rw [← hW0]
    clear hW0
    clear kp2_0 kp2_1 kp2_2 kp3_0 kp3_1 kp3_2
    refine (Try.refRFew h1 k1 4 (by omega)).mono ?_
    rintro e Wf0 ⟨rfl, hE⟩
    rw [HG0.out]
    replace E0 : Ext w Wf0 := (Ext.trans E0 hE)
    replace h1 : Nt Wf0 (.slice a1 n1 c1) xs1 := (h1.ext hE)
    replace k1 : Nt Wf0 (.slice d1 m1 o1) ys1 := (k1.ext hE)
    replace h2 : Nt Wf0 (.slice a2 n2 c2) xs2 := (h2.ext hE)
    replace k2 : Nt Wf0 (.slice d2 m2 o2) ys2 := (k2.ext hE)
    replace p2 : Bx3 Wf0 w.heap.size 35 (.bool b1) (.slice a1 n1 c1) (.slice d1 m1 o1) := (p2.ext hE)
    replace p3 : Bx3 Wf0 (w.heap.size + 1) 35 (.bool b2) (.slice a2 n2 c2) (.slice d2 m2 o2) := (p3.ext hE)
    clear hE
    cases hg1 : fewR b2 xs2 ys2 ((4 : Nat) : Int)
    · have HG1 := Lib.hid hg1
      clear hg1
      have kp2_0 := p2.cell0
      have kp2_1 := p2.cell1
      have kp2_2 := p2.cell2
      have kp3_0 := p3.cell0
      have kp3_1 := p3.cell1
      have kp3_2 := p3.cell2
      go_wp2_with fail
      clear kp2_0 kp2_1 kp2_2 kp3_0 kp3_1 kp3_2
      refine (Try.refRFew h2 k2 4 (by omega)).mono ?_
      rintro e Wf1 ⟨rfl, hE⟩
      rw [HG1.out]
      replace E0 : Ext w Wf1 := (Ext.trans E0 hE)
      replace h1 : Nt Wf1 (.slice a1 n1 c1) xs1 := (h1.ext hE)
      replace k1 : Nt Wf1 (.slice d1 m1 o1) ys1 := (k1.ext hE)
      replace h2 : Nt Wf1 (.slice a2 n2 c2) xs2 := (h2.ext hE)
      replace k2 : Nt Wf1 (.slice d2 m2 o2) ys2 := (k2.ext hE)
      replace p2 : Bx3 Wf1 w.heap.size 35 (.bool b1) (.slice a1 n1 c1) (.slice d1 m1 o1) := (p2.ext hE)
      replace p3 : Bx3 Wf1 (w.heap.size + 1) 35 (.bool b2) (.slice a2 n2 c2) (.slice d2 m2 o2) := (p3.ext hE)
      clear hE
      have kp2_0 := p2.cell0
      have kp2_1 := p2.cell1
      have kp2_2 := p2.cell2
      have kp3_0 := p3.cell0
      have kp3_1 := p3.cell1
      have kp3_2 := p3.cell2
      go_wp2_with fail
      clear kp2_0 kp2_1 kp2_2 kp3_0 kp3_1 kp3_2
      refine (Try.alive05 _).mono ?_
      rintro e We ⟨rfl, hE⟩
      replace E0 : Ext w We := (Ext.trans E0 hE)
      replace h1 : Nt We (.slice a1 n1 c1) xs1 := (h1.ext hE)
      replace k1 : Nt We (.slice d1 m1 o1) ys1 := (k1.ext hE)
      replace h2 : Nt We (.slice a2 n2 c2) xs2 := (h2.ext hE)
      replace k2 : Nt We (.slice d2 m2 o2) ys2 := (k2.ext hE)
      replace p2 : Bx3 We w.heap.size 35 (.bool b1) (.slice a1 n1 c1) (.slice d1 m1 o1) := (p2.ext hE)
      replace p3 : Bx3 We (w.heap.size + 1) 35 (.bool b2) (.slice a2 n2 c2) (.slice d2 m2 o2) := (p3.ext hE)
      clear hE
      have kp2_0 := p2.cell0
      have kp2_1 := p2.cell1
      have kp2_2 := p2.cell2
      have kp3_0 := p3.cell0
      have kp3_1 := p3.cell1
      have kp3_2 := p3.cell2
      go_wp2
      go_ret
      exact ⟨rfl, E0⟩
    · have HG1 := Lib.hid hg1
      clear hg1
      have kp2_0 := p2.cell0
      have kp2_1 := p2.cell1
      have kp2_2 := p2.cell2
      have kp3_0 := p3.cell0
      have kp3_1 := p3.cell1
      have kp3_2 := p3.cell2
      go_wp2_with fail
      clear kp2_0 kp2_1 kp2_2 kp3_0 kp3_1 kp3_2
      refine (Try.refRFew h2 k2 4 (by omega)).mono ?_
      rintro e Wf1 ⟨rfl, hE⟩
      rw [HG1.out]
      replace E0 : Ext w Wf1 := (Ext.trans E0 hE)
      replace h1 : Nt Wf1 (.slice a1 n1 c1) xs1 := (h1.ext hE)
      replace k1 : Nt Wf1 (.slice d1 m1 o1) ys1 := (k1.ext hE)
      replace h2 : Nt Wf1 (.slice a2 n2 c2) xs2 := (h2.ext hE)
      replace k2 : Nt Wf1 (.slice d2 m2 o2) ys2 := (k2.ext hE)
      replace p2 : Bx3 Wf1 w.heap.size 35 (.bool b1) (.slice a1 n1 c1) (.slice d1 m1 o1) := (p2.ext hE)
      replace p3 : Bx3 Wf1 (w.heap.size + 1) 35 (.bool b2) (.slice a2 n2 c2) (.slice d2 m2 o2) := (p3.ext hE)
      clear hE
      obtain ⟨x, hx1, s1⟩ := fewR_rw (L := 4) h1 k1 HG0.out
      clear h1 k1 HG0
      obtain ⟨y, hx2, s2⟩ := fewR_rw (L := 4) h2 k2 HG1.out
      clear h2 k2 HG1
      by_cases hy : y = 0
      · subst hy
        have kp2_0 := p2.cell0
        have kp2_1 := p2.cell1
        have kp2_2 := p2.cell2
        have kp3_0 := p3.cell0
        have kp3_1 := p3.cell1
        have kp3_2 := p3.cell2
        go_upto_region 3 with (fail)
        clear kp2_0 kp2_1 kp2_2 kp3_0 kp3_1 kp3_2
        have ltp2 := p2.lt
        have ltp3 := p3.lt
        have szw5 := Ext.size E0
        refine region_go [.one fun v _ => v = .agg #[.bool b1, .slice a1 n1 c1, .slice d1 m1 o1],
            .one fun v _ => v = .agg #[.bool b2, .slice a2 n2 c2, .slice d2 m2 o2],
            .one fun v _ => v = .tuple #[.agg #[.bool false, .slice none 0 0, .slice none 0 0], .int .i64 4],
            .one fun v _ => v = .tuple #[.agg #[.bool false, .slice none 0 0, .slice none 0 0], .int .i64 4],
            .one fun v _ => v = .agg #[.bool false, .slice none 0 0, .slice none 0 0],
            .one fun v _ => v = .int .i64 4,
            .one fun v W => ∃ g, v = .pointer (some ⟨g, 0, none⟩) ∧ Wf1.heap.size ≤ g ∧ Form W g 35 3,
            .two 6 (fun p _ W => New3 Wf1.heap.size 35 (.bool false) (.slice none 0 0) (.slice none 0 0) p W),
            .one fun v _ => v = .int .i64 4]
          (fun W => Ext w W ∧ Bx3 W w.heap.size 35 (.bool b1) (.slice a1 n1 c1) (.slice d1 m1 o1) ∧ Bx3 W (w.heap.size + 1) 35 (.bool b2) (.slice a2 n2 c2) (.slice d2 m2 o2) ∧ Rw W (.agg #[.bool b1, .slice a1 n1 c1, .slice d1 m1 o1]) x ∧ Rw W (.agg #[.bool b2, .slice a2 n2 c2, .slice d2 m2 o2]) 0 ∧ Wf1.heap.size ≤ W.heap.size) ⟨Good.is _, Good.is _, Good.is _, Good.is _, Good.is _, Good.is _, Good.box _ _ _, cert_new3, Good.is _, trivial⟩
          (fun W W1 hS hE => ⟨(Ext.trans hS.1 hE), (hS.2.1.ext hE), (hS.2.2.1.ext hE), (hS.2.2.2.1.ext hE), (hS.2.2.2.2.1.ext hE), (Nat.le_trans hS.2.2.2.2.2 (Ext.size hE))⟩) ⟨E0, p2, p3, hx1, hx2, Nat.le_refl _⟩ (by kernel_rfl) (by kernel_rfl) (by kernel_rfl) (by kernel_rfl) (A := ?A5) ?hA5 ?howe5 ?hfin5
        case hA5 =>
          intro vs
          simp only [putAll, Act.put, List.setIfInBounds_toArray, List.set_cons_zero, List.set_cons_succ, Nat.zero_add, Nat.reduceAdd]
          exact rfl
        case howe5 =>
          clear E0 p2 p3 hx1 hx2
          intro hf
          refine ⟨owesE 0 [] hf rfl (by kernel_rfl) ?_, owesE 1 [] hf rfl (by kernel_rfl) ?_, owesE 2 [0, 1] hf rfl (by kernel_rfl) ?_, owesE 3 [2] hf rfl (by kernel_rfl) ?_, owesE 4 [3] hf rfl (by kernel_rfl) ?_, owesE 5 [3] hf rfl (by kernel_rfl) ?_, owesE 6 [] hf rfl (by kernel_rfl) ?_, owesW 7 [6, 4] hf rfl (by kernel_rfl) (by kernel_rfl) ?_, owesE 8 [5] hf rfl (by kernel_rfl) ?_, trivial⟩
          all_goals intro vs W hS hp hx KO hKO
          all_goals simp only [Act.put, List.setIfInBounds_toArray, List.set_cons_zero, List.set_cons_succ] at hKO
          · have fc0 := hS.2.1.cell0
            have fc1 := hS.2.1.cell1
            have fc2 := hS.2.1.cell2
            go_simp
            exact hKO _ W (Ext.refl W) rfl
          · have fc0 := hS.2.2.1.cell0
            have fc1 := hS.2.2.1.cell1
            have fc2 := hS.2.2.1.cell2
            go_simp
            exact hKO _ W (Ext.refl W) rfl
          · have e0 := isOf hp.1
            have e1 := isOf hp.2.1
            simp only [e0, e1] at hKO
            go_simp
            refine (Try.ratDiv0 (hS.2.2.2.1) (hS.2.2.2.2.1) s1 (by omega)).mono ?_
            rintro e W1 ⟨rfl, hE⟩
            exact hKO _ W1 hE rfl
          · have e2 := isOf hp.1
            simp only [e2] at hKO
            go_simp
            exact hKO _ W (Ext.refl W) rfl
          · have e3 := isOf hp.1
            simp only [e3] at hKO
            go_simp
            exact hKO _ W (Ext.refl W) rfl
          · have e3 := isOf hp.1
            simp only [e3] at hKO
            go_simp
            exact hKO _ W (Ext.refl W) rfl
          · have hn := Bx3.new W 35 (.bool false) (.slice none 0 0) (.slice none 0 0)
            have hE := Ext.alloc1 W (.cells #[.bool false, .slice none 0 0, .slice none 0 0] 35)
            have hsz := hS.2.2.2.2.2
            go_simp
            exact hKO _ _ hE ⟨_, rfl, hsz, hn.form⟩
          · have q6 := hp.1
            have e4 := isOf hp.2.1
            simp only [e4] at hKO
            obtain ⟨g, ev, hg, hf⟩ := q6
            replace ev : vs 6 = _ := ev
            obtain ⟨x0, y0, z0, hx, hno⟩ := hf.bx3
            have r0 := hx.froz0
            have t0 := hx.cell0
            have r1 := hx.froz1
            have t1 := hx.cell1
            have r2 := hx.froz2
            have t2 := hx.cell2
            have hw := Wr.set3 hx hno false none 0 0 none 0 0
            have hq := hx.set (.bool false) (.slice none 0 0) (.slice none 0 0)
            simp only [ev] at hKO
            go_simp
            exact hKO _ _ hw ⟨(Ext.wr hS.1 hw (by omega)), (hS.2.1.wr hw (by omega)), (hS.2.2.1.wr hw (by omega)), (hS.2.2.2.1.wr hw), (hS.2.2.2.2.1.wr hw), (Nat.le_trans hS.2.2.2.2.2 hw.apart.size)⟩ ⟨g, ev, hg, hq⟩
          · have e5 := isOf hp.1
            simp only [e5] at hKO
            go_simp
            exact hKO _ W (Ext.refl W) rfl
        intro vs W5 hS hp
        clear szw5 E0 p2 p3 hx1 hx2
        obtain ⟨E0, p2, p3, hx1, hx2, sz5⟩ := hS
        obtain ⟨h5_0, h5_1, h5_2, h5_3, h5_4, h5_5, h5_6, h5_7, h5_8, -⟩ := hp
        obtain ⟨g5_7, ev5_7, hg5_7, p5_7⟩ := h5_7
        replace ev5_7 : vs 6 = _ := ev5_7
        replace h5_0 : vs 0 = .agg #[.bool b1, .slice a1 n1 c1, .slice d1 m1 o1] := h5_0
        replace h5_1 : vs 1 = .agg #[.bool b2, .slice a2 n2 c2, .slice d2 m2 o2] := h5_1
        replace h5_2 : vs 2 = .tuple #[.agg #[.bool false, .slice none 0 0, .slice none 0 0], .int .i64 4] := h5_2
        replace h5_3 : vs 3 = .tuple #[.agg #[.bool false, .slice none 0 0, .slice none 0 0], .int .i64 4] := h5_3
        replace h5_4 : vs 4 = .agg #[.bool false, .slice none 0 0, .slice none 0 0] := h5_4
        replace h5_5 : vs 5 = .int .i64 4 := h5_5
        replace h5_8 : vs 8 = .int .i64 4 := h5_8
        simp only [ev5_7, h5_0, h5_1, h5_2, h5_3, h5_4, h5_5, h5_8]
        clear ev5_7 h5_0 h5_1 h5_2 h5_3 h5_4 h5_5 h5_8 h5_6
        have kp2_0 := p2.cell0
        have kp2_1 := p2.cell1
        have kp2_2 := p2.cell2
        have kp3_0 := p3.cell0
        have kp3_1 := p3.cell1
        have kp3_2 := p3.cell2
        have kp5_7_0 := p5_7.cell0
        have kp5_7_1 := p5_7.cell1
        have kp5_7_2 := p5_7.cell2
        go_upto_region 4 with (fail)
        clear kp2_0 kp2_1 kp2_2 kp3_0 kp3_1 kp3_2 kp5_7_0 kp5_7_1 kp5_7_2
        have ltp5_7 := p5_7.lt
        have szw6 := Ext.size E0
        refine region_go [.one fun v _ => v = .agg #[.bool b1, .slice a1 n1 c1, .slice d1 m1 o1],
            .one fun v _ => v = .agg #[.bool b2, .slice a2 n2 c2, .slice d2 m2 o2],
            .one fun v _ => v = .tuple #[.agg #[.bool false, .slice none 0 0, .slice none 0 0], .int .i64 4],
            .one fun v _ => v = .tuple #[.agg #[.bool false, .slice none 0 0, .slice none 0 0], .int .i64 4],
            .one fun v _ => v = .agg #[.bool false, .slice none 0 0, .slice none 0 0],
            .one fun v _ => v = .int .i64 4,
            .one fun v W => ∃ g, v = .pointer (some ⟨g, 0, none⟩) ∧ W5.heap.size ≤ g ∧ Form W g 35 3,
            .two 6 (fun p _ W => New3 W5.heap.size 35 (.bool false) (.slice none 0 0) (.slice none 0 0) p W),
            .one fun v _ => v = .int .i64 4]
          (fun W => Ext w W ∧ Bx3 W w.heap.size 35 (.bool b1) (.slice a1 n1 c1) (.slice d1 m1 o1) ∧ Bx3 W (w.heap.size + 1) 35 (.bool b2) (.slice a2 n2 c2) (.slice d2 m2 o2) ∧ Rw W (.agg #[.bool b1, .slice a1 n1 c1, .slice d1 m1 o1]) x ∧ Rw W (.agg #[.bool b2, .slice a2 n2 c2, .slice d2 m2 o2]) 0 ∧ Bx3 W g5_7 35 (.bool false) (.slice none 0 0) (.slice none 0 0) ∧ W5.heap.size ≤ W.heap.size) ⟨Good.is _, Good.is _, Good.is _, Good.is _, Good.is _, Good.is _, Good.box _ _ _, cert_new3, Good.is _, trivial⟩
          (fun W W1 hS hE => ⟨(Ext.trans hS.1 hE), (hS.2.1.ext hE), (hS.2.2.1.ext hE), (hS.2.2.2.1.ext hE), (hS.2.2.2.2.1.ext hE), (hS.2.2.2.2.2.1.ext hE), (Nat.le_trans hS.2.2.2.2.2.2 (Ext.size hE))⟩) ⟨E0, p2, p3, hx1, hx2, p5_7, Nat.le_refl _⟩ (by kernel_rfl) (by kernel_rfl) (by kernel_rfl) (by kernel_rfl) (A := ?A6) ?hA6 ?howe6 ?hfin6
        case hA6 =>
          intro vs
          simp only [putAll, Act.put, List.setIfInBounds_toArray, List.set_cons_zero, List.set_cons_succ, Nat.zero_add, Nat.reduceAdd]
          exact rfl
        case howe6 =>
          clear E0 p2 p3 hx1 hx2 p5_7
          intro hf
          refine ⟨owesE 0 [] hf rfl (by kernel_rfl) ?_, owesE 1 [] hf rfl (by kernel_rfl) ?_, owesE 2 [0, 1] hf rfl (by kernel_rfl) ?_, owesE 3 [2] hf rfl (by kernel_rfl) ?_, owesE 4 [3] hf rfl (by kernel_rfl) ?_, owesE 5 [3] hf rfl (by kernel_rfl) ?_, owesE 6 [] hf rfl (by kernel_rfl) ?_, owesW 7 [6, 4] hf rfl (by kernel_rfl) (by kernel_rfl) ?_, owesE 8 [5] hf rfl (by kernel_rfl) ?_, trivial⟩
          all_goals intro vs W hS hp hx KO hKO
          all_goals simp only [Act.put, List.setIfInBounds_toArray, List.set_cons_zero, List.set_cons_succ] at hKO
          · have fc0 := hS.2.1.cell0
            have fc1 := hS.2.1.cell1
            have fc2 := hS.2.1.cell2
            go_simp
            exact hKO _ W (Ext.refl W) rfl
          · have fc0 := hS.2.2.1.cell0
            have fc1 := hS.2.2.1.cell1
            have fc2 := hS.2.2.1.cell2
            go_simp
            exact hKO _ W (Ext.refl W) rfl
          · have e0 := isOf hp.1
            have e1 := isOf hp.2.1
            simp only [e0, e1] at hKO
            go_simp
            refine (Try.refRDiv0 (hS.2.2.2.1) (hS.2.2.2.2.1) s1 (by omega)).mono ?_
            rintro e W1 ⟨rfl, hE⟩
            exact hKO _ W1 hE rfl
          · have e2 := isOf hp.1
            simp only [e2] at hKO
            go_simp
            exact hKO _ W (Ext.refl W) rfl
          · have e3 := isOf hp.1
            simp only [e3] at hKO
            go_simp
            exact hKO _ W (Ext.refl W) rfl
          · have e3 := isOf hp.1
            simp only [e3] at hKO
            go_simp
            exact hKO _ W (Ext.refl W) rfl
          · have hn := Bx3.new W 35 (.bool false) (.slice none 0 0) (.slice none 0 0)
            have hE := Ext.alloc1 W (.cells #[.bool false, .slice none 0 0, .slice none 0 0] 35)
            have hsz := hS.2.2.2.2.2.2
            go_simp
            exact hKO _ _ hE ⟨_, rfl, hsz, hn.form⟩
          · have q6 := hp.1
            have e4 := isOf hp.2.1
            simp only [e4] at hKO
            obtain ⟨g, ev, hg, hf⟩ := q6
            replace ev : vs 6 = _ := ev
            obtain ⟨x0, y0, z0, hx, hno⟩ := hf.bx3
            have r0 := hx.froz0
            have t0 := hx.cell0
            have r1 := hx.froz1
            have t1 := hx.cell1
            have r2 := hx.froz2
            have t2 := hx.cell2
            have hw := Wr.set3 hx hno false none 0 0 none 0 0
            have hq := hx.set (.bool false) (.slice none 0 0) (.slice none 0 0)
            simp only [ev] at hKO
            go_simp
            exact hKO _ _ hw ⟨(Ext.wr hS.1 hw (by omega)), (hS.2.1.wr hw (by omega)), (hS.2.2.1.wr hw (by omega)), (hS.2.2.2.1.wr hw), (hS.2.2.2.2.1.wr hw), (hS.2.2.2.2.2.1.wr hw (by omega)), (Nat.le_trans hS.2.2.2.2.2.2 hw.apart.size)⟩ ⟨g, ev, hg, hq⟩
          · have e5 := isOf hp.1
            simp only [e5] at hKO
            go_simp
            exact hKO _ W (Ext.refl W) rfl
        intro vs W6 hS hp
        clear szw6 E0 p2 p3 hx1 hx2 p5_7
        obtain ⟨E0, p2, p3, hx1, hx2, p5_7, sz6⟩ := hS
        obtain ⟨h6_0, h6_1, h6_2, h6_3, h6_4, h6_5, h6_6, h6_7, h6_8, -⟩ := hp
        obtain ⟨g6_7, ev6_7, hg6_7, p6_7⟩ := h6_7
        replace ev6_7 : vs 6 = _ := ev6_7
        replace h6_0 : vs 0 = .agg #[.bool b1, .slice a1 n1 c1, .slice d1 m1 o1] := h6_0
        replace h6_1 : vs 1 = .agg #[.bool b2, .slice a2 n2 c2, .slice d2 m2 o2] := h6_1
        replace h6_2 : vs 2 = .tuple #[.agg #[.bool false, .slice none 0 0, .slice none 0 0], .int .i64 4] := h6_2
        replace h6_3 : vs 3 = .tuple #[.agg #[.bool false, .slice none 0 0, .slice none 0 0], .int .i64 4] := h6_3
        replace h6_4 : vs 4 = .agg #[.bool false, .slice none 0 0, .slice none 0 0] := h6_4
        replace h6_5 : vs 5 = .int .i64 4 := h6_5
        replace h6_8 : vs 8 = .int .i64 4 := h6_8
        simp only [ev6_7, h6_0, h6_1, h6_2, h6_3, h6_4, h6_5, h6_8]
        clear ev6_7 h6_0 h6_1 h6_2 h6_3 h6_4 h6_5 h6_8 h6_6
        have kp2_0 := p2.cell0
        have kp2_1 := p2.cell1
        have kp2_2 := p2.cell2
        have kp3_0 := p3.cell0
        have kp3_1 := p3.cell1
        have kp3_2 := p3.cell2
        have kp5_7_0 := p5_7.cell0
        have kp5_7_1 := p5_7.cell1
        have kp5_7_2 := p5_7.cell2
        have kp6_7_0 := p6_7.cell0
        have kp6_7_1 := p6_7.cell1
        have kp6_7_2 := p6_7.cell2
        go_upto_region 5 with (fail)
        clear kp2_0 kp2_1 kp2_2 kp3_0 kp3_1 kp3_2 kp5_7_0 kp5_7_1 kp5_7_2 kp6_7_0 kp6_7_1 kp6_7_2
        have ltp6_7 := p6_7.lt
        have szw7 := Ext.size E0
        refine region_go [.one fun v _ => v = .agg #[.bool b1, .slice a1 n1 c1, .slice d1 m1 o1],
            .one fun v _ => v = .agg #[.bool b2, .slice a2 n2 c2, .slice d2 m2 o2],
            .one fun v W => Rw W v (x + 0),
            .one fun v _ => v = .agg #[.bool b1, .slice a1 n1 c1, .slice d1 m1 o1],
            .one fun v _ => v = .agg #[.bool b2, .slice a2 n2 c2, .slice d2 m2 o2],
            .one fun v W => Rw W v (x + 0),
            .one fun v _ => v = .bool true,
            .one fun v _ => v = .bool true,
            .one fun v _ => v = .agg #[.bool b1, .slice a1 n1 c1, .slice d1 m1 o1],
            .one fun v _ => v = .agg #[.bool b2, .slice a2 n2 c2, .slice d2 m2 o2],
            .one fun v W => Rw W v (x - 0),
            .one fun v _ => v = .agg #[.bool b1, .slice a1 n1 c1, .slice d1 m1 o1],
            .one fun v _ => v = .agg #[.bool b2, .slice a2 n2 c2, .slice d2 m2 o2],
            .one fun v W => Rw W v (x - 0),
            .one fun v _ => v = .bool true,
            .one fun v _ => v = .bool true,
            .one fun v _ => v = .bool true]
          (fun W => Ext w W ∧ Bx3 W w.heap.size 35 (.bool b1) (.slice a1 n1 c1) (.slice d1 m1 o1) ∧ Bx3 W (w.heap.size + 1) 35 (.bool b2) (.slice a2 n2 c2) (.slice d2 m2 o2) ∧ Rw W (.agg #[.bool b1, .slice a1 n1 c1, .slice d1 m1 o1]) x ∧ Rw W (.agg #[.bool b2, .slice a2 n2 c2, .slice d2 m2 o2]) 0 ∧ Bx3 W g5_7 35 (.bool false) (.slice none 0 0) (.slice none 0 0) ∧ Bx3 W g6_7 35 (.bool false) (.slice none 0 0) (.slice none 0 0) ∧ W6.heap.size ≤ W.heap.size) ⟨Good.is _, Good.is _, Good.rat _, Good.is _, Good.is _, Good.rat _, Good.is _, Good.is _, Good.is _, Good.is _, Good.rat _, Good.is _, Good.is _, Good.rat _, Good.is _, Good.is _, Good.is _, trivial⟩
          (fun W W1 hS hE => ⟨(Ext.trans hS.1 hE), (hS.2.1.ext hE), (hS.2.2.1.ext hE), (hS.2.2.2.1.ext hE), (hS.2.2.2.2.1.ext hE), (hS.2.2.2.2.2.1.ext hE), (hS.2.2.2.2.2.2.1.ext hE), (Nat.le_trans hS.2.2.2.2.2.2.2 (Ext.size hE))⟩) ⟨E0, p2, p3, hx1, hx2, p5_7, p6_7, Nat.le_refl _⟩ (by kernel_rfl) (by kernel_rfl) (by kernel_rfl) (by kernel_rfl) (A := ?A7) ?hA7 ?howe7 ?hfin7
        case hA7 =>
          intro vs
          simp only [putAll, Act.put, List.setIfInBounds_toArray, List.set_cons_zero, List.set_cons_succ, Nat.zero_add, Nat.reduceAdd]
          exact rfl
        case howe7 =>
          clear E0 p2 p3 hx1 hx2 p5_7 p6_7
          intro hf
          refine ⟨owesE 0 [] hf rfl (by kernel_rfl) ?_, owesE 1 [] hf rfl (by kernel_rfl) ?_, owesE 2 [0, 1] hf rfl (by kernel_rfl) ?_, owesE 3 [] hf rfl (by kernel_rfl) ?_, owesE 4 [] hf rfl (by kernel_rfl) ?_, owesE 5 [3, 4] hf rfl (by kernel_rfl) ?_, owesE 6 [2, 5] hf rfl (by kernel_rfl) ?_, owesE 7 [6] hf rfl (by kernel_rfl) ?_, owesE 8 [7] hf rfl (by kernel_rfl) ?_, owesE 9 [7] hf rfl (by kernel_rfl) ?_, owesE 10 [7, 8, 9] hf rfl (by kernel_rfl) ?_, owesE 11 [7] hf rfl (by kernel_rfl) ?_, owesE 12 [7] hf rfl (by kernel_rfl) ?_, owesE 13 [7, 11, 12] hf rfl (by kernel_rfl) ?_, owesE 14 [7, 10, 13] hf rfl (by kernel_rfl) ?_, owesE 15 [7, 14] hf rfl (by kernel_rfl) ?_, owesE 16 [15] hf rfl (by kernel_rfl) ?_, trivial⟩
          all_goals intro vs W hS hp hx KO hKO
          all_goals simp only [Act.put, List.setIfInBounds_toArray, List.set_cons_zero, List.set_cons_succ] at hKO
          · have fc0 := hS.2.1.cell0
            have fc1 := hS.2.1.cell1
            have fc2 := hS.2.1.cell2
            go_simp
            exact hKO _ W (Ext.refl W) rfl
          · have fc0 := hS.2.2.1.cell0
            have fc1 := hS.2.2.1.cell1
            have fc2 := hS.2.2.1.cell2
            go_simp
            exact hKO _ W (Ext.refl W) rfl
          · have e0 := isOf hp.1
            have e1 := isOf hp.2.1
            simp only [e0, e1] at hKO
            go_simp
            refine (Try.ratAdd (hS.2.2.2.1) (hS.2.2.2.2.1) s1 s2 (by omega)).mono ?_
            rintro e W1 ⟨v, rfl, hv, hE⟩
            exact hKO _ W1 hE hv
          · have fc0 := hS.2.1.cell0
            have fc1 := hS.2.1.cell1
            have fc2 := hS.2.1.cell2
            go_simp
            exact hKO _ W (Ext.refl W) rfl
          · have fc0 := hS.2.2.1.cell0
            have fc1 := hS.2.2.1.cell1
            have fc2 := hS.2.2.1.cell2
            go_simp
            exact hKO _ W (Ext.refl W) rfl
          · have e3 := isOf hp.1
            have e4 := isOf hp.2.1
            simp only [e3, e4] at hKO
            go_simp
            refine (Try.refRAdd (hS.2.2.2.1) (hS.2.2.2.2.1) s1 s2 (by omega)).mono ?_
            rintro e W1 ⟨v, rfl, hv, hE⟩
            exact hKO _ W1 hE hv
          · have q2 := hp.1
            have q5 := hp.2.1
            go_simp
            refine (Try.refRSameT q2 q5 rfl).mono ?_
            rintro e W1 ⟨rfl, hE⟩
            exact hKO _ W1 hE rfl
          · have e6 := isOf hp.1
            simp only [e6] at hKO
            go_simp
            exact hKO _ W (Ext.refl W) rfl
          · have e7 := isOf hp.1
            simp only [e7] at hKO
            have fc0 := hS.2.1.cell0
            have fc1 := hS.2.1.cell1
            have fc2 := hS.2.1.cell2
            go_simp
            exact hKO _ W (Ext.refl W) rfl
          · have e7 := isOf hp.1
            simp only [e7] at hKO
            have fc0 := hS.2.2.1.cell0
            have fc1 := hS.2.2.1.cell1
            have fc2 := hS.2.2.1.cell2
            go_simp
            exact hKO _ W (Ext.refl W) rfl
          · have e7 := isOf hp.1
            have e8 := isOf hp.2.1
            have e9 := isOf hp.2.2.1
            simp only [e7, e8, e9] at hKO
            go_simp
            refine (Try.ratSub (hS.2.2.2.1) (hS.2.2.2.2.1) s1 s2 (by omega)).mono ?_
            rintro e W1 ⟨v, rfl, hv, hE⟩
            exact hKO _ W1 hE hv
          · have e7 := isOf hp.1
            simp only [e7] at hKO
            have fc0 := hS.2.1.cell0
            have fc1 := hS.2.1.cell1
            have fc2 := hS.2.1.cell2
            go_simp
            exact hKO _ W (Ext.refl W) rfl
          · have e7 := isOf hp.1
            simp only [e7] at hKO
            have fc0 := hS.2.2.1.cell0
            have fc1 := hS.2.2.1.cell1
            have fc2 := hS.2.2.1.cell2
            go_simp
            exact hKO _ W (Ext.refl W) rfl
          · have e7 := isOf hp.1
            have e11 := isOf hp.2.1
            have e12 := isOf hp.2.2.1
            simp only [e7, e11, e12] at hKO
            go_simp
            refine (Try.refRSub (hS.2.2.2.1) (hS.2.2.2.2.1) s1 s2 (by omega)).mono ?_
            rintro e W1 ⟨v, rfl, hv, hE⟩
            exact hKO _ W1 hE hv
          · have e7 := isOf hp.1
            have q10 := hp.2.1
            have q13 := hp.2.2.1
            simp only [e7] at hKO
            go_simp
            refine (Try.refRSameT q10 q13 rfl).mono ?_
            rintro e W1 ⟨rfl, hE⟩
            exact hKO _ W1 hE rfl
          · have e7 := isOf hp.1
            have e14 := isOf hp.2.1
            simp only [e7, e14] at hKO
            go_simp
            exact hKO _ W (Ext.refl W) rfl
          · have e15 := isOf hp.1
            simp only [e15] at hKO
            go_simp
            exact hKO _ W (Ext.refl W) rfl
        intro vs W7 hS hp
        clear szw7 E0 p2 p3 hx1 hx2 p5_7 p6_7
        obtain ⟨E0, p2, p3, hx1, hx2, p5_7, p6_7, sz7⟩ := hS
        obtain ⟨h7_0, h7_1, h7_2, h7_3, h7_4, h7_5, h7_6, h7_7, h7_8, h7_9, h7_10, h7_11, h7_12, h7_13, h7_14, h7_15, h7_16, -⟩ := hp
        replace h7_0 : vs 0 = .agg #[.bool b1, .slice a1 n1 c1, .slice d1 m1 o1] := h7_0
        replace h7_1 : vs 1 = .agg #[.bool b2, .slice a2 n2 c2, .slice d2 m2 o2] := h7_1
        replace h7_3 : vs 3 = .agg #[.bool b1, .slice a1 n1 c1, .slice d1 m1 o1] := h7_3
        replace h7_4 : vs 4 = .agg #[.bool b2, .slice a2 n2 c2, .slice d2 m2 o2] := h7_4
        replace h7_6 : vs 6 = .bool true := h7_6
        replace h7_7 : vs 7 = .bool true := h7_7
        replace h7_8 : vs 8 = .agg #[.bool b1, .slice a1 n1 c1, .slice d1 m1 o1] := h7_8
        replace h7_9 : vs 9 = .agg #[.bool b2, .slice a2 n2 c2, .slice d2 m2 o2] := h7_9
        replace h7_11 : vs 11 = .agg #[.bool b1, .slice a1 n1 c1, .slice d1 m1 o1] := h7_11
        replace h7_12 : vs 12 = .agg #[.bool b2, .slice a2 n2 c2, .slice d2 m2 o2] := h7_12
        replace h7_14 : vs 14 = .bool true := h7_14
        replace h7_15 : vs 15 = .bool true := h7_15
        replace h7_16 : vs 16 = .bool true := h7_16
        simp only [h7_0, h7_1, h7_3, h7_4, h7_6, h7_7, h7_8, h7_9, h7_11, h7_12, h7_14, h7_15, h7_16]
        replace h7_2 : Rw W7 (vs 2) (x + 0) := h7_2
        generalize vs 2 = u7_2 at h7_2 ⊢
        replace h7_5 : Rw W7 (vs 5) (x + 0) := h7_5
        generalize vs 5 = u7_5 at h7_5 ⊢
        replace h7_10 : Rw W7 (vs 10) (x - 0) := h7_10
        generalize vs 10 = u7_10 at h7_10 ⊢
        replace h7_13 : Rw W7 (vs 13) (x - 0) := h7_13
        generalize vs 13 = u7_13 at h7_13 ⊢
        clear h7_0 h7_1 h7_3 h7_4 h7_6 h7_7 h7_8 h7_9 h7_11 h7_12 h7_14 h7_15 h7_16
        have kp2_0 := p2.cell0
        have kp2_1 := p2.cell1
        have kp2_2 := p2.cell2
        have kp3_0 := p3.cell0
        have kp3_1 := p3.cell1
        have kp3_2 := p3.cell2
        have kp5_7_0 := p5_7.cell0
        have kp5_7_1 := p5_7.cell1
        have kp5_7_2 := p5_7.cell2
        have kp6_7_0 := p6_7.cell0
        have kp6_7_1 := p6_7.cell1
        have kp6_7_2 := p6_7.cell2
        go_upto_region 6 with (fail)
        clear kp2_0 kp2_1 kp2_2 kp3_0 kp3_1 kp3_2 kp5_7_0 kp5_7_1 kp5_7_2 kp6_7_0 kp6_7_1 kp6_7_2
        have szw8 := Ext.size E0
        refine region_go [.one fun v _ => v = .bool true,
            .one fun v _ => v = .bool true,
            .one fun v _ => v = .bool true,
            .one fun v _ => v = .bool true,
            .one fun v _ => v = .bool true,
            .one fun v _ => v = .agg #[.bool b1, .slice a1 n1 c1, .slice d1 m1 o1],
            .one fun v _ => v = .agg #[.bool b2, .slice a2 n2 c2, .slice d2 m2 o2],
            .one fun v W => Rw W v (x * 0),
            .one fun v _ => v = .agg #[.bool b1, .slice a1 n1 c1, .slice d1 m1 o1],
            .one fun v _ => v = .agg #[.bool b2, .slice a2 n2 c2, .slice d2 m2 o2],
            .one fun v W => Rw W v (x * 0),
            .one fun v _ => v = .bool true,
            .one fun v _ => v = .bool true,
            .one fun v _ => v = .bool true,
            .one fun v _ => v = .agg #[.bool false, .slice none 0 0, .slice none 0 0],
            .one fun v _ => v = .agg #[.bool false, .slice none 0 0, .slice none 0 0],
            .one fun v _ => v = .bool true,
            .one fun v _ => v = .bool true,
            .one fun v _ => v = .bool true,
            .one fun v _ => v = .int .i64 4,
            .one fun v _ => v = .int .i64 4,
            .one fun v _ => v = .bool true,
            .one fun v _ => v = .bool true,
            .one fun v _ => v = .bool true,
            .one fun v _ => v = .agg #[.bool b1, .slice a1 n1 c1, .slice d1 m1 o1],
            .one fun v _ => v = .agg #[.bool b2, .slice a2 n2 c2, .slice d2 m2 o2],
            .one fun v _ => v = .int .i64 (cmpR x 0),
            .one fun v _ => v = .agg #[.bool b1, .slice a1 n1 c1, .slice d1 m1 o1],
            .one fun v _ => v = .agg #[.bool b2, .slice a2 n2 c2, .slice d2 m2 o2],
            .one fun v _ => v = .int .i64 (cmpR x 0),
            .one fun v _ => v = .bool true,
            .one fun v _ => v = .bool true,
            .one fun v _ => v = .bool true]
          (fun W => Ext w W ∧ Bx3 W w.heap.size 35 (.bool b1) (.slice a1 n1 c1) (.slice d1 m1 o1) ∧ Bx3 W (w.heap.size + 1) 35 (.bool b2) (.slice a2 n2 c2) (.slice d2 m2 o2) ∧ Rw W (.agg #[.bool b1, .slice a1 n1 c1, .slice d1 m1 o1]) x ∧ Rw W (.agg #[.bool b2, .slice a2 n2 c2, .slice d2 m2 o2]) 0 ∧ Bx3 W g5_7 35 (.bool false) (.slice none 0 0) (.slice none 0 0) ∧ Bx3 W g6_7 35 (.bool false) (.slice none 0 0) (.slice none 0 0) ∧ Rw W u7_2 (x + 0) ∧ Rw W u7_5 (x + 0) ∧ Rw W u7_10 (x - 0) ∧ Rw W u7_13 (x - 0) ∧ W7.heap.size ≤ W.heap.size) ⟨Good.is _, Good.is _, Good.is _, Good.is _, Good.is _, Good.is _, Good.is _, Good.rat _, Good.is _, Good.is _, Good.rat _, Good.is _, Good.is _, Good.is _, Good.is _, Good.is _, Good.is _, Good.is _, Good.is _, Good.is _, Good.is _, Good.is _, Good.is _, Good.is _, Good.is _, Good.is _, Good.is _, Good.is _, Good.is _, Good.is _, Good.is _, Good.is _, Good.is _, trivial⟩
          (fun W W1 hS hE => ⟨(Ext.trans hS.1 hE), (hS.2.1.ext hE), (hS.2.2.1.ext hE), (hS.2.2.2.1.ext hE), (hS.2.2.2.2.1.ext hE), (hS.2.2.2.2.2.1.ext hE), (hS.2.2.2.2.2.2.1.ext hE), (hS.2.2.2.2.2.2.2.1.ext hE), (hS.2.2.2.2.2.2.2.2.1.ext hE), (hS.2.2.2.2.2.2.2.2.2.1.ext hE), (hS.2.2.2.2.2.2.2.2.2.2.1.ext hE), (Nat.le_trans hS.2.2.2.2.2.2.2.2.2.2.2 (Ext.size hE))⟩) ⟨E0, p2, p3, hx1, hx2, p5_7, p6_7, h7_2, h7_5, h7_10, h7_13, Nat.le_refl _⟩ (by kernel_rfl) (by kernel_rfl) (by kernel_rfl) (by kernel_rfl) (A := ?A8) ?hA8 ?howe8 ?hfin8
        case hA8 =>
          intro vs
          simp only [putAll, Act.put, List.setIfInBounds_toArray, List.set_cons_zero, List.set_cons_succ, Nat.zero_add, Nat.reduceAdd]
          exact rfl
        case howe8 =>
          clear E0 p2 p3 hx1 hx2 p5_7 p6_7 h7_2 h7_5 h7_10 h7_13
          intro hf
          refine ⟨owesE 0 [] hf rfl (by kernel_rfl) ?_, owesE 1 [0] hf rfl (by kernel_rfl) ?_, owesE 2 [1] hf rfl (by kernel_rfl) ?_, owesE 3 [1, 2] hf rfl (by kernel_rfl) ?_, owesE 4 [3] hf rfl (by kernel_rfl) ?_, owesE 5 [4] hf rfl (by kernel_rfl) ?_, owesE 6 [4] hf rfl (by kernel_rfl) ?_, owesE 7 [4, 5, 6] hf rfl (by kernel_rfl) ?_, owesE 8 [4] hf rfl (by kernel_rfl) ?_, owesE 9 [4] hf rfl (by kernel_rfl) ?_, owesE 10 [4, 8, 9] hf rfl (by kernel_rfl) ?_, owesE 11 [4, 7, 10] hf rfl (by kernel_rfl) ?_, owesE 12 [4, 11] hf rfl (by kernel_rfl) ?_, owesE 13 [12] hf rfl (by kernel_rfl) ?_, owesE 14 [13] hf rfl (by kernel_rfl) ?_, owesE 15 [13] hf rfl (by kernel_rfl) ?_, owesE 16 [13, 14, 15] hf rfl (by kernel_rfl) ?_, owesE 17 [13, 16] hf rfl (by kernel_rfl) ?_, owesE 18 [17] hf rfl (by kernel_rfl) ?_, owesE 19 [18] hf rfl (by kernel_rfl) ?_, owesE 20 [18] hf rfl (by kernel_rfl) ?_, owesE 21 [18, 19, 20] hf rfl (by kernel_rfl) ?_, owesE 22 [18, 21] hf rfl (by kernel_rfl) ?_, owesE 23 [22] hf rfl (by kernel_rfl) ?_, owesE 24 [23] hf rfl (by kernel_rfl) ?_, owesE 25 [23] hf rfl (by kernel_rfl) ?_, owesE 26 [23, 24, 25] hf rfl (by kernel_rfl) ?_, owesE 27 [23] hf rfl (by kernel_rfl) ?_, owesE 28 [23] hf rfl (by kernel_rfl) ?_, owesE 29 [23, 27, 28] hf rfl (by kernel_rfl) ?_, owesE 30 [23, 26, 29] hf rfl (by kernel_rfl) ?_, owesE 31 [23, 30] hf rfl (by kernel_rfl) ?_, owesE 32 [31] hf rfl (by kernel_rfl) ?_, trivial⟩
          all_goals intro vs W hS hp hx KO hKO
          all_goals simp only [Act.put, List.setIfInBounds_toArray, List.set_cons_zero, List.set_cons_succ] at hKO
          · go_simp
            refine (Try.alive05 _).mono ?_
            rintro e W1 ⟨rfl, hE⟩
            exact hKO _ W1 hE rfl
          · have e0 := isOf hp.1
            simp only [e0] at hKO
            go_simp
            exact hKO _ W (Ext.refl W) rfl
          · have e1 := isOf hp.1
            simp only [e1] at hKO
            go_simp
            exact hKO _ W (Ext.refl W) rfl
          · have e1 := isOf hp.1
            have e2 := isOf hp.2.1
            simp only [e1, e2] at hKO
            go_simp
            exact hKO _ W (Ext.refl W) rfl
          · have e3 := isOf hp.1
            simp only [e3] at hKO
            go_simp
            exact hKO _ W (Ext.refl W) rfl
          · have e4 := isOf hp.1
            simp only [e4] at hKO
            have fc0 := hS.2.1.cell0
            have fc1 := hS.2.1.cell1
            have fc2 := hS.2.1.cell2
            go_simp
            exact hKO _ W (Ext.refl W) rfl
          · have e4 := isOf hp.1
            simp only [e4] at hKO
            have fc0 := hS.2.2.1.cell0
            have fc1 := hS.2.2.1.cell1
            have fc2 := hS.2.2.1.cell2
            go_simp
            exact hKO _ W (Ext.refl W) rfl
          · have e4 := isOf hp.1
            have e5 := isOf hp.2.1
            have e6 := isOf hp.2.2.1
            simp only [e4, e5, e6] at hKO
            go_simp
            refine (Try.ratMul (hS.2.2.2.1) (hS.2.2.2.2.1) s1 s2 (by omega)).mono ?_
            rintro e W1 ⟨v, rfl, hv, hE⟩
            exact hKO _ W1 hE hv
          · have e4 := isOf hp.1
            simp only [e4] at hKO
            have fc0 := hS.2.1.cell0
            have fc1 := hS.2.1.cell1
            have fc2 := hS.2.1.cell2
            go_simp
            exact hKO _ W (Ext.refl W) rfl
          · have e4 := isOf hp.1
            simp only [e4] at hKO
            have fc0 := hS.2.2.1.cell0
            have fc1 := hS.2.2.1.cell1
            have fc2 := hS.2.2.1.cell2
            go_simp
            exact hKO _ W (Ext.refl W) rfl
          · have e4 := isOf hp.1
            have e8 := isOf hp.2.1
            have e9 := isOf hp.2.2.1
            simp only [e4, e8, e9] at hKO
            go_simp
            refine (Try.refRMul (hS.2.2.2.1) (hS.2.2.2.2.1) s1 s2 (by omega)).mono ?_
            rintro e W1 ⟨v, rfl, hv, hE⟩
            exact hKO _ W1 hE hv
          · have e4 := isOf hp.1
            have q7 := hp.2.1
            have q10 := hp.2.2.1
            simp only [e4] at hKO
            go_simp
            refine (Try.refRSameT q7 q10 rfl).mono ?_
            rintro e W1 ⟨rfl, hE⟩
            exact hKO _ W1 hE rfl
          · have e4 := isOf hp.1
            have e11 := isOf hp.2.1
            simp only [e4, e11] at hKO
            go_simp
            exact hKO _ W (Ext.refl W) rfl
          · have e12 := isOf hp.1
            simp only [e12] at hKO
            go_simp
            exact hKO _ W (Ext.refl W) rfl
          · have e13 := isOf hp.1
            simp only [e13] at hKO
            have fc0 := hS.2.2.2.2.2.1.cell0
            have fc1 := hS.2.2.2.2.2.1.cell1
            have fc2 := hS.2.2.2.2.2.1.cell2
            go_simp
            exact hKO _ W (Ext.refl W) rfl
          · have e13 := isOf hp.1
            simp only [e13] at hKO
            have fc0 := hS.2.2.2.2.2.2.1.cell0
            have fc1 := hS.2.2.2.2.2.2.1.cell1
            have fc2 := hS.2.2.2.2.2.2.1.cell2
            go_simp
            exact hKO _ W (Ext.refl W) rfl
          · have e13 := isOf hp.1
            have e14 := isOf hp.2.1
            have e15 := isOf hp.2.2.1
            simp only [e13, e14, e15] at hKO
            go_simp
            refine (Try.refRSame0 _).mono ?_
            rintro e W1 ⟨rfl, hE⟩
            exact hKO _ W1 hE rfl
          · have e13 := isOf hp.1
            have e16 := isOf hp.2.1
            simp only [e13, e16] at hKO
            go_simp
            exact hKO _ W (Ext.refl W) rfl
          · have e17 := isOf hp.1
            simp only [e17] at hKO
            go_simp
            exact hKO _ W (Ext.refl W) rfl
          · have e18 := isOf hp.1
            simp only [e18] at hKO
            go_simp
            exact hKO _ W (Ext.refl W) rfl
          · have e18 := isOf hp.1
            simp only [e18] at hKO
            go_simp
            exact hKO _ W (Ext.refl W) rfl
          · have e18 := isOf hp.1
            have e19 := isOf hp.2.1
            have e20 := isOf hp.2.2.1
            simp only [e18, e19, e20] at hKO
            go_simp
            exact hKO _ W (Ext.refl W) rfl
          · have e18 := isOf hp.1
            have e21 := isOf hp.2.1
            simp only [e18, e21] at hKO
            go_simp
            exact hKO _ W (Ext.refl W) rfl
          · have e22 := isOf hp.1
            simp only [e22] at hKO
            go_simp
            exact hKO _ W (Ext.refl W) rfl
          · have e23 := isOf hp.1
            simp only [e23] at hKO
            have fc0 := hS.2.1.cell0
            have fc1 := hS.2.1.cell1
            have fc2 := hS.2.1.cell2
            go_simp
            exact hKO _ W (Ext.refl W) rfl
          · have e23 := isOf hp.1
            simp only [e23] at hKO
            have fc0 := hS.2.2.1.cell0
            have fc1 := hS.2.2.1.cell1
            have fc2 := hS.2.2.1.cell2
            go_simp
            exact hKO _ W (Ext.refl W) rfl
          · have e23 := isOf hp.1
            have e24 := isOf hp.2.1
            have e25 := isOf hp.2.2.1
            simp only [e23, e24, e25] at hKO
            go_simp
            refine (Try.ratCmpR (hS.2.2.2.1) (hS.2.2.2.2.1) s1 s2 (by omega) rfl).mono ?_
            rintro e W1 ⟨rfl, hE⟩
            exact hKO _ W1 hE rfl
          · have e23 := isOf hp.1
            simp only [e23] at hKO
            have fc0 := hS.2.1.cell0
            have fc1 := hS.2.1.cell1
            have fc2 := hS.2.1.cell2
            go_simp
            exact hKO _ W (Ext.refl W) rfl
          · have e23 := isOf hp.1
            simp only [e23] at hKO
            have fc0 := hS.2.2.1.cell0
            have fc1 := hS.2.2.1.cell1
            have fc2 := hS.2.2.1.cell2
            go_simp
            exact hKO _ W (Ext.refl W) rfl
          · have e23 := isOf hp.1
            have e27 := isOf hp.2.1
            have e28 := isOf hp.2.2.1
            simp only [e23, e27, e28] at hKO
            go_simp
            refine (Try.refRCmpR (hS.2.2.2.1) (hS.2.2.2.2.1) s1 s2 (by omega) rfl).mono ?_
            rintro e W1 ⟨rfl, hE⟩
            exact hKO _ W1 hE rfl
          · have e23 := isOf hp.1
            have e26 := isOf hp.2.1
            have e29 := isOf hp.2.2.1
            simp only [e23, e26, e29] at hKO
            go_simp
            exact hKO _ W (Ext.refl W) rfl
          · have e23 := isOf hp.1
            have e30 := isOf hp.2.1
            simp only [e23, e30] at hKO
            go_simp
            exact hKO _ W (Ext.refl W) rfl
          · have e31 := isOf hp.1
            simp only [e31] at hKO
            go_simp
            exact hKO _ W (Ext.refl W) rfl
        intro vs W8 hS hp
        clear szw8 E0 p2 p3 hx1 hx2 p5_7 p6_7 h7_2 h7_5 h7_10 h7_13
        obtain ⟨E0, p2, p3, hx1, hx2, p5_7, p6_7, h7_2, h7_5, h7_10, h7_13, sz8⟩ := hS
        obtain ⟨h8_0, h8_1, h8_2, h8_3, h8_4, h8_5, h8_6, h8_7, h8_8, h8_9, h8_10, h8_11, h8_12, h8_13, h8_14, h8_15, h8_16, h8_17, h8_18, h8_19, h8_20, h8_21, h8_22, h8_23, h8_24, h8_25, h8_26, h8_27, h8_28, h8_29, h8_30, h8_31, h8_32, -⟩ := hp
        replace h8_0 : vs 0 = .bool true := h8_0
        replace h8_1 : vs 1 = .bool true := h8_1
        replace h8_2 : vs 2 = .bool true := h8_2
        replace h8_3 : vs 3 = .bool true := h8_3
        replace h8_4 : vs 4 = .bool true := h8_4
        replace h8_5 : vs 5 = .agg #[.bool b1, .slice a1 n1 c1, .slice d1 m1 o1] := h8_5
        replace h8_6 : vs 6 = .agg #[.bool b2, .slice a2 n2 c2, .slice d2 m2 o2] := h8_6
        replace h8_8 : vs 8 = .agg #[.bool b1, .slice a1 n1 c1, .slice d1 m1 o1] := h8_8
        replace h8_9 : vs 9 = .agg #[.bool b2, .slice a2 n2 c2, .slice d2 m2 o2] := h8_9
        replace h8_11 : vs 11 = .bool true := h8_11
        replace h8_12 : vs 12 = .bool true := h8_12
        replace h8_13 : vs 13 = .bool true := h8_13
        replace h8_14 : vs 14 = .agg #[.bool false, .slice none 0 0, .slice none 0 0] := h8_14
        replace h8_15 : vs 15 = .agg #[.bool false, .slice none 0 0, .slice none 0 0] := h8_15
        replace h8_16 : vs 16 = .bool true := h8_16
        replace h8_17 : vs 17 = .bool true := h8_17
        replace h8_18 : vs 18 = .bool true := h8_18
        replace h8_19 : vs 19 = .int .i64 4 := h8_19
        replace h8_20 : vs 20 = .int .i64 4 := h8_20
        replace h8_21 : vs 21 = .bool true := h8_21
        replace h8_22 : vs 22 = .bool true := h8_22
        replace h8_23 : vs 23 = .bool true := h8_23
        replace h8_24 : vs 24 = .agg #[.bool b1, .slice a1 n1 c1, .slice d1 m1 o1] := h8_24
        replace h8_25 : vs 25 = .agg #[.bool b2, .slice a2 n2 c2, .slice d2 m2 o2] := h8_25
        replace h8_26 : vs 26 = .int .i64 (cmpR x 0) := h8_26
        replace h8_27 : vs 27 = .agg #[.bool b1, .slice a1 n1 c1, .slice d1 m1 o1] := h8_27
        replace h8_28 : vs 28 = .agg #[.bool b2, .slice a2 n2 c2, .slice d2 m2 o2] := h8_28
        replace h8_29 : vs 29 = .int .i64 (cmpR x 0) := h8_29
        replace h8_30 : vs 30 = .bool true := h8_30
        replace h8_31 : vs 31 = .bool true := h8_31
        replace h8_32 : vs 32 = .bool true := h8_32
        simp only [h8_0, h8_1, h8_2, h8_3, h8_4, h8_5, h8_6, h8_8, h8_9, h8_11, h8_12, h8_13, h8_14, h8_15, h8_16, h8_17, h8_18, h8_19, h8_20, h8_21, h8_22, h8_23, h8_24, h8_25, h8_26, h8_27, h8_28, h8_29, h8_30, h8_31, h8_32]
        replace h8_7 : Rw W8 (vs 7) (x * 0) := h8_7
        generalize vs 7 = u8_7 at h8_7 ⊢
        replace h8_10 : Rw W8 (vs 10) (x * 0) := h8_10
        generalize vs 10 = u8_10 at h8_10 ⊢
        clear h8_0 h8_1 h8_2 h8_3 h8_4 h8_5 h8_6 h8_8 h8_9 h8_11 h8_12 h8_13 h8_14 h8_15 h8_16 h8_17 h8_18 h8_19 h8_20 h8_21 h8_22 h8_23 h8_24 h8_25 h8_26 h8_27 h8_28 h8_29 h8_30 h8_31 h8_32
        have kp2_0 := p2.cell0
        have kp2_1 := p2.cell1
        have kp2_2 := p2.cell2
        have kp3_0 := p3.cell0
        have kp3_1 := p3.cell1
        have kp3_2 := p3.cell2
        have kp5_7_0 := p5_7.cell0
        have kp5_7_1 := p5_7.cell1
        have kp5_7_2 := p5_7.cell2
        have kp6_7_0 := p6_7.cell0
        have kp6_7_1 := p6_7.cell1
        have kp6_7_2 := p6_7.cell2
        go_wp2
        go_ret
        exact ⟨rfl, E0⟩
      · have HY := Lib.hid hy
        clear hy
        have kp2_0 := p2.cell0
        have kp2_1 := p2.cell1
        have kp2_2 := p2.cell2
        have kp3_0 := p3.cell0
        have kp3_1 := p3.cell1
        have kp3_2 := p3.cell2
        go_upto_region 3 with (fail)
        clear kp2_0 kp2_1 kp2_2 kp3_0 kp3_1 kp3_2
        have ltp2 := p2.lt
        have ltp3 := p3.lt
        have szw9 := Ext.size E0
        refine region_go [.one fun v _ => v = .agg #[.bool b1, .slice a1 n1 c1, .slice d1 m1 o1],
            .one fun v _ => v = .agg #[.bool b2, .slice a2 n2 c2, .slice d2 m2 o2],
            .one fun v W => ∃ v', v = .tuple #[v', .int .i64 0] ∧ (fun v W => Rw W v (x / y)) v' W,
            .one fun v W => ∃ v', v = .tuple #[v', .int .i64 0] ∧ (fun v W => Rw W v (x / y)) v' W,
            .one fun v W => Rw W v (x / y),
            .one fun v _ => v = .int .i64 0,
            .one fun v W => ∃ g, v = .pointer (some ⟨g, 0, none⟩) ∧ Wf1.heap.size ≤ g ∧ Form W g 35 3,
            .three 6 4 (fun p r _ W => Put3 Wf1.heap.size 35 p r W),
            .one fun v _ => v = .int .i64 0]
          (fun W => Ext w W ∧ Bx3 W w.heap.size 35 (.bool b1) (.slice a1 n1 c1) (.slice d1 m1 o1) ∧ Bx3 W (w.heap.size + 1) 35 (.bool b2) (.slice a2 n2 c2) (.slice d2 m2 o2) ∧ Rw W (.agg #[.bool b1, .slice a1 n1 c1, .slice d1 m1 o1]) x ∧ Rw W (.agg #[.bool b2, .slice a2 n2 c2, .slice d2 m2 o2]) y ∧ Wf1.heap.size ≤ W.heap.size) ⟨Good.is _, Good.is _, (Good.rat _).tup _, (Good.rat _).tup _, Good.rat _, Good.is _, Good.box _ _ _, cert_put3, Good.is _, trivial⟩
          (fun W W1 hS hE => ⟨(Ext.trans hS.1 hE), (hS.2.1.ext hE), (hS.2.2.1.ext hE), (hS.2.2.2.1.ext hE), (hS.2.2.2.2.1.ext hE), (Nat.le_trans hS.2.2.2.2.2 (Ext.size hE))⟩) ⟨E0, p2, p3, hx1, hx2, Nat.le_refl _⟩ (by kernel_rfl) (by kernel_rfl) (by kernel_rfl) (by kernel_rfl) (A := ?A9) ?hA9 ?howe9 ?hfin9
        case hA9 =>
          intro vs
          simp only [putAll, Act.put, List.setIfInBounds_toArray, List.set_cons_zero, List.set_cons_succ, Nat.zero_add, Nat.reduceAdd]
          exact rfl
        case howe9 =>
          clear E0 p2 p3 hx1 hx2
          intro hf
          refine ⟨owesE 0 [] hf rfl (by kernel_rfl) ?_, owesE 1 [] hf rfl (by kernel_rfl) ?_, owesE 2 [0, 1] hf rfl (by kernel_rfl) ?_, owesE 3 [2] hf rfl (by kernel_rfl) ?_, owesE 4 [3] hf rfl (by kernel_rfl) ?_, owesE 5 [3] hf rfl (by kernel_rfl) ?_, owesE 6 [] hf rfl (by kernel_rfl) ?_, owesW 7 [6, 4] hf rfl (by kernel_rfl) (by kernel_rfl) ?_, owesE 8 [5] hf rfl (by kernel_rfl) ?_, trivial⟩
          all_goals intro vs W hS hp hx KO hKO
          all_goals simp only [Act.put, List.setIfInBounds_toArray, List.set_cons_zero, List.set_cons_succ] at hKO
          · have fc0 := hS.2.1.cell0
            have fc1 := hS.2.1.cell1
            have fc2 := hS.2.1.cell2
            go_simp
            exact hKO _ W (Ext.refl W) rfl
          · have fc0 := hS.2.2.1.cell0
            have fc1 := hS.2.2.1.cell1
            have fc2 := hS.2.2.1.cell2
            go_simp
            exact hKO _ W (Ext.refl W) rfl
          · have e0 := isOf hp.1
            have e1 := isOf hp.2.1
            simp only [e0, e1] at hKO
            go_simp
            refine (Try.ratDiv (hS.2.2.2.1) (hS.2.2.2.2.1) s1 s2 (by omega) HY.out).mono ?_
            rintro e W1 ⟨v, rfl, hv, hE⟩
            exact hKO _ W1 hE ⟨_, rfl, hv⟩
          · have q2 := hp.1
            obtain ⟨u, ev, hu⟩ := q2
            replace ev : vs 2 = _ := ev
            simp only [ev] at hKO
            go_simp
            exact hKO _ W (Ext.refl W) ⟨u, rfl, hu⟩
          · have q3 := hp.1
            obtain ⟨u, ev, hu⟩ := q3
            replace ev : vs 3 = _ := ev
            simp only [ev] at hKO
            go_simp
            exact hKO _ W (Ext.refl W) hu
          · have q3 := hp.1
            obtain ⟨u, ev, hu⟩ := q3
            replace ev : vs 3 = _ := ev
            simp only [ev] at hKO
            go_simp
            exact hKO _ W (Ext.refl W) rfl
          · have hn := Bx3.new W 35 (.bool false) (.slice none 0 0) (.slice none 0 0)
            have hE := Ext.alloc1 W (.cells #[.bool false, .slice none 0 0, .slice none 0 0] 35)
            have hsz := hS.2.2.2.2.2
            go_simp
            exact hKO _ _ hE ⟨_, rfl, hsz, hn.form⟩
          · have q6 := hp.1
            have q4 := hp.2.1
            obtain ⟨g, ev, hg, hf⟩ := q6
            replace ev : vs 6 = _ := ev
            obtain ⟨x0, y0, z0, hx, hno⟩ := hf.bx3
            have qr := q4
            obtain ⟨b3, a3, n3, c3, d3, m3, o3, er, -, -, -⟩ := qr
            replace er : vs 4 = _ := er
            have r0 := hx.froz0
            have t0 := hx.cell0
            have r1 := hx.froz1
            have t1 := hx.cell1
            have r2 := hx.froz2
            have t2 := hx.cell2
            have hw := Wr.set3 hx hno b3 a3 n3 c3 d3 m3 o3
            have hq := hx.set (.bool b3) (.slice a3 n3 c3) (.slice d3 m3 o3)
            simp only [ev, er] at hKO
            go_simp
            exact hKO _ _ hw ⟨(Ext.wr hS.1 hw (by omega)), (hS.2.1.wr hw (by omega)), (hS.2.2.1.wr hw (by omega)), (hS.2.2.2.1.wr hw), (hS.2.2.2.2.1.wr hw), (Nat.le_trans hS.2.2.2.2.2 hw.apart.size)⟩ ⟨g, b3, a3, n3, c3, d3, m3, o3, ev, er, hg, hq⟩
          · have e5 := isOf hp.1
            simp only [e5] at hKO
            go_simp
            exact hKO _ W (Ext.refl W) rfl
        intro vs W9 hS hp
        clear szw9 E0 p2 p3 hx1 hx2
        obtain ⟨E0, p2, p3, hx1, hx2, sz9⟩ := hS
        obtain ⟨h9_0, h9_1, h9_2, h9_3, h9_4, h9_5, h9_6, h9_7, h9_8, -⟩ := hp
        obtain ⟨g9_7, b9_7, a9_7, n9_7, c9_7, d9_7, m9_7, o9_7, ev9_7, er9_7, hg9_7, p9_7⟩ := h9_7
        replace ev9_7 : vs 6 = _ := ev9_7
        replace er9_7 : vs 4 = _ := er9_7
        replace h9_4 := (show Rw W9 (vs 4) (x / y) from h9_4)
        rw [er9_7] at h9_4
        replace h9_0 : vs 0 = .agg #[.bool b1, .slice a1 n1 c1, .slice d1 m1 o1] := h9_0
        replace h9_1 : vs 1 = .agg #[.bool b2, .slice a2 n2 c2, .slice d2 m2 o2] := h9_1
        replace h9_5 : vs 5 = .int .i64 0 := h9_5
        replace h9_8 : vs 8 = .int .i64 0 := h9_8
        simp only [ev9_7, er9_7, h9_0, h9_1, h9_5, h9_8]
        clear ev9_7 er9_7 h9_0 h9_1 h9_5 h9_8 h9_2 h9_3 h9_6
        have kp2_0 := p2.cell0
        have kp2_1 := p2.cell1
        have kp2_2 := p2.cell2
        have kp3_0 := p3.cell0
        have kp3_1 := p3.cell1
        have kp3_2 := p3.cell2
        have kp9_7_0 := p9_7.cell0
        have kp9_7_1 := p9_7.cell1
        have kp9_7_2 := p9_7.cell2
        go_upto_region 4 with (fail)
        clear kp2_0 kp2_1 kp2_2 kp3_0 kp3_1 kp3_2 kp9_7_0 kp9_7_1 kp9_7_2
        have ltp9_7 := p9_7.lt
        have szw10 := Ext.size E0
        refine region_go [.one fun v _ => v = .agg #[.bool b1, .slice a1 n1 c1, .slice d1 m1 o1],
            .one fun v _ => v = .agg #[.bool b2, .slice a2 n2 c2, .slice d2 m2 o2],
            .one fun v W => ∃ v', v = .tuple #[v', .int .i64 0] ∧ (fun v W => Rw W v (x / y)) v' W,
            .one fun v W => ∃ v', v = .tuple #[v', .int .i64 0] ∧ (fun v W => Rw W v (x / y)) v' W,
            .one fun v W => Rw W v (x / y),
            .one fun v _ => v = .int .i64 0,
            .one fun v W => ∃ g, v = .pointer (some ⟨g, 0, none⟩) ∧ W9.heap.size ≤ g ∧ Form W g 35 3,
            .three 6 4 (fun p r _ W => Put3 W9.heap.size 35 p r W),
            .one fun v _ => v = .int .i64 0]
          (fun W => Ext w W ∧ Bx3 W w.heap.size 35 (.bool b1) (.slice a1 n1 c1) (.slice d1 m1 o1) ∧ Bx3 W (w.heap.size + 1) 35 (.bool b2) (.slice a2 n2 c2) (.slice d2 m2 o2) ∧ Rw W (.agg #[.bool b1, .slice a1 n1 c1, .slice d1 m1 o1]) x ∧ Rw W (.agg #[.bool b2, .slice a2 n2 c2, .slice d2 m2 o2]) y ∧ Rw W (.agg #[.bool b9_7, .slice a9_7 n9_7 c9_7, .slice d9_7 m9_7 o9_7]) (x / y) ∧ Bx3 W g9_7 35 (.bool b9_7) (.slice a9_7 n9_7 c9_7) (.slice d9_7 m9_7 o9_7) ∧ W9.heap.size ≤ W.heap.size) ⟨Good.is _, Good.is _, (Good.rat _).tup _, (Good.rat _).tup _, Good.rat _, Good.is _, Good.box _ _ _, cert_put3, Good.is _, trivial⟩
          (fun W W1 hS hE => ⟨(Ext.trans hS.1 hE), (hS.2.1.ext hE), (hS.2.2.1.ext hE), (hS.2.2.2.1.ext hE), (hS.2.2.2.2.1.ext hE), (hS.2.2.2.2.2.1.ext hE), (hS.2.2.2.2.2.2.1.ext hE), (Nat.le_trans hS.2.2.2.2.2.2.2 (Ext.size hE))⟩) ⟨E0, p2, p3, hx1, hx2, h9_4, p9_7, Nat.le_refl _⟩ (by kernel_rfl) (by kernel_rfl) (by kernel_rfl) (by kernel_rfl) (A := ?A10) ?hA10 ?howe10 ?hfin10
        case hA10 =>
          intro vs
          simp only [putAll, Act.put, List.setIfInBounds_toArray, List.set_cons_zero, List.set_cons_succ, Nat.zero_add, Nat.reduceAdd]
          exact rfl
        case howe10 =>
          clear E0 p2 p3 hx1 hx2 h9_4 p9_7
          intro hf
          refine ⟨owesE 0 [] hf rfl (by kernel_rfl) ?_, owesE 1 [] hf rfl (by kernel_rfl) ?_, owesE 2 [0, 1] hf rfl (by kernel_rfl) ?_, owesE 3 [2] hf rfl (by kernel_rfl) ?_, owesE 4 [3] hf rfl (by kernel_rfl) ?_, owesE 5 [3] hf rfl (by kernel_rfl) ?_, owesE 6 [] hf rfl (by kernel_rfl) ?_, owesW 7 [6, 4] hf rfl (by kernel_rfl) (by kernel_rfl) ?_, owesE 8 [5] hf rfl (by kernel_rfl) ?_, trivial⟩
          all_goals intro vs W hS hp hx KO hKO
          all_goals simp only [Act.put, List.setIfInBounds_toArray, List.set_cons_zero, List.set_cons_succ] at hKO
          · have fc0 := hS.2.1.cell0
            have fc1 := hS.2.1.cell1
            have fc2 := hS.2.1.cell2
            go_simp
            exact hKO _ W (Ext.refl W) rfl
          · have fc0 := hS.2.2.1.cell0
            have fc1 := hS.2.2.1.cell1
            have fc2 := hS.2.2.1.cell2
            go_simp
            exact hKO _ W (Ext.refl W) rfl
          · have e0 := isOf hp.1
            have e1 := isOf hp.2.1
            simp only [e0, e1] at hKO
            go_simp
            refine (Try.refRDiv (hS.2.2.2.1) (hS.2.2.2.2.1) s1 s2 (by omega) HY.out).mono ?_
            rintro e W1 ⟨v, rfl, hv, hE⟩
            exact hKO _ W1 hE ⟨_, rfl, hv⟩
          · have q2 := hp.1
            obtain ⟨u, ev, hu⟩ := q2
            replace ev : vs 2 = _ := ev
            simp only [ev] at hKO
            go_simp
            exact hKO _ W (Ext.refl W) ⟨u, rfl, hu⟩
          · have q3 := hp.1
            obtain ⟨u, ev, hu⟩ := q3
            replace ev : vs 3 = _ := ev
            simp only [ev] at hKO
            go_simp
            exact hKO _ W (Ext.refl W) hu
          · have q3 := hp.1
            obtain ⟨u, ev, hu⟩ := q3
            replace ev : vs 3 = _ := ev
            simp only [ev] at hKO
            go_simp
            exact hKO _ W (Ext.refl W) rfl
          · have hn := Bx3.new W 35 (.bool false) (.slice none 0 0) (.slice none 0 0)
            have hE := Ext.alloc1 W (.cells #[.bool false, .slice none 0 0, .slice none 0 0] 35)
            have hsz := hS.2.2.2.2.2.2.2
            go_simp
            exact hKO _ _ hE ⟨_, rfl, hsz, hn.form⟩
          · have q6 := hp.1
            have q4 := hp.2.1
            obtain ⟨g, ev, hg, hf⟩ := q6
            replace ev : vs 6 = _ := ev
            obtain ⟨x0, y0, z0, hx, hno⟩ := hf.bx3
            have qr := q4
            obtain ⟨b3, a3, n3, c3, d3, m3, o3, er, -, -, -⟩ := qr
            replace er : vs 4 = _ := er
            have r0 := hx.froz0
            have t0 := hx.cell0
            have r1 := hx.froz1
            have t1 := hx.cell1
            have r2 := hx.froz2
            have t2 := hx.cell2
            have hw := Wr.set3 hx hno b3 a3 n3 c3 d3 m3 o3
            have hq := hx.set (.bool b3) (.slice a3 n3 c3) (.slice d3 m3 o3)
            simp only [ev, er] at hKO
            go_simp
            exact hKO _ _ hw ⟨(Ext.wr hS.1 hw (by omega)), (hS.2.1.wr hw (by omega)), (hS.2.2.1.wr hw (by omega)), (hS.2.2.2.1.wr hw), (hS.2.2.2.2.1.wr hw), (hS.2.2.2.2.2.1.wr hw), (hS.2.2.2.2.2.2.1.wr hw (by omega)), (Nat.le_trans hS.2.2.2.2.2.2.2 hw.apart.size)⟩ ⟨g, b3, a3, n3, c3, d3, m3, o3, ev, er, hg, hq⟩
          · have e5 := isOf hp.1
            simp only [e5] at hKO
            go_simp
            exact hKO _ W (Ext.refl W) rfl
        intro vs W10 hS hp
        clear szw10 E0 p2 p3 hx1 hx2 h9_4 p9_7
        obtain ⟨E0, p2, p3, hx1, hx2, h9_4, p9_7, sz10⟩ := hS
        obtain ⟨h10_0, h10_1, h10_2, h10_3, h10_4, h10_5, h10_6, h10_7, h10_8, -⟩ := hp
        obtain ⟨g10_7, b10_7, a10_7, n10_7, c10_7, d10_7, m10_7, o10_7, ev10_7, er10_7, hg10_7, p10_7⟩ := h10_7
        replace ev10_7 : vs 6 = _ := ev10_7
        replace er10_7 : vs 4 = _ := er10_7
        replace h10_4 := (show Rw W10 (vs 4) (x / y) from h10_4)
        rw [er10_7] at h10_4
        replace h10_0 : vs 0 = .agg #[.bool b1, .slice a1 n1 c1, .slice d1 m1 o1] := h10_0
        replace h10_1 : vs 1 = .agg #[.bool b2, .slice a2 n2 c2, .slice d2 m2 o2] := h10_1
        replace h10_5 : vs 5 = .int .i64 0 := h10_5
        replace h10_8 : vs 8 = .int .i64 0 := h10_8
        simp only [ev10_7, er10_7, h10_0, h10_1, h10_5, h10_8]
        clear ev10_7 er10_7 h10_0 h10_1 h10_5 h10_8 h10_2 h10_3 h10_6
        have kp2_0 := p2.cell0
        have kp2_1 := p2.cell1
        have kp2_2 := p2.cell2
        have kp3_0 := p3.cell0
        have kp3_1 := p3.cell1
        have kp3_2 := p3.cell2
        have kp9_7_0 := p9_7.cell0
        have kp9_7_1 := p9_7.cell1
        have kp9_7_2 := p9_7.cell2
        have kp10_7_0 := p10_7.cell0
        have kp10_7_1 := p10_7.cell1
        have kp10_7_2 := p10_7.cell2
        go_upto_region 5 with (fail)
        clear kp2_0 kp2_1 kp2_2 kp3_0 kp3_1 kp3_2 kp9_7_0 kp9_7_1 kp9_7_2 kp10_7_0 kp10_7_1 kp10_7_2
        have ltp10_7 := p10_7.lt
        have szw11 := Ext.size E0
        refine region_go [.one fun v _ => v = .agg #[.bool b1, .slice a1 n1 c1, .slice d1 m1 o1],
            .one fun v _ => v = .agg #[.bool b2, .slice a2 n2 c2, .slice d2 m2 o2],
            .one fun v W => Rw W v (x + y),
            .one fun v _ => v = .agg #[.bool b1, .slice a1 n1 c1, .slice d1 m1 o1],
            .one fun v _ => v = .agg #[.bool b2, .slice a2 n2 c2, .slice d2 m2 o2],
            .one fun v W => Rw W v (x + y),
            .one fun v _ => v = .bool true,
            .one fun v _ => v = .bool true,
            .one fun v _ => v = .agg #[.bool b1, .slice a1 n1 c1, .slice d1 m1 o1],
            .one fun v _ => v = .agg #[.bool b2, .slice a2 n2 c2, .slice d2 m2 o2],
            .one fun v W => Rw W v (x - y),
            .one fun v _ => v = .agg #[.bool b1, .slice a1 n1 c1, .slice d1 m1 o1],
            .one fun v _ => v = .agg #[.bool b2, .slice a2 n2 c2, .slice d2 m2 o2],
            .one fun v W => Rw W v (x - y),
            .one fun v _ => v = .bool true,
            .one fun v _ => v = .bool true,
            .one fun v _ => v = .bool true]
          (fun W => Ext w W ∧ Bx3 W w.heap.size 35 (.bool b1) (.slice a1 n1 c1) (.slice d1 m1 o1) ∧ Bx3 W (w.heap.size + 1) 35 (.bool b2) (.slice a2 n2 c2) (.slice d2 m2 o2) ∧ Rw W (.agg #[.bool b1, .slice a1 n1 c1, .slice d1 m1 o1]) x ∧ Rw W (.agg #[.bool b2, .slice a2 n2 c2, .slice d2 m2 o2]) y ∧ Rw W (.agg #[.bool b9_7, .slice a9_7 n9_7 c9_7, .slice d9_7 m9_7 o9_7]) (x / y) ∧ Bx3 W g9_7 35 (.bool b9_7) (.slice a9_7 n9_7 c9_7) (.slice d9_7 m9_7 o9_7) ∧ Rw W (.agg #[.bool b10_7, .slice a10_7 n10_7 c10_7, .slice d10_7 m10_7 o10_7]) (x / y) ∧ Bx3 W g10_7 35 (.bool b10_7) (.slice a10_7 n10_7 c10_7) (.slice d10_7 m10_7 o10_7) ∧ W10.heap.size ≤ W.heap.size) ⟨Good.is _, Good.is _, Good.rat _, Good.is _, Good.is _, Good.rat _, Good.is _, Good.is _, Good.is _, Good.is _, Good.rat _, Good.is _, Good.is _, Good.rat _, Good.is _, Good.is _, Good.is _, trivial⟩
          (fun W W1 hS hE => ⟨(Ext.trans hS.1 hE), (hS.2.1.ext hE), (hS.2.2.1.ext hE), (hS.2.2.2.1.ext hE), (hS.2.2.2.2.1.ext hE), (hS.2.2.2.2.2.1.ext hE), (hS.2.2.2.2.2.2.1.ext hE), (hS.2.2.2.2.2.2.2.1.ext hE), (hS.2.2.2.2.2.2.2.2.1.ext hE), (Nat.le_trans hS.2.2.2.2.2.2.2.2.2 (Ext.size hE))⟩) ⟨E0, p2, p3, hx1, hx2, h9_4, p9_7, h10_4, p10_7, Nat.le_refl _⟩ (by kernel_rfl) (by kernel_rfl) (by kernel_rfl) (by kernel_rfl) (A := ?A11) ?hA11 ?howe11 ?hfin11
        case hA11 =>
          intro vs
          simp only [putAll, Act.put, List.setIfInBounds_toArray, List.set_cons_zero, List.set_cons_succ, Nat.zero_add, Nat.reduceAdd]
          exact rfl
        case howe11 =>
          clear E0 p2 p3 hx1 hx2 h9_4 p9_7 h10_4 p10_7
          intro hf
          refine ⟨owesE 0 [] hf rfl (by kernel_rfl) ?_, owesE 1 [] hf rfl (by kernel_rfl) ?_, owesE 2 [0, 1] hf rfl (by kernel_rfl) ?_, owesE 3 [] hf rfl (by kernel_rfl) ?_, owesE 4 [] hf rfl (by kernel_rfl) ?_, owesE 5 [3, 4] hf rfl (by kernel_rfl) ?_, owesE 6 [2, 5] hf rfl (by kernel_rfl) ?_, owesE 7 [6] hf rfl (by kernel_rfl) ?_, owesE 8 [7] hf rfl (by kernel_rfl) ?_, owesE 9 [7] hf rfl (by kernel_rfl) ?_, owesE 10 [7, 8, 9] hf rfl (by kernel_rfl) ?_, owesE 11 [7] hf rfl (by kernel_rfl) ?_, owesE 12 [7] hf rfl (by kernel_rfl) ?_, owesE 13 [7, 11, 12] hf rfl (by kernel_rfl) ?_, owesE 14 [7, 10, 13] hf rfl (by kernel_rfl) ?_, owesE 15 [7, 14] hf rfl (by kernel_rfl) ?_, owesE 16 [15] hf rfl (by kernel_rfl) ?_, trivial⟩
          all_goals intro vs W hS hp hx KO hKO
          all_goals simp only [Act.put, List.setIfInBounds_toArray, List.set_cons_zero, List.set_cons_succ] at hKO
          · have fc0 := hS.2.1.cell0
            have fc1 := hS.2.1.cell1
            have fc2 := hS.2.1.cell2
            go_simp
            exact hKO _ W (Ext.refl W) rfl
          · have fc0 := hS.2.2.1.cell0
            have fc1 := hS.2.2.1.cell1
            have fc2 := hS.2.2.1.cell2
            go_simp
            exact hKO _ W (Ext.refl W) rfl
          · have e0 := isOf hp.1
            have e1 := isOf hp.2.1
            simp only [e0, e1] at hKO
            go_simp
            refine (Try.ratAdd (hS.2.2.2.1) (hS.2.2.2.2.1) s1 s2 (by omega)).mono ?_
            rintro e W1 ⟨v, rfl, hv, hE⟩
            exact hKO _ W1 hE hv
          · have fc0 := hS.2.1.cell0
            have fc1 := hS.2.1.cell1
            have fc2 := hS.2.1.cell2
            go_simp
            exact hKO _ W (Ext.refl W) rfl
          · have fc0 := hS.2.2.1.cell0
            have fc1 := hS.2.2.1.cell1
            have fc2 := hS.2.2.1.cell2
            go_simp
            exact hKO _ W (Ext.refl W) rfl
          · have e3 := isOf hp.1
            have e4 := isOf hp.2.1
            simp only [e3, e4] at hKO
            go_simp
            refine (Try.refRAdd (hS.2.2.2.1) (hS.2.2.2.2.1) s1 s2 (by omega)).mono ?_
            rintro e W1 ⟨v, rfl, hv, hE⟩
            exact hKO _ W1 hE hv
          · have q2 := hp.1
            have q5 := hp.2.1
            go_simp
            refine (Try.refRSameT q2 q5 rfl).mono ?_
            rintro e W1 ⟨rfl, hE⟩
            exact hKO _ W1 hE rfl
          · have e6 := isOf hp.1
            simp only [e6] at hKO
            go_simp
            exact hKO _ W (Ext.refl W) rfl
          · have e7 := isOf hp.1
            simp only [e7] at hKO
            have fc0 := hS.2.1.cell0
            have fc1 := hS.2.1.cell1
            have fc2 := hS.2.1.cell2
            go_simp
            exact hKO _ W (Ext.refl W) rfl
          · have e7 := isOf hp.1
            simp only [e7] at hKO
            have fc0 := hS.2.2.1.cell0
            have fc1 := hS.2.2.1.cell1
            have fc2 := hS.2.2.1.cell2
            go_simp
            exact hKO _ W (Ext.refl W) rfl
          · have e7 := isOf hp.1
            have e8 := isOf hp.2.1
            have e9 := isOf hp.2.2.1
            simp only [e7, e8, e9] at hKO
            go_simp
            refine (Try.ratSub (hS.2.2.2.1) (hS.2.2.2.2.1) s1 s2 (by omega)).mono ?_
            rintro e W1 ⟨v, rfl, hv, hE⟩
            exact hKO _ W1 hE hv
          · have e7 := isOf hp.1
            simp only [e7] at hKO
            have fc0 := hS.2.1.cell0
            have fc1 := hS.2.1.cell1
            have fc2 := hS.2.1.cell2
            go_simp
            exact hKO _ W (Ext.refl W) rfl
          · have e7 := isOf hp.1
            simp only [e7] at hKO
            have fc0 := hS.2.2.1.cell0
            have fc1 := hS.2.2.1.cell1
            have fc2 := hS.2.2.1.cell2
            go_simp
            exact hKO _ W (Ext.refl W) rfl
          · have e7 := isOf hp.1
            have e11 := isOf hp.2.1
            have e12 := isOf hp.2.2.1
            simp only [e7, e11, e12] at hKO
            go_simp
            refine (Try.refRSub (hS.2.2.2.1) (hS.2.2.2.2.1) s1 s2 (by omega)).mono ?_
            rintro e W1 ⟨v, rfl, hv, hE⟩
            exact hKO _ W1 hE hv
          · have e7 := isOf hp.1
            have q10 := hp.2.1
            have q13 := hp.2.2.1
            simp only [e7] at hKO
            go_simp
            refine (Try.refRSameT q10 q13 rfl).mono ?_
            rintro e W1 ⟨rfl, hE⟩
            exact hKO _ W1 hE rfl
          · have e7 := isOf hp.1
            have e14 := isOf hp.2.1
            simp only [e7, e14] at hKO
            go_simp
            exact hKO _ W (Ext.refl W) rfl
          · have e15 := isOf hp.1
            simp only [e15] at hKO
            go_simp
            exact hKO _ W (Ext.refl W) rfl
        intro vs W11 hS hp
        clear szw11 E0 p2 p3 hx1 hx2 h9_4 p9_7 h10_4 p10_7
        obtain ⟨E0, p2, p3, hx1, hx2, h9_4, p9_7, h10_4, p10_7, sz11⟩ := hS
        obtain ⟨h11_0, h11_1, h11_2, h11_3, h11_4, h11_5, h11_6, h11_7, h11_8, h11_9, h11_10, h11_11, h11_12, h11_13, h11_14, h11_15, h11_16, -⟩ := hp
        replace h11_0 : vs 0 = .agg #[.bool b1, .slice a1 n1 c1, .slice d1 m1 o1] := h11_0
        replace h11_1 : vs 1 = .agg #[.bool b2, .slice a2 n2 c2, .slice d2 m2 o2] := h11_1
        replace h11_3 : vs 3 = .agg #[.bool b1, .slice a1 n1 c1, .slice d1 m1 o1] := h11_3
        replace h11_4 : vs 4 = .agg #[.bool b2, .slice a2 n2 c2, .slice d2 m2 o2] := h11_4
        replace h11_6 : vs 6 = .bool true := h11_6
        replace h11_7 : vs 7 = .bool true := h11_7
        replace h11_8 : vs 8 = .agg #[.bool b1, .slice a1 n1 c1, .slice d1 m1 o1] := h11_8
        replace h11_9 : vs 9 = .agg #[.bool b2, .slice a2 n2 c2, .slice d2 m2 o2] := h11_9
        replace h11_11 : vs 11 = .agg #[.bool b1, .slice a1 n1 c1, .slice d1 m1 o1] := h11_11
        replace h11_12 : vs 12 = .agg #[.bool b2, .slice a2 n2 c2, .slice d2 m2 o2] := h11_12
        replace h11_14 : vs 14 = .bool true := h11_14
        replace h11_15 : vs 15 = .bool true := h11_15
        replace h11_16 : vs 16 = .bool true := h11_16
        simp only [h11_0, h11_1, h11_3, h11_4, h11_6, h11_7, h11_8, h11_9, h11_11, h11_12, h11_14, h11_15, h11_16]
        replace h11_2 : Rw W11 (vs 2) (x + y) := h11_2
        generalize vs 2 = u11_2 at h11_2 ⊢
        replace h11_5 : Rw W11 (vs 5) (x + y) := h11_5
        generalize vs 5 = u11_5 at h11_5 ⊢
        replace h11_10 : Rw W11 (vs 10) (x - y) := h11_10
        generalize vs 10 = u11_10 at h11_10 ⊢
        replace h11_13 : Rw W11 (vs 13) (x - y) := h11_13
        generalize vs 13 = u11_13 at h11_13 ⊢
        clear h11_0 h11_1 h11_3 h11_4 h11_6 h11_7 h11_8 h11_9 h11_11 h11_12 h11_14 h11_15 h11_16
        have kp2_0 := p2.cell0
        have kp2_1 := p2.cell1
        have kp2_2 := p2.cell2
        have kp3_0 := p3.cell0
        have kp3_1 := p3.cell1
        have kp3_2 := p3.cell2
        have kp9_7_0 := p9_7.cell0
        have kp9_7_1 := p9_7.cell1
        have kp9_7_2 := p9_7.cell2
        have kp10_7_0 := p10_7.cell0
        have kp10_7_1 := p10_7.cell1
        have kp10_7_2 := p10_7.cell2
        go_upto_region 6 with (fail)
        clear kp2_0 kp2_1 kp2_2 kp3_0 kp3_1 kp3_2 kp9_7_0 kp9_7_1 kp9_7_2 kp10_7_0 kp10_7_1 kp10_7_2
        have szw12 := Ext.size E0
        refine region_go [.one fun v _ => v = .bool true,
            .one fun v _ => v = .bool true,
            .one fun v _ => v = .bool true,
            .one fun v _ => v = .bool true,
            .one fun v _ => v = .bool true,
            .one fun v _ => v = .agg #[.bool b1, .slice a1 n1 c1, .slice d1 m1 o1],
            .one fun v _ => v = .agg #[.bool b2, .slice a2 n2 c2, .slice d2 m2 o2],
            .one fun v W => Rw W v (x * y),
            .one fun v _ => v = .agg #[.bool b1, .slice a1 n1 c1, .slice d1 m1 o1],
            .one fun v _ => v = .agg #[.bool b2, .slice a2 n2 c2, .slice d2 m2 o2],
            .one fun v W => Rw W v (x * y),
            .one fun v _ => v = .bool true,
            .one fun v _ => v = .bool true,
            .one fun v _ => v = .bool true,
            .one fun v _ => v = .agg #[.bool b9_7, .slice a9_7 n9_7 c9_7, .slice d9_7 m9_7 o9_7],
            .one fun v _ => v = .agg #[.bool b10_7, .slice a10_7 n10_7 c10_7, .slice d10_7 m10_7 o10_7],
            .one fun v _ => v = .bool true,
            .one fun v _ => v = .bool true,
            .one fun v _ => v = .bool true,
            .one fun v _ => v = .int .i64 0,
            .one fun v _ => v = .int .i64 0,
            .one fun v _ => v = .bool true,
            .one fun v _ => v = .bool true,
            .one fun v _ => v = .bool true,
            .one fun v _ => v = .agg #[.bool b1, .slice a1 n1 c1, .slice d1 m1 o1],
            .one fun v _ => v = .agg #[.bool b2, .slice a2 n2 c2, .slice d2 m2 o2],
            .one fun v _ => v = .int .i64 (cmpR x y),
            .one fun v _ => v = .agg #[.bool b1, .slice a1 n1 c1, .slice d1 m1 o1],
            .one fun v _ => v = .agg #[.bool b2, .slice a2 n2 c2, .slice d2 m2 o2],
            .one fun v _ => v = .int .i64 (cmpR x y),
            .one fun v _ => v = .bool true,
            .one fun v _ => v = .bool true,
            .one fun v _ => v = .bool true]
          (fun W => Ext w W ∧ Bx3 W w.heap.size 35 (.bool b1) (.slice a1 n1 c1) (.slice d1 m1 o1) ∧ Bx3 W (w.heap.size + 1) 35 (.bool b2) (.slice a2 n2 c2) (.slice d2 m2 o2) ∧ Rw W (.agg #[.bool b1, .slice a1 n1 c1, .slice d1 m1 o1]) x ∧ Rw W (.agg #[.bool b2, .slice a2 n2 c2, .slice d2 m2 o2]) y ∧ Rw W (.agg #[.bool b9_7, .slice a9_7 n9_7 c9_7, .slice d9_7 m9_7 o9_7]) (x / y) ∧ Bx3 W g9_7 35 (.bool b9_7) (.slice a9_7 n9_7 c9_7) (.slice d9_7 m9_7 o9_7) ∧ Rw W (.agg #[.bool b10_7, .slice a10_7 n10_7 c10_7, .slice d10_7 m10_7 o10_7]) (x / y) ∧ Bx3 W g10_7 35 (.bool b10_7) (.slice a10_7 n10_7 c10_7) (.slice d10_7 m10_7 o10_7) ∧ Rw W u11_2 (x + y) ∧ Rw W u11_5 (x + y) ∧ Rw W u11_10 (x - y) ∧ Rw W u11_13 (x - y) ∧ W11.heap.size ≤ W.heap.size) ⟨Good.is _, Good.is _, Good.is _, Good.is _, Good.is _, Good.is _, Good.is _, Good.rat _, Good.is _, Good.is _, Good.rat _, Good.is _, Good.is _, Good.is _, Good.is _, Good.is _, Good.is _, Good.is _, Good.is _, Good.is _, Good.is _, Good.is _, Good.is _, Good.is _, Good.is _, Good.is _, Good.is _, Good.is _, Good.is _, Good.is _, Good.is _, Good.is _, Good.is _, trivial⟩
          (fun W W1 hS hE => ⟨(Ext.trans hS.1 hE), (hS.2.1.ext hE), (hS.2.2.1.ext hE), (hS.2.2.2.1.ext hE), (hS.2.2.2.2.1.ext hE), (hS.2.2.2.2.2.1.ext hE), (hS.2.2.2.2.2.2.1.ext hE), (hS.2.2.2.2.2.2.2.1.ext hE), (hS.2.2.2.2.2.2.2.2.1.ext hE), (hS.2.2.2.2.2.2.2.2.2.1.ext hE), (hS.2.2.2.2.2.2.2.2.2.2.1.ext hE), (hS.2.2.2.2.2.2.2.2.2.2.2.1.ext hE), (hS.2.2.2.2.2.2.2.2.2.2.2.2.1.ext hE), (Nat.le_trans hS.2.2.2.2.2.2.2.2.2.2.2.2.2 (Ext.size hE))⟩) ⟨E0, p2, p3, hx1, hx2, h9_4, p9_7, h10_4, p10_7, h11_2, h11_5, h11_10, h11_13, Nat.le_refl _⟩ (by kernel_rfl) (by kernel_rfl) (by kernel_rfl) (by kernel_rfl) (A := ?A12) ?hA12 ?howe12 ?hfin12
        case hA12 =>
          intro vs
          simp only [putAll, Act.put, List.setIfInBounds_toArray, List.set_cons_zero, List.set_cons_succ, Nat.zero_add, Nat.reduceAdd]
          exact rfl
        case howe12 =>
          clear E0 p2 p3 hx1 hx2 h9_4 p9_7 h10_4 p10_7 h11_2 h11_5 h11_10 h11_13
          intro hf
          refine ⟨owesE 0 [] hf rfl (by kernel_rfl) ?_, owesE 1 [0] hf rfl (by kernel_rfl) ?_, owesE 2 [1] hf rfl (by kernel_rfl) ?_, owesE 3 [1, 2] hf rfl (by kernel_rfl) ?_, owesE 4 [3] hf rfl (by kernel_rfl) ?_, owesE 5 [4] hf rfl (by kernel_rfl) ?_, owesE 6 [4] hf rfl (by kernel_rfl) ?_, owesE 7 [4, 5, 6] hf rfl (by kernel_rfl) ?_, owesE 8 [4] hf rfl (by kernel_rfl) ?_, owesE 9 [4] hf rfl (by kernel_rfl) ?_, owesE 10 [4, 8, 9] hf rfl (by kernel_rfl) ?_, owesE 11 [4, 7, 10] hf rfl (by kernel_rfl) ?_, owesE 12 [4, 11] hf rfl (by kernel_rfl) ?_, owesE 13 [12] hf rfl (by kernel_rfl) ?_, owesE 14 [13] hf rfl (by kernel_rfl) ?_, owesE 15 [13] hf rfl (by kernel_rfl) ?_, owesE 16 [13, 14, 15] hf rfl (by kernel_rfl) ?_, owesE 17 [13, 16] hf rfl (by kernel_rfl) ?_, owesE 18 [17] hf rfl (by kernel_rfl) ?_, owesE 19 [18] hf rfl (by kernel_rfl) ?_, owesE 20 [18] hf rfl (by kernel_rfl) ?_, owesE 21 [18, 19, 20] hf rfl (by kernel_rfl) ?_, owesE 22 [18, 21] hf rfl (by kernel_rfl) ?_, owesE 23 [22] hf rfl (by kernel_rfl) ?_, owesE 24 [23] hf rfl (by kernel_rfl) ?_, owesE 25 [23] hf rfl (by kernel_rfl) ?_, owesE 26 [23, 24, 25] hf rfl (by kernel_rfl) ?_, owesE 27 [23] hf rfl (by kernel_rfl) ?_, owesE 28 [23] hf rfl (by kernel_rfl) ?_, owesE 29 [23, 27, 28] hf rfl (by kernel_rfl) ?_, owesE 30 [23, 26, 29] hf rfl (by kernel_rfl) ?_, owesE 31 [23, 30] hf rfl (by kernel_rfl) ?_, owesE 32 [31] hf rfl (by kernel_rfl) ?_, trivial⟩
          all_goals intro vs W hS hp hx KO hKO
          all_goals simp only [Act.put, List.setIfInBounds_toArray, List.set_cons_zero, List.set_cons_succ] at hKO
          · go_simp
            refine (Try.alive05 _).mono ?_
            rintro e W1 ⟨rfl, hE⟩
            exact hKO _ W1 hE rfl
          · have e0 := isOf hp.1
            simp only [e0] at hKO
            go_simp
            exact hKO _ W (Ext.refl W) rfl
          · have e1 := isOf hp.1
            simp only [e1] at hKO
            go_simp
            exact hKO _ W (Ext.refl W) rfl
          · have e1 := isOf hp.1
            have e2 := isOf hp.2.1
            simp only [e1, e2] at hKO
            go_simp
            exact hKO _ W (Ext.refl W) rfl
          · have e3 := isOf hp.1
            simp only [e3] at hKO
            go_simp
            exact hKO _ W (Ext.refl W) rfl
          · have e4 := isOf hp.1
            simp only [e4] at hKO
            have fc0 := hS.2.1.cell0
            have fc1 := hS.2.1.cell1
            have fc2 := hS.2.1.cell2
            go_simp
            exact hKO _ W (Ext.refl W) rfl
          · have e4 := isOf hp.1
            simp only [e4] at hKO
            have fc0 := hS.2.2.1.cell0
            have fc1 := hS.2.2.1.cell1
            have fc2 := hS.2.2.1.cell2
            go_simp
            exact hKO _ W (Ext.refl W) rfl
          · have e4 := isOf hp.1
            have e5 := isOf hp.2.1
            have e6 := isOf hp.2.2.1
            simp only [e4, e5, e6] at hKO
            go_simp
            refine (Try.ratMul (hS.2.2.2.1) (hS.2.2.2.2.1) s1 s2 (by omega)).mono ?_
            rintro e W1 ⟨v, rfl, hv, hE⟩
            exact hKO _ W1 hE hv
          · have e4 := isOf hp.1
            simp only [e4] at hKO
            have fc0 := hS.2.1.cell0
            have fc1 := hS.2.1.cell1
            have fc2 := hS.2.1.cell2
            go_simp
            exact hKO _ W (Ext.refl W) rfl
          · have e4 := isOf hp.1
            simp only [e4] at hKO
            have fc0 := hS.2.2.1.cell0
            have fc1 := hS.2.2.1.cell1
            have fc2 := hS.2.2.1.cell2
            go_simp
            exact hKO _ W (Ext.refl W) rfl
          · have e4 := isOf hp.1
            have e8 := isOf hp.2.1
            have e9 := isOf hp.2.2.1
            simp only [e4, e8, e9] at hKO
            go_simp
            refine (Try.refRMul (hS.2.2.2.1) (hS.2.2.2.2.1) s1 s2 (by omega)).mono ?_
            rintro e W1 ⟨v, rfl, hv, hE⟩
            exact hKO _ W1 hE hv
          · have e4 := isOf hp.1
            have q7 := hp.2.1
            have q10 := hp.2.2.1
            simp only [e4] at hKO
            go_simp
            refine (Try.refRSameT q7 q10 rfl).mono ?_
            rintro e W1 ⟨rfl, hE⟩
            exact hKO _ W1 hE rfl
          · have e4 := isOf hp.1
            have e11 := isOf hp.2.1
            simp only [e4, e11] at hKO
            go_simp
            exact hKO _ W (Ext.refl W) rfl
          · have e12 := isOf hp.1
            simp only [e12] at hKO
            go_simp
            exact hKO _ W (Ext.refl W) rfl
          · have e13 := isOf hp.1
            simp only [e13] at hKO
            have fc0 := hS.2.2.2.2.2.2.1.cell0
            have fc1 := hS.2.2.2.2.2.2.1.cell1
            have fc2 := hS.2.2.2.2.2.2.1.cell2
            go_simp
            exact hKO _ W (Ext.refl W) rfl
          · have e13 := isOf hp.1
            simp only [e13] at hKO
            have fc0 := hS.2.2.2.2.2.2.2.2.1.cell0
            have fc1 := hS.2.2.2.2.2.2.2.2.1.cell1
            have fc2 := hS.2.2.2.2.2.2.2.2.1.cell2
            go_simp
            exact hKO _ W (Ext.refl W) rfl
          · have e13 := isOf hp.1
            have e14 := isOf hp.2.1
            have e15 := isOf hp.2.2.1
            simp only [e13, e14, e15] at hKO
            go_simp
            refine (Try.refRSameT (hS.2.2.2.2.2.1) (hS.2.2.2.2.2.2.2.1) rfl).mono ?_
            rintro e W1 ⟨rfl, hE⟩
            exact hKO _ W1 hE rfl
          · have e13 := isOf hp.1
            have e16 := isOf hp.2.1
            simp only [e13, e16] at hKO
            go_simp
            exact hKO _ W (Ext.refl W) rfl
          · have e17 := isOf hp.1
            simp only [e17] at hKO
            go_simp
            exact hKO _ W (Ext.refl W) rfl
          · have e18 := isOf hp.1
            simp only [e18] at hKO
            go_simp
            exact hKO _ W (Ext.refl W) rfl
          · have e18 := isOf hp.1
            simp only [e18] at hKO
            go_simp
            exact hKO _ W (Ext.refl W) rfl
          · have e18 := isOf hp.1
            have e19 := isOf hp.2.1
            have e20 := isOf hp.2.2.1
            simp only [e18, e19, e20] at hKO
            go_simp
            exact hKO _ W (Ext.refl W) rfl
          · have e18 := isOf hp.1
            have e21 := isOf hp.2.1
            simp only [e18, e21] at hKO
            go_simp
            exact hKO _ W (Ext.refl W) rfl
          · have e22 := isOf hp.1
            simp only [e22] at hKO
            go_simp
            exact hKO _ W (Ext.refl W) rfl
          · have e23 := isOf hp.1
            simp only [e23] at hKO
            have fc0 := hS.2.1.cell0
            have fc1 := hS.2.1.cell1
            have fc2 := hS.2.1.cell2
            go_simp
            exact hKO _ W (Ext.refl W) rfl
          · have e23 := isOf hp.1
            simp only [e23] at hKO
            have fc0 := hS.2.2.1.cell0
            have fc1 := hS.2.2.1.cell1
            have fc2 := hS.2.2.1.cell2
            go_simp
            exact hKO _ W (Ext.refl W) rfl
          · have e23 := isOf hp.1
            have e24 := isOf hp.2.1
            have e25 := isOf hp.2.2.1
            simp only [e23, e24, e25] at hKO
            go_simp
            refine (Try.ratCmpR (hS.2.2.2.1) (hS.2.2.2.2.1) s1 s2 (by omega) rfl).mono ?_
            rintro e W1 ⟨rfl, hE⟩
            exact hKO _ W1 hE rfl
          · have e23 := isOf hp.1
            simp only [e23] at hKO
            have fc0 := hS.2.1.cell0
            have fc1 := hS.2.1.cell1
            have fc2 := hS.2.1.cell2
            go_simp
            exact hKO _ W (Ext.refl W) rfl
          · have e23 := isOf hp.1
            simp only [e23] at hKO
            have fc0 := hS.2.2.1.cell0
            have fc1 := hS.2.2.1.cell1
            have fc2 := hS.2.2.1.cell2
            go_simp
            exact hKO _ W (Ext.refl W) rfl
          · have e23 := isOf hp.1
            have e27 := isOf hp.2.1
            have e28 := isOf hp.2.2.1
            simp only [e23, e27, e28] at hKO
            go_simp
            refine (Try.refRCmpR (hS.2.2.2.1) (hS.2.2.2.2.1) s1 s2 (by omega) rfl).mono ?_
            rintro e W1 ⟨rfl, hE⟩
            exact hKO _ W1 hE rfl
          · have e23 := isOf hp.1
            have e26 := isOf hp.2.1
            have e29 := isOf hp.2.2.1
            simp only [e23, e26, e29] at hKO
            go_simp
            exact hKO _ W (Ext.refl W) rfl
          · have e23 := isOf hp.1
            have e30 := isOf hp.2.1
            simp only [e23, e30] at hKO
            go_simp
            exact hKO _ W (Ext.refl W) rfl
          · have e31 := isOf hp.1
            simp only [e31] at hKO
            go_simp
            exact hKO _ W (Ext.refl W) rfl
        intro vs W12 hS hp
        clear szw12 E0 p2 p3 hx1 hx2 h9_4 p9_7 h10_4 p10_7 h11_2 h11_5 h11_10 h11_13
        obtain ⟨E0, p2, p3, hx1, hx2, h9_4, p9_7, h10_4, p10_7, h11_2, h11_5, h11_10, h11_13, sz12⟩ := hS
        obtain ⟨h12_0, h12_1, h12_2, h12_3, h12_4, h12_5, h12_6, h12_7, h12_8, h12_9, h12_10, h12_11, h12_12, h12_13, h12_14, h12_15, h12_16, h12_17, h12_18, h12_19, h12_20, h12_21, h12_22, h12_23, h12_24, h12_25, h12_26, h12_27, h12_28, h12_29, h12_30, h12_31, h12_32, -⟩ := hp
        replace h12_0 : vs 0 = .bool true := h12_0
        replace h12_1 : vs 1 = .bool true := h12_1
        replace h12_2 : vs 2 = .bool true := h12_2
        replace h12_3 : vs 3 = .bool true := h12_3
        replace h12_4 : vs 4 = .bool true := h12_4
        replace h12_5 : vs 5 = .agg #[.bool b1, .slice a1 n1 c1, .slice d1 m1 o1] := h12_5
        replace h12_6 : vs 6 = .agg #[.bool b2, .slice a2 n2 c2, .slice d2 m2 o2] := h12_6
        replace h12_8 : vs 8 = .agg #[.bool b1, .slice a1 n1 c1, .slice d1 m1 o1] := h12_8
        replace h12_9 : vs 9 = .agg #[.bool b2, .slice a2 n2 c2, .slice d2 m2 o2] := h12_9
        replace h12_11 : vs 11 = .bool true := h12_11
        replace h12_12 : vs 12 = .bool true := h12_12
        replace h12_13 : vs 13 = .bool true := h12_13
        replace h12_14 : vs 14 = .agg #[.bool b9_7, .slice a9_7 n9_7 c9_7, .slice d9_7 m9_7 o9_7] := h12_14
        replace h12_15 : vs 15 = .agg #[.bool b10_7, .slice a10_7 n10_7 c10_7, .slice d10_7 m10_7 o10_7] := h12_15
        replace h12_16 : vs 16 = .bool true := h12_16
        replace h12_17 : vs 17 = .bool true := h12_17
        replace h12_18 : vs 18 = .bool true := h12_18
        replace h12_19 : vs 19 = .int .i64 0 := h12_19
        replace h12_20 : vs 20 = .int .i64 0 := h12_20
        replace h12_21 : vs 21 = .bool true := h12_21
        replace h12_22 : vs 22 = .bool true := h12_22
        replace h12_23 : vs 23 = .bool true := h12_23
        replace h12_24 : vs 24 = .agg #[.bool b1, .slice a1 n1 c1, .slice d1 m1 o1] := h12_24
        replace h12_25 : vs 25 = .agg #[.bool b2, .slice a2 n2 c2, .slice d2 m2 o2] := h12_25
        replace h12_26 : vs 26 = .int .i64 (cmpR x y) := h12_26
        replace h12_27 : vs 27 = .agg #[.bool b1, .slice a1 n1 c1, .slice d1 m1 o1] := h12_27
        replace h12_28 : vs 28 = .agg #[.bool b2, .slice a2 n2 c2, .slice d2 m2 o2] := h12_28
        replace h12_29 : vs 29 = .int .i64 (cmpR x y) := h12_29
        replace h12_30 : vs 30 = .bool true := h12_30
        replace h12_31 : vs 31 = .bool true := h12_31
        replace h12_32 : vs 32 = .bool true := h12_32
        simp only [h12_0, h12_1, h12_2, h12_3, h12_4, h12_5, h12_6, h12_8, h12_9, h12_11, h12_12, h12_13, h12_14, h12_15, h12_16, h12_17, h12_18, h12_19, h12_20, h12_21, h12_22, h12_23, h12_24, h12_25, h12_26, h12_27, h12_28, h12_29, h12_30, h12_31, h12_32]
        replace h12_7 : Rw W12 (vs 7) (x * y) := h12_7
        generalize vs 7 = u12_7 at h12_7 ⊢
        replace h12_10 : Rw W12 (vs 10) (x * y) := h12_10
        generalize vs 10 = u12_10 at h12_10 ⊢
        clear h12_0 h12_1 h12_2 h12_3 h12_4 h12_5 h12_6 h12_8 h12_9 h12_11 h12_12 h12_13 h12_14 h12_15 h12_16 h12_17 h12_18 h12_19 h12_20 h12_21 h12_22 h12_23 h12_24 h12_25 h12_26 h12_27 h12_28 h12_29 h12_30 h12_31 h12_32
        have kp2_0 := p2.cell0
        have kp2_1 := p2.cell1
        have kp2_2 := p2.cell2
        have kp3_0 := p3.cell0
        have kp3_1 := p3.cell1
        have kp3_2 := p3.cell2
        have kp9_7_0 := p9_7.cell0
        have kp9_7_1 := p9_7.cell1
        have kp9_7_2 := p9_7.cell2
        have kp10_7_0 := p10_7.cell0
        have kp10_7_1 := p10_7.cell1
        have kp10_7_2 := p10_7.cell2
        go_wp2
        go_ret
        exact ⟨rfl, E0⟩

end Go.Rt
