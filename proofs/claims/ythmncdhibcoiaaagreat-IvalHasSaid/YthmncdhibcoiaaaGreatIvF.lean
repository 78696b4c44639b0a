/-
  Intervals: around some numbers; products.
-/
import Derived.Test.YthmncdhibcoiaaaGreatIvE
namespace Go.Rt
open Go Go.RowKit Go.Proofs

def NewRow (B n : Nat) (l : List Rat) (v : Value) (W : World) : Prop := ∃ g, v = .slice (some ⟨g, 0, none⟩) n n ∧ B ≤ g ∧ g < W.heap.size ∧ RowR W g l

theorem tag_newrow {B n : Nat} {l : List Rat} : Tag.ok B .fresh (PS.one fun v W => NewRow B n l v W) :=
  ⟨fun _ _ _ _ hE ⟨g, h1, h2, h3, h4⟩ => ⟨g, h1, h2, Nat.lt_of_lt_of_le h3 hE.size, h4.ext hE⟩, fun _ _ _ _ _ hw hg ⟨g, h1, h2, h3, h4⟩ => ⟨g, h1, h2, Nat.lt_of_lt_of_le h3 hw.apart.size, h4.wr hw (by omega)⟩⟩

theorem tag_at6 {B g0 j : Nat} {t : TypeId} : Tag.ok B (.old g0) (PS.two j (fun r _ W => At6 g0 t r W)) :=
  ⟨cert_at6, fun _ _ _ _ _ hw hg ⟨b, a, n, c, d, m, o, b2, a2, n2, c2, d2, m2, o2, h1, h2⟩ => ⟨b, a, n, c, d, m, o, b2, a2, n2, c2, d2, m2, o2, h1, h2.wr hw hg⟩⟩

theorem tag_put6 {B i j : Nat} {t : TypeId} : Tag.ok B (.new i) (PS.three i j (fun p r _ W => Put6 B t p r W)) :=
  ⟨cert_put6, fun k vs w w' g hw hg ⟨g', b, a, n, c, d, m, o, b2, a2, n2, c2, d2, m2, o2, h1, h2, h3, h4⟩ => ⟨g', b, a, n, c, d, m, o, b2, a2, n2, c2, d2, m2, o2, h1, h2, h3, h4.wr hw (by
    rcases hg with hg | hg
    · omega
    · exact fun e => hg (by rw [h1, ← e]; rfl))⟩⟩

def mulL (p q : Rat × Rat) : List Rat := [p.1 * q.1, p.1 * q.2, p.2 * q.1, p.2 * q.2]

def mulS (p q : Rat × Rat) : Rat × Rat := (minQ (mulL p q) 3, maxQ (mulL p q) 3)

theorem mulL_sm {L : Nat} {p q : Rat × Rat} (s1 : SmS L p) (s2 : SmS L q) : ∀ x ∈ mulL p q, SmR (L + L) x := by
  intro x hx
  unfold mulL at hx
  simp only [List.mem_cons, List.not_mem_nil, or_false] at hx
  rcases hx with rfl | rfl | rfl | rfl
  · exact s1.lo.mul s2.lo
  · exact s1.lo.mul s2.hi
  · exact s1.hi.mul s2.lo
  · exact s1.hi.mul s2.hi

set_option maxRecDepth 100000 in
set_option maxHeartbeats 8000000 in
theorem Tryz.ivAround {b c L n : Nat} {l : List Rat} {w : World} (h : RowR w b l) (hb : b < w.heap.size) (hln : l.length = n + 1) (hn2 : n < 1000) (hs : ∀ x ∈ l, SmR L x) (hL : L ≤ 1000) :
    Calls Tryz.prog 66 #[.slice (some ⟨b, 0, none⟩) (n + 1) c] w fun e w' => ∃ v', e = .returned v' ∧ Sw w' v' (minQ l n, maxQ l n) ∧ Ext w w' := by
  have hmin := fun (W : World) (h1 : RowR W b l) (h2 : b < W.heap.size) => Tryz.minF (c := c) h1 h2 (by omega) (by omega) hs hL
  have hmax := fun (W : World) (h1 : RowR W b l) (h2 : b < W.heap.size) => Tryz.maxF (c := c) h1 h2 (by omega) (by omega) hs hL
  rw [hln, Nat.add_sub_cancel] at hmin hmax
  have HB0 := Lib.hid hb
  have hb0 : b < w.heap.size := hb
  obtain ⟨W0, hW0⟩ : ∃ W0, W0 = (w.alloc (.cells #[.bool false, .slice none 0 0, .slice none 0 0, .bool false, .slice none 0 0, .slice none 0 0] 29)) := ⟨_, rfl⟩
  have E0 : Ext w W0 := by rw [hW0]; exact (Ext.alloc1 w (.cells #[.bool false, .slice none 0 0, .slice none 0 0, .bool false, .slice none 0 0, .slice none 0 0] 29))
  replace h : RowR W0 b l := h.ext E0
  have p2 : Bx6 W0 w.heap.size 29 (.bool false) (.slice none 0 0) (.slice none 0 0) (.bool false) (.slice none 0 0) (.slice none 0 0) := by rw [hW0]; exact (Bx6.new w 29 (.bool false) (.slice none 0 0) (.slice none 0 0) (.bool false) (.slice none 0 0) (.slice none 0 0))
  go_enter Tryz.func66, Tryz.ntmps66
  replace hb := Nat.lt_of_lt_of_le hb E0.size
  have kp2_0 := p2.cell0
  have kp2_1 := p2.cell1
  have kp2_2 := p2.cell2
  have kp2_3 := p2.cell3
  have kp2_4 := p2.cell4
  have kp2_5 := p2.cell5
  go_upto_region 1 with (fail)
  rw [← hW0]
  clear hW0
  clear kp2_0 kp2_1 kp2_2 kp2_3 kp2_4 kp2_5
  have fp2 := p2.form
  have ltfp2 := fp2.lt
  have szw1 := Ext.size E0
  refine region_go [.one fun v _ => v = .slice (some ⟨b, 0, none⟩) (n + 1) c,
      .one fun v W => Rw W v (minQ l n),
      .one fun v _ => v = .slice (some ⟨b, 0, none⟩) (n + 1) c,
      .one fun v W => Rw W v (maxQ l n),
      .one fun v W => Sw W v ((minQ l n, maxQ l n)),
      .two 4 (fun r _ W => At6 w.heap.size 29 r W)]
    (fun W => Ext w W ∧ RowR W b l ∧ Form W w.heap.size 29 6 ∧ b < Array.size (World.heap W) ∧ W0.heap.size ≤ W.heap.size) ⟨Good.is _, Good.rat _, Good.is _, Good.rat _, Good.span _, cert_at6, trivial⟩
    (fun W W1 hS hE => ⟨(Ext.trans hS.1 hE), (hS.2.1.ext hE), (hS.2.2.1.ext hE), (Nat.lt_of_lt_of_le hS.2.2.2.1 (Ext.size hE)), (Nat.le_trans hS.2.2.2.2 (Ext.size hE))⟩) ⟨E0, h, fp2, hb, Nat.le_refl _⟩ (by kernel_rfl) (by kernel_rfl) (by kernel_rfl) (by kernel_rfl) (A := ?A1) ?hA1 ?howe1 ?hfin1
  case hA1 =>
    intro vs
    simp only [putAll, Act.put, List.setIfInBounds_toArray, List.set_cons_zero, List.set_cons_succ, Nat.zero_add, Nat.reduceAdd]
    exact rfl
  case howe1 =>
    clear E0 h fp2 hb
    intro hf
    refine ⟨owesE 0 [] hf rfl (by kernel_rfl) ?_, owesE 1 [0] hf rfl (by kernel_rfl) ?_, owesE 2 [] hf rfl (by kernel_rfl) ?_, owesE 3 [2] hf rfl (by kernel_rfl) ?_, owesE 4 [1, 3] hf rfl (by kernel_rfl) ?_, owesW 5 [4] hf rfl (by kernel_rfl) (by kernel_rfl) ?_, trivial⟩
    all_goals intro vs W hS hp hx KO hKO
    all_goals simp only [Act.put, List.setIfInBounds_toArray, List.set_cons_zero, List.set_cons_succ] at hKO
    · go_simp
      exact hKO _ W (Ext.refl W) rfl
    · have e0 := isOf hp.1
      simp only [e0] at hKO
      go_simp
      refine (hmin _ hS.2.1 hS.2.2.2.1).mono ?_
      rintro e W1 ⟨v, rfl, hv, hE⟩
      exact hKO _ W1 hE hv
    · go_simp
      exact hKO _ W (Ext.refl W) rfl
    · have e2 := isOf hp.1
      simp only [e2] at hKO
      go_simp
      refine (hmax _ hS.2.1 hS.2.2.2.1).mono ?_
      rintro e W1 ⟨v, rfl, hv, hE⟩
      exact hKO _ W1 hE hv
    · have q1 := hp.1
      have q3 := hp.2.1
      have qr := q1
      obtain ⟨b1, a1, n1, c1, d1, m1, o1, ev1, -, -, -⟩ := qr
      replace q1 : Rw W (vs 1) (minQ l n) := q1
      rw [ev1] at q1
      replace ev1 : vs 1 = _ := ev1
      have qr := q3
      obtain ⟨b3, a3, n3, c3, d3, m3, o3, ev3, -, -, -⟩ := qr
      replace q3 : Rw W (vs 3) (maxQ l n) := q3
      rw [ev3] at q3
      replace ev3 : vs 3 = _ := ev3
      simp only [ev1, ev3] at hKO
      go_simp
      exact hKO _ W (Ext.refl W) (Sw.mk q1 q3)
    · have q4 := hp.1
      have hf := hS.2.2.1
      obtain ⟨x0_0, x0_1, x0_2, x0_3, x0_4, x0_5, hx, hno⟩ := hf.bx6
      have qr := q4
      obtain ⟨b3, a3, n3, c3, d3, m3, o3, bb3, aa3, nn3, cc3, dd3, mm3, oo3, er, -, -⟩ := qr
      replace er : vs 4 = _ := er
      have r0 := hx.froz0
      have t0 := hx.cell0
      have r1 := hx.froz1
      have t1 := hx.cell1
      have r2 := hx.froz2
      have t2 := hx.cell2
      have r3 := hx.froz3
      have t3 := hx.cell3
      have r4 := hx.froz4
      have t4 := hx.cell4
      have r5 := hx.froz5
      have t5 := hx.cell5
      have hw := Wr.set6 hx hno b3 a3 n3 c3 d3 m3 o3 bb3 aa3 nn3 cc3 dd3 mm3 oo3
      have hq := hx.set (.bool b3) (.slice a3 n3 c3) (.slice d3 m3 o3) (.bool bb3) (.slice aa3 nn3 cc3) (.slice dd3 mm3 oo3)
      have hg : w.heap.size ≤ w.heap.size := Nat.le_refl _
      simp only [er] at hKO
      go_simp
      exact hKO _ _ hw ⟨(Ext.wr hS.1 hw (by omega)), (hS.2.1.wr hw (by omega)), (hS.2.2.1.wr hw), (Nat.lt_of_lt_of_le hS.2.2.2.1 hw.apart.size), (Nat.le_trans hS.2.2.2.2 hw.apart.size)⟩ ⟨b3, a3, n3, c3, d3, m3, o3, bb3, aa3, nn3, cc3, dd3, mm3, oo3, er, hq⟩
  intro vs W1 hS hp
  clear szw1 E0 h fp2 hb
  obtain ⟨E0, h, fp2, hb, sz1⟩ := hS
  obtain ⟨h1_0, h1_1, h1_2, h1_3, h1_4, h1_5, -⟩ := hp
  obtain ⟨b1_5, a1_5, n1_5, c1_5, d1_5, m1_5, o1_5, bb1_5, aa1_5, nn1_5, cc1_5, dd1_5, mm1_5, oo1_5, er1_5, p1_5⟩ := h1_5
  replace er1_5 : vs 4 = _ := er1_5
  replace h1_4 := (show Sw W1 (vs 4) ((minQ l n, maxQ l n)) from h1_4)
  rw [er1_5] at h1_4
  replace h1_0 : vs 0 = .slice (some ⟨b, 0, none⟩) (n + 1) c := h1_0
  replace h1_2 : vs 2 = .slice (some ⟨b, 0, none⟩) (n + 1) c := h1_2
  simp only [er1_5, h1_0, h1_2]
  replace h1_1 : Rw W1 (vs 1) (minQ l n) := h1_1
  generalize vs 1 = u1_1 at h1_1 ⊢
  replace h1_3 : Rw W1 (vs 3) (maxQ l n) := h1_3
  generalize vs 3 = u1_3 at h1_3 ⊢
  clear er1_5 h1_0 h1_2
  have kp1_5_0 := p1_5.cell0
  have kp1_5_1 := p1_5.cell1
  have kp1_5_2 := p1_5.cell2
  have kp1_5_3 := p1_5.cell3
  have kp1_5_4 := p1_5.cell4
  have kp1_5_5 := p1_5.cell5
  go_wp2
  exact bodyPost_ret (v := .agg #[.bool b1_5, .slice a1_5 n1_5 c1_5, .slice d1_5 m1_5 o1_5, .bool bb1_5, .slice aa1_5 nn1_5 cc1_5, .slice dd1_5 mm1_5 oo1_5]) (by simp [results, Tryz.results66, go_sem, kp1_5_0, kp1_5_1, kp1_5_2, kp1_5_3, kp1_5_4, kp1_5_5]) rfl ⟨_, rfl, h1_4, E0⟩

set_option maxRecDepth 100000 in
set_option maxHeartbeats 8000000 in
theorem Tryz.ivMul {v1 v2 : Value} {p q : Rat × Rat} {L : Nat} {w : World} (h1 : Sw w v1 p) (h2 : Sw w v2 q) (s1 : SmS L p) (s2 : SmS L q) (hL : L ≤ 60) :
    Calls Tryz.prog 33 #[v1, v2] w fun e w' => ∃ v', e = .returned v' ∧ Sw w' v' (mulS p q) ∧ Ext w w' := by
  obtain ⟨b1, a1, n1, c1, d1, m1, o1, bb1, aa1, nn1, cc1, dd1, mm1, oo1, rfl, q1⟩ : ∃ b1 a1 n1 c1 d1 m1 o1 bb1 aa1 nn1 cc1 dd1 mm1 oo1, v1 = .agg #[.bool b1, .slice a1 n1 c1, .slice d1 m1 o1, .bool bb1, .slice aa1 nn1 cc1, .slice dd1 mm1 oo1] ∧ True := let ⟨b1, a1, n1, c1, d1, m1, o1, bb1, aa1, nn1, cc1, dd1, mm1, oo1, e, _⟩ := h1; ⟨b1, a1, n1, c1, d1, m1, o1, bb1, aa1, nn1, cc1, dd1, mm1, oo1, e, trivial⟩
  clear q1
  obtain ⟨b2, a2, n2, c2, d2, m2, o2, bb2, aa2, nn2, cc2, dd2, mm2, oo2, rfl, q2⟩ : ∃ b2 a2 n2 c2 d2 m2 o2 bb2 aa2 nn2 cc2 dd2 mm2 oo2, v2 = .agg #[.bool b2, .slice a2 n2 c2, .slice d2 m2 o2, .bool bb2, .slice aa2 nn2 cc2, .slice dd2 mm2 oo2] ∧ True := let ⟨b2, a2, n2, c2, d2, m2, o2, bb2, aa2, nn2, cc2, dd2, mm2, oo2, e, _⟩ := h2; ⟨b2, a2, n2, c2, d2, m2, o2, bb2, aa2, nn2, cc2, dd2, mm2, oo2, e, trivial⟩
  clear q2
  have HSM := Lib.hid (mulL_sm s1 s2)
  obtain ⟨W0, hW0⟩ : ∃ W0, W0 = (((w.alloc (.cells #[.bool b1, .slice a1 n1 c1, .slice d1 m1 o1, .bool bb1, .slice aa1 nn1 cc1, .slice dd1 mm1 oo1] 29)).alloc (.cells #[.bool b2, .slice a2 n2 c2, .slice d2 m2 o2, .bool bb2, .slice aa2 nn2 cc2, .slice dd2 mm2 oo2] 29)).alloc (.cells #[.bool false, .slice none 0 0, .slice none 0 0, .bool false, .slice none 0 0, .slice none 0 0] 29)) := ⟨_, rfl⟩
  have E0 : Ext w W0 := by rw [hW0]; exact (((Ext.alloc1 w (.cells #[.bool b1, .slice a1 n1 c1, .slice d1 m1 o1, .bool bb1, .slice aa1 nn1 cc1, .slice dd1 mm1 oo1] 29)).alloc (.cells #[.bool b2, .slice a2 n2 c2, .slice d2 m2 o2, .bool bb2, .slice aa2 nn2 cc2, .slice dd2 mm2 oo2] 29)).alloc (.cells #[.bool false, .slice none 0 0, .slice none 0 0, .bool false, .slice none 0 0, .slice none 0 0] 29))
  replace h1 : Sw W0 (.agg #[.bool b1, .slice a1 n1 c1, .slice d1 m1 o1, .bool bb1, .slice aa1 nn1 cc1, .slice dd1 mm1 oo1]) p := h1.ext E0
  replace h2 : Sw W0 (.agg #[.bool b2, .slice a2 n2 c2, .slice d2 m2 o2, .bool bb2, .slice aa2 nn2 cc2, .slice dd2 mm2 oo2]) q := h2.ext E0
  have p2 : Bx6 W0 w.heap.size 29 (.bool b1) (.slice a1 n1 c1) (.slice d1 m1 o1) (.bool bb1) (.slice aa1 nn1 cc1) (.slice dd1 mm1 oo1) := by rw [hW0]; exact (Bx6.new w 29 (.bool b1) (.slice a1 n1 c1) (.slice d1 m1 o1) (.bool bb1) (.slice aa1 nn1 cc1) (.slice dd1 mm1 oo1)).ext ((Ext.alloc1 (w.alloc (.cells #[.bool b1, .slice a1 n1 c1, .slice d1 m1 o1, .bool bb1, .slice aa1 nn1 cc1, .slice dd1 mm1 oo1] 29)) (.cells #[.bool b2, .slice a2 n2 c2, .slice d2 m2 o2, .bool bb2, .slice aa2 nn2 cc2, .slice dd2 mm2 oo2] 29)).alloc (.cells #[.bool false, .slice none 0 0, .slice none 0 0, .bool false, .slice none 0 0, .slice none 0 0] 29))
  have p3 : Bx6 W0 (w.heap.size + 1) 29 (.bool b2) (.slice a2 n2 c2) (.slice d2 m2 o2) (.bool bb2) (.slice aa2 nn2 cc2) (.slice dd2 mm2 oo2) := by rw [hW0]; simpa using (Bx6.new (w.alloc (.cells #[.bool b1, .slice a1 n1 c1, .slice d1 m1 o1, .bool bb1, .slice aa1 nn1 cc1, .slice dd1 mm1 oo1] 29)) 29 (.bool b2) (.slice a2 n2 c2) (.slice d2 m2 o2) (.bool bb2) (.slice aa2 nn2 cc2) (.slice dd2 mm2 oo2)).ext (Ext.alloc1 ((w.alloc (.cells #[.bool b1, .slice a1 n1 c1, .slice d1 m1 o1, .bool bb1, .slice aa1 nn1 cc1, .slice dd1 mm1 oo1] 29)).alloc (.cells #[.bool b2, .slice a2 n2 c2, .slice d2 m2 o2, .bool bb2, .slice aa2 nn2 cc2, .slice dd2 mm2 oo2] 29)) (.cells #[.bool false, .slice none 0 0, .slice none 0 0, .bool false, .slice none 0 0, .slice none 0 0] 29))
  have p4 : Bx6 W0 (w.heap.size + 1 + 1) 29 (.bool false) (.slice none 0 0) (.slice none 0 0) (.bool false) (.slice none 0 0) (.slice none 0 0) := by rw [hW0]; simpa using (Bx6.new ((w.alloc (.cells #[.bool b1, .slice a1 n1 c1, .slice d1 m1 o1, .bool bb1, .slice aa1 nn1 cc1, .slice dd1 mm1 oo1] 29)).alloc (.cells #[.bool b2, .slice a2 n2 c2, .slice d2 m2 o2, .bool bb2, .slice aa2 nn2 cc2, .slice dd2 mm2 oo2] 29)) 29 (.bool false) (.slice none 0 0) (.slice none 0 0) (.bool false) (.slice none 0 0) (.slice none 0 0))
  go_enter Tryz.func33, Tryz.ntmps33
  have kp2_0 := p2.cell0
  have kp2_1 := p2.cell1
  have kp2_2 := p2.cell2
  have kp2_3 := p2.cell3
  have kp2_4 := p2.cell4
  have kp2_5 := p2.cell5
  have kp3_0 := p3.cell0
  have kp3_1 := p3.cell1
  have kp3_2 := p3.cell2
  have kp3_3 := p3.cell3
  have kp3_4 := p3.cell4
  have kp3_5 := p3.cell5
  have kp4_0 := p4.cell0
  have kp4_1 := p4.cell1
  have kp4_2 := p4.cell2
  have kp4_3 := p4.cell3
  have kp4_4 := p4.cell4
  have kp4_5 := p4.cell5
  go_upto_region 1 with (fail)
  rw [← hW0]
  clear hW0
  clear kp2_0 kp2_1 kp2_2 kp2_3 kp2_4 kp2_5 kp3_0 kp3_1 kp3_2 kp3_3 kp3_4 kp3_5 kp4_0 kp4_1 kp4_2 kp4_3 kp4_4 kp4_5
  have fp4 := p4.form
  have ltp2 := p2.lt
  have ltp3 := p3.lt
  have ltfp4 := fp4.lt
  have szw2 := Ext.size E0
  refine region_go2 [.one fun v _ => v = .pointer (some ⟨w.heap.size, 0, none⟩),
      .one fun v _ => v = .agg #[.bool b1, .slice a1 n1 c1, .slice d1 m1 o1],
      .one fun v _ => v = .pointer (some ⟨w.heap.size + 1, 0, none⟩),
      .one fun v _ => v = .agg #[.bool b2, .slice a2 n2 c2, .slice d2 m2 o2],
      .one fun v W => Rw W v (p.1 * q.1),
      .one fun v _ => v = .pointer (some ⟨w.heap.size, 0, none⟩),
      .one fun v _ => v = .agg #[.bool b1, .slice a1 n1 c1, .slice d1 m1 o1],
      .one fun v _ => v = .pointer (some ⟨w.heap.size + 1, 3, none⟩),
      .one fun v _ => v = .agg #[.bool bb2, .slice aa2 nn2 cc2, .slice dd2 mm2 oo2],
      .one fun v W => Rw W v (p.1 * q.2),
      .one fun v _ => v = .pointer (some ⟨w.heap.size, 3, none⟩),
      .one fun v _ => v = .agg #[.bool bb1, .slice aa1 nn1 cc1, .slice dd1 mm1 oo1],
      .one fun v _ => v = .pointer (some ⟨w.heap.size + 1, 0, none⟩),
      .one fun v _ => v = .agg #[.bool b2, .slice a2 n2 c2, .slice d2 m2 o2],
      .one fun v W => Rw W v (p.2 * q.1),
      .one fun v _ => v = .pointer (some ⟨w.heap.size, 3, none⟩),
      .one fun v _ => v = .agg #[.bool bb1, .slice aa1 nn1 cc1, .slice dd1 mm1 oo1],
      .one fun v _ => v = .pointer (some ⟨w.heap.size + 1, 3, none⟩),
      .one fun v _ => v = .agg #[.bool bb2, .slice aa2 nn2 cc2, .slice dd2 mm2 oo2],
      .one fun v W => Rw W v (p.2 * q.2),
      .one fun v W => NewRow W0.heap.size 4 (mulL p q) v W,
      .one fun v W => Sw W v (mulS p q),
      .two 21 (fun r _ W => At6 (w.heap.size + 1 + 1) 29 r W)]
    (fun W => Ext w W ∧ Sw W (.agg #[.bool b1, .slice a1 n1 c1, .slice d1 m1 o1, .bool bb1, .slice aa1 nn1 cc1, .slice dd1 mm1 oo1]) p ∧ Sw W (.agg #[.bool b2, .slice a2 n2 c2, .slice d2 m2 o2, .bool bb2, .slice aa2 nn2 cc2, .slice dd2 mm2 oo2]) q ∧ Bx6 W w.heap.size 29 (.bool b1) (.slice a1 n1 c1) (.slice d1 m1 o1) (.bool bb1) (.slice aa1 nn1 cc1) (.slice dd1 mm1 oo1) ∧ Bx6 W (w.heap.size + 1) 29 (.bool b2) (.slice a2 n2 c2) (.slice d2 m2 o2) (.bool bb2) (.slice aa2 nn2 cc2) (.slice dd2 mm2 oo2) ∧ Form W (w.heap.size + 1 + 1) 29 6 ∧ W0.heap.size ≤ W.heap.size) W0.heap.size [] [Tag.any, Tag.any, Tag.any, Tag.any, Tag.any, Tag.any, Tag.any, Tag.any, Tag.any, Tag.any, Tag.any, Tag.any, Tag.any, Tag.any, Tag.any, Tag.any, Tag.any, Tag.any, Tag.any, Tag.any, Tag.fresh, Tag.any, Tag.old (w.heap.size + 1 + 1)] ⟨Good.is _, Good.is _, Good.is _, Good.is _, Good.rat _, Good.is _, Good.is _, Good.is _, Good.is _, Good.rat _, Good.is _, Good.is _, Good.is _, Good.is _, Good.rat _, Good.is _, Good.is _, Good.is _, Good.is _, Good.rat _, tag_newrow, Good.span _, tag_at6, trivial⟩ (fun g0 hg => by simp at hg; omega)
    (fun W W1 hS hE => ⟨(Ext.trans hS.1 hE), (hS.2.1.ext hE), (hS.2.2.1.ext hE), (hS.2.2.2.1.ext hE), (hS.2.2.2.2.1.ext hE), (hS.2.2.2.2.2.1.ext hE), (Nat.le_trans hS.2.2.2.2.2.2 (Ext.size hE))⟩) ⟨E0, h1, h2, p2, p3, fp4, Nat.le_refl _⟩ (fun m hm => by simp at hm) (by kernel_rfl) (by kernel_rfl) (by kernel_rfl) (by kernel_rfl) (A := ?A2) ?hA2 ?howe2 ?hfin2
  case hA2 =>
    intro vs
    simp only [putAll, Act.put, List.setIfInBounds_toArray, List.set_cons_zero, List.set_cons_succ, Nat.zero_add, Nat.reduceAdd]
    exact rfl
  case howe2 =>
    clear E0 h1 h2 p2 p3 fp4
    intro hf
    refine ⟨owesM 0 [] hf rfl rfl (by kernel_rfl) ?_, owesM 1 [0] hf rfl rfl (by kernel_rfl) ?_, owesM 2 [] hf rfl rfl (by kernel_rfl) ?_, owesM 3 [2] hf rfl rfl (by kernel_rfl) ?_, owesM 4 [1, 3] hf rfl rfl (by kernel_rfl) ?_, owesM 5 [] hf rfl rfl (by kernel_rfl) ?_, owesM 6 [5] hf rfl rfl (by kernel_rfl) ?_, owesM 7 [] hf rfl rfl (by kernel_rfl) ?_, owesM 8 [7] hf rfl rfl (by kernel_rfl) ?_, owesM 9 [6, 8] hf rfl rfl (by kernel_rfl) ?_, owesM 10 [] hf rfl rfl (by kernel_rfl) ?_, owesM 11 [10] hf rfl rfl (by kernel_rfl) ?_, owesM 12 [] hf rfl rfl (by kernel_rfl) ?_, owesM 13 [12] hf rfl rfl (by kernel_rfl) ?_, owesM 14 [11, 13] hf rfl rfl (by kernel_rfl) ?_, owesM 15 [] hf rfl rfl (by kernel_rfl) ?_, owesM 16 [15] hf rfl rfl (by kernel_rfl) ?_, owesM 17 [] hf rfl rfl (by kernel_rfl) ?_, owesM 18 [17] hf rfl rfl (by kernel_rfl) ?_, owesM 19 [16, 18] hf rfl rfl (by kernel_rfl) ?_, owesM 20 [4, 9, 14, 19] hf rfl rfl (by kernel_rfl) ?_, owesM 21 [20] hf rfl rfl (by kernel_rfl) ?_, owesO 22 (w.heap.size + 1 + 1) [21] hf rfl (by omega) ⟨.inr trivial, .inr trivial, .inr trivial, .inr trivial, .inr trivial, .inr trivial, .inr trivial, .inr trivial, .inr trivial, .inr trivial, .inr trivial, .inr trivial, .inr trivial, .inr trivial, .inr trivial, .inr trivial, .inr trivial, .inr trivial, .inr trivial, .inr trivial, .inr trivial, .inr trivial, .inl rfl, trivial⟩ rfl (by kernel_rfl) ?_, trivial⟩
    all_goals intro vs W hS hp hx KO hKO
    all_goals simp only [Act.put, List.setIfInBounds_toArray, List.set_cons_zero, List.set_cons_succ] at hKO
    · go_simp
      exact hKO _ W (Ext.refl W) rfl
    · have e0 := isOf hp.1
      simp only [e0] at hKO
      have fc0 := hS.2.2.2.1.cell0
      have fc1 := hS.2.2.2.1.cell1
      have fc2 := hS.2.2.2.1.cell2
      go_simp
      exact hKO _ W (Ext.refl W) rfl
    · go_simp
      exact hKO _ W (Ext.refl W) rfl
    · have e2 := isOf hp.1
      simp only [e2] at hKO
      have fc0 := hS.2.2.2.2.1.cell0
      have fc1 := hS.2.2.2.2.1.cell1
      have fc2 := hS.2.2.2.2.1.cell2
      go_simp
      exact hKO _ W (Ext.refl W) rfl
    · have e1 := isOf hp.1
      have e3 := isOf hp.2.1
      simp only [e1, e3] at hKO
      go_simp
      refine (Tryz.ratMul (hS.2.1.lo) (hS.2.2.1.lo) s1.lo s2.lo (by omega)).mono ?_
      rintro e W1 ⟨v, rfl, hv, hE⟩
      exact hKO _ W1 hE hv
    · go_simp
      exact hKO _ W (Ext.refl W) rfl
    · have e5 := isOf hp.1
      simp only [e5] at hKO
      have fc0 := hS.2.2.2.1.cell0
      have fc1 := hS.2.2.2.1.cell1
      have fc2 := hS.2.2.2.1.cell2
      go_simp
      exact hKO _ W (Ext.refl W) rfl
    · go_simp
      exact hKO _ W (Ext.refl W) rfl
    · have e7 := isOf hp.1
      simp only [e7] at hKO
      have fc3 := hS.2.2.2.2.1.cell3
      have fc4 := hS.2.2.2.2.1.cell4
      have fc5 := hS.2.2.2.2.1.cell5
      go_simp
      exact hKO _ W (Ext.refl W) rfl
    · have e6 := isOf hp.1
      have e8 := isOf hp.2.1
      simp only [e6, e8] at hKO
      go_simp
      refine (Tryz.ratMul (hS.2.1.lo) (hS.2.2.1.hi) s1.lo s2.hi (by omega)).mono ?_
      rintro e W1 ⟨v, rfl, hv, hE⟩
      exact hKO _ W1 hE hv
    · go_simp
      exact hKO _ W (Ext.refl W) rfl
    · have e10 := isOf hp.1
      simp only [e10] at hKO
      have fc3 := hS.2.2.2.1.cell3
      have fc4 := hS.2.2.2.1.cell4
      have fc5 := hS.2.2.2.1.cell5
      go_simp
      exact hKO _ W (Ext.refl W) rfl
    · go_simp
      exact hKO _ W (Ext.refl W) rfl
    · have e12 := isOf hp.1
      simp only [e12] at hKO
      have fc0 := hS.2.2.2.2.1.cell0
      have fc1 := hS.2.2.2.2.1.cell1
      have fc2 := hS.2.2.2.2.1.cell2
      go_simp
      exact hKO _ W (Ext.refl W) rfl
    · have e11 := isOf hp.1
      have e13 := isOf hp.2.1
      simp only [e11, e13] at hKO
      go_simp
      refine (Tryz.ratMul (hS.2.1.hi) (hS.2.2.1.lo) s1.hi s2.lo (by omega)).mono ?_
      rintro e W1 ⟨v, rfl, hv, hE⟩
      exact hKO _ W1 hE hv
    · go_simp
      exact hKO _ W (Ext.refl W) rfl
    · have e15 := isOf hp.1
      simp only [e15] at hKO
      have fc3 := hS.2.2.2.1.cell3
      have fc4 := hS.2.2.2.1.cell4
      have fc5 := hS.2.2.2.1.cell5
      go_simp
      exact hKO _ W (Ext.refl W) rfl
    · go_simp
      exact hKO _ W (Ext.refl W) rfl
    · have e17 := isOf hp.1
      simp only [e17] at hKO
      have fc3 := hS.2.2.2.2.1.cell3
      have fc4 := hS.2.2.2.2.1.cell4
      have fc5 := hS.2.2.2.2.1.cell5
      go_simp
      exact hKO _ W (Ext.refl W) rfl
    · have e16 := isOf hp.1
      have e18 := isOf hp.2.1
      simp only [e16, e18] at hKO
      go_simp
      refine (Tryz.ratMul (hS.2.1.hi) (hS.2.2.1.hi) s1.hi s2.hi (by omega)).mono ?_
      rintro e W1 ⟨v, rfl, hv, hE⟩
      exact hKO _ W1 hE hv
    · have q4 := hp.1
      have q9 := hp.2.1
      have q14 := hp.2.2.1
      have q19 := hp.2.2.2.1
      have qr := q4
      obtain ⟨b4, a4, n4, c4, d4, m4, o4, ev4, -, -, -⟩ := qr
      replace ev4 : vs 4 = _ := ev4
      have qr := q9
      obtain ⟨b9, a9, n9, c9, d9, m9, o9, ev9, -, -, -⟩ := qr
      replace ev9 : vs 9 = _ := ev9
      have qr := q14
      obtain ⟨b14, a14, n14, c14, d14, m14, o14, ev14, -, -, -⟩ := qr
      replace ev14 : vs 14 = _ := ev14
      have qr := q19
      obtain ⟨b19, a19, n19, c19, d19, m19, o19, ev19, -, -, -⟩ := qr
      replace ev19 : vs 19 = _ := ev19
      replace q4 : Rw W (vs 4) (p.1 * q.1) := q4
      rw [ev4] at q4
      replace q9 : Rw W (vs 9) (p.1 * q.2) := q9
      rw [ev9] at q9
      replace q14 : Rw W (vs 14) (p.2 * q.1) := q14
      rw [ev14] at q14
      replace q19 : Rw W (vs 19) (p.2 * q.2) := q19
      rw [ev19] at q19
      have hE := Ext.alloc1 W (.cells #[.bool b4, .slice a4 n4 c4, .slice d4 m4 o4, .bool b9, .slice a9 n9 c9, .slice d9 m9 o9, .bool b14, .slice a14 n14 c14, .slice d14 m14 o14, .bool b19, .slice a19 n19 c19, .slice d19 m19 o19] 27)
      have hbx := BxA.new W 27 #[.bool b4, .slice a4 n4 c4, .slice d4 m4 o4, .bool b9, .slice a9 n9 c9, .slice d9 m9 o9, .bool b14, .slice a14 n14 c14, .slice d14 m14 o14, .bool b19, .slice a19 n19 c19, .slice d19 m19 o19]
      have hsz := hS.2.2.2.2.2.2
      have hrow : RowR (W.alloc (.cells #[.bool b4, .slice a4 n4 c4, .slice d4 m4 o4, .bool b9, .slice a9 n9 c9, .slice d9 m9 o9, .bool b14, .slice a14 n14 c14, .slice d14 m14 o14, .bool b19, .slice a19 n19 c19, .slice d19 m19 o19] 27)) W.heap.size (mulL p q) := fun i hi => by
        match i, hi with
        | 0, _ => exact ⟨_, _, _, _, _, _, _, hbx.cell 0 rfl, hbx.cell 1 rfl, hbx.cell 2 rfl, q4.ext hE⟩
        | 1, _ => exact ⟨_, _, _, _, _, _, _, hbx.cell 3 rfl, hbx.cell 4 rfl, hbx.cell 5 rfl, q9.ext hE⟩
        | 2, _ => exact ⟨_, _, _, _, _, _, _, hbx.cell 6 rfl, hbx.cell 7 rfl, hbx.cell 8 rfl, q14.ext hE⟩
        | 3, _ => exact ⟨_, _, _, _, _, _, _, hbx.cell 9 rfl, hbx.cell 10 rfl, hbx.cell 11 rfl, q19.ext hE⟩
      simp only [ev4, ev9, ev14, ev19] at hKO
      go_simp
      exact hKO _ _ hE ⟨_, rfl, hsz, by simp, hrow⟩
    · have q20 := hp.1
      obtain ⟨g, ev, hgB, hg, hrow⟩ := q20
      replace ev : vs 20 = _ := ev
      simp only [ev] at hKO
      go_simp
      refine (Tryz.ivAround (n := 3) hrow hg rfl (by omega) HSM.out (by omega)).mono ?_
      rintro e W1 ⟨v, rfl, hv, hE⟩
      exact hKO _ W1 hE hv
    · have q21 := hp.1
      have hf := hS.2.2.2.2.2.1
      obtain ⟨x0_0, x0_1, x0_2, x0_3, x0_4, x0_5, hx, hno⟩ := hf.bx6
      have qr := q21
      obtain ⟨b3, a3, n3, c3, d3, m3, o3, bb3, aa3, nn3, cc3, dd3, mm3, oo3, er, -, -⟩ := qr
      replace er : vs 21 = _ := er
      have r0 := hx.froz0
      have t0 := hx.cell0
      have r1 := hx.froz1
      have t1 := hx.cell1
      have r2 := hx.froz2
      have t2 := hx.cell2
      have r3 := hx.froz3
      have t3 := hx.cell3
      have r4 := hx.froz4
      have t4 := hx.cell4
      have r5 := hx.froz5
      have t5 := hx.cell5
      have hw := Wr.set6 hx hno b3 a3 n3 c3 d3 m3 o3 bb3 aa3 nn3 cc3 dd3 mm3 oo3
      have hq := hx.set (.bool b3) (.slice a3 n3 c3) (.slice d3 m3 o3) (.bool bb3) (.slice aa3 nn3 cc3) (.slice dd3 mm3 oo3)
      have hg : (w.heap.size + 1 + 1) ≤ (w.heap.size + 1 + 1) := Nat.le_refl _
      simp only [er] at hKO
      go_simp
      exact hKO _ hw ⟨(Ext.wr hS.1 hw (by omega)), (hS.2.1.wr hw), (hS.2.2.1.wr hw), (hS.2.2.2.1.wr hw (by omega)), (hS.2.2.2.2.1.wr hw (by omega)), (hS.2.2.2.2.2.1.wr hw), (Nat.le_trans hS.2.2.2.2.2.2 hw.apart.size)⟩ ⟨b3, a3, n3, c3, d3, m3, o3, bb3, aa3, nn3, cc3, dd3, mm3, oo3, er, hq⟩
  intro vs W2 hS hM hp
  clear szw2 E0 h1 h2 p2 p3 fp4
  obtain ⟨E0, h1, h2, p2, p3, fp4, sz2⟩ := hS
  obtain ⟨h2_0, h2_1, h2_2, h2_3, h2_4, h2_5, h2_6, h2_7, h2_8, h2_9, h2_10, h2_11, h2_12, h2_13, h2_14, h2_15, h2_16, h2_17, h2_18, h2_19, h2_20, h2_21, h2_22, -⟩ := hp
  obtain ⟨b2_22, a2_22, n2_22, c2_22, d2_22, m2_22, o2_22, bb2_22, aa2_22, nn2_22, cc2_22, dd2_22, mm2_22, oo2_22, er2_22, p2_22⟩ := h2_22
  replace er2_22 : vs 21 = _ := er2_22
  replace h2_21 := (show Sw W2 (vs 21) (mulS p q) from h2_21)
  rw [er2_22] at h2_21
  skip
  replace h2_0 : vs 0 = .pointer (some ⟨w.heap.size, 0, none⟩) := h2_0
  replace h2_1 : vs 1 = .agg #[.bool b1, .slice a1 n1 c1, .slice d1 m1 o1] := h2_1
  replace h2_2 : vs 2 = .pointer (some ⟨w.heap.size + 1, 0, none⟩) := h2_2
  replace h2_3 : vs 3 = .agg #[.bool b2, .slice a2 n2 c2, .slice d2 m2 o2] := h2_3
  replace h2_5 : vs 5 = .pointer (some ⟨w.heap.size, 0, none⟩) := h2_5
  replace h2_6 : vs 6 = .agg #[.bool b1, .slice a1 n1 c1, .slice d1 m1 o1] := h2_6
  replace h2_7 : vs 7 = .pointer (some ⟨w.heap.size + 1, 3, none⟩) := h2_7
  replace h2_8 : vs 8 = .agg #[.bool bb2, .slice aa2 nn2 cc2, .slice dd2 mm2 oo2] := h2_8
  replace h2_10 : vs 10 = .pointer (some ⟨w.heap.size, 3, none⟩) := h2_10
  replace h2_11 : vs 11 = .agg #[.bool bb1, .slice aa1 nn1 cc1, .slice dd1 mm1 oo1] := h2_11
  replace h2_12 : vs 12 = .pointer (some ⟨w.heap.size + 1, 0, none⟩) := h2_12
  replace h2_13 : vs 13 = .agg #[.bool b2, .slice a2 n2 c2, .slice d2 m2 o2] := h2_13
  replace h2_15 : vs 15 = .pointer (some ⟨w.heap.size, 3, none⟩) := h2_15
  replace h2_16 : vs 16 = .agg #[.bool bb1, .slice aa1 nn1 cc1, .slice dd1 mm1 oo1] := h2_16
  replace h2_17 : vs 17 = .pointer (some ⟨w.heap.size + 1, 3, none⟩) := h2_17
  replace h2_18 : vs 18 = .agg #[.bool bb2, .slice aa2 nn2 cc2, .slice dd2 mm2 oo2] := h2_18
  clear hM
  simp only [er2_22, h2_0, h2_1, h2_2, h2_3, h2_5, h2_6, h2_7, h2_8, h2_10, h2_11, h2_12, h2_13, h2_15, h2_16, h2_17, h2_18]
  replace h2_4 : Rw W2 (vs 4) (p.1 * q.1) := h2_4
  generalize vs 4 = u2_4 at h2_4 ⊢
  replace h2_9 : Rw W2 (vs 9) (p.1 * q.2) := h2_9
  generalize vs 9 = u2_9 at h2_9 ⊢
  replace h2_14 : Rw W2 (vs 14) (p.2 * q.1) := h2_14
  generalize vs 14 = u2_14 at h2_14 ⊢
  replace h2_19 : Rw W2 (vs 19) (p.2 * q.2) := h2_19
  generalize vs 19 = u2_19 at h2_19 ⊢
  clear er2_22 h2_0 h2_1 h2_2 h2_3 h2_5 h2_6 h2_7 h2_8 h2_10 h2_11 h2_12 h2_13 h2_15 h2_16 h2_17 h2_18 h2_20
  have kp2_0 := p2.cell0
  have kp2_1 := p2.cell1
  have kp2_2 := p2.cell2
  have kp2_3 := p2.cell3
  have kp2_4 := p2.cell4
  have kp2_5 := p2.cell5
  have kp3_0 := p3.cell0
  have kp3_1 := p3.cell1
  have kp3_2 := p3.cell2
  have kp3_3 := p3.cell3
  have kp3_4 := p3.cell4
  have kp3_5 := p3.cell5
  have kp2_22_0 := p2_22.cell0
  have kp2_22_1 := p2_22.cell1
  have kp2_22_2 := p2_22.cell2
  have kp2_22_3 := p2_22.cell3
  have kp2_22_4 := p2_22.cell4
  have kp2_22_5 := p2_22.cell5
  go_wp2
  exact bodyPost_ret (v := .agg #[.bool b2_22, .slice a2_22 n2_22 c2_22, .slice d2_22 m2_22 o2_22, .bool bb2_22, .slice aa2_22 nn2_22 cc2_22, .slice dd2_22 mm2_22 oo2_22]) (by simp [results, Tryz.results33, go_sem, kp2_22_0, kp2_22_1, kp2_22_2, kp2_22_3, kp2_22_4, kp2_22_5]) rfl ⟨_, rfl, h2_21, E0⟩

end Go.Rt
