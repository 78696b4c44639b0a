/-
 Intervals: a number so far between the ends.
-/
import Derived.Test.YthmncdhibcoiaaaGreatSqz
import Derived.Test.YthmncdhibcoiaaaGreatIvK
namespace Go.Rt
open Go Go.RowKit Go.Proofs

def ofR (p : Rat × Rat) (n : Nat) : Rat := p.1 + (p.2 - p.1) * ((n : Rat) / 255)

theorem frac255 (n : Nat) : mkRat (n : Int) (255 : Int).natAbs = (n : Rat) / 255 := Rat.mkRat_eq_div _ _

theorem ofR_sm {p : Rat × Rat} (s : SmS 2 p) {n : Nat} (h : n < 256) : SmR 5 (p.2 - p.1) ∧ SmR 5 ((n : Rat) / 255) ∧ SmR 10 p.1 ∧ SmR 10 ((p.2 - p.1) * ((n : Rat) / 255)) ∧ SmR 21 (ofR p n) := by
 have a : SmR 5 (p.2 - p.1) := (s.hi.sub s.lo).mono (by omega)
 have b : SmR 5 ((n : Rat) / 255) := by
  rw [← frac255]
  exact SmR.mk ((Sm.small (by omega)).mono (by omega)) ((Sm.small (by decide)).mono (by omega)) (by decide)
 have c : SmR 10 ((p.2 - p.1) * ((n : Rat) / 255)) := (a.mul b).mono (by omega)
 have d : SmR 10 p.1 := s.lo.mono (by omega)
 exact ⟨a, b, d, c, (d.add c).mono (by omega)⟩

theorem outS_sm {L : Nat} {p : Rat × Rat} (s : SmS L p) {K : Nat} (hK : K < 256) : SmS (L + 9) (outS p K) := by
 have a := (Sm.floor s.lo K).mono (L' := L + 5) (by omega)
 have b := (ceil_sm s.hi K).mono (L' := L + 5) (by omega)
 unfold outS
 refine ⟨?_, ?_⟩
 ·show SmR _ (((p.1 * P2 K).floor : Rat) / P2 K)
  rw [← back_eq]
  exact (SmR.back a K).mono (by omega)
 ·show SmR _ (((p.2 * P2 K).ceil : Rat) / P2 K)
  rw [← back_eq]
  exact (SmR.back b K).mono (by omega)

theorem SmS.mono {L L' : Nat} {p : Rat × Rat} (h : SmS L p) (hl : L ≤ L') : SmS L' p := ⟨h.lo.mono hl, h.hi.mono hl⟩

theorem mulS_sm {L : Nat} {p q : Rat × Rat} (s1 : SmS L p) (s2 : SmS L q) : SmS (L + L) (mulS p q) :=
 ⟨mulL_sm s1 s2 _ (minQ_mem (by show 3 < 4; omega)), mulL_sm s1 s2 _ (maxQ_mem (by show 3 < 4; omega))⟩

theorem divS_sm {L : Nat} {p q : Rat × Rat} (s1 : SmS L p) (s2 : SmS L q) (h1 : q.1 ≠ 0) (h2 : q.2 ≠ 0) : SmS (L + L) (divS p q) :=
 ⟨divL_sm s1 s2 h1 h2 _ (minQ_mem (by show 3 < 4; omega)), divL_sm s1 s2 h1 h2 _ (maxQ_mem (by show 3 < 4; omega))⟩

theorem outS_right {p : Rat × Rat} (h : p.1 ≤ p.2) (K : Nat) : (outS p K).1 ≤ (outS p K).2 := Rat.le_trans (outS_in K).1 (Rat.le_trans h (outS_in K).2)

theorem inS_out {p : Rat × Rat} (h : p.1 ≤ p.2) (K : Nat) : inS p (outS p K) = true :=
 inS_iff.2 ⟨⟨(outS_in K).1, Rat.le_trans h (outS_in K).2⟩, Rat.le_trans (outS_in K).1 h, (outS_in K).2⟩

theorem addS_has {p q : Rat × Rat} {x y : Rat} (h1 : p.1 ≤ x ∧ x ≤ p.2) (h2 : q.1 ≤ y ∧ y ≤ q.2) : hasS (p.1 + q.1, p.2 + q.2) (x + y) = true := by
 rw [hasS_iff]
 have := h1.1; have := h1.2; have := h2.1; have := h2.2
 constructor <;> (show _ + _ ≤ _ + _; grind)

set_option maxRecDepth 100000 in
set_option maxHeartbeats 8000000 in
theorem Tryz.lawOf7 {v1 : Value} {p : Rat × Rat} {w : World} (h1 : Sw w v1 p) (s1 : SmS 2 p) (n : Nat) (hn : n < 256) :
  Calls Tryz.prog 37 #[v1, .int .u8 (n : Int)] w fun e w' => ∃ v', e = .returned v' ∧ Rw w' v' (ofR p n) ∧ Ext w w' := by
 obtain ⟨b1, a1, n1, c1, d1, m1, o1, bb1, aa1, nn1, cc1, dd1, mm1, oo1, rfl, q1⟩ : ∃ b1 a1 n1 c1 d1 m1 o1 bb1 aa1 nn1 cc1 dd1 mm1 oo1, v1 = .agg #[.bool b1, .slice a1 n1 c1, .slice d1 m1 o1, .bool bb1, .slice aa1 nn1 cc1, .slice dd1 mm1 oo1] ∧ True := let ⟨b1, a1, n1, c1, d1, m1, o1, bb1, aa1, nn1, cc1, dd1, mm1, oo1, e, _⟩ := h1; ⟨b1, a1, n1, c1, d1, m1, o1, bb1, aa1, nn1, cc1, dd1, mm1, oo1, e, trivial⟩
 clear q1
 have HS := Lib.hid (ofR_sm s1 hn)
 have SP := Lib.hid s1
 have hwr : IntKind.i64.wrap (n : Int) = (n : Int) := by rw [IntKind.wrap_i64]; omega
 have HN : Hid (n < 256) := Lib.hid hn
 obtain ⟨fr, hfr⟩ : ∃ f : Rat, f = (n : Rat) / 255 := ⟨_, rfl⟩
 have HF : Hid (mkRat (n : Int) (255 : Int).natAbs = fr) := Lib.hid ((frac255 n).trans hfr.symm)
 have HV : Hid (p.1 + (p.2 - p.1) * fr = ofR p n) := Lib.hid (by rw [hfr]; rfl)
 rw [← hfr] at HS
 clear s1 hn hfr
 obtain ⟨W0, hW0⟩ : ∃ W0, W0 = ((w.alloc (.cells #[.bool b1, .slice a1 n1 c1, .slice d1 m1 o1, .bool bb1, .slice aa1 nn1 cc1, .slice dd1 mm1 oo1] 29)).alloc (.cells #[.bool false, .slice none 0 0, .slice none 0 0] 27)) := ⟨_, rfl⟩
 have E0 : Ext w W0 := by rw [hW0]; exact ((Ext.alloc1 w (.cells #[.bool b1, .slice a1 n1 c1, .slice d1 m1 o1, .bool bb1, .slice aa1 nn1 cc1, .slice dd1 mm1 oo1] 29)).alloc (.cells #[.bool false, .slice none 0 0, .slice none 0 0] 27))
 replace h1 : Sw W0 (.agg #[.bool b1, .slice a1 n1 c1, .slice d1 m1 o1, .bool bb1, .slice aa1 nn1 cc1, .slice dd1 mm1 oo1]) p := h1.ext E0
 have p2 : Bx6 W0 w.heap.size 29 (.bool b1) (.slice a1 n1 c1) (.slice d1 m1 o1) (.bool bb1) (.slice aa1 nn1 cc1) (.slice dd1 mm1 oo1) := by rw [hW0]; exact (Bx6.new w 29 (.bool b1) (.slice a1 n1 c1) (.slice d1 m1 o1) (.bool bb1) (.slice aa1 nn1 cc1) (.slice dd1 mm1 oo1)).ext (Ext.alloc1 (w.alloc (.cells #[.bool b1, .slice a1 n1 c1, .slice d1 m1 o1, .bool bb1, .slice aa1 nn1 cc1, .slice dd1 mm1 oo1] 29)) (.cells #[.bool false, .slice none 0 0, .slice none 0 0] 27))
 have p4 : Bx3 W0 (w.heap.size + 1) 27 (.bool false) (.slice none 0 0) (.slice none 0 0) := by rw [hW0]; simpa using (Bx3.new (w.alloc (.cells #[.bool b1, .slice a1 n1 c1, .slice d1 m1 o1, .bool bb1, .slice aa1 nn1 cc1, .slice dd1 mm1 oo1] 29)) 27 (.bool false) (.slice none 0 0) (.slice none 0 0))
 go_enter Tryz.func37, Tryz.ntmps37
 obtain ⟨kp2_0, kp2_1, kp2_2, kp2_3, kp2_4, kp2_5⟩ := p2.c6
 obtain ⟨kp4_0, kp4_1, kp4_2⟩ := p4.c3
 go_upto_region 1 with (fail)
 rw [← hW0]
 clear hW0; clear kp2_0 kp2_1 kp2_2 kp2_3 kp2_4 kp2_5 kp4_0 kp4_1 kp4_2; have ltp2 := p2.lt; have ltp4 := p4.lt; have szw1 := Ext.size E0
 refine region_gs [.one fun v _ => v = .pointer (some ⟨w.heap.size, 3, none⟩),
   .one fun v _ => v = .agg #[.bool bb1, .slice aa1 nn1 cc1, .slice dd1 mm1 oo1],
   .one fun v _ => v = .pointer (some ⟨w.heap.size, 0, none⟩),
   .one fun v _ => v = .agg #[.bool b1, .slice a1 n1 c1, .slice d1 m1 o1],
   .one fun v W => Rw W v (p.2 - p.1),
   .one fun v W => ∃ g, v = .pointer (some ⟨g, 0, none⟩) ∧ W0.heap.size ≤ g ∧ Form W g 27 3,
   .three 5 4 (fun p r _ W => Put3 W0.heap.size 27 p r W)]
  (fun W => Ext w W ∧ Sw W (.agg #[.bool b1, .slice a1 n1 c1, .slice d1 m1 o1, .bool bb1, .slice aa1 nn1 cc1, .slice dd1 mm1 oo1]) p ∧ Bx6 W w.heap.size 29 (.bool b1) (.slice a1 n1 c1) (.slice d1 m1 o1) (.bool bb1) (.slice aa1 nn1 cc1) (.slice dd1 mm1 oo1) ∧ Bx3 W (w.heap.size + 1) 27 (.bool false) (.slice none 0 0) (.slice none 0 0) ∧ W0.heap.size ≤ W.heap.size) ⟨Good.is _, Good.is _, Good.is _, Good.is _, Good.rat _, Good.box _ _ _, cert_put3, trivial⟩
  ⟨E0, h1, p2, p4, Nat.le_refl _⟩ (A := ?A1) ?hA1 ?howe1 ?hfin1
 case hA1 =>
  intro vs
  simp only [putAll, Act.put, sA, sZ, sS, Nat.zero_add, Nat.reduceAdd]
  exact rfl
 case howe1 =>
  clear E0 h1 p2 p4
  intro hf
  refine ⟨oE 0 [] hf rfl ?_, oE 1 [0] hf rfl ?_, oE 2 [] hf rfl ?_, oE 3 [2] hf rfl ?_, oE 4 [1, 3] hf rfl ?_, oE 5 [] hf rfl ?_, oW 6 [5, 4] hf rfl ?_, trivial⟩
  all_goals intro vs W hS hp hx KO hKO
  all_goals simp only [Act.put, sA, sZ, sS] at hKO
  ·go_simp; exact hKO _ W (.refl W) rfl
  ·have e0 := isOf hp.1; simp only [e0] at hKO; have fc3 := hS.2.2.1.cell3; have fc4 := hS.2.2.1.cell4; have fc5 := hS.2.2.1.cell5; go_simp; exact hKO _ W (.refl W) rfl
  ·go_simp; exact hKO _ W (.refl W) rfl
  ·have e2 := isOf hp.1; simp only [e2] at hKO; have fc0 := hS.2.2.1.cell0; have fc1 := hS.2.2.1.cell1; have fc2 := hS.2.2.1.cell2; go_simp; exact hKO _ W (.refl W) rfl
  ·have e1 := isOf hp.1; have e3 := isOf hp.2.1; simp only [e1, e3] at hKO; go_simp
   refine (Tryz.refRSub (hS.2.1.hi) (hS.2.1.lo) SP.out.hi SP.out.lo (by omega)).mono ?_
   rintro e W1 ⟨v, rfl, hv, hE⟩
   exact hKO _ W1 hE hv
  ·have hn := Bx3.new W 27 (.bool false) (.slice none 0 0) (.slice none 0 0)
   have hE := Ext.alloc1 W (.cells #[.bool false, .slice none 0 0, .slice none 0 0] 27)
   have hsz := hS.2.2.2.2
   go_simp
   exact hKO _ _ hE ⟨_, rfl, hsz, hn.form⟩
  ·have q5 := hp.1; have q4 := hp.2.1
   obtain ⟨g, ev, hg, hf⟩ := q5
   replace ev : vs 5 = _ := ev
   obtain ⟨x0_0, x0_1, x0_2, hx, hno⟩ := hf.bx3
   have qr := q4
   obtain ⟨b3, a3, n3, c3, d3, m3, o3, er, -, -, -⟩ := qr
   replace er : vs 4 = _ := er
   have r0 := hx.froz0
   have t0 := hx.cell0
   have r1 := hx.froz1
   have t1 := hx.cell1
   have r2 := hx.froz2
   have t2 := hx.cell2
   have hw := Wr.set3 hx hno b3 a3 n3 c3 d3 m3 o3
   have hq := hx.set (.bool b3) (.slice a3 n3 c3) (.slice d3 m3 o3)
   simp only [ev, er] at hKO; go_simp
   exact hKO _ _ hw ⟨(Ext.wr hS.1 hw (by omega)), (hS.2.1.wr hw), (hS.2.2.1.wr hw (by omega)), (hS.2.2.2.1.wr hw (by omega)), (Nat.le_trans hS.2.2.2.2 hw.apart.size)⟩ ⟨g, b3, a3, n3, c3, d3, m3, o3, ev, er, hg, hq⟩
 intro vs W1 hS hp
 clear szw1 E0 h1 p2 p4
 obtain ⟨E0, h1, p2, p4, sz1⟩ := hS
 obtain ⟨h1_0, h1_1, h1_2, h1_3, h1_4, h1_5, h1_6, -⟩ := hp
 obtain ⟨g1_6, b1_6, a1_6, n1_6, c1_6, d1_6, m1_6, o1_6, ev1_6, er1_6, hg1_6, p1_6⟩ := h1_6
 replace ev1_6 : vs 5 = _ := ev1_6; replace er1_6 : vs 4 = _ := er1_6; replace h1_4 := (show Rw W1 (vs 4) (p.2 - p.1) from h1_4)
 rw [er1_6] at h1_4
 replace h1_0 : vs 0 = .pointer (some ⟨w.heap.size, 3, none⟩) := h1_0
 replace h1_1 : vs 1 = .agg #[.bool bb1, .slice aa1 nn1 cc1, .slice dd1 mm1 oo1] := h1_1
 replace h1_2 : vs 2 = .pointer (some ⟨w.heap.size, 0, none⟩) := h1_2
 replace h1_3 : vs 3 = .agg #[.bool b1, .slice a1 n1 c1, .slice d1 m1 o1] := h1_3
 simp only [ev1_6, er1_6, h1_0, h1_1, h1_2, h1_3]
 clear ev1_6 er1_6 h1_0 h1_1 h1_2 h1_3 h1_5
 obtain ⟨kp2_0, kp2_1, kp2_2, kp2_3, kp2_4, kp2_5⟩ := p2.c6
 obtain ⟨kp4_0, kp4_1, kp4_2⟩ := p4.c3
 obtain ⟨kp1_6_0, kp1_6_1, kp1_6_2⟩ := p1_6.c3
 go_upto_region 2 with (fail)
 clear kp2_0 kp2_1 kp2_2 kp2_3 kp2_4 kp2_5 kp4_0 kp4_1 kp4_2 kp1_6_0 kp1_6_1 kp1_6_2; have fp4 := p4.form; have ltp1_6 := p1_6.lt; have szw2 := Ext.size E0
 refine region_gs [.one fun v _ => v = .pointer (some ⟨w.heap.size, 0, none⟩),
   .one fun v _ => v = .agg #[.bool b1, .slice a1 n1 c1, .slice d1 m1 o1],
   .one fun v _ => v = .agg #[.bool b1_6, .slice a1_6 n1_6 c1_6, .slice d1_6 m1_6 o1_6],
   .one fun v _ => v = .int .u8 (n : Int),
   .one fun v _ => v = .int .i64 (n : Int),
   .one fun v W => Rw W v fr,
   .one fun v W => Rw W v ((p.2 - p.1) * fr),
   .one fun v W => Rw W v (p.1 + (p.2 - p.1) * fr),
   .two 7 (fun r _ W => At3 (w.heap.size + 1) 27 r W)]
  (fun W => Ext w W ∧ Sw W (.agg #[.bool b1, .slice a1 n1 c1, .slice d1 m1 o1, .bool bb1, .slice aa1 nn1 cc1, .slice dd1 mm1 oo1]) p ∧ Bx6 W w.heap.size 29 (.bool b1) (.slice a1 n1 c1) (.slice d1 m1 o1) (.bool bb1) (.slice aa1 nn1 cc1) (.slice dd1 mm1 oo1) ∧ Form W (w.heap.size + 1) 27 3 ∧ Rw W (.agg #[.bool b1_6, .slice a1_6 n1_6 c1_6, .slice d1_6 m1_6 o1_6]) (p.2 - p.1) ∧ Bx3 W g1_6 27 (.bool b1_6) (.slice a1_6 n1_6 c1_6) (.slice d1_6 m1_6 o1_6) ∧ W1.heap.size ≤ W.heap.size) ⟨Good.is _, Good.is _, Good.is _, Good.is _, Good.is _, Good.rat _, Good.rat _, Good.rat _, cert_at3, trivial⟩
  ⟨E0, h1, p2, fp4, h1_4, p1_6, Nat.le_refl _⟩ (A := ?A2) ?hA2 ?howe2 ?hfin2
 case hA2 =>
  intro vs
  simp only [putAll, Act.put, sA, sZ, sS, Nat.zero_add, Nat.reduceAdd]
  exact rfl
 case howe2 =>
  clear E0 h1 p2 fp4 h1_4 p1_6
  intro hf
  refine ⟨oE 0 [] hf rfl ?_, oE 1 [0] hf rfl ?_, oE 2 [] hf rfl ?_, oE 3 [] hf rfl ?_, oE 4 [3] hf rfl ?_, oE 5 [4] hf rfl ?_, oE 6 [2, 5] hf rfl ?_, oE 7 [1, 6] hf rfl ?_, oW 8 [7] hf rfl ?_, trivial⟩
  all_goals intro vs W hS hp hx KO hKO
  all_goals simp only [Act.put, sA, sZ, sS] at hKO
  ·go_simp; exact hKO _ W (.refl W) rfl
  ·have e0 := isOf hp.1; simp only [e0] at hKO; have fc0 := hS.2.2.1.cell0; have fc1 := hS.2.2.1.cell1; have fc2 := hS.2.2.1.cell2; go_simp; exact hKO _ W (.refl W) rfl
  ·have fc0 := hS.2.2.2.2.2.1.cell0; have fc1 := hS.2.2.2.2.2.1.cell1; have fc2 := hS.2.2.2.2.2.1.cell2; go_simp; exact hKO _ W (.refl W) rfl
  ·go_simp; exact hKO _ W (.refl W) rfl
  ·have e3 := isOf hp.1; simp only [e3] at hKO; go_simp; exact hKO _ W (.refl W) rfl
  ·have e4 := isOf hp.1; simp only [e4] at hKO; go_simp
   refine (Tryz.refRFrac (n : Int) 255 _ (by omega) (by have := HN.out; omega) (by omega) (by omega)).mono ?_
   rintro e W1 ⟨v, rfl, hv, hE⟩
   rw [HF.out] at hv
   exact hKO _ W1 hE hv
  ·have e2 := isOf hp.1; have q5 := hp.2.1; simp only [e2] at hKO; go_simp
   refine (Tryz.refRMul (hS.2.2.2.2.1) q5 HS.out.1 HS.out.2.1 (by omega)).mono ?_
   rintro e W1 ⟨v, rfl, hv, hE⟩
   exact hKO _ W1 hE hv
  ·have e1 := isOf hp.1; have q6 := hp.2.1; simp only [e1] at hKO; go_simp
   refine (Tryz.refRAdd (hS.2.1.lo) q6 HS.out.2.2.1 HS.out.2.2.2.1 (by omega)).mono ?_
   rintro e W1 ⟨v, rfl, hv, hE⟩
   exact hKO _ W1 hE hv
  ·have q7 := hp.1
   have hf := hS.2.2.2.1
   obtain ⟨x0_0, x0_1, x0_2, hx, hno⟩ := hf.bx3
   have qr := q7
   obtain ⟨b3, a3, n3, c3, d3, m3, o3, er, -, -, -⟩ := qr
   replace er : vs 7 = _ := er
   have r0 := hx.froz0
   have t0 := hx.cell0
   have r1 := hx.froz1
   have t1 := hx.cell1
   have r2 := hx.froz2
   have t2 := hx.cell2
   have hw := Wr.set3 hx hno b3 a3 n3 c3 d3 m3 o3
   have hq := hx.set (.bool b3) (.slice a3 n3 c3) (.slice d3 m3 o3)
   have hg : (w.heap.size + 1) ≤ (w.heap.size + 1) := Nat.le_refl _
   simp only [er] at hKO; go_simp
   exact hKO _ _ hw ⟨(Ext.wr hS.1 hw (by omega)), (hS.2.1.wr hw), (hS.2.2.1.wr hw (by omega)), (hS.2.2.2.1.wr hw), (hS.2.2.2.2.1.wr hw), (hS.2.2.2.2.2.1.wr hw (by omega)), (Nat.le_trans hS.2.2.2.2.2.2 hw.apart.size)⟩ ⟨b3, a3, n3, c3, d3, m3, o3, er, hq⟩
 intro vs W2 hS hp
 clear szw2 E0 h1 p2 fp4 h1_4 p1_6
 obtain ⟨E0, h1, p2, fp4, h1_4, p1_6, sz2⟩ := hS
 obtain ⟨h2_0, h2_1, h2_2, h2_3, h2_4, h2_5, h2_6, h2_7, h2_8, -⟩ := hp
 obtain ⟨b2_8, a2_8, n2_8, c2_8, d2_8, m2_8, o2_8, er2_8, p2_8⟩ := h2_8
 replace er2_8 : vs 7 = _ := er2_8; replace h2_7 := (show Rw W2 (vs 7) (p.1 + (p.2 - p.1) * fr) from h2_7)
 rw [er2_8] at h2_7
 replace h2_0 : vs 0 = .pointer (some ⟨w.heap.size, 0, none⟩) := h2_0
 replace h2_1 : vs 1 = .agg #[.bool b1, .slice a1 n1 c1, .slice d1 m1 o1] := h2_1
 replace h2_2 : vs 2 = .agg #[.bool b1_6, .slice a1_6 n1_6 c1_6, .slice d1_6 m1_6 o1_6] := h2_2
 replace h2_3 : vs 3 = .int .u8 (n : Int) := h2_3
 replace h2_4 : vs 4 = .int .i64 (n : Int) := h2_4
 simp only [er2_8, h2_0, h2_1, h2_2, h2_3, h2_4]
 replace h2_5 : Rw W2 (vs 5) fr := h2_5
 generalize vs 5 = u2_5 at h2_5 ⊢
 replace h2_6 : Rw W2 (vs 6) ((p.2 - p.1) * fr) := h2_6
 generalize vs 6 = u2_6 at h2_6 ⊢
 clear er2_8 h2_0 h2_1 h2_2 h2_3 h2_4
 obtain ⟨kp2_0, kp2_1, kp2_2, kp2_3, kp2_4, kp2_5⟩ := p2.c6
 obtain ⟨kp1_6_0, kp1_6_1, kp1_6_2⟩ := p1_6.c3
 obtain ⟨kp2_8_0, kp2_8_1, kp2_8_2⟩ := p2_8.c3
 go_wp2
 exact bodyPost_ret (v := .agg #[.bool b2_8, .slice a2_8 n2_8 c2_8, .slice d2_8 m2_8 o2_8]) (by simp [results, Tryz.results37, go_sem, kp2_8_0, kp2_8_1, kp2_8_2]) rfl ⟨_, rfl, by rw [← HV.out]; exact h2_7, E0⟩

end Go.Rt
