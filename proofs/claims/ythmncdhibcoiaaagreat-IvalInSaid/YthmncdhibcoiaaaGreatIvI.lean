/-
 Intervals: all quotients, by the program and by definition.
-/
import Derived.Test.YthmncdhibcoiaaaGreatSqz
import Derived.Test.YthmncdhibcoiaaaGreatIvH
import Derived.Test.YthmncdhibcoiaaaGreatIvB

namespace Go.Rt

open Go Go.RowKit Go.Proofs

instance lasts_rowR {b : Nat} {l : List Rat} : Nonempty (Lasts (fun W => RowR W b l)) := ⟨fun _ _ h hE => h.ext hE⟩

instance lasts_ownR {B H : Nat} {e : TypeId} {v : Value} {l : List Rat} : Nonempty (Lasts (fun W => OwnR W B H e v l)) := ⟨fun _ _ h hE => h.ext hE⟩

instance lasts_lt {g : Nat} : Nonempty (Lasts (fun W => g < W.heap.size)) := ⟨fun _ _ h hE => Nat.lt_of_lt_of_le h hE.size⟩

def divL (p q : Rat × Rat) : List Rat := [p.1 / q.1, p.1 / q.2, p.2 / q.1, p.2 / q.2]

def divS (p q : Rat × Rat) : Rat × Rat := (minQ (divL p q) 3, maxQ (divL p q) 3)

theorem divL_sm {L : Nat} {p q : Rat × Rat} (s1 : SmS L p) (s2 : SmS L q) (h1 : q.1 ≠ 0) (h2 : q.2 ≠ 0) : ∀ x ∈ divL p q, SmR (L + L) x := by
 intro x hx
 unfold divL at hx
 simp only [List.mem_cons, List.not_mem_nil, or_false] at hx
 rcases hx with rfl | rfl | rfl | rfl
 ·exact s1.lo.div s2.lo h1
 ·exact s1.lo.div s2.hi h2
 ·exact s1.hi.div s2.lo h1
 ·exact s1.hi.div s2.hi h2

theorem divL_take (p q : Rat × Rat) {i j : Nat} (hi : i < 2) (hj : j < 2) : (divL p q).take (2 * i + j) ++ [atQ [p.1, p.2] i / atQ [q.1, q.2] j] = (divL p q).take (2 * i + (j + 1)) := by
 match i, j, hi, hj with
 | 0, 0, _, _ => rfl
 | 0, 1, _, _ => rfl
 | 1, 0, _, _ => rfl
 | 1, 1, _, _ => rfl

theorem divL_len (p q : Rat × Rat) {n : Nat} (h : n ≤ 4) : ((divL p q).take n).length = n := by
 rw [List.length_take]
 show min n 4 = n
 omega

theorem at2_sm {L : Nat} {p : Rat × Rat} (s : SmS L p) {i : Nat} (hi : i < 2) : SmR L (atQ [p.1, p.2] i) := by
 match i, hi with
 | 0, _ => exact s.lo
 | 1, _ => exact s.hi

theorem at2_ne {p : Rat × Rat} (h1 : p.1 ≠ 0) (h2 : p.2 ≠ 0) {i : Nat} (hi : i < 2) : atQ [p.1, p.2] i ≠ 0 := by
 match i, hi with
 | 0, _ => exact h1
 | 1, _ => exact h2

theorem own_apart {r : Option Nat} {g b n c H : Nat} (hat : r = some g ∨ H < g) (hn : r ≠ some b) (hb : b ≤ H) : (Value.slice (some ⟨g, 0, none⟩) n c).ownBlock ≠ some b := fun e => by
 have e' : some g = some b := e
 injection e' with e'
 subst e'
 rcases hat with h | h
 ·exact hn h
 ·omega

theorem Gro.span {r : Option Nat} {w w' : World} (h : Gro r w w') {v : Value} {p : Rat × Rat} (hx : Sw w v p) : Sw w' v p := let ⟨_, hm, h⟩ := h; h.elim (fun hE => (hx.ext hm).ext hE) (fun ⟨_, _, hw⟩ => (hx.ext hm).wr hw)

theorem two_row {W : World} {t : TypeId} {b : Bool} {a : Option Addr} {n c : Nat} {d : Option Addr} {m o : Nat} {b2 : Bool} {a2 : Option Addr} {n2 c2 : Nat} {d2 : Option Addr} {m2 o2 : Nat} {p : Rat × Rat}
  (h : Sw W (.agg #[.bool b, .slice a n c, .slice d m o, .bool b2, .slice a2 n2 c2, .slice d2 m2 o2]) p) :
  RowR (W.alloc (.cells #[.bool b, .slice a n c, .slice d m o, .bool b2, .slice a2 n2 c2, .slice d2 m2 o2] t)) W.heap.size [p.1, p.2] := fun i hi => by
 have hbx := BxA.new W t #[.bool b, .slice a n c, .slice d m o, .bool b2, .slice a2 n2 c2, .slice d2 m2 o2]
 have hE := Ext.alloc1 W (.cells #[.bool b, .slice a n c, .slice d m o, .bool b2, .slice a2 n2 c2, .slice d2 m2 o2] t)
 match i, hi with
 | 0, _ => exact ⟨_, _, _, _, _, _, _, hbx.cell 0 rfl, hbx.cell 1 rfl, hbx.cell 2 rfl, h.lo.ext hE⟩
 | 1, _ => exact ⟨_, _, _, _, _, _, _, hbx.cell 3 rfl, hbx.cell 4 rfl, hbx.cell 5 rfl, h.hi.ext hE⟩

set_option maxRecDepth 100000 in
set_option maxHeartbeats 8000000 in
theorem Tryz.ivDiv {v1 v2 : Value} {p q : Rat × Rat} {L : Nat} {w : World} (h1 : Sw w v1 p) (h2 : Sw w v2 q) (s1 : SmS L p) (s2 : SmS L q) (hL : L ≤ 60) (hl : 1 ≤ L) (hh : hasS q 0 = false) (hq : q.1 ≠ 0 ∧ q.2 ≠ 0) :
  Calls Tryz.prog 29 #[v1, v2] w fun e w' => ∃ v', e = .returned (.tuple #[v', .int .i64 0]) ∧ Sw w' v' (divS p q) ∧ Ext w w' := by
 obtain ⟨b1, a1, n1, c1, d1, m1, o1, bb1, aa1, nn1, cc1, dd1, mm1, oo1, rfl, q1⟩ : ∃ b1 a1 n1 c1 d1 m1 o1 bb1 aa1 nn1 cc1 dd1 mm1 oo1, v1 = .agg #[.bool b1, .slice a1 n1 c1, .slice d1 m1 o1, .bool bb1, .slice aa1 nn1 cc1, .slice dd1 mm1 oo1] ∧ True := let ⟨b1, a1, n1, c1, d1, m1, o1, bb1, aa1, nn1, cc1, dd1, mm1, oo1, e, _⟩ := h1; ⟨b1, a1, n1, c1, d1, m1, o1, bb1, aa1, nn1, cc1, dd1, mm1, oo1, e, trivial⟩
 clear q1
 obtain ⟨b2, a2, n2, c2, d2, m2, o2, bb2, aa2, nn2, cc2, dd2, mm2, oo2, rfl, q2⟩ : ∃ b2 a2 n2 c2 d2 m2 o2 bb2 aa2 nn2 cc2 dd2 mm2 oo2, v2 = .agg #[.bool b2, .slice a2 n2 c2, .slice d2 m2 o2, .bool bb2, .slice aa2 nn2 cc2, .slice dd2 mm2 oo2] ∧ True := let ⟨b2, a2, n2, c2, d2, m2, o2, bb2, aa2, nn2, cc2, dd2, mm2, oo2, e, _⟩ := h2; ⟨b2, a2, n2, c2, d2, m2, o2, bb2, aa2, nn2, cc2, dd2, mm2, oo2, e, trivial⟩
 clear q2
 have HHL := Lib.hid (And.intro hL hl)
 have HDQ := Lib.hid hq
 have SP := Lib.hid s1
 have SQ := Lib.hid s2
 have S0 : Hid (SmR L ((0 : Int) : Rat)) := Lib.hid ((SmR.int (n := 0) (by decide)).mono hl)
 have HH2 : Hid (hasS q ((0 : Int) : Rat) = false) := Lib.hid hh
 clear hh hl hq s1 s2 hL
 obtain ⟨W0, hW0⟩ : ∃ W0, W0 = (((w.alloc (.cells #[.bool b1, .slice a1 n1 c1, .slice d1 m1 o1, .bool bb1, .slice aa1 nn1 cc1, .slice dd1 mm1 oo1] 29)).alloc (.cells #[.bool b2, .slice a2 n2 c2, .slice d2 m2 o2, .bool bb2, .slice aa2 nn2 cc2, .slice dd2 mm2 oo2] 29)).alloc (.cells #[.bool false, .slice none 0 0, .slice none 0 0, .bool false, .slice none 0 0, .slice none 0 0] 29)) := ⟨_, rfl⟩
 have E0 : Ext w W0 := by rw [hW0]; exact (((Ext.alloc1 w (.cells #[.bool b1, .slice a1 n1 c1, .slice d1 m1 o1, .bool bb1, .slice aa1 nn1 cc1, .slice dd1 mm1 oo1] 29)).alloc (.cells #[.bool b2, .slice a2 n2 c2, .slice d2 m2 o2, .bool bb2, .slice aa2 nn2 cc2, .slice dd2 mm2 oo2] 29)).alloc (.cells #[.bool false, .slice none 0 0, .slice none 0 0, .bool false, .slice none 0 0, .slice none 0 0] 29))
 replace h1 : Sw W0 (.agg #[.bool b1, .slice a1 n1 c1, .slice d1 m1 o1, .bool bb1, .slice aa1 nn1 cc1, .slice dd1 mm1 oo1]) p := h1.ext E0
 replace h2 : Sw W0 (.agg #[.bool b2, .slice a2 n2 c2, .slice d2 m2 o2, .bool bb2, .slice aa2 nn2 cc2, .slice dd2 mm2 oo2]) q := h2.ext E0
 have p2 : Bx6 W0 w.heap.size 29 (.bool b1) (.slice a1 n1 c1) (.slice d1 m1 o1) (.bool bb1) (.slice aa1 nn1 cc1) (.slice dd1 mm1 oo1) := by rw [hW0]; exact (Bx6.new w 29 (.bool b1) (.slice a1 n1 c1) (.slice d1 m1 o1) (.bool bb1) (.slice aa1 nn1 cc1) (.slice dd1 mm1 oo1)).ext ((Ext.alloc1 (w.alloc (.cells #[.bool b1, .slice a1 n1 c1, .slice d1 m1 o1, .bool bb1, .slice aa1 nn1 cc1, .slice dd1 mm1 oo1] 29)) (.cells #[.bool b2, .slice a2 n2 c2, .slice d2 m2 o2, .bool bb2, .slice aa2 nn2 cc2, .slice dd2 mm2 oo2] 29)).alloc (.cells #[.bool false, .slice none 0 0, .slice none 0 0, .bool false, .slice none 0 0, .slice none 0 0] 29))
 have p3 : Bx6 W0 (w.heap.size + 1) 29 (.bool b2) (.slice a2 n2 c2) (.slice d2 m2 o2) (.bool bb2) (.slice aa2 nn2 cc2) (.slice dd2 mm2 oo2) := by rw [hW0]; simpa using (Bx6.new (w.alloc (.cells #[.bool b1, .slice a1 n1 c1, .slice d1 m1 o1, .bool bb1, .slice aa1 nn1 cc1, .slice dd1 mm1 oo1] 29)) 29 (.bool b2) (.slice a2 n2 c2) (.slice d2 m2 o2) (.bool bb2) (.slice aa2 nn2 cc2) (.slice dd2 mm2 oo2)).ext (Ext.alloc1 ((w.alloc (.cells #[.bool b1, .slice a1 n1 c1, .slice d1 m1 o1, .bool bb1, .slice aa1 nn1 cc1, .slice dd1 mm1 oo1] 29)).alloc (.cells #[.bool b2, .slice a2 n2 c2, .slice d2 m2 o2, .bool bb2, .slice aa2 nn2 cc2, .slice dd2 mm2 oo2] 29)) (.cells #[.bool false, .slice none 0 0, .slice none 0 0, .bool false, .slice none 0 0, .slice none 0 0] 29))
 have p4 : Bx6 W0 (w.heap.size + 1 + 1) 29 (.bool false) (.slice none 0 0) (.slice none 0 0) (.bool false) (.slice none 0 0) (.slice none 0 0) := by rw [hW0]; simpa using (Bx6.new ((w.alloc (.cells #[.bool b1, .slice a1 n1 c1, .slice d1 m1 o1, .bool bb1, .slice aa1 nn1 cc1, .slice dd1 mm1 oo1] 29)).alloc (.cells #[.bool b2, .slice a2 n2 c2, .slice d2 m2 o2, .bool bb2, .slice aa2 nn2 cc2, .slice dd2 mm2 oo2] 29)) 29 (.bool false) (.slice none 0 0) (.slice none 0 0) (.bool false) (.slice none 0 0) (.slice none 0 0))
 go_enter Tryz.func29, Tryz.ntmps29
 obtain ⟨kp2_0, kp2_1, kp2_2, kp2_3, kp2_4, kp2_5⟩ := p2.c6
 obtain ⟨kp3_0, kp3_1, kp3_2, kp3_3, kp3_4, kp3_5⟩ := p3.c6
 obtain ⟨kp4_0, kp4_1, kp4_2, kp4_3, kp4_4, kp4_5⟩ := p4.c6
 go_upto_region 1 with (fail)
 rw [← hW0]
 clear hW0; clear kp2_0 kp2_1 kp2_2 kp2_3 kp2_4 kp2_5 kp3_0 kp3_1 kp3_2 kp3_3 kp3_4 kp3_5 kp4_0 kp4_1 kp4_2 kp4_3 kp4_4 kp4_5; have ltp2 := p2.lt; have ltp3 := p3.lt; have ltp4 := p4.lt; have szw1 := Ext.size E0
 refine region_gs [.one fun v _ => v = .agg #[.bool b2, .slice a2 n2 c2, .slice d2 m2 o2, .bool bb2, .slice aa2 nn2 cc2, .slice dd2 mm2 oo2],
   .one fun v W => Rw W v (((0 : Int) : Rat)),
   .one fun v _ => v = .bool (hasS q ((0 : Int) : Rat))]
  (fun W => Ext w W ∧ Sw W (.agg #[.bool b1, .slice a1 n1 c1, .slice d1 m1 o1, .bool bb1, .slice aa1 nn1 cc1, .slice dd1 mm1 oo1]) p ∧ Sw W (.agg #[.bool b2, .slice a2 n2 c2, .slice d2 m2 o2, .bool bb2, .slice aa2 nn2 cc2, .slice dd2 mm2 oo2]) q ∧ Bx6 W w.heap.size 29 (.bool b1) (.slice a1 n1 c1) (.slice d1 m1 o1) (.bool bb1) (.slice aa1 nn1 cc1) (.slice dd1 mm1 oo1) ∧ Bx6 W (w.heap.size + 1) 29 (.bool b2) (.slice a2 n2 c2) (.slice d2 m2 o2) (.bool bb2) (.slice aa2 nn2 cc2) (.slice dd2 mm2 oo2) ∧ Bx6 W (w.heap.size + 1 + 1) 29 (.bool false) (.slice none 0 0) (.slice none 0 0) (.bool false) (.slice none 0 0) (.slice none 0 0) ∧ W0.heap.size ≤ W.heap.size) ⟨Good.is _, Good.rat _, Good.is _, trivial⟩
  ⟨E0, h1, h2, p2, p3, p4, Nat.le_refl _⟩ (A := ?A1) ?hA1 ?howe1 ?hfin1
 case hA1 =>
  intro vs
  simp only [putAll, Act.put, sA, sZ, sS, Nat.zero_add, Nat.reduceAdd]
  exact rfl
 case howe1 =>
  clear E0 h1 h2 p2 p3 p4
  intro hf
  refine ⟨oE 0 [] hf rfl ?_, oE 1 [] hf rfl ?_, oE 2 [0, 1] hf rfl ?_, trivial⟩
  all_goals intro vs W hS hp hx KO hKO
  all_goals simp only [Act.put, sA, sZ, sS] at hKO
  ·have fc0 := hS.2.2.2.2.1.cell0; have fc1 := hS.2.2.2.2.1.cell1; have fc2 := hS.2.2.2.2.1.cell2; have fc3 := hS.2.2.2.2.1.cell3; have fc4 := hS.2.2.2.2.1.cell4; have fc5 := hS.2.2.2.2.1.cell5; go_simp; exact hKO _ W (.refl W) rfl
  ·go_simp
   refine (Tryz.ratOf 0 _ (by omega) (by omega)).mono ?_
   rintro e W1 ⟨v, rfl, hv, hE⟩
   exact hKO _ W1 hE hv
  ·have e0 := isOf hp.1; have q1 := hp.2.1; simp only [e0] at hKO; go_simp
   refine (Tryz.ivHas (hS.2.2.1) q1 SQ.out S0.out (by have := HHL.out; omega)).mono ?_
   rintro e W1 ⟨rfl, hE⟩
   exact hKO _ W1 hE rfl
 intro vs W1 hS hp
 clear szw1 E0 h1 h2 p2 p3 p4
 obtain ⟨E0, h1, h2, p2, p3, p4, sz1⟩ := hS
 obtain ⟨h1_0, h1_1, h1_2, -⟩ := hp
 replace h1_0 : vs 0 = .agg #[.bool b2, .slice a2 n2 c2, .slice d2 m2 o2, .bool bb2, .slice aa2 nn2 cc2, .slice dd2 mm2 oo2] := h1_0
 replace h1_2 : vs 2 = .bool (hasS q ((0 : Int) : Rat)) := h1_2
 simp only [h1_0, h1_2]
 replace h1_1 : Rw W1 (vs 1) (((0 : Int) : Rat)) := h1_1
 generalize vs 1 = u1_1 at h1_1 ⊢
 clear h1_0 h1_2; rw [HH2.out]; clear h1_1
 obtain ⟨kp2_0, kp2_1, kp2_2, kp2_3, kp2_4, kp2_5⟩ := p2.c6
 obtain ⟨kp3_0, kp3_1, kp3_2, kp3_3, kp3_4, kp3_5⟩ := p3.c6
 obtain ⟨kp4_0, kp4_1, kp4_2, kp4_3, kp4_4, kp4_5⟩ := p4.c6
 go_upto_region 4 with (fail)
 obtain ⟨VQ, hW1⟩ : ∃ VQ, VQ = W1.alloc (.cells #[.bool b1, .slice a1 n1 c1, .slice d1 m1 o1, .bool bb1, .slice aa1 nn1 cc1, .slice dd1 mm1 oo1] 27) := ⟨_, rfl⟩
 obtain ⟨g1, hg1⟩ : ∃ g, g = W1.heap.size := ⟨_, rfl⟩
 have hrow : RowR VQ g1 [p.1, p.2] := by rw [hW1, hg1]; exact two_row h1
 have hE : Ext W1 VQ := by rw [hW1]; exact Ext.alloc1 _ _
 obtain ⟨g3, hg3⟩ : ∃ g, g = w.heap.size + 1 := ⟨_, rfl⟩
 obtain ⟨g4, hg4⟩ : ∃ g, g = w.heap.size + 1 + 1 := ⟨_, rfl⟩
 obtain ⟨B, hB⟩ : ∃ B, B = VQ.heap.size := ⟨_, rfl⟩
 have HG : Hid (w.heap.size < g3 ∧ g3 < g4 ∧ g4 < g1 ∧ g1 < B ∧ B = VQ.heap.size) := Lib.hid ⟨by omega, by omega, by have := p4.lt; omega, by rw [hB, hW1, hg1]; simp, hB⟩
 go_wp2_with fail
 rw [← hW1, ← hg1]
 clear hW1 hg1; clear kp2_0 kp2_1 kp2_2 kp2_3 kp2_4 kp2_5 kp3_0 kp3_1 kp3_2 kp3_3 kp3_4 kp3_5 kp4_0 kp4_1 kp4_2 kp4_3 kp4_4 kp4_5; replace h2 := h2.ext hE; replace p3 := p3.ext hE; replace p4 := p4.ext hE; replace E0 := E0.trans hE
 rw [← hg4] at p4 ⊢
 rw [← hg3] at p3 ⊢
 clear hE h1 p2 hg3 hg4 hB
 go_loopw [6, 23] (fun v i wr => ∃ k : Nat, i = .int .i64 (k : Int) ∧ k ≤ 2 ∧ OwnR wr B wr.heap.size 27 v ((divL p q).take (2 * k)) ∧ Sw wr (.agg #[.bool b2, .slice a2 n2 c2, .slice d2 m2 o2, .bool bb2, .slice aa2 nn2 cc2, .slice dd2 mm2 oo2]) q ∧ Bx6 wr g3 29 (.bool b2) (.slice a2 n2 c2) (.slice d2 m2 o2) (.bool bb2) (.slice aa2 nn2 cc2) (.slice dd2 mm2 oo2) ∧ Bx6 wr g4 29 (.bool false) (.slice none 0 0) (.slice none 0 0) (.bool false) (.slice none 0 0) (.slice none 0 0) ∧ RowR wr g1 [p.1, p.2] ∧ B ≤ wr.heap.size ∧ Ext w wr) (fun _ i _ => 2 - (intOf i).toNat)
 case atStart => exact ⟨0, rfl, by omega, OwnR.nil _ _ _ _, h2, p3, p4, hrow, by have := HG.out.2.2.2.2; omega, E0⟩
 case round =>
  clear h2 p3 p4 hrow E0
  obtain ⟨k, rfl, hk, ho, h2, p3, p4, hrow, hB, E0⟩ := hrel
  obtain ⟨H, hH⟩ : ∃ H, H = wr.heap.size := ⟨_, rfl⟩
  rw [← hH] at ho
  by_cases hlt : k < 2
  ·have hltI : (k : Int) < 2 := by omega
   have hk63 : (k : Int) < 9223372036854775807 := by omega
   obtain ⟨sx, ax, nx, cx, dx, mx, ox, k0, k1, k2, hrx⟩ := hrow k hlt
   have HX : Hid (SmR L (atQ [p.1, p.2] k)) := Lib.hid (at2_sm SP.out hlt)
   have hH0 : H ≤ wr.heap.size := by omega
   have hg := HG.out
   have hB0 := hB
   obtain ⟨kp3_0, kp3_1, kp3_2, kp3_3, kp3_4, kp3_5⟩ := p3.c6
   obtain ⟨kp4_0, kp4_1, kp4_2, kp4_3, kp4_4, kp4_5⟩ := p4.c6
   go_upto_region 6 with (fail)
   clear kp3_0 kp3_1 kp3_2 kp3_3 kp3_4 kp3_5 kp4_0 kp4_1 kp4_2 kp4_3 kp4_4 kp4_5; have ltp3 := p3.lt; have ltp4 := p4.lt; have szw2 := Ext.size E0
   refine region_gs [.one fun v _ => v = .pointer (some ⟨g1, k * 3, none⟩),
     .one fun v _ => v = .agg #[.bool sx, .slice ax nx cx, .slice dx mx ox],
     .one fun v W => ∃ g, v = .pointer (some ⟨g, 0, none⟩) ∧ wr.heap.size ≤ g ∧ Form W g 27 3,
     .two 2 (fun p _ W => New3 wr.heap.size 27 (.bool sx) (.slice ax nx cx) (.slice dx mx ox) p W)]
    (fun W => Ext w W ∧ Sw W (.agg #[.bool b2, .slice a2 n2 c2, .slice d2 m2 o2, .bool bb2, .slice aa2 nn2 cc2, .slice dd2 mm2 oo2]) q ∧ Bx6 W g3 29 (.bool b2) (.slice a2 n2 c2) (.slice d2 m2 o2) (.bool bb2) (.slice aa2 nn2 cc2) (.slice dd2 mm2 oo2) ∧ Bx6 W g4 29 (.bool false) (.slice none 0 0) (.slice none 0 0) (.bool false) (.slice none 0 0) (.slice none 0 0) ∧ RowR W g1 [p.1, p.2] ∧ B ≤ Array.size (World.heap W) ∧ OwnR W B H 27 u6 ((divL p q).take (2 * k)) ∧ Rw W (.agg #[.bool sx, .slice ax nx cx, .slice dx mx ox]) (atQ [p.1, p.2] k) ∧ World.cell? W ⟨g1, k * 3, none⟩ = some (.bool sx) ∧ World.cell? W ⟨g1, k * 3 + 1, none⟩ = some (.slice ax nx cx) ∧ World.cell? W ⟨g1, k * 3 + 2, none⟩ = some (.slice dx mx ox) ∧ wr.heap.size ≤ W.heap.size) ⟨Good.is _, Good.is _, Good.box _ _ _, cert_new3, trivial⟩
    ⟨E0, h2, p3, p4, hrow, hB, ho, hrx, k0, k1, k2, Nat.le_refl _⟩ (A := ?A2) ?hA2 ?howe2 ?hfin2
   case hA2 =>
    intro vs
    simp only [putAll, Act.put, sA, sZ, sS, Nat.zero_add, Nat.reduceAdd]
    exact rfl
   case howe2 =>
    clear E0 h2 p3 p4 hrow hB ho hrx k0 k1 k2
    intro hf
    refine ⟨oE 0 [] hf rfl ?_, oE 1 [0] hf rfl ?_, oE 2 [] hf rfl ?_, oW 3 [2, 1] hf rfl ?_, trivial⟩
    all_goals intro vs W hS hp hx KO hKO
    all_goals simp only [Act.put, sA, sZ, sS] at hKO
    ·go_simp; exact hKO _ W (.refl W) rfl
    ·have e0 := isOf hp.1; simp only [e0] at hKO; have fc0 := hS.2.2.2.2.2.2.2.2.1; have fc1 := hS.2.2.2.2.2.2.2.2.2.1; have fc2 := hS.2.2.2.2.2.2.2.2.2.2.1; go_simp; exact hKO _ W (.refl W) rfl
    ·have hn := Bx3.new W 27 (.bool false) (.slice none 0 0) (.slice none 0 0)
     have hE := Ext.alloc1 W (.cells #[.bool false, .slice none 0 0, .slice none 0 0] 27)
     have hsz := hS.2.2.2.2.2.2.2.2.2.2.2
     go_simp
     exact hKO _ _ hE ⟨_, rfl, hsz, hn.form⟩
    ·have q2 := hp.1; have e1 := isOf hp.2.1; simp only [e1] at hKO
     obtain ⟨g, ev, hg, hf⟩ := q2
     replace ev : vs 2 = _ := ev
     obtain ⟨x0_0, x0_1, x0_2, hx, hno⟩ := hf.bx3
     have r0 := hx.froz0
     have t0 := hx.cell0
     have r1 := hx.froz1
     have t1 := hx.cell1
     have r2 := hx.froz2
     have t2 := hx.cell2
     have hw := Wr.set3 hx hno sx ax nx cx dx mx ox
     have hq := hx.set (.bool sx) (.slice ax nx cx) (.slice dx mx ox)
     simp only [ev] at hKO; go_simp
     exact hKO _ _ hw ⟨(Ext.wr hS.1 hw (by omega)), (hS.2.1.wr hw), (hS.2.2.1.wr hw (by omega)), (hS.2.2.2.1.wr hw (by omega)), (hS.2.2.2.2.1.wr hw (by omega)), (Nat.le_trans hS.2.2.2.2.2.1 hw.apart.size), (hS.2.2.2.2.2.2.1.wr hw (by omega)), (hS.2.2.2.2.2.2.2.1.wr hw), (hw.apart.cell (by simp; omega) hS.2.2.2.2.2.2.2.2.1), (hw.apart.cell (by simp; omega) hS.2.2.2.2.2.2.2.2.2.1), (hw.apart.cell (by simp; omega) hS.2.2.2.2.2.2.2.2.2.2.1), (Nat.le_trans hS.2.2.2.2.2.2.2.2.2.2.2 hw.apart.size)⟩ ⟨g, ev, hg, hq⟩
   intro vs W2 hS hp
   clear szw2 E0 h2 p3 p4 hrow hB ho hrx k0 k1 k2
   obtain ⟨E0, h2, p3, p4, hrow, hB, ho, hrx, k0, k1, k2, sz2⟩ := hS
   obtain ⟨h2_0, h2_1, h2_2, h2_3, -⟩ := hp
   obtain ⟨g2_3, ev2_3, hg2_3, p2_3⟩ := h2_3
   replace ev2_3 : vs 2 = _ := ev2_3
   replace h2_0 : vs 0 = .pointer (some ⟨g1, k * 3, none⟩) := h2_0
   replace h2_1 : vs 1 = .agg #[.bool sx, .slice ax nx cx, .slice dx mx ox] := h2_1
   simp only [ev2_3, h2_0, h2_1]
   clear ev2_3 h2_0 h2_1 h2_2; clear k0 k1 k2; clear hH0 hB0 hg
   have hlp8 := p2_3.lt
   obtain ⟨kp3_0, kp3_1, kp3_2, kp3_3, kp3_4, kp3_5⟩ := p3.c6
   obtain ⟨kp4_0, kp4_1, kp4_2, kp4_3, kp4_4, kp4_5⟩ := p4.c6
   obtain ⟨kp2_3_0, kp2_3_1, kp2_3_2⟩ := p2_3.c3
   obtain ⟨VR, hVR⟩ : ∃ W, W = W2.alloc (.cells #[.bool b2, .slice a2 n2 c2, .slice d2 m2 o2, .bool bb2, .slice aa2 nn2 cc2, .slice dd2 mm2 oo2] 27) := ⟨_, rfl⟩
   obtain ⟨g7, hg7⟩ : ∃ g, g = W2.heap.size := ⟨_, rfl⟩
   have hrw7 : RowR VR g7 [q.1, q.2] := by rw [hVR, hg7]; exact two_row h2
   have hE : Ext W2 VR := by rw [hVR]; exact Ext.alloc1 _ _
   go_wp2_with fail
   rw [← hVR, ← hg7]
   clear kp3_0 kp3_1 kp3_2 kp3_3 kp3_4 kp3_5 kp4_0 kp4_1 kp4_2 kp4_3 kp4_4 kp4_5 kp2_3_0 kp2_3_1 kp2_3_2
   replace E0 : Ext w VR := (Ext.trans E0 hE)
   replace h2 : Sw VR (.agg #[.bool b2, .slice a2 n2 c2, .slice d2 m2 o2, .bool bb2, .slice aa2 nn2 cc2, .slice dd2 mm2 oo2]) q := (h2.ext hE)
   replace p3 : Bx6 VR g3 29 (.bool b2) (.slice a2 n2 c2) (.slice d2 m2 o2) (.bool bb2) (.slice aa2 nn2 cc2) (.slice dd2 mm2 oo2) := (p3.ext hE)
   replace p4 : Bx6 VR g4 29 (.bool false) (.slice none 0 0) (.slice none 0 0) (.bool false) (.slice none 0 0) (.slice none 0 0) := (p4.ext hE)
   replace hrow : RowR VR g1 [p.1, p.2] := (hrow.ext hE)
   replace hB : B ≤ Array.size (World.heap VR) := (Nat.le_trans hB (Ext.size hE))
   replace ho : OwnR VR B H 27 u6 ((divL p q).take (2 * k)) := (ho.ext hE)
   replace hrx : Rw VR (.agg #[.bool sx, .slice ax nx cx, .slice dx mx ox]) (atQ [p.1, p.2] k) := (hrx.ext hE)
   replace p2_3 : Bx3 VR g2_3 27 (.bool sx) (.slice ax nx cx) (.slice dx mx ox) := (p2_3.ext hE)
   obtain ⟨g8, hg8⟩ : ∃ g, g = g2_3 := ⟨_, rfl⟩
   rw [← hg8] at p2_3 ⊢
   have H78 : Hid (H ≤ g8 ∧ H ≤ g7 ∧ g8 < g7 ∧ g7 < VR.heap.size) := Lib.hid ⟨by rw [hg8, hH]; have := hg2_3; omega, by rw [hg7, hH]; have := sz2; omega, by rw [hg8, hg7]; exact hlp8, by rw [hVR, hg7]; simp⟩
   have hbk := ho.block
   have hn8 : u6.ownBlock ≠ some g8 := fun e => by have := hbk _ e; have := H78.out; omega
   have hn7 : u6.ownBlock ≠ some g7 := fun e => by have := hbk _ e; have := H78.out; omega
   replace ho := ho.below; clear hE hVR hg7 hg8 hH hbk hlp8
   go_loopw [6, 33] (fun v i wq => ∃ j : Nat, i = .int .i64 (j : Int) ∧ j ≤ 2 ∧ OwnR wq B wq.heap.size 27 v ((divL p q).take (2 * k + j)) ∧ v.ownBlock ≠ some g8 ∧ v.ownBlock ≠ some g7 ∧ Sw wq (.agg #[.bool b2, .slice a2 n2 c2, .slice d2 m2 o2, .bool bb2, .slice aa2 nn2 cc2, .slice dd2 mm2 oo2]) q ∧ Bx6 wq g3 29 (.bool b2) (.slice a2 n2 c2) (.slice d2 m2 o2) (.bool bb2) (.slice aa2 nn2 cc2) (.slice dd2 mm2 oo2) ∧ Bx6 wq g4 29 (.bool false) (.slice none 0 0) (.slice none 0 0) (.bool false) (.slice none 0 0) (.slice none 0 0) ∧ RowR wq g1 [p.1, p.2] ∧ RowR wq g7 [q.1, q.2] ∧ Bx3 wq g8 27 (.bool sx) (.slice ax nx cx) (.slice dx mx ox) ∧ Rw wq (.agg #[.bool sx, .slice ax nx cx, .slice dx mx ox]) (atQ [p.1, p.2] k) ∧ g7 < wq.heap.size ∧ B ≤ wq.heap.size ∧ Ext w wq) (fun _ i _ => 2 - (intOf i).toNat)
   case atStart => exact ⟨0, rfl, by omega, ho, hn8, hn7, h2, p3, p4, hrow, hrw7, p2_3, hrx, H78.out.2.2.2, hB, E0⟩
   case round =>
    clear ho hn8 hn7 h2 p3 p4 hrow hrw7 p2_3 hrx hB E0
    obtain ⟨j, rfl, hj, ho, hn8, hn7, h2, p3, p4, hrow, hrw7, p8, hrx, h7, hB, E0⟩ := hrel
    by_cases hltj : j < 2
    ·obtain ⟨HH, hHH⟩ : ∃ H, H = wr.heap.size := ⟨_, rfl⟩
     rw [← hHH] at ho
     have hltI2 : (j : Int) < 2 := by omega
     have hj63 : (j : Int) < 9223372036854775807 := by omega
     obtain ⟨sy, ay, ny, cy, dy, my, oy, k0, k1, k2, hry⟩ := hrw7 j hltj
     have HY : Hid (SmR L (atQ [q.1, q.2] j) ∧ atQ [q.1, q.2] j ≠ 0) := Lib.hid ⟨at2_sm SQ.out hltj, at2_ne HDQ.out.1 HDQ.out.2 hltj⟩
     have HTK : Hid ((divL p q).take (2 * k + j) ++ [atQ [p.1, p.2] k / atQ [q.1, q.2] j] = (divL p q).take (2 * k + (j + 1))) := Lib.hid (divL_take p q hlt hltj)
     have HTL : Hid (((divL p q).take (2 * k + j)).length ≤ 1000) := Lib.hid (by rw [divL_len p q (by omega)]; omega)
     have hH0 : HH ≤ wr.heap.size := by omega
     have hg := HG.out
     have hB0 := hB
     have lt8 := p8.lt
     have lt7 := h7
     obtain ⟨kp3_0, kp3_1, kp3_2, kp3_3, kp3_4, kp3_5⟩ := p3.c6
     obtain ⟨kp4_0, kp4_1, kp4_2, kp4_3, kp4_4, kp4_5⟩ := p4.c6
     obtain ⟨kp8_0, kp8_1, kp8_2⟩ := p8.c3
     go_upto_region 9 with (fail)
     clear kp3_0 kp3_1 kp3_2 kp3_3 kp3_4 kp3_5 kp4_0 kp4_1 kp4_2 kp4_3 kp4_4 kp4_5 kp8_0 kp8_1 kp8_2; have ltp8 := p8.lt; have szw3 := Ext.size E0
     refine region_gs [.one fun v _ => v = .pointer (some ⟨g7, j * 3, none⟩),
       .one fun v _ => v = .agg #[.bool sy, .slice ay ny cy, .slice dy my oy],
       .one fun v W => ∃ g, v = .pointer (some ⟨g, 0, none⟩) ∧ wr.heap.size ≤ g ∧ Form W g 27 3,
       .two 2 (fun p _ W => New3 wr.heap.size 27 (.bool sy) (.slice ay ny cy) (.slice dy my oy) p W)]
      (fun W => Ext w W ∧ Sw W (.agg #[.bool b2, .slice a2 n2 c2, .slice d2 m2 o2, .bool bb2, .slice aa2 nn2 cc2, .slice dd2 mm2 oo2]) q ∧ Bx6 W g3 29 (.bool b2) (.slice a2 n2 c2) (.slice d2 m2 o2) (.bool bb2) (.slice aa2 nn2 cc2) (.slice dd2 mm2 oo2) ∧ Bx6 W g4 29 (.bool false) (.slice none 0 0) (.slice none 0 0) (.bool false) (.slice none 0 0) (.slice none 0 0) ∧ RowR W g1 [p.1, p.2] ∧ RowR W g7 [q.1, q.2] ∧ g7 < Array.size (World.heap W) ∧ B ≤ Array.size (World.heap W) ∧ Bx3 W g8 27 (.bool sx) (.slice ax nx cx) (.slice dx mx ox) ∧ Rw W (.agg #[.bool sx, .slice ax nx cx, .slice dx mx ox]) (atQ [p.1, p.2] k) ∧ OwnR W B HH 27 u6 ((divL p q).take (2 * k + j)) ∧ Rw W (.agg #[.bool sy, .slice ay ny cy, .slice dy my oy]) (atQ [q.1, q.2] j) ∧ World.cell? W ⟨g7, j * 3, none⟩ = some (.bool sy) ∧ World.cell? W ⟨g7, j * 3 + 1, none⟩ = some (.slice ay ny cy) ∧ World.cell? W ⟨g7, j * 3 + 2, none⟩ = some (.slice dy my oy) ∧ wr.heap.size ≤ W.heap.size) ⟨Good.is _, Good.is _, Good.box _ _ _, cert_new3, trivial⟩
      ⟨E0, h2, p3, p4, hrow, hrw7, h7, hB, p8, hrx, ho, hry, k0, k1, k2, Nat.le_refl _⟩ (A := ?A3) ?hA3 ?howe3 ?hfin3
     case hA3 =>
      intro vs
      simp only [putAll, Act.put, sA, sZ, sS, Nat.zero_add, Nat.reduceAdd]
      exact rfl
     case howe3 =>
      clear E0 h2 p3 p4 hrow hrw7 h7 hB p8 hrx ho hry k0 k1 k2
      intro hf
      refine ⟨oE 0 [] hf rfl ?_, oE 1 [0] hf rfl ?_, oE 2 [] hf rfl ?_, oW 3 [2, 1] hf rfl ?_, trivial⟩
      all_goals intro vs W hS hp hx KO hKO
      all_goals simp only [Act.put, sA, sZ, sS] at hKO
      ·go_simp; exact hKO _ W (.refl W) rfl
      ·have e0 := isOf hp.1; simp only [e0] at hKO; have fc0 := hS.2.2.2.2.2.2.2.2.2.2.2.2.1; have fc1 := hS.2.2.2.2.2.2.2.2.2.2.2.2.2.1; have fc2 := hS.2.2.2.2.2.2.2.2.2.2.2.2.2.2.1; go_simp; exact hKO _ W (.refl W) rfl
      ·have hn := Bx3.new W 27 (.bool false) (.slice none 0 0) (.slice none 0 0)
       have hE := Ext.alloc1 W (.cells #[.bool false, .slice none 0 0, .slice none 0 0] 27)
       have hsz := hS.2.2.2.2.2.2.2.2.2.2.2.2.2.2.2
       go_simp
       exact hKO _ _ hE ⟨_, rfl, hsz, hn.form⟩
      ·have q2 := hp.1; have e1 := isOf hp.2.1; simp only [e1] at hKO
       obtain ⟨g, ev, hg, hf⟩ := q2
       replace ev : vs 2 = _ := ev
       obtain ⟨x0_0, x0_1, x0_2, hx, hno⟩ := hf.bx3
       have r0 := hx.froz0
       have t0 := hx.cell0
       have r1 := hx.froz1
       have t1 := hx.cell1
       have r2 := hx.froz2
       have t2 := hx.cell2
       have hw := Wr.set3 hx hno sy ay ny cy dy my oy
       have hq := hx.set (.bool sy) (.slice ay ny cy) (.slice dy my oy)
       simp only [ev] at hKO; go_simp
       exact hKO _ _ hw ⟨(Ext.wr hS.1 hw (by omega)), (hS.2.1.wr hw), (hS.2.2.1.wr hw (by omega)), (hS.2.2.2.1.wr hw (by omega)), (hS.2.2.2.2.1.wr hw (by omega)), (hS.2.2.2.2.2.1.wr hw (by omega)), (Nat.lt_of_lt_of_le hS.2.2.2.2.2.2.1 hw.apart.size), (Nat.le_trans hS.2.2.2.2.2.2.2.1 hw.apart.size), (hS.2.2.2.2.2.2.2.2.1.wr hw (by omega)), (hS.2.2.2.2.2.2.2.2.2.1.wr hw), (hS.2.2.2.2.2.2.2.2.2.2.1.wr hw (by omega)), (hS.2.2.2.2.2.2.2.2.2.2.2.1.wr hw), (hw.apart.cell (by simp; omega) hS.2.2.2.2.2.2.2.2.2.2.2.2.1), (hw.apart.cell (by simp; omega) hS.2.2.2.2.2.2.2.2.2.2.2.2.2.1), (hw.apart.cell (by simp; omega) hS.2.2.2.2.2.2.2.2.2.2.2.2.2.2.1), (Nat.le_trans hS.2.2.2.2.2.2.2.2.2.2.2.2.2.2.2 hw.apart.size)⟩ ⟨g, ev, hg, hq⟩
     intro vs W3 hS hp
     clear szw3 E0 h2 p3 p4 hrow hrw7 h7 hB p8 hrx ho hry k0 k1 k2
     obtain ⟨E0, h2, p3, p4, hrow, hrw7, h7, hB, p8, hrx, ho, hry, k0, k1, k2, sz3⟩ := hS
     obtain ⟨h3_0, h3_1, h3_2, h3_3, -⟩ := hp
     obtain ⟨g3_3, ev3_3, hg3_3, p3_3⟩ := h3_3
     replace ev3_3 : vs 2 = _ := ev3_3
     replace h3_0 : vs 0 = .pointer (some ⟨g7, j * 3, none⟩) := h3_0
     replace h3_1 : vs 1 = .agg #[.bool sy, .slice ay ny cy, .slice dy my oy] := h3_1
     simp only [ev3_3, h3_0, h3_1]
     clear ev3_3 h3_0 h3_1 h3_2; clear k0 k1 k2
     obtain ⟨kp3_0, kp3_1, kp3_2, kp3_3, kp3_4, kp3_5⟩ := p3.c6
     obtain ⟨kp4_0, kp4_1, kp4_2, kp4_3, kp4_4, kp4_5⟩ := p4.c6
     obtain ⟨kp8_0, kp8_1, kp8_2⟩ := p8.c3
     obtain ⟨kp3_3_0, kp3_3_1, kp3_3_2⟩ := p3_3.c3
     go_upto_region 10 with (fail)
     clear kp3_0 kp3_1 kp3_2 kp3_3 kp3_4 kp3_5 kp4_0 kp4_1 kp4_2 kp4_3 kp4_4 kp4_5 kp8_0 kp8_1 kp8_2 kp3_3_0 kp3_3_1 kp3_3_2; have ltp3_3 := p3_3.lt; have szw4 := Ext.size E0
     refine region_gs [.one fun v _ => v = .agg #[.bool sx, .slice ax nx cx, .slice dx mx ox],
       .one fun v _ => v = .agg #[.bool sy, .slice ay ny cy, .slice dy my oy],
       .one fun v W => ∃ v', v = .tuple #[v', .int .i64 0] ∧ (fun v W => Rw W v (atQ [p.1, p.2] k / atQ [q.1, q.2] j)) v' W,
       .one fun v W => ∃ v', v = .tuple #[v', .int .i64 0] ∧ (fun v W => Rw W v (atQ [p.1, p.2] k / atQ [q.1, q.2] j)) v' W,
       .one fun v W => Rw W v (atQ [p.1, p.2] k / atQ [q.1, q.2] j),
       .one fun v _ => v = .int .i64 0,
       .one fun v W => ∃ g, v = .pointer (some ⟨g, 0, none⟩) ∧ W3.heap.size ≤ g ∧ Form W g 27 3,
       .three 6 4 (fun p r _ W => Put3 W3.heap.size 27 p r W),
       .one fun v _ => v = .int .i64 0]
      (fun W => Ext w W ∧ Sw W (.agg #[.bool b2, .slice a2 n2 c2, .slice d2 m2 o2, .bool bb2, .slice aa2 nn2 cc2, .slice dd2 mm2 oo2]) q ∧ Bx6 W g3 29 (.bool b2) (.slice a2 n2 c2) (.slice d2 m2 o2) (.bool bb2) (.slice aa2 nn2 cc2) (.slice dd2 mm2 oo2) ∧ Bx6 W g4 29 (.bool false) (.slice none 0 0) (.slice none 0 0) (.bool false) (.slice none 0 0) (.slice none 0 0) ∧ RowR W g1 [p.1, p.2] ∧ RowR W g7 [q.1, q.2] ∧ g7 < Array.size (World.heap W) ∧ B ≤ Array.size (World.heap W) ∧ Bx3 W g8 27 (.bool sx) (.slice ax nx cx) (.slice dx mx ox) ∧ Rw W (.agg #[.bool sx, .slice ax nx cx, .slice dx mx ox]) (atQ [p.1, p.2] k) ∧ OwnR W B HH 27 u6 ((divL p q).take (2 * k + j)) ∧ Rw W (.agg #[.bool sy, .slice ay ny cy, .slice dy my oy]) (atQ [q.1, q.2] j) ∧ Bx3 W g3_3 27 (.bool sy) (.slice ay ny cy) (.slice dy my oy) ∧ W3.heap.size ≤ W.heap.size) ⟨Good.is _, Good.is _, (Good.rat _).tup _, (Good.rat _).tup _, Good.rat _, Good.is _, Good.box _ _ _, cert_put3, Good.is _, trivial⟩
      ⟨E0, h2, p3, p4, hrow, hrw7, h7, hB, p8, hrx, ho, hry, p3_3, Nat.le_refl _⟩ (A := ?A4) ?hA4 ?howe4 ?hfin4
     case hA4 =>
      intro vs
      simp only [putAll, Act.put, sA, sZ, sS, Nat.zero_add, Nat.reduceAdd]
      exact rfl
     case howe4 =>
      clear E0 h2 p3 p4 hrow hrw7 h7 hB p8 hrx ho hry p3_3
      intro hf
      refine ⟨oE 0 [] hf rfl ?_, oE 1 [] hf rfl ?_, oE 2 [0, 1] hf rfl ?_, oE 3 [2] hf rfl ?_, oE 4 [3] hf rfl ?_, oE 5 [3] hf rfl ?_, oE 6 [] hf rfl ?_, oW 7 [6, 4] hf rfl ?_, oE 8 [5] hf rfl ?_, trivial⟩
      all_goals intro vs W hS hp hx KO hKO
      all_goals simp only [Act.put, sA, sZ, sS] at hKO
      ·have fc0 := hS.2.2.2.2.2.2.2.2.1.cell0; have fc1 := hS.2.2.2.2.2.2.2.2.1.cell1; have fc2 := hS.2.2.2.2.2.2.2.2.1.cell2; go_simp; exact hKO _ W (.refl W) rfl
      ·have fc0 := hS.2.2.2.2.2.2.2.2.2.2.2.2.1.cell0; have fc1 := hS.2.2.2.2.2.2.2.2.2.2.2.2.1.cell1; have fc2 := hS.2.2.2.2.2.2.2.2.2.2.2.2.1.cell2; go_simp; exact hKO _ W (.refl W) rfl
      ·have e0 := isOf hp.1; have e1 := isOf hp.2.1; simp only [e0, e1] at hKO; go_simp
       refine (Tryz.ratDiv (hS.2.2.2.2.2.2.2.2.2.1) (hS.2.2.2.2.2.2.2.2.2.2.2.1) HX.out HY.out.1 (by have := HHL.out; omega) HY.out.2).mono ?_
       rintro e W1 ⟨v, rfl, hv, hE⟩
       exact hKO _ W1 hE ⟨_, rfl, hv⟩
      ·have q2 := hp.1
       obtain ⟨u, ev, hu⟩ := q2
       replace ev : vs 2 = _ := ev; simp only [ev] at hKO; go_simp; exact hKO _ W (Ext.refl W) ⟨u, rfl, hu⟩
      ·have q3 := hp.1
       obtain ⟨u, ev, hu⟩ := q3
       replace ev : vs 3 = _ := ev; simp only [ev] at hKO; go_simp; exact hKO _ W (Ext.refl W) hu
      ·have q3 := hp.1
       obtain ⟨u, ev, hu⟩ := q3
       replace ev : vs 3 = _ := ev; simp only [ev] at hKO; go_simp; exact hKO _ W (.refl W) rfl
      ·have hn := Bx3.new W 27 (.bool false) (.slice none 0 0) (.slice none 0 0)
       have hE := Ext.alloc1 W (.cells #[.bool false, .slice none 0 0, .slice none 0 0] 27)
       have hsz := hS.2.2.2.2.2.2.2.2.2.2.2.2.2
       go_simp
       exact hKO _ _ hE ⟨_, rfl, hsz, hn.form⟩
      ·have q6 := hp.1; have q4 := hp.2.1
       obtain ⟨g, ev, hg, hf⟩ := q6
       replace ev : vs 6 = _ := ev
       obtain ⟨x0_0, x0_1, x0_2, hx, hno⟩ := hf.bx3
       have qr := q4
       obtain ⟨b3, a3, n3, c3, d3, m3, o3, er, -, -, -⟩ := qr
       replace er : vs 4 = _ := er
       have r0 := hx.froz0
       have t0 := hx.cell0
       have r1 := hx.froz1
       have t1 := hx.cell1
       have r2 := hx.froz2
       have t2 := hx.cell2
       have hw := Wr.set3 hx hno b3 a3 n3 c3 d3 m3 o3
       have hq := hx.set (.bool b3) (.slice a3 n3 c3) (.slice d3 m3 o3)
       simp only [ev, er] at hKO; go_simp
       exact hKO _ _ hw ⟨(Ext.wr hS.1 hw (by omega)), (hS.2.1.wr hw), (hS.2.2.1.wr hw (by omega)), (hS.2.2.2.1.wr hw (by omega)), (hS.2.2.2.2.1.wr hw (by omega)), (hS.2.2.2.2.2.1.wr hw (by omega)), (Nat.lt_of_lt_of_le hS.2.2.2.2.2.2.1 hw.apart.size), (Nat.le_trans hS.2.2.2.2.2.2.2.1 hw.apart.size), (hS.2.2.2.2.2.2.2.2.1.wr hw (by omega)), (hS.2.2.2.2.2.2.2.2.2.1.wr hw), (hS.2.2.2.2.2.2.2.2.2.2.1.wr hw (by omega)), (hS.2.2.2.2.2.2.2.2.2.2.2.1.wr hw), (hS.2.2.2.2.2.2.2.2.2.2.2.2.1.wr hw (by omega)), (Nat.le_trans hS.2.2.2.2.2.2.2.2.2.2.2.2.2 hw.apart.size)⟩ ⟨g, b3, a3, n3, c3, d3, m3, o3, ev, er, hg, hq⟩
      ·have e5 := isOf hp.1; simp only [e5] at hKO; go_simp; exact hKO _ W (.refl W) rfl
     intro vs W4 hS hp
     clear szw4 E0 h2 p3 p4 hrow hrw7 h7 hB p8 hrx ho hry p3_3
     obtain ⟨E0, h2, p3, p4, hrow, hrw7, h7, hB, p8, hrx, ho, hry, p3_3, sz4⟩ := hS
     obtain ⟨h4_0, h4_1, h4_2, h4_3, h4_4, h4_5, h4_6, h4_7, h4_8, -⟩ := hp
     obtain ⟨g4_7, b4_7, a4_7, n4_7, c4_7, d4_7, m4_7, o4_7, ev4_7, er4_7, hg4_7, p4_7⟩ := h4_7
     replace ev4_7 : vs 6 = _ := ev4_7; replace er4_7 : vs 4 = _ := er4_7; replace h4_4 := (show Rw W4 (vs 4) (atQ [p.1, p.2] k / atQ [q.1, q.2] j) from h4_4)
     rw [er4_7] at h4_4
     replace h4_0 : vs 0 = .agg #[.bool sx, .slice ax nx cx, .slice dx mx ox] := h4_0
     replace h4_1 : vs 1 = .agg #[.bool sy, .slice ay ny cy, .slice dy my oy] := h4_1
     replace h4_5 : vs 5 = .int .i64 0 := h4_5
     replace h4_8 : vs 8 = .int .i64 0 := h4_8
     simp only [ev4_7, er4_7, h4_0, h4_1, h4_5, h4_8]
     clear ev4_7 er4_7 h4_0 h4_1 h4_5 h4_8 h4_2 h4_3 h4_6
     obtain ⟨kp3_0, kp3_1, kp3_2, kp3_3, kp3_4, kp3_5⟩ := p3.c6
     obtain ⟨kp4_0, kp4_1, kp4_2, kp4_3, kp4_4, kp4_5⟩ := p4.c6
     obtain ⟨kp8_0, kp8_1, kp8_2⟩ := p8.c3
     obtain ⟨kp3_3_0, kp3_3_1, kp3_3_2⟩ := p3_3.c3
     obtain ⟨kp4_7_0, kp4_7_1, kp4_7_2⟩ := p4_7.c3
     go_wp2_with (at_builtin; go_loud (refine append_q Tryz.underlying74 Tryz.infoQ rfl _ _ rfl B HH u6 ((divL p q).take (2 * k + j)) b4_7 a4_7 n4_7 c4_7 d4_7 m4_7 o4_7 (atQ [p.1, p.2] k / atQ [q.1, q.2] j) (by rfl) (by rfl) ho h4_4 HTL.out hB ?_); intro g cap w4 ho4 hg4 hat4)
     clear kp3_0 kp3_1 kp3_2 kp3_3 kp3_4 kp3_5 kp4_0 kp4_1 kp4_2 kp4_3 kp4_4 kp4_5 kp8_0 kp8_1 kp8_2 kp3_3_0 kp3_3_1 kp3_3_2 kp4_7_0 kp4_7_1 kp4_7_2
     rw [HTK.out] at ho4
     have hbk := ho.block
     have hg := HG.out
     have hz := hg4.size
     have hn : ∀ b, b < B → u6.ownBlock ≠ some b := fun b hb e => by have := hbk _ e; omega
     go_roundw
     case rel => exact ⟨j + 1, by go_num, by omega, by rw [List.length_take] at ho4; exact ho4, own_apart hat4 hn8 (by omega), own_apart hat4 hn7 (by omega), hg4.span h2, hg4.box6 p3 (hn _ (by omega)), hg4.box6 p4 (hn _ (by omega)), hg4.row hrow (hn _ (by omega)), hg4.row hrw7 hn7, hg4.box3 p8 hn8, hg4.rat hrx, Nat.lt_of_lt_of_le h7 hz, Nat.le_trans hB hz, hg4.old E0 (fun g e => by have := hbk _ e; omega)⟩
     case measure => simp [intOf]; omega
    ·have hge2 : ¬ (j : Int) < 2 := by omega
     have hk63 : (k : Int) < 9223372036854775807 := by omega
     obtain rfl : j = 2 := by omega
     obtain ⟨kp3_0, kp3_1, kp3_2, kp3_3, kp3_4, kp3_5⟩ := p3.c6
     obtain ⟨kp4_0, kp4_1, kp4_2, kp4_3, kp4_4, kp4_5⟩ := p4.c6
     obtain ⟨kp8_0, kp8_1, kp8_2⟩ := p8.c3
     go_wp2
     go_roundw
     case rel => exact ⟨k + 1, by go_num, by omega, by rw [show 2 * (k + 1) = 2 * k + 2 by omega]; exact ho, h2, p3, p4, hrow, hB, E0⟩
     case measure => simp [intOf]; omega
  ·have hge : ¬ (k : Int) < 2 := by omega
   obtain rfl : k = 2 := by omega
   have ho4 : OwnR wr B H 27 u6 (divL p q) := ho
   obtain ⟨g, cap, rfl, hgz, hr4, hgB⟩ := ho4.row (by show 0 < 4; decide)
   clear ho ho4
   have hdl : (divL p q).length = 4 := rfl
   rw [hdl]
   have HDL := Lib.hid (divL_sm SP.out SQ.out HDQ.out.1 HDQ.out.2)
   have hg := HG.out
   have hB0 := hB
   have hgz0 := hgz
   clear hdl
   have hmin := fun (W : World) (h1 : RowR W g (divL p q)) (h2 : g < W.heap.size) => Tryz.ivAround (c := cap) h1 h2 (n := 3) rfl (by omega) HDL.out (by have := HHL.out; omega)
   obtain ⟨kp3_0, kp3_1, kp3_2, kp3_3, kp3_4, kp3_5⟩ := p3.c6
   obtain ⟨kp4_0, kp4_1, kp4_2, kp4_3, kp4_4, kp4_5⟩ := p4.c6
   go_upto_region 14 with (fail)
   clear kp3_0 kp3_1 kp3_2 kp3_3 kp3_4 kp3_5 kp4_0 kp4_1 kp4_2 kp4_3 kp4_4 kp4_5; have fp4 := p4.form; have ltp3 := p3.lt; have ltfp4 := fp4.lt; have szw5 := Ext.size E0
   refine region_gs [.one fun v _ => v = .slice (some ⟨g, 0, none⟩) 4 cap,
     .one fun v W => Sw W v (divS p q),
     .two 1 (fun r _ W => At6 g4 29 r W),
     .one fun v _ => v = .int .i64 0]
    (fun W => Ext w W ∧ Sw W (.agg #[.bool b2, .slice a2 n2 c2, .slice d2 m2 o2, .bool bb2, .slice aa2 nn2 cc2, .slice dd2 mm2 oo2]) q ∧ Bx6 W g3 29 (.bool b2) (.slice a2 n2 c2) (.slice d2 m2 o2) (.bool bb2) (.slice aa2 nn2 cc2) (.slice dd2 mm2 oo2) ∧ Form W g4 29 6 ∧ RowR W g1 [p.1, p.2] ∧ B ≤ Array.size (World.heap W) ∧ RowR W g (divL p q) ∧ g < Array.size (World.heap W) ∧ wr.heap.size ≤ W.heap.size) ⟨Good.is _, Good.span _, cert_at6, Good.is _, trivial⟩
    ⟨E0, h2, p3, fp4, hrow, hB, hr4, hgz, Nat.le_refl _⟩ (A := ?A5) ?hA5 ?howe5 ?hfin5
   case hA5 =>
    intro vs
    simp only [putAll, Act.put, sA, sZ, sS, Nat.zero_add, Nat.reduceAdd]
    exact rfl
   case howe5 =>
    clear E0 h2 p3 fp4 hrow hB hr4 hgz
    intro hf
    refine ⟨oE 0 [] hf rfl ?_, oE 1 [0] hf rfl ?_, oW 2 [1] hf rfl ?_, oE 3 [] hf rfl ?_, trivial⟩
    all_goals intro vs W hS hp hx KO hKO
    all_goals simp only [Act.put, sA, sZ, sS] at hKO
    ·go_simp; exact hKO _ W (.refl W) rfl
    ·have e0 := isOf hp.1; simp only [e0] at hKO; go_simp
     refine (hmin _ hS.2.2.2.2.2.2.1 hS.2.2.2.2.2.2.2.1).mono ?_
     rintro e W1 ⟨v, rfl, hv, hE⟩
     exact hKO _ W1 hE hv
    ·have q1 := hp.1
     have hf := hS.2.2.2.1
     obtain ⟨x0_0, x0_1, x0_2, x0_3, x0_4, x0_5, hx, hno⟩ := hf.bx6
     have qr := q1
     obtain ⟨b3, a3, n3, c3, d3, m3, o3, bb3, aa3, nn3, cc3, dd3, mm3, oo3, er, -, -⟩ := qr
     replace er : vs 1 = _ := er
     have r0 := hx.froz0
     have t0 := hx.cell0
     have r1 := hx.froz1
     have t1 := hx.cell1
     have r2 := hx.froz2
     have t2 := hx.cell2
     have r3 := hx.froz3
     have t3 := hx.cell3
     have r4 := hx.froz4
     have t4 := hx.cell4
     have r5 := hx.froz5
     have t5 := hx.cell5
     have hw := Wr.set6 hx hno b3 a3 n3 c3 d3 m3 o3 bb3 aa3 nn3 cc3 dd3 mm3 oo3
     have hq := hx.set (.bool b3) (.slice a3 n3 c3) (.slice d3 m3 o3) (.bool bb3) (.slice aa3 nn3 cc3) (.slice dd3 mm3 oo3)
     have hg : g4 ≤ g4 := Nat.le_refl _
     simp only [er] at hKO; go_simp
     exact hKO _ _ hw ⟨(Ext.wr hS.1 hw (by omega)), (hS.2.1.wr hw), (hS.2.2.1.wr hw (by omega)), (hS.2.2.2.1.wr hw), (hS.2.2.2.2.1.wr hw (by omega)), (Nat.le_trans hS.2.2.2.2.2.1 hw.apart.size), (hS.2.2.2.2.2.2.1.wr hw (by omega)), (Nat.lt_of_lt_of_le hS.2.2.2.2.2.2.2.1 hw.apart.size), (Nat.le_trans hS.2.2.2.2.2.2.2.2 hw.apart.size)⟩ ⟨b3, a3, n3, c3, d3, m3, o3, bb3, aa3, nn3, cc3, dd3, mm3, oo3, er, hq⟩
    ·go_simp; exact hKO _ W (.refl W) rfl
   intro vs W5 hS hp
   clear szw5 E0 h2 p3 fp4 hrow hB hr4 hgz
   obtain ⟨E0, h2, p3, fp4, hrow, hB, hr4, hgz, sz5⟩ := hS
   obtain ⟨h5_0, h5_1, h5_2, h5_3, -⟩ := hp
   obtain ⟨b5_2, a5_2, n5_2, c5_2, d5_2, m5_2, o5_2, bb5_2, aa5_2, nn5_2, cc5_2, dd5_2, mm5_2, oo5_2, er5_2, p5_2⟩ := h5_2
   replace er5_2 : vs 1 = _ := er5_2; replace h5_1 := (show Sw W5 (vs 1) (divS p q) from h5_1)
   rw [er5_2] at h5_1
   replace h5_0 : vs 0 = .slice (some ⟨g, 0, none⟩) 4 cap := h5_0
   replace h5_3 : vs 3 = .int .i64 0 := h5_3
   simp only [er5_2, h5_0, h5_3]
   clear er5_2 h5_0 h5_3
   obtain ⟨kp3_0, kp3_1, kp3_2, kp3_3, kp3_4, kp3_5⟩ := p3.c6
   obtain ⟨kp5_2_0, kp5_2_1, kp5_2_2, kp5_2_3, kp5_2_4, kp5_2_5⟩ := p5_2.c6
   go_wp2
   exact bodyPost_ret (v := .tuple #[.agg #[.bool b5_2, .slice a5_2 n5_2 c5_2, .slice d5_2 m5_2 o5_2, .bool bb5_2, .slice aa5_2 nn5_2 cc5_2, .slice dd5_2 mm5_2 oo5_2], .int .i64 0]) (by simp [results, Tryz.results29, go_sem, kp5_2_0, kp5_2_1, kp5_2_2, kp5_2_3, kp5_2_4, kp5_2_5]) rfl ⟨_, rfl, h5_1, E0⟩

end Go.Rt
