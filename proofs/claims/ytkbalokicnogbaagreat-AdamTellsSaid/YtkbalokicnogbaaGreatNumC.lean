/-
 A place's step, by definition: its moments, its weight; powers.
-/
import Derived.Test.YtkbalokicnogbaaGreatGY
import Derived.Test.YtkbalokicnogbaaGreatHA
import Derived.Test.YtkbalokicnogbaaGreatGQ
import Derived.Deep.CutRange
namespace Go.Rt
open Go Go.RowKit Go.Proofs

set_option maxRecDepth 100000 in
set_option maxHeartbeats 16000000 in
theorem Tryz.refStepAt18 (lr b1 b2 eps wd p0 p1 m vt gt wt : Int) (ap : Bool) (K : Nat) (hK : K ≤ 40) {O M V : NumP} (w : World) (hO : outP K ⟨lr, b1, b2, eps, wd, ap⟩ p0 p1 wt m vt gt = O) (hM : momM K ⟨lr, b1, b2, eps, wd, ap⟩ wt m gt = M) (hV : momV K ⟨lr, b1, b2, eps, wd, ap⟩ wt vt gt = V) (h1 : 0 ≤ b1 ∧ b1 < oneZ K) (h2 : 0 ≤ b2 ∧ b2 < oneZ K) (h3 : 0 ≤ p0 ∧ p0 < oneZ K) (h4 : 0 ≤ p1 ∧ p1 < oneZ K) (q1 : I64 lr) (q2 : I64 eps) (q3 : I64 wd) (hm : I64 m) (hv : I64 vt) (hg : I64 gt) (hw : I64 wt) :
  Calls Tryz.prog 34 #[.agg #[.int .i64 lr, .int .i64 b1, .int .i64 b2, .int .i64 eps, .int .i64 wd, .bool ap], .int .i64 (K : Int), .agg #[.int .i64 p0, .int .i64 p1], .agg #[.int .i64 wt, .int .i64 m, .int .i64 vt, .int .i64 gt]] w fun e w' => e = .returned (.agg #[.int .i64 O.1, .bool O.2, .int .i64 M.1, .bool M.2, .int .i64 V.1, .bool V.2]) ∧ Ext w w' := by
 have hPm := one_max hK
 have hPp := one_pos K
 have HB := Lib.hid (And.intro h1 h2)
 have HK := Lib.hid hK
 unfold outP quotP momM momV at hO
 unfold momM at hM
 unfold momV at hV
 dsimp only at hO hM hV
 obtain ⟨D, hD⟩ : ∃ r : NumP, gradP K ⟨lr, b1, b2, eps, wd, ap⟩ wt gt = r := ⟨_, rfl⟩
 have HD := Lib.hid hD
 have ID : Hid (I64 D.1) := Lib.hid (by rw [← hD]; exact by unfold gradP; split; exact hg; exact addP_i64 _ _)
 clear hD
 rw [HD.out] at hO hM hV
 rw [hM, hV] at hO
 obtain ⟨C1, hC1⟩ : ∃ C, oneZ K - p0 = C := ⟨_, rfl⟩
 obtain ⟨C2, hC2⟩ : ∃ C, oneZ K - p1 = C := ⟨_, rfl⟩
 rw [hC1, hC2] at hO
 obtain ⟨P, hP⟩ : ∃ P, oneZ K = P := ⟨_, rfl⟩
 rw [hP] at hC1 hC2 hPm hPp h1 h2 h3 h4
 have HP := Lib.hid hP
 have HW1 : Hid (IntKind.i64.wrap (P - p0) = C1) := Lib.hid (by rw [IntKind.wrap_i64]; omega)
 have HW2 : Hid (IntKind.i64.wrap (P - p1) = C2) := Lib.hid (by rw [IntKind.wrap_i64]; omega)
 have HI : Hid ((I64 lr ∧ I64 eps ∧ I64 wd) ∧ (I64 C1 ∧ I64 C2) ∧ (I64 m ∧ I64 vt ∧ I64 gt ∧ I64 wt)) := Lib.hid ⟨⟨q1, q2, q3⟩, ⟨by unfold I64; omega, by unfold I64; omega⟩, hm, hv, hg, hw⟩
 clear hC1 hC2 hPm hPp hP h1 h2 h3 h4 q1 q2 q3 hm hv hg hw hK
 have IM : Hid (I64 M.1) := Lib.hid (by rw [← hM]; exact addP_i64 _ _)
 have IV : Hid (I64 V.1) := Lib.hid (by rw [← hV]; exact addP_i64 _ _)
 have HM := Lib.hid hM
 have HV := Lib.hid hV
 clear hM hV
 obtain ⟨X, hX⟩ : ∃ r : NumP, divP K M (C1, true) = r := ⟨_, rfl⟩
 have HX := Lib.hid hX
 have IX : Hid (I64 X.1) := Lib.hid (by rw [← hX]; exact divP_i64 _ _ _)
 clear hX
 obtain ⟨Y, hY⟩ : ∃ r : NumP, divP K V (C2, true) = r := ⟨_, rfl⟩
 have HY := Lib.hid hY
 have IY : Hid (I64 Y.1) := Lib.hid (by rw [← hY]; exact divP_i64 _ _ _)
 clear hY
 obtain ⟨R, hR⟩ : ∃ r : NumP, sqrtP K Y = r := ⟨_, rfl⟩
 have HR := Lib.hid hR
 have IR : Hid (I64 R.1) := Lib.hid (by rw [← hR]; exact sqrtP_i64 HK.out IY.out)
 clear hR
 obtain ⟨S, hS⟩ : ∃ r : NumP, addP R (eps, true) = r := ⟨_, rfl⟩
 have HS := Lib.hid hS
 have IS : Hid (I64 S.1) := Lib.hid (by rw [← hS]; exact addP_i64 _ _)
 clear hS
 obtain ⟨U, hU⟩ : ∃ r : NumP, divP K X S = r := ⟨_, rfl⟩
 have HU := Lib.hid hU
 have IU : Hid (I64 U.1) := Lib.hid (by rw [← hU]; exact divP_i64 _ _ _)
 clear hU
 obtain ⟨T, hT⟩ : ∃ r : NumP, mulP K (lr, true) U = r := ⟨_, rfl⟩
 have HT := Lib.hid hT
 have IT : Hid (I64 T.1) := Lib.hid (by rw [← hT]; exact mulP_i64 _ _ _)
 clear hT
 obtain ⟨N, hN⟩ : ∃ r : NumP, subP (wt, true) T = r := ⟨_, rfl⟩
 have HN := Lib.hid hN
 have IN : Hid (I64 N.1) := Lib.hid (by rw [← hN]; exact subP_i64 _ _)
 clear hN
 obtain ⟨Y2, hY2⟩ : ∃ r : NumP, mulP K (lr, true) (wd, true) = r := ⟨_, rfl⟩
 have HY2 := Lib.hid hY2
 have IY2 : Hid (I64 Y2.1) := Lib.hid (by rw [← hY2]; exact mulP_i64 _ _ _)
 clear hY2
 obtain ⟨Z, hZ⟩ : ∃ r : NumP, mulP K Y2 (wt, true) = r := ⟨_, rfl⟩
 have HZ := Lib.hid hZ
 have IZ : Hid (I64 Z.1) := Lib.hid (by rw [← hZ]; exact mulP_i64 _ _ _)
 clear hZ
 obtain ⟨E1, hE1⟩ : ∃ r : NumP, mulP K (wd, true) (wt, true) = r := ⟨_, rfl⟩
 have HE1 := Lib.hid hE1
 have IE1 : Hid (I64 E1.1) := Lib.hid (by rw [← hE1]; exact mulP_i64 _ _ _)
 clear hE1
 rw [HX.out, HY.out, HR.out, HS.out, HU.out, HT.out, HN.out, HY2.out, HZ.out] at hO
 have HOT : Hid (ap = true → subP N Z = O) := Lib.hid (fun h => by rw [if_pos h] at hO; exact hO)
 have HOF : Hid (ap = false → N = O) := Lib.hid (fun h => by rw [if_neg (by rw [h]; simp)] at hO; exact hO)
 clear hO
 have HDT : Hid (ap = true → D = (gt, true)) := Lib.hid (fun h => by rw [← HD.out]; unfold gradP; rw [if_pos h])
 have HDF : Hid (ap = false → addP (gt, true) E1 = D) := Lib.hid (fun h => by rw [← HD.out, ← HE1.out]; unfold gradP; rw [if_neg (by rw [h]; simp)])
 obtain ⟨W0, hW0, E0, p4, p6, p7, p8⟩ := boxed4 w 23 #[.int .i64 lr, .int .i64 b1, .int .i64 b2, .int .i64 eps, .int .i64 wd, .bool ap] 24 #[.int .i64 p0, .int .i64 p1] 76 #[.int .i64 wt, .int .i64 m, .int .i64 vt, .int .i64 gt] 74 #[.int .i64 0, .bool false, .int .i64 0, .bool false, .int .i64 0, .bool false]
 replace p6 := p6.b2
 go_enter Tryz.func34, Tryz.ntmps34
 obtain ⟨k4a, k4b, k4c, k4d, k4e, k4f⟩ := p4.c6
 obtain ⟨k6a, k6b⟩ := p6.c2
 obtain ⟨k7a, k7b, k7c, k7d⟩ := p7.c4
 obtain ⟨k8a, k8b, k8c, k8d, k8e, k8f⟩ := p8.c6
 go_wp2_with fail
 rw [← hW0]
 clear hW0; clear k4a k4b k4c k4d k4e k4f k6a k6b k7a k7b k7c k7d k8a k8b k8c k8d k8e k8f
 refine (Tryz.refOne17 K HK.out _).mono ?_
 rintro e Wa ⟨rfl, hE⟩
 rw [HP.out]; replace E0 := (Ext.trans E0 hE); replace p4 := (p4.ext hE); replace p6 := (p6.ext hE); replace p7 := (p7.ext hE); replace p8 := (p8.ext hE); clear hE
 obtain ⟨k4a, k4b, k4c, k4d, k4e, k4f⟩ := p4.c6
 obtain ⟨k6a, k6b⟩ := p6.c2
 obtain ⟨k7a, k7b, k7c, k7d⟩ := p7.c4
 obtain ⟨k8a, k8b, k8c, k8d, k8e, k8f⟩ := p8.c6
 go_upto_region 2 with (fail)
 clear k4a k4b k4c k4d k4e k4f k6a k6b k7a k7b k7c k7d k8a k8b k8c k8d k8e k8f
 have HB2_p4 := Lib.hid p4.lt
 have HB2_p6 := Lib.hid p6.lt
 have HB2_p7 := Lib.hid p7.lt
 have HB2_p8 := Lib.hid p8.lt
 have sHB2_p4 := HB2_p4.out
 have sHB2_p6 := HB2_p6.out
 have sHB2_p7 := HB2_p7.out
 have sHB2_p8 := HB2_p8.out
 have ltp4 := p4.lt; have ltp6 := p6.lt; have ltp7 := p7.lt; have ltp8 := p8.lt; have szw6 := Ext.size E0
 refine region_gk2 [isV (.pointer (some ⟨w.heap.size + 1 + 1, 0, none⟩)), isV (.int .i64 wt), isV (.agg #[.int .i64 wt, .bool true]),
   .one fun v W => ∃ g, v = .pointer (some ⟨g, 0, none⟩) ∧ Wa.heap.size ≤ g ∧ Form W g 73 2,
   .two 3 (fun p _ W => NewA Wa.heap.size 73 #[.int .i64 wt, .bool true] p W)] Wa.heap.size [3] [Tag.any, Tag.any, Tag.any, Tag.any, Tag.new 3] ⟨Good.is _, Good.is _, Good.is _, Good.box _ _ _, tag_newA, trivial⟩ (fun g0 hg => by simp at hg) (E0.s.k (p4.s.k (p6.s.k (p7.s.k (p8.s))))) (fun m hm => by simp at hm; subst hm; rfl) (A := ?A6) ?hA6 ?howe6 ?hfin6
 case hA6 =>
  intro vs
  simp only [putAll, Act.put, sA, sZ, sS, Nat.zero_add, Nat.reduceAdd]
  exact rfl
 case howe6 =>
  clear E0 p4 p6 p7 p8
  intro hf
  refine ⟨oM0 0 [] hf rfl rfl, owesM 1 [0] hf rfl rfl (by kernel_rfl) ?_, owesM 2 [1] hf rfl rfl (by kernel_rfl) ?_, owesN 3 [] hf rfl (by kernel_rfl) ?_, owesP 4 3 [3, 2] hf rfl rfl (by kernel_rfl) rfl (by kernel_rfl) ?_, trivial⟩
  all_goals intro vs W hS hp hx KO hKO
  all_goals simp only [Act.put, sA, sZ, sS] at hKO
  ·have e0 := isOf hp.1; simp only [e0] at hKO; have fc0 := BxA.cell (hS.1.2.2.2.1) 0 (v := .int .i64 wt) rfl; go_simp; exact hKO _ W (.refl W) rfl
  ·have e1 := isOf hp.1; simp only [e1] at hKO; go_simp
   refine (Tryz.refOf17 wt _).mono ?_
   rintro e W1 ⟨rfl, hE⟩
   exact hKO _ W1 hE rfl
  ·have hn := BxA.new W 73 #[.int .i64 0, .bool false]
   have hsz := hS.2
   go_simp
   exact hKO _ _ rfl ⟨_, rfl, hsz, ⟨_, hn, (noU_num _ _), rfl⟩⟩
  ·have q3 := hp.1; have e2 := isOf hp.2.1; simp only [e2] at hKO
   obtain ⟨g, ev, hg, hfo⟩ := q3
   replace ev : vs 3 = _ := ev
   obtain ⟨x0, x1, c0, c1, hfz, W2, hW2, hw, hq⟩ := hfo.put2 (.int .i64 wt) (.bool true) (noU_num _ _)
   have z0 := hfz 0
   have z1 := hfz 1
   simp only [ev] at hKO; go_simp
   rw [← hW2]
   exact hKO _ g rfl hg hw ⟨⟨(Ext.wr hS.1.1 hw (by omega)), (hS.1.2.1.wr hw (by omega)), (hS.1.2.2.1.wr hw (by omega)), (hS.1.2.2.2.1.wr hw (by omega)), (hS.1.2.2.2.2.wr hw (by omega))⟩, (Nat.le_trans hS.2 hw.apart.size)⟩ ⟨g, ev, hg, hq⟩
 intro vs W6 hS hM hp
 clear szw6 E0 p4 p6 p7 p8
 obtain ⟨⟨E0, p4, p6, p7, p8⟩, sz6⟩ := hS
 obtain ⟨h6_0, h6_1, h6_2, h6_3, h6_4, -⟩ := hp
 skip
 have hh := h6_4
 obtain ⟨g10, ev10, hg10, p10⟩ := hh
 replace ev10 : vs 3 = _ := ev10
 replace p10 : Bx2 W6 g10 73 (.int .i64 wt) (.bool true) := p10
 clear hM
 simp only [ev10, isOf h6_0, isOf h6_1, isOf h6_2]
 clear ev10 h6_0 h6_1 h6_2 h6_3 h6_4; clear sHB2_p4 sHB2_p6 sHB2_p7 sHB2_p8
 have HG10 := Lib.hid hg10
 clear hg10
 obtain ⟨k4a, k4b, k4c, k4d, k4e, k4f⟩ := p4.c6
 obtain ⟨k6a, k6b⟩ := p6.c2
 obtain ⟨k7a, k7b, k7c, k7d⟩ := p7.c4
 obtain ⟨k8a, k8b, k8c, k8d, k8e, k8f⟩ := p8.c6
 obtain ⟨k10a, k10b⟩ := p10.c2
 go_upto_region 3 with (fail)
 clear k4a k4b k4c k4d k4e k4f k6a k6b k7a k7b k7c k7d k8a k8b k8c k8d k8e k8f k10a k10b
 have HB3_p4 := Lib.hid p4.lt
 have HB3_p6 := Lib.hid p6.lt
 have HB3_p7 := Lib.hid p7.lt
 have HB3_p8 := Lib.hid p8.lt
 have HB3_p10 := Lib.hid p10.lt
 have sHB2_p4 := HB2_p4.out
 have sHB2_p6 := HB2_p6.out
 have sHB2_p7 := HB2_p7.out
 have sHB2_p8 := HB2_p8.out
 have sHG10 := HG10.out
 have sHB3_p4 := HB3_p4.out
 have sHB3_p6 := HB3_p6.out
 have sHB3_p7 := HB3_p7.out
 have sHB3_p8 := HB3_p8.out
 have sHB3_p10 := HB3_p10.out
 have ltp10 := p10.lt; have szw7 := Ext.size E0
 refine region_gk2 [isV (.pointer (some ⟨w.heap.size + 1 + 1, 3, none⟩)), isV (.int .i64 gt), isV (.agg #[.int .i64 gt, .bool true]),
   .one fun v W => ∃ g, v = .pointer (some ⟨g, 0, none⟩) ∧ W6.heap.size ≤ g ∧ Form W g 73 2,
   .two 3 (fun p _ W => NewA W6.heap.size 73 #[.int .i64 gt, .bool true] p W)] W6.heap.size [3] [Tag.any, Tag.any, Tag.any, Tag.any, Tag.new 3] ⟨Good.is _, Good.is _, Good.is _, Good.box _ _ _, tag_newA, trivial⟩ (fun g0 hg => by simp at hg) (E0.s.k (p4.s.k (p6.s.k (p7.s.k (p8.s.k (p10.s)))))) (fun m hm => by simp at hm; subst hm; rfl) (A := ?A7) ?hA7 ?howe7 ?hfin7
 case hA7 =>
  intro vs
  simp only [putAll, Act.put, sA, sZ, sS, Nat.zero_add, Nat.reduceAdd]
  exact rfl
 case howe7 =>
  clear E0 p4 p6 p7 p8 p10
  intro hf
  refine ⟨oM0 0 [] hf rfl rfl, owesM 1 [0] hf rfl rfl (by kernel_rfl) ?_, owesM 2 [1] hf rfl rfl (by kernel_rfl) ?_, owesN 3 [] hf rfl (by kernel_rfl) ?_, owesP 4 3 [3, 2] hf rfl rfl (by kernel_rfl) rfl (by kernel_rfl) ?_, trivial⟩
  all_goals intro vs W hS hp hx KO hKO
  all_goals simp only [Act.put, sA, sZ, sS] at hKO
  ·have e0 := isOf hp.1; simp only [e0] at hKO; have fc3 := BxA.cell (hS.1.2.2.2.1) 3 (v := .int .i64 gt) rfl; go_simp; exact hKO _ W (.refl W) rfl
  ·have e1 := isOf hp.1; simp only [e1] at hKO; go_simp
   refine (Tryz.refOf17 gt _).mono ?_
   rintro e W1 ⟨rfl, hE⟩
   exact hKO _ W1 hE rfl
  ·have hn := BxA.new W 73 #[.int .i64 0, .bool false]
   have hsz := hS.2
   go_simp
   exact hKO _ _ rfl ⟨_, rfl, hsz, ⟨_, hn, (noU_num _ _), rfl⟩⟩
  ·have q3 := hp.1; have e2 := isOf hp.2.1; simp only [e2] at hKO
   obtain ⟨g, ev, hg, hfo⟩ := q3
   replace ev : vs 3 = _ := ev
   obtain ⟨x0, x1, c0, c1, hfz, W2, hW2, hw, hq⟩ := hfo.put2 (.int .i64 gt) (.bool true) (noU_num _ _)
   have z0 := hfz 0
   have z1 := hfz 1
   simp only [ev] at hKO; go_simp
   rw [← hW2]
   exact hKO _ g rfl hg hw ⟨⟨(Ext.wr hS.1.1 hw (by omega)), (hS.1.2.1.wr hw (by omega)), (hS.1.2.2.1.wr hw (by omega)), (hS.1.2.2.2.1.wr hw (by omega)), (hS.1.2.2.2.2.1.wr hw (by omega)), (hS.1.2.2.2.2.2.wr hw (by omega))⟩, (Nat.le_trans hS.2 hw.apart.size)⟩ ⟨g, ev, hg, hq⟩
 intro vs W7 hS hM hp
 clear szw7 E0 p4 p6 p7 p8 p10
 obtain ⟨⟨E0, p4, p6, p7, p8, p10⟩, sz7⟩ := hS
 obtain ⟨h7_0, h7_1, h7_2, h7_3, h7_4, -⟩ := hp
 skip
 have hh := h7_4
 obtain ⟨g11, ev11, hg11, p11⟩ := hh
 replace ev11 : vs 3 = _ := ev11
 replace p11 : Bx2 W7 g11 73 (.int .i64 gt) (.bool true) := p11
 clear hM
 simp only [ev11, isOf h7_0, isOf h7_1, isOf h7_2]
 clear ev11 h7_0 h7_1 h7_2 h7_3 h7_4; clear sHB2_p4 sHB2_p6 sHB2_p7 sHB2_p8 sHG10 sHB3_p4 sHB3_p6 sHB3_p7 sHB3_p8 sHB3_p10
 have HG11 := Lib.hid hg11
 clear hg11
 obtain ⟨k4a, k4b, k4c, k4d, k4e, k4f⟩ := p4.c6
 obtain ⟨k6a, k6b⟩ := p6.c2
 obtain ⟨k7a, k7b, k7c, k7d⟩ := p7.c4
 obtain ⟨k8a, k8b, k8c, k8d, k8e, k8f⟩ := p8.c6
 obtain ⟨k10a, k10b⟩ := p10.c2
 obtain ⟨k11a, k11b⟩ := p11.c2
 go_upto_if 29 with (fail)
 clear k4a k4b k4c k4d k4e k4f k6a k6b k7a k7b k7c k7d k8a k8b k8c k8d k8e k8f k10a k10b k11a k11b
 go_cut [] from 28 to 37 (fun wx => Ext w wx ∧ BxA wx w.heap.size 23 #[.int .i64 lr, .int .i64 b1, .int .i64 b2, .int .i64 eps, .int .i64 wd, .bool ap] ∧ Bx2 wx (w.heap.size + 1) 24 (.int .i64 p0) (.int .i64 p1) ∧ BxA wx (w.heap.size + 1 + 1) 76 #[.int .i64 wt, .int .i64 m, .int .i64 vt, .int .i64 gt] ∧ BxA wx (w.heap.size + 1 + 1 + 1) 74 #[.int .i64 0, .bool false, .int .i64 0, .bool false, .int .i64 0, .bool false] ∧ Bx2 wx g10 73 (.int .i64 wt) (.bool true) ∧ Bx2 wx g11 73 (.int .i64 D.1) (.bool D.2))
 case first =>
  cases ap
  ·obtain ⟨k4a, k4b, k4c, k4d, k4e, k4f⟩ := p4.c6
   obtain ⟨k6a, k6b⟩ := p6.c2
   obtain ⟨k7a, k7b, k7c, k7d⟩ := p7.c4
   obtain ⟨k8a, k8b, k8c, k8d, k8e, k8f⟩ := p8.c6
   obtain ⟨k10a, k10b⟩ := p10.c2
   obtain ⟨k11a, k11b⟩ := p11.c2
   go_upto_region 5 with (fail)
   clear k4a k4b k4c k4d k4e k4f k6a k6b k7a k7b k7c k7d k8a k8b k8c k8d k8e k8f k10a k10b k11a k11b
   have hr : Rest (fun W => Bx2 W g11 73 (.int .i64 gt) (.bool true)) g11 := ⟨fun W W1 h hE => h.ext hE⟩
   have hRR := p11
   have fop11 := p11.formN
   clear p11
   have HO5_p11 := Lib.hid fop11.lt
   have sHB2_p4 := HB2_p4.out
   have sHB2_p6 := HB2_p6.out
   have sHB2_p7 := HB2_p7.out
   have sHB2_p8 := HB2_p8.out
   have sHG10 := HG10.out
   have sHB3_p4 := HB3_p4.out
   have sHB3_p6 := HB3_p6.out
   have sHB3_p7 := HB3_p7.out
   have sHB3_p8 := HB3_p8.out
   have sHB3_p10 := HB3_p10.out
   have sHG11 := HG11.out
   have sHO5_p11 := HO5_p11.out
   have szw8 := Ext.size E0
   refine region_go3 [isV (.agg #[.int .i64 gt, .bool true]), isV (.pointer (some ⟨w.heap.size, 4, none⟩)), isV (.int .i64 wd), isV (.agg #[.int .i64 wd, .bool true]), isV (.agg #[.int .i64 wt, .bool true]), isV (.int .i64 (K : Int)), isV (.agg #[.int .i64 E1.1, .bool E1.2]), isV (.agg #[.int .i64 D.1, .bool D.2]),
     .own fun W => Bx2 W g11 73 (.int .i64 D.1) (.bool D.2)]
    (fun W => Ext w W ∧ BxA W w.heap.size 23 #[.int .i64 lr, .int .i64 b1, .int .i64 b2, .int .i64 eps, .int .i64 wd, .bool false] ∧ Bx2 W (w.heap.size + 1) 24 (.int .i64 p0) (.int .i64 p1) ∧ BxA W (w.heap.size + 1 + 1) 76 #[.int .i64 wt, .int .i64 m, .int .i64 vt, .int .i64 gt] ∧ BxA W (w.heap.size + 1 + 1 + 1) 74 #[.int .i64 0, .bool false, .int .i64 0, .bool false, .int .i64 0, .bool false] ∧ Bx2 W g10 73 (.int .i64 wt) (.bool true) ∧ Form W g11 73 2 ∧ W7.heap.size ≤ W.heap.size) W7.heap.size [] [Tag.any, Tag.any, Tag.any, Tag.any, Tag.any, Tag.any, Tag.any, Tag.any, Tag.old (g11)] ⟨Good.is _, Good.is _, Good.is _, Good.is _, Good.is _, Good.is _, Good.is _, Good.is _, tag_bx2, trivial⟩ (fun g0 hg => by simp at hg; omega)
    (fun W W1 hS hE => ⟨(Ext.trans hS.1 hE), (hS.2.1.ext hE), (hS.2.2.1.ext hE), (hS.2.2.2.1.ext hE), (hS.2.2.2.2.1.ext hE), (hS.2.2.2.2.2.1.ext hE), (hS.2.2.2.2.2.2.1.ext hE), (Nat.le_trans hS.2.2.2.2.2.2.2 (Ext.size hE))⟩) ⟨E0, p4, p6, p7, p8, p10, fop11, Nat.le_refl _⟩ (fun m hm => by simp at hm) 8 hr hRR (by kernel_rfl) (by kernel_rfl) (by kernel_rfl) (by kernel_rfl) (A := ?A8) ?hA8 ?howe8 ?hfin8
   case hA8 =>
    intro vs
    simp only [putAll, Act.put, sA, sZ, sS, Nat.zero_add, Nat.reduceAdd]
    exact rfl
   case howe8 =>
    clear E0 p4 p6 p7 p8 p10 fop11
    intro hf
    refine ⟨owesR3 0 [] hf hr rfl rfl (by kernel_rfl) rfl rfl rfl (by kernel_rfl) ?_, owesM3 1 [] hf hr rfl rfl rfl (by kernel_rfl) ?_, owesM3 2 [1] hf hr rfl rfl rfl (by kernel_rfl) ?_, owesM3 3 [2] hf hr rfl rfl rfl (by kernel_rfl) ?_, owesM3 4 [] hf hr rfl rfl rfl (by kernel_rfl) ?_, owesM3 5 [] hf hr rfl rfl rfl (by kernel_rfl) ?_, owesM3 6 [3, 4, 5] hf hr rfl rfl rfl (by kernel_rfl) ?_, owesM3 7 [0, 6] hf hr rfl rfl rfl (by kernel_rfl) ?_, owesL3 (g11) [7] hf rfl (by omega) ⟨.inr trivial, .inr trivial, .inr trivial, .inr trivial, .inr trivial, .inr trivial, .inr trivial, .inr trivial, .inl rfl, trivial⟩ rfl (by kernel_rfl) ?_, trivial⟩
    all_goals intro vs W hS hp hx KO hKO
    all_goals simp only [Act.put, sA, sZ, sS] at hKO
    ·have hb0 : Bx2 W g11 73 (.int .i64 gt) (.bool true) := hS.2
     have fc0 := hb0.cell0; have fc1 := hb0.cell1; clear hb0; go_simp; exact hKO _ W (.refl W) rfl
    ·go_simp; exact hKO _ W (.refl W) rfl
    ·have e1 := isOf hp.1; simp only [e1] at hKO; have fc4 := BxA.cell (hS.2.1) 4 (v := .int .i64 wd) rfl; go_simp; exact hKO _ W (.refl W) rfl
    ·have e2 := isOf hp.1; simp only [e2] at hKO; go_simp
     refine (Tryz.refOf17 wd _).mono ?_
     rintro e W1 ⟨rfl, hE⟩
     exact hKO _ W1 hE rfl
    ·have fc0 := hS.2.2.2.2.2.1.cell0; have fc1 := hS.2.2.2.2.2.1.cell1; go_simp; exact hKO _ W (.refl W) rfl
    ·go_simp; exact hKO _ W (.refl W) rfl
    ·have e3 := isOf hp.1; have e4 := isOf hp.2.1; have e5 := isOf hp.2.2.1; simp only [e3, e4, e5] at hKO; go_simp
     refine (Tryz.refMul17 K HK.out wd wt true true HE1.out _ HI.out.1.2.2 HI.out.2.2.2.2.2).mono ?_
     rintro e W1 ⟨rfl, hE⟩
     exact hKO _ W1 hE rfl
    ·have e0 := isOf hp.1; have e6 := isOf hp.2.1; simp only [e0, e6] at hKO; go_simp
     refine (Tryz.refAdd17 gt E1.1 true E1.2 (HDF.out (by trivial)) _ HI.out.2.2.2.2.1 IE1.out).mono ?_
     rintro e W1 ⟨rfl, hE⟩
     exact hKO _ W1 hE rfl
    ·have e7 := isOf hp.1; simp only [e7] at hKO
     have hfo := hS.2.2.2.2.2.2.1
     obtain ⟨x0, x1, c0, c1, hfz, W2, hW2, hw, hq⟩ := hfo.put2 (.int .i64 D.1) (.bool D.2) (noU_num _ _)
     have z0 := hfz 0
     have z1 := hfz 1
     clear hfo; go_simp
     rw [← hW2]
     exact hKO _ hw ⟨(Ext.wr hS.1 hw (by omega)), (hS.2.1.wr hw (by omega)), (hS.2.2.1.wr hw (by omega)), (hS.2.2.2.1.wr hw (by omega)), (hS.2.2.2.2.1.wr hw (by omega)), (hS.2.2.2.2.2.1.wr hw (by omega)), (hS.2.2.2.2.2.2.1.wr hw), (Nat.le_trans hS.2.2.2.2.2.2.2 hw.apart.size)⟩ hq
   intro vs W8 hS hM hp
   clear szw8 E0 p4 p6 p7 p8 p10 fop11
   obtain ⟨E0, p4, p6, p7, p8, p10, fop11, sz8⟩ := hS
   obtain ⟨h8_0, h8_1, h8_2, h8_3, h8_4, h8_5, h8_6, h8_7, h8_8, -⟩ := hp
   have hh := h8_8
   have p11 : Bx2 W8 g11 73 (.int .i64 D.1) (.bool D.2) := hh
   clear fop11
   clear hM
   simp only [isOf h8_0, isOf h8_1, isOf h8_2, isOf h8_3, isOf h8_4, isOf h8_5, isOf h8_6, isOf h8_7]
   clear h8_0 h8_1 h8_2 h8_3 h8_4 h8_5 h8_6 h8_7 h8_8; clear hr; clear sHB2_p4 sHB2_p6 sHB2_p7 sHB2_p8 sHG10 sHB3_p4 sHB3_p6 sHB3_p7 sHB3_p8 sHB3_p10 sHG11 sHO5_p11
   obtain ⟨k4a, k4b, k4c, k4d, k4e, k4f⟩ := p4.c6
   obtain ⟨k6a, k6b⟩ := p6.c2
   obtain ⟨k7a, k7b, k7c, k7d⟩ := p7.c4
   obtain ⟨k8a, k8b, k8c, k8d, k8e, k8f⟩ := p8.c6
   obtain ⟨k10a, k10b⟩ := p10.c2
   obtain ⟨k11a, k11b⟩ := p11.c2
   go_wp2_with fail
   clear k4a k4b k4c k4d k4e k4f k6a k6b k7a k7b k7c k7d k8a k8b k8c k8d k8e k8f k10a k10b k11a k11b
   go_meet
   exact ⟨E0, p4, p6, p7, p8, p10, p11⟩
  ·have hD := HDT.out (by trivial)
   replace p11 : Bx2 W7 g11 73 (.int .i64 D.1) (.bool D.2) := by rw [hD]; exact p11
   obtain ⟨k4a, k4b, k4c, k4d, k4e, k4f⟩ := p4.c6
   obtain ⟨k6a, k6b⟩ := p6.c2
   obtain ⟨k7a, k7b, k7c, k7d⟩ := p7.c4
   obtain ⟨k8a, k8b, k8c, k8d, k8e, k8f⟩ := p8.c6
   obtain ⟨k10a, k10b⟩ := p10.c2
   obtain ⟨k11a, k11b⟩ := p11.c2
   go_wp2_with fail
   clear k4a k4b k4c k4d k4e k4f k6a k6b k7a k7b k7c k7d k8a k8b k8c k8d k8e k8f k10a k10b k11a k11b
   go_meet
   exact ⟨E0, p4, p6, p7, p8, p10, p11⟩
 case rest =>
  clear E0 p4 p6 p7 p8 p10 p11
  obtain ⟨E0, p4, p6, p7, p8, p10, p11⟩ := hcut
  obtain ⟨k4a, k4b, k4c, k4d, k4e, k4f⟩ := p4.c6
  obtain ⟨k6a, k6b⟩ := p6.c2
  obtain ⟨k7a, k7b, k7c, k7d⟩ := p7.c4
  obtain ⟨k8a, k8b, k8c, k8d, k8e, k8f⟩ := p8.c6
  obtain ⟨k10a, k10b⟩ := p10.c2
  obtain ⟨k11a, k11b⟩ := p11.c2
  go_upto_region 6 with (fail)
  clear k4a k4b k4c k4d k4e k4f k6a k6b k7a k7b k7c k7d k8a k8b k8c k8d k8e k8f k10a k10b k11a k11b
  have HB6_p4 := Lib.hid p4.lt
  have HB6_p6 := Lib.hid p6.lt
  have HB6_p7 := Lib.hid p7.lt
  have HB6_p8 := Lib.hid p8.lt
  have HB6_p10 := Lib.hid p10.lt
  have HB6_p11 := Lib.hid p11.lt
  have sHB2_p4 := HB2_p4.out
  have sHB2_p6 := HB2_p6.out
  have sHB2_p7 := HB2_p7.out
  have sHB2_p8 := HB2_p8.out
  have sHG10 := HG10.out
  have sHB3_p4 := HB3_p4.out
  have sHB3_p6 := HB3_p6.out
  have sHB3_p7 := HB3_p7.out
  have sHB3_p8 := HB3_p8.out
  have sHB3_p10 := HB3_p10.out
  have sHG11 := HG11.out
  have sHB6_p4 := HB6_p4.out
  have sHB6_p6 := HB6_p6.out
  have sHB6_p7 := HB6_p7.out
  have sHB6_p8 := HB6_p8.out
  have sHB6_p10 := HB6_p10.out
  have sHB6_p11 := HB6_p11.out
  have ltp4 := p4.lt; have ltp6 := p6.lt; have ltp7 := p7.lt; have ltp8 := p8.lt; have ltp10 := p10.lt; have ltp11 := p11.lt; have szw9 := Ext.size E0
  refine region_gk2 [isV (.agg #[.int .i64 lr, .int .i64 b1, .int .i64 b2, .int .i64 eps, .int .i64 wd, .bool ap]), isV (.int .i64 (K : Int)), isV (.agg #[.int .i64 D.1, .bool D.2]), isV (.pointer (some ⟨w.heap.size + 1 + 1, 1, none⟩)), isV (.int .i64 m), isV (.pointer (some ⟨w.heap.size + 1 + 1, 2, none⟩)), isV (.int .i64 vt), isV (.tuple #[.agg #[.int .i64 M.1, .bool M.2], .agg #[.int .i64 V.1, .bool V.2]]), isV (.tuple #[.agg #[.int .i64 M.1, .bool M.2], .agg #[.int .i64 V.1, .bool V.2]]), isV (.agg #[.int .i64 M.1, .bool M.2]), isV (.agg #[.int .i64 V.1, .bool V.2]),
    .one fun v W => ∃ g, v = .pointer (some ⟨g, 0, none⟩) ∧ wc.heap.size ≤ g ∧ Form W g 73 2,
    .one fun v W => ∃ g, v = .pointer (some ⟨g, 0, none⟩) ∧ wc.heap.size ≤ g ∧ Form W g 73 2,
    .two 11 (fun p _ W => NewA wc.heap.size 73 #[.int .i64 M.1, .bool M.2] p W),
    .two 12 (fun p _ W => NewA wc.heap.size 73 #[.int .i64 V.1, .bool V.2] p W)] wc.heap.size [11, 12] [Tag.any, Tag.any, Tag.any, Tag.any, Tag.any, Tag.any, Tag.any, Tag.any, Tag.any, Tag.any, Tag.any, Tag.any, Tag.any, Tag.new 11, Tag.new 12] ⟨Good.is _, Good.is _, Good.is _, Good.is _, Good.is _, Good.is _, Good.is _, Good.is _, Good.is _, Good.is _, Good.is _, Good.box _ _ _, Good.box _ _ _, tag_newA, tag_newA, trivial⟩ (fun g0 hg => by simp at hg) (E0.s.k (p4.s.k (p6.s.k (p7.s.k (p8.s.k (p10.s.k (p11.s))))))) (fun m hm => by simp at hm; rcases hm with rfl | rfl <;> rfl) (A := ?A9) ?hA9 ?howe9 ?hfin9
  case hA9 =>
   intro vs
   simp only [putAll, Act.put, sA, sZ, sS, Nat.zero_add, Nat.reduceAdd]
   exact rfl
  case howe9 =>
   clear E0 p4 p6 p7 p8 p10 p11
   intro hf
   refine ⟨owesM 0 [] hf rfl rfl (by kernel_rfl) ?_, oM0 1 [] hf rfl rfl, owesM 2 [] hf rfl rfl (by kernel_rfl) ?_, oM0 3 [] hf rfl rfl, owesM 4 [3] hf rfl rfl (by kernel_rfl) ?_, oM0 5 [] hf rfl rfl, owesM 6 [5] hf rfl rfl (by kernel_rfl) ?_, owesM 7 [0, 1, 2, 4, 6] hf rfl rfl (by kernel_rfl) ?_, oM1 8 [7] hf rfl rfl, oM1 9 [8] hf rfl rfl, oM1 10 [8] hf rfl rfl, owesN 11 [] hf rfl (by kernel_rfl) ?_, owesN 12 [] hf rfl (by kernel_rfl) ?_, owesP 13 11 [11, 9] hf rfl rfl (by kernel_rfl) rfl (by kernel_rfl) ?_, owesP 14 12 [12, 10] hf rfl rfl (by kernel_rfl) rfl (by kernel_rfl) ?_, trivial⟩
   all_goals intro vs W hS hp hx KO hKO
   all_goals simp only [Act.put, sA, sZ, sS] at hKO
   ·have fc0 := BxA.cell (hS.1.2.1) 0 (v := .int .i64 lr) rfl; have fc1 := BxA.cell (hS.1.2.1) 1 (v := .int .i64 b1) rfl; have fc2 := BxA.cell (hS.1.2.1) 2 (v := .int .i64 b2) rfl; have fc3 := BxA.cell (hS.1.2.1) 3 (v := .int .i64 eps) rfl; have fc4 := BxA.cell (hS.1.2.1) 4 (v := .int .i64 wd) rfl; have fc5 := BxA.cell (hS.1.2.1) 5 (v := .bool ap) rfl; go_simp; exact hKO _ W (.refl W) rfl
   ·have fc0 := hS.1.2.2.2.2.2.2.cell0; have fc1 := hS.1.2.2.2.2.2.2.cell1; go_simp; exact hKO _ W (.refl W) rfl
   ·have e3 := isOf hp.1; simp only [e3] at hKO; have fc1 := BxA.cell (hS.1.2.2.2.1) 1 (v := .int .i64 m) rfl; go_simp; exact hKO _ W (.refl W) rfl
   ·have e5 := isOf hp.1; simp only [e5] at hKO; have fc2 := BxA.cell (hS.1.2.2.2.1) 2 (v := .int .i64 vt) rfl; go_simp; exact hKO _ W (.refl W) rfl
   ·have e0 := isOf hp.1; have e1 := isOf hp.2.1; have e2 := isOf hp.2.2.1; have e4 := isOf hp.2.2.2.1; have e6 := isOf hp.2.2.2.2.1; simp only [e0, e1, e2, e4, e6] at hKO; go_simp
    refine (Tryz.refMoments18 (M := M) (V := V) lr b1 b2 eps wd m vt D.1 ap D.2 K HK.out _ HM.out HV.out (HP.out ▸ HB.out.1) (HP.out ▸ HB.out.2) HI.out.2.2.1 HI.out.2.2.2.1 ID.out).mono ?_
    rintro e W1 ⟨rfl, hE⟩
    exact hKO _ W1 hE rfl
   ·have hn := BxA.new W 73 #[.int .i64 0, .bool false]
    have hsz := hS.2
    go_simp
    exact hKO _ _ rfl ⟨_, rfl, hsz, ⟨_, hn, (noU_num _ _), rfl⟩⟩
   ·have hn := BxA.new W 73 #[.int .i64 0, .bool false]
    have hsz := hS.2
    go_simp
    exact hKO _ _ rfl ⟨_, rfl, hsz, ⟨_, hn, (noU_num _ _), rfl⟩⟩
   ·have q11 := hp.1; have e9 := isOf hp.2.1; simp only [e9] at hKO
    obtain ⟨g, ev, hg, hfo⟩ := q11
    replace ev : vs 11 = _ := ev
    obtain ⟨x0, x1, c0, c1, hfz, W2, hW2, hw, hq⟩ := hfo.put2 (.int .i64 M.1) (.bool M.2) (noU_num _ _)
    have z0 := hfz 0
    have z1 := hfz 1
    simp only [ev] at hKO; go_simp
    rw [← hW2]
    exact hKO _ g rfl hg hw ⟨⟨(Ext.wr hS.1.1 hw (by omega)), (hS.1.2.1.wr hw (by omega)), (hS.1.2.2.1.wr hw (by omega)), (hS.1.2.2.2.1.wr hw (by omega)), (hS.1.2.2.2.2.1.wr hw (by omega)), (hS.1.2.2.2.2.2.1.wr hw (by omega)), (hS.1.2.2.2.2.2.2.wr hw (by omega))⟩, (Nat.le_trans hS.2 hw.apart.size)⟩ ⟨g, ev, hg, hq⟩
   ·have q12 := hp.1; have e10 := isOf hp.2.1; simp only [e10] at hKO
    obtain ⟨g, ev, hg, hfo⟩ := q12
    replace ev : vs 12 = _ := ev
    obtain ⟨x0, x1, c0, c1, hfz, W2, hW2, hw, hq⟩ := hfo.put2 (.int .i64 V.1) (.bool V.2) (noU_num _ _)
    have z0 := hfz 0
    have z1 := hfz 1
    simp only [ev] at hKO; go_simp
    rw [← hW2]
    exact hKO _ g rfl hg hw ⟨⟨(Ext.wr hS.1.1 hw (by omega)), (hS.1.2.1.wr hw (by omega)), (hS.1.2.2.1.wr hw (by omega)), (hS.1.2.2.2.1.wr hw (by omega)), (hS.1.2.2.2.2.1.wr hw (by omega)), (hS.1.2.2.2.2.2.1.wr hw (by omega)), (hS.1.2.2.2.2.2.2.wr hw (by omega))⟩, (Nat.le_trans hS.2 hw.apart.size)⟩ ⟨g, ev, hg, hq⟩
  intro vs W9 hS hM hp
  clear szw9 E0 p4 p6 p7 p8 p10 p11
  obtain ⟨⟨E0, p4, p6, p7, p8, p10, p11⟩, sz9⟩ := hS
  obtain ⟨h9_0, h9_1, h9_2, h9_3, h9_4, h9_5, h9_6, h9_7, h9_8, h9_9, h9_10, h9_11, h9_12, h9_13, h9_14, -⟩ := hp
  skip
  have hh := h9_13
  obtain ⟨g12, ev12, hg12, p12⟩ := hh
  replace ev12 : vs 11 = _ := ev12
  replace p12 : Bx2 W9 g12 73 (.int .i64 M.1) (.bool M.2) := p12
  skip
  have hh := h9_14
  obtain ⟨g13, ev13, hg13, p13⟩ := hh
  replace ev13 : vs 12 = _ := ev13
  replace p13 : Bx2 W9 g13 73 (.int .i64 V.1) (.bool V.2) := p13
  have ne12_13 : g12 ≠ g13 := fun e => hM.2 11 (by simp) 12 (by simp) (by decide) g12 (by rw [ev12]; rfl) (by rw [ev13, e]; rfl)
  clear hM
  simp only [ev12, ev13, isOf h9_0, isOf h9_1, isOf h9_2, isOf h9_3, isOf h9_4, isOf h9_5, isOf h9_6, isOf h9_7, isOf h9_8, isOf h9_9, isOf h9_10]
  clear ev12 ev13 h9_0 h9_1 h9_2 h9_3 h9_4 h9_5 h9_6 h9_7 h9_8 h9_9 h9_10 h9_11 h9_12 h9_13 h9_14; clear sHB2_p4 sHB2_p6 sHB2_p7 sHB2_p8 sHG10 sHB3_p4 sHB3_p6 sHB3_p7 sHB3_p8 sHB3_p10 sHG11 sHB6_p4 sHB6_p6 sHB6_p7 sHB6_p8 sHB6_p10 sHB6_p11
  have HG12 := Lib.hid hg12
  clear hg12
  have HG13 := Lib.hid hg13
  clear hg13
  have HN12_13 := Lib.hid ne12_13
  clear ne12_13
  obtain ⟨k4a, k4b, k4c, k4d, k4e, k4f⟩ := p4.c6
  obtain ⟨k6a, k6b⟩ := p6.c2
  obtain ⟨k7a, k7b, k7c, k7d⟩ := p7.c4
  obtain ⟨k8a, k8b, k8c, k8d, k8e, k8f⟩ := p8.c6
  obtain ⟨k10a, k10b⟩ := p10.c2
  obtain ⟨k11a, k11b⟩ := p11.c2
  obtain ⟨k12a, k12b⟩ := p12.c2
  obtain ⟨k13a, k13b⟩ := p13.c2
  go_upto_region 7 with (fail)
  clear k4a k4b k4c k4d k4e k4f k6a k6b k7a k7b k7c k7d k8a k8b k8c k8d k8e k8f k10a k10b k11a k11b k12a k12b k13a k13b
  have HB7_p4 := Lib.hid p4.lt
  have HB7_p6 := Lib.hid p6.lt
  have HB7_p7 := Lib.hid p7.lt
  have HB7_p8 := Lib.hid p8.lt
  have HB7_p10 := Lib.hid p10.lt
  have HB7_p11 := Lib.hid p11.lt
  have HB7_p12 := Lib.hid p12.lt
  have HB7_p13 := Lib.hid p13.lt
  have sHB2_p4 := HB2_p4.out
  have sHB2_p6 := HB2_p6.out
  have sHB2_p7 := HB2_p7.out
  have sHB2_p8 := HB2_p8.out
  have sHG10 := HG10.out
  have sHB3_p4 := HB3_p4.out
  have sHB3_p6 := HB3_p6.out
  have sHB3_p7 := HB3_p7.out
  have sHB3_p8 := HB3_p8.out
  have sHB3_p10 := HB3_p10.out
  have sHG11 := HG11.out
  have sHB6_p4 := HB6_p4.out
  have sHB6_p6 := HB6_p6.out
  have sHB6_p7 := HB6_p7.out
  have sHB6_p8 := HB6_p8.out
  have sHB6_p10 := HB6_p10.out
  have sHB6_p11 := HB6_p11.out
  have sHG12 := HG12.out
  have sHG13 := HG13.out
  have sHN12_13 := HN12_13.out
  have sHB7_p4 := HB7_p4.out
  have sHB7_p6 := HB7_p6.out
  have sHB7_p7 := HB7_p7.out
  have sHB7_p8 := HB7_p8.out
  have sHB7_p10 := HB7_p10.out
  have sHB7_p11 := HB7_p11.out
  have sHB7_p12 := HB7_p12.out
  have sHB7_p13 := HB7_p13.out
  have ltp12 := p12.lt; have ltp13 := p13.lt; have szw10 := Ext.size E0
  refine region_gk2 [isV (.agg #[.int .i64 M.1, .bool M.2]), isV (.int .i64 P), isV (.pointer (some ⟨w.heap.size + 1, 0, none⟩)), isV (.int .i64 p0), isV (.int .i64 C1), isV (.agg #[.int .i64 C1, .bool true]), isV (.int .i64 (K : Int)), isV (.agg #[.int .i64 X.1, .bool X.2]),
    .one fun v W => ∃ g, v = .pointer (some ⟨g, 0, none⟩) ∧ W9.heap.size ≤ g ∧ Form W g 73 2,
    .two 8 (fun p _ W => NewA W9.heap.size 73 #[.int .i64 X.1, .bool X.2] p W)] W9.heap.size [8] [Tag.any, Tag.any, Tag.any, Tag.any, Tag.any, Tag.any, Tag.any, Tag.any, Tag.any, Tag.new 8] ⟨Good.is _, Good.is _, Good.is _, Good.is _, Good.is _, Good.is _, Good.is _, Good.is _, Good.box _ _ _, tag_newA, trivial⟩ (fun g0 hg => by simp at hg) (E0.s.k (p4.s.k (p6.s.k (p7.s.k (p8.s.k (p10.s.k (p11.s.k (p12.s.k (p13.s))))))))) (fun m hm => by simp at hm; subst hm; rfl) (A := ?A10) ?hA10 ?howe10 ?hfin10
  case hA10 =>
   intro vs
   simp only [putAll, Act.put, sA, sZ, sS, Nat.zero_add, Nat.reduceAdd]
   exact rfl
  case howe10 =>
   clear E0 p4 p6 p7 p8 p10 p11 p12 p13
   intro hf
   refine ⟨owesM 0 [] hf rfl rfl (by kernel_rfl) ?_, oM0 1 [] hf rfl rfl, oM0 2 [] hf rfl rfl, owesM 3 [2] hf rfl rfl (by kernel_rfl) ?_, owesM 4 [1, 3] hf rfl rfl (by kernel_rfl) ?_, owesM 5 [4] hf rfl rfl (by kernel_rfl) ?_, oM0 6 [] hf rfl rfl, owesM 7 [0, 5, 6] hf rfl rfl (by kernel_rfl) ?_, owesN 8 [] hf rfl (by kernel_rfl) ?_, owesP 9 8 [8, 7] hf rfl rfl (by kernel_rfl) rfl (by kernel_rfl) ?_, trivial⟩
   all_goals intro vs W hS hp hx KO hKO
   all_goals simp only [Act.put, sA, sZ, sS] at hKO
   ·have fc0 := hS.1.2.2.2.2.2.2.2.1.cell0; have fc1 := hS.1.2.2.2.2.2.2.2.1.cell1; go_simp; exact hKO _ W (.refl W) rfl
   ·have e2 := isOf hp.1; simp only [e2] at hKO; have fc0 := hS.1.2.2.1.cell0; go_simp; exact hKO _ W (.refl W) rfl
   ·have e1 := isOf hp.1; have e3 := isOf hp.2.1; simp only [e1, e3] at hKO; go_simp; exact hKO _ W (Ext.refl W) (by first | rfl | exact congrArg (Value.int .i64) HW1.out)
   ·have e4 := isOf hp.1; simp only [e4] at hKO; go_simp
    refine (Tryz.refOf17 C1 _).mono ?_
    rintro e W1 ⟨rfl, hE⟩
    exact hKO _ W1 hE rfl
   ·have e0 := isOf hp.1; have e5 := isOf hp.2.1; have e6 := isOf hp.2.2.1; simp only [e0, e5, e6] at hKO; go_simp
    refine (Tryz.refDiv17 K HK.out M.1 C1 M.2 true HX.out _ IM.out HI.out.2.1.1).mono ?_
    rintro e W1 ⟨rfl, hE⟩
    exact hKO _ W1 hE rfl
   ·have hn := BxA.new W 73 #[.int .i64 0, .bool false]
    have hsz := hS.2
    go_simp
    exact hKO _ _ rfl ⟨_, rfl, hsz, ⟨_, hn, (noU_num _ _), rfl⟩⟩
   ·have q8 := hp.1; have e7 := isOf hp.2.1; simp only [e7] at hKO
    obtain ⟨g, ev, hg, hfo⟩ := q8
    replace ev : vs 8 = _ := ev
    obtain ⟨x0, x1, c0, c1, hfz, W2, hW2, hw, hq⟩ := hfo.put2 (.int .i64 X.1) (.bool X.2) (noU_num _ _)
    have z0 := hfz 0
    have z1 := hfz 1
    simp only [ev] at hKO; go_simp
    rw [← hW2]
    exact hKO _ g rfl hg hw ⟨⟨(Ext.wr hS.1.1 hw (by omega)), (hS.1.2.1.wr hw (by omega)), (hS.1.2.2.1.wr hw (by omega)), (hS.1.2.2.2.1.wr hw (by omega)), (hS.1.2.2.2.2.1.wr hw (by omega)), (hS.1.2.2.2.2.2.1.wr hw (by omega)), (hS.1.2.2.2.2.2.2.1.wr hw (by omega)), (hS.1.2.2.2.2.2.2.2.1.wr hw (by omega)), (hS.1.2.2.2.2.2.2.2.2.wr hw (by omega))⟩, (Nat.le_trans hS.2 hw.apart.size)⟩ ⟨g, ev, hg, hq⟩
  intro vs W10 hS hM hp
  clear szw10 E0 p4 p6 p7 p8 p10 p11 p12 p13
  obtain ⟨⟨E0, p4, p6, p7, p8, p10, p11, p12, p13⟩, sz10⟩ := hS
  obtain ⟨h10_0, h10_1, h10_2, h10_3, h10_4, h10_5, h10_6, h10_7, h10_8, h10_9, -⟩ := hp
  skip
  have hh := h10_9
  obtain ⟨g14, ev14, hg14, p14⟩ := hh
  replace ev14 : vs 8 = _ := ev14
  replace p14 : Bx2 W10 g14 73 (.int .i64 X.1) (.bool X.2) := p14
  clear hM
  simp only [ev14, isOf h10_0, isOf h10_1, isOf h10_2, isOf h10_3, isOf h10_4, isOf h10_5, isOf h10_6, isOf h10_7]
  clear ev14 h10_0 h10_1 h10_2 h10_3 h10_4 h10_5 h10_6 h10_7 h10_8 h10_9; clear sHB2_p4 sHB2_p6 sHB2_p7 sHB2_p8 sHG10 sHB3_p4 sHB3_p6 sHB3_p7 sHB3_p8 sHB3_p10 sHG11 sHB6_p4 sHB6_p6 sHB6_p7 sHB6_p8 sHB6_p10 sHB6_p11 sHG12 sHG13 sHN12_13 sHB7_p4 sHB7_p6 sHB7_p7 sHB7_p8 sHB7_p10 sHB7_p11 sHB7_p12 sHB7_p13
  have HG14 := Lib.hid hg14
  clear hg14
  obtain ⟨k4a, k4b, k4c, k4d, k4e, k4f⟩ := p4.c6
  obtain ⟨k6a, k6b⟩ := p6.c2
  obtain ⟨k7a, k7b, k7c, k7d⟩ := p7.c4
  obtain ⟨k8a, k8b, k8c, k8d, k8e, k8f⟩ := p8.c6
  obtain ⟨k10a, k10b⟩ := p10.c2
  obtain ⟨k11a, k11b⟩ := p11.c2
  obtain ⟨k12a, k12b⟩ := p12.c2
  obtain ⟨k13a, k13b⟩ := p13.c2
  obtain ⟨k14a, k14b⟩ := p14.c2
  go_upto_region 8 with (fail)
  clear k4a k4b k4c k4d k4e k4f k6a k6b k7a k7b k7c k7d k8a k8b k8c k8d k8e k8f k10a k10b k11a k11b k12a k12b k13a k13b k14a k14b
  have HB8_p4 := Lib.hid p4.lt
  have HB8_p6 := Lib.hid p6.lt
  have HB8_p7 := Lib.hid p7.lt
  have HB8_p8 := Lib.hid p8.lt
  have HB8_p10 := Lib.hid p10.lt
  have HB8_p11 := Lib.hid p11.lt
  have HB8_p12 := Lib.hid p12.lt
  have HB8_p13 := Lib.hid p13.lt
  have HB8_p14 := Lib.hid p14.lt
  have sHB2_p4 := HB2_p4.out
  have sHB2_p6 := HB2_p6.out
  have sHB2_p7 := HB2_p7.out
  have sHB2_p8 := HB2_p8.out
  have sHG10 := HG10.out
  have sHB3_p4 := HB3_p4.out
  have sHB3_p6 := HB3_p6.out
  have sHB3_p7 := HB3_p7.out
  have sHB3_p8 := HB3_p8.out
  have sHB3_p10 := HB3_p10.out
  have sHG11 := HG11.out
  have sHB6_p4 := HB6_p4.out
  have sHB6_p6 := HB6_p6.out
  have sHB6_p7 := HB6_p7.out
  have sHB6_p8 := HB6_p8.out
  have sHB6_p10 := HB6_p10.out
  have sHB6_p11 := HB6_p11.out
  have sHG12 := HG12.out
  have sHG13 := HG13.out
  have sHN12_13 := HN12_13.out
  have sHB7_p4 := HB7_p4.out
  have sHB7_p6 := HB7_p6.out
  have sHB7_p7 := HB7_p7.out
  have sHB7_p8 := HB7_p8.out
  have sHB7_p10 := HB7_p10.out
  have sHB7_p11 := HB7_p11.out
  have sHB7_p12 := HB7_p12.out
  have sHB7_p13 := HB7_p13.out
  have sHG14 := HG14.out
  have sHB8_p4 := HB8_p4.out
  have sHB8_p6 := HB8_p6.out
  have sHB8_p7 := HB8_p7.out
  have sHB8_p8 := HB8_p8.out
  have sHB8_p10 := HB8_p10.out
  have sHB8_p11 := HB8_p11.out
  have sHB8_p12 := HB8_p12.out
  have sHB8_p13 := HB8_p13.out
  have sHB8_p14 := HB8_p14.out
  have ltp14 := p14.lt; have szw11 := Ext.size E0
  refine region_gk2 [isV (.agg #[.int .i64 V.1, .bool V.2]), isV (.int .i64 P), isV (.pointer (some ⟨w.heap.size + 1, 1, none⟩)), isV (.int .i64 p1), isV (.int .i64 C2), isV (.agg #[.int .i64 C2, .bool true]), isV (.int .i64 (K : Int)), isV (.agg #[.int .i64 Y.1, .bool Y.2]),
    .one fun v W => ∃ g, v = .pointer (some ⟨g, 0, none⟩) ∧ W10.heap.size ≤ g ∧ Form W g 73 2,
    .two 8 (fun p _ W => NewA W10.heap.size 73 #[.int .i64 Y.1, .bool Y.2] p W)] W10.heap.size [8] [Tag.any, Tag.any, Tag.any, Tag.any, Tag.any, Tag.any, Tag.any, Tag.any, Tag.any, Tag.new 8] ⟨Good.is _, Good.is _, Good.is _, Good.is _, Good.is _, Good.is _, Good.is _, Good.is _, Good.box _ _ _, tag_newA, trivial⟩ (fun g0 hg => by simp at hg) (E0.s.k (p4.s.k (p6.s.k (p7.s.k (p8.s.k (p10.s.k (p11.s.k (p12.s.k (p13.s.k (p14.s)))))))))) (fun m hm => by simp at hm; subst hm; rfl) (A := ?A11) ?hA11 ?howe11 ?hfin11
  case hA11 =>
   intro vs
   simp only [putAll, Act.put, sA, sZ, sS, Nat.zero_add, Nat.reduceAdd]
   exact rfl
  case howe11 =>
   clear E0 p4 p6 p7 p8 p10 p11 p12 p13 p14
   intro hf
   refine ⟨owesM 0 [] hf rfl rfl (by kernel_rfl) ?_, oM0 1 [] hf rfl rfl, oM0 2 [] hf rfl rfl, owesM 3 [2] hf rfl rfl (by kernel_rfl) ?_, owesM 4 [1, 3] hf rfl rfl (by kernel_rfl) ?_, owesM 5 [4] hf rfl rfl (by kernel_rfl) ?_, oM0 6 [] hf rfl rfl, owesM 7 [0, 5, 6] hf rfl rfl (by kernel_rfl) ?_, owesN 8 [] hf rfl (by kernel_rfl) ?_, owesP 9 8 [8, 7] hf rfl rfl (by kernel_rfl) rfl (by kernel_rfl) ?_, trivial⟩
   all_goals intro vs W hS hp hx KO hKO
   all_goals simp only [Act.put, sA, sZ, sS] at hKO
   ·have fc0 := hS.1.2.2.2.2.2.2.2.2.1.cell0; have fc1 := hS.1.2.2.2.2.2.2.2.2.1.cell1; go_simp; exact hKO _ W (.refl W) rfl
   ·have e2 := isOf hp.1; simp only [e2] at hKO; have fc1 := hS.1.2.2.1.cell1; go_simp; exact hKO _ W (.refl W) rfl
   ·have e1 := isOf hp.1; have e3 := isOf hp.2.1; simp only [e1, e3] at hKO; go_simp; exact hKO _ W (Ext.refl W) (by first | rfl | exact congrArg (Value.int .i64) HW2.out)
   ·have e4 := isOf hp.1; simp only [e4] at hKO; go_simp
    refine (Tryz.refOf17 C2 _).mono ?_
    rintro e W1 ⟨rfl, hE⟩
    exact hKO _ W1 hE rfl
   ·have e0 := isOf hp.1; have e5 := isOf hp.2.1; have e6 := isOf hp.2.2.1; simp only [e0, e5, e6] at hKO; go_simp
    refine (Tryz.refDiv17 K HK.out V.1 C2 V.2 true HY.out _ IV.out HI.out.2.1.2).mono ?_
    rintro e W1 ⟨rfl, hE⟩
    exact hKO _ W1 hE rfl
   ·have hn := BxA.new W 73 #[.int .i64 0, .bool false]
    have hsz := hS.2
    go_simp
    exact hKO _ _ rfl ⟨_, rfl, hsz, ⟨_, hn, (noU_num _ _), rfl⟩⟩
   ·have q8 := hp.1; have e7 := isOf hp.2.1; simp only [e7] at hKO
    obtain ⟨g, ev, hg, hfo⟩ := q8
    replace ev : vs 8 = _ := ev
    obtain ⟨x0, x1, c0, c1, hfz, W2, hW2, hw, hq⟩ := hfo.put2 (.int .i64 Y.1) (.bool Y.2) (noU_num _ _)
    have z0 := hfz 0
    have z1 := hfz 1
    simp only [ev] at hKO; go_simp
    rw [← hW2]
    exact hKO _ g rfl hg hw ⟨⟨(Ext.wr hS.1.1 hw (by omega)), (hS.1.2.1.wr hw (by omega)), (hS.1.2.2.1.wr hw (by omega)), (hS.1.2.2.2.1.wr hw (by omega)), (hS.1.2.2.2.2.1.wr hw (by omega)), (hS.1.2.2.2.2.2.1.wr hw (by omega)), (hS.1.2.2.2.2.2.2.1.wr hw (by omega)), (hS.1.2.2.2.2.2.2.2.1.wr hw (by omega)), (hS.1.2.2.2.2.2.2.2.2.1.wr hw (by omega)), (hS.1.2.2.2.2.2.2.2.2.2.wr hw (by omega))⟩, (Nat.le_trans hS.2 hw.apart.size)⟩ ⟨g, ev, hg, hq⟩
  intro vs W11 hS hM hp
  clear szw11 E0 p4 p6 p7 p8 p10 p11 p12 p13 p14
  obtain ⟨⟨E0, p4, p6, p7, p8, p10, p11, p12, p13, p14⟩, sz11⟩ := hS
  obtain ⟨h11_0, h11_1, h11_2, h11_3, h11_4, h11_5, h11_6, h11_7, h11_8, h11_9, -⟩ := hp
  skip
  have hh := h11_9
  obtain ⟨g15, ev15, hg15, p15⟩ := hh
  replace ev15 : vs 8 = _ := ev15
  replace p15 : Bx2 W11 g15 73 (.int .i64 Y.1) (.bool Y.2) := p15
  clear hM
  simp only [ev15, isOf h11_0, isOf h11_1, isOf h11_2, isOf h11_3, isOf h11_4, isOf h11_5, isOf h11_6, isOf h11_7]
  clear ev15 h11_0 h11_1 h11_2 h11_3 h11_4 h11_5 h11_6 h11_7 h11_8 h11_9; clear sHB2_p4 sHB2_p6 sHB2_p7 sHB2_p8 sHG10 sHB3_p4 sHB3_p6 sHB3_p7 sHB3_p8 sHB3_p10 sHG11 sHB6_p4 sHB6_p6 sHB6_p7 sHB6_p8 sHB6_p10 sHB6_p11 sHG12 sHG13 sHN12_13 sHB7_p4 sHB7_p6 sHB7_p7 sHB7_p8 sHB7_p10 sHB7_p11 sHB7_p12 sHB7_p13 sHG14 sHB8_p4 sHB8_p6 sHB8_p7 sHB8_p8 sHB8_p10 sHB8_p11 sHB8_p12 sHB8_p13 sHB8_p14
  have HG15 := Lib.hid hg15
  clear hg15
  obtain ⟨k4a, k4b, k4c, k4d, k4e, k4f⟩ := p4.c6
  obtain ⟨k6a, k6b⟩ := p6.c2
  obtain ⟨k7a, k7b, k7c, k7d⟩ := p7.c4
  obtain ⟨k8a, k8b, k8c, k8d, k8e, k8f⟩ := p8.c6
  obtain ⟨k10a, k10b⟩ := p10.c2
  obtain ⟨k11a, k11b⟩ := p11.c2
  obtain ⟨k12a, k12b⟩ := p12.c2
  obtain ⟨k13a, k13b⟩ := p13.c2
  obtain ⟨k14a, k14b⟩ := p14.c2
  obtain ⟨k15a, k15b⟩ := p15.c2
  go_upto_region 9 with (fail)
  clear k4a k4b k4c k4d k4e k4f k6a k6b k7a k7b k7c k7d k8a k8b k8c k8d k8e k8f k10a k10b k11a k11b k12a k12b k13a k13b k14a k14b k15a k15b
  have HB9_p4 := Lib.hid p4.lt
  have HB9_p6 := Lib.hid p6.lt
  have HB9_p7 := Lib.hid p7.lt
  have HB9_p8 := Lib.hid p8.lt
  have HB9_p10 := Lib.hid p10.lt
  have HB9_p11 := Lib.hid p11.lt
  have HB9_p12 := Lib.hid p12.lt
  have HB9_p13 := Lib.hid p13.lt
  have HB9_p14 := Lib.hid p14.lt
  have HB9_p15 := Lib.hid p15.lt
  have sHB2_p4 := HB2_p4.out
  have sHB2_p6 := HB2_p6.out
  have sHB2_p7 := HB2_p7.out
  have sHB2_p8 := HB2_p8.out
  have sHG10 := HG10.out
  have sHB3_p4 := HB3_p4.out
  have sHB3_p6 := HB3_p6.out
  have sHB3_p7 := HB3_p7.out
  have sHB3_p8 := HB3_p8.out
  have sHB3_p10 := HB3_p10.out
  have sHG11 := HG11.out
  have sHB6_p4 := HB6_p4.out
  have sHB6_p6 := HB6_p6.out
  have sHB6_p7 := HB6_p7.out
  have sHB6_p8 := HB6_p8.out
  have sHB6_p10 := HB6_p10.out
  have sHB6_p11 := HB6_p11.out
  have sHG12 := HG12.out
  have sHG13 := HG13.out
  have sHN12_13 := HN12_13.out
  have sHB7_p4 := HB7_p4.out
  have sHB7_p6 := HB7_p6.out
  have sHB7_p7 := HB7_p7.out
  have sHB7_p8 := HB7_p8.out
  have sHB7_p10 := HB7_p10.out
  have sHB7_p11 := HB7_p11.out
  have sHB7_p12 := HB7_p12.out
  have sHB7_p13 := HB7_p13.out
  have sHG14 := HG14.out
  have sHB8_p4 := HB8_p4.out
  have sHB8_p6 := HB8_p6.out
  have sHB8_p7 := HB8_p7.out
  have sHB8_p8 := HB8_p8.out
  have sHB8_p10 := HB8_p10.out
  have sHB8_p11 := HB8_p11.out
  have sHB8_p12 := HB8_p12.out
  have sHB8_p13 := HB8_p13.out
  have sHB8_p14 := HB8_p14.out
  have sHG15 := HG15.out
  have sHB9_p4 := HB9_p4.out
  have sHB9_p6 := HB9_p6.out
  have sHB9_p7 := HB9_p7.out
  have sHB9_p8 := HB9_p8.out
  have sHB9_p10 := HB9_p10.out
  have sHB9_p11 := HB9_p11.out
  have sHB9_p12 := HB9_p12.out
  have sHB9_p13 := HB9_p13.out
  have sHB9_p14 := HB9_p14.out
  have sHB9_p15 := HB9_p15.out
  have ltp15 := p15.lt; have szw12 := Ext.size E0
  refine region_gk2 [isV (.agg #[.int .i64 X.1, .bool X.2]), isV (.agg #[.int .i64 Y.1, .bool Y.2]), isV (.int .i64 (K : Int)), isV (.agg #[.int .i64 R.1, .bool R.2]), isV (.pointer (some ⟨w.heap.size, 3, none⟩)), isV (.int .i64 eps), isV (.agg #[.int .i64 eps, .bool true]), isV (.agg #[.int .i64 S.1, .bool S.2]), isV (.int .i64 (K : Int)), isV (.agg #[.int .i64 U.1, .bool U.2]),
    .one fun v W => ∃ g, v = .pointer (some ⟨g, 0, none⟩) ∧ W11.heap.size ≤ g ∧ Form W g 73 2,
    .two 10 (fun p _ W => NewA W11.heap.size 73 #[.int .i64 U.1, .bool U.2] p W)] W11.heap.size [10] [Tag.any, Tag.any, Tag.any, Tag.any, Tag.any, Tag.any, Tag.any, Tag.any, Tag.any, Tag.any, Tag.any, Tag.new 10] ⟨Good.is _, Good.is _, Good.is _, Good.is _, Good.is _, Good.is _, Good.is _, Good.is _, Good.is _, Good.is _, Good.box _ _ _, tag_newA, trivial⟩ (fun g0 hg => by simp at hg) (E0.s.k (p4.s.k (p6.s.k (p7.s.k (p8.s.k (p10.s.k (p11.s.k (p12.s.k (p13.s.k (p14.s.k (p15.s))))))))))) (fun m hm => by simp at hm; subst hm; rfl) (A := ?A12) ?hA12 ?howe12 ?hfin12
  case hA12 =>
   intro vs
   simp only [putAll, Act.put, sA, sZ, sS, Nat.zero_add, Nat.reduceAdd]
   exact rfl
  case howe12 =>
   clear E0 p4 p6 p7 p8 p10 p11 p12 p13 p14 p15
   intro hf
   refine ⟨owesM 0 [] hf rfl rfl (by kernel_rfl) ?_, owesM 1 [] hf rfl rfl (by kernel_rfl) ?_, oM0 2 [] hf rfl rfl, owesM 3 [1, 2] hf rfl rfl (by kernel_rfl) ?_, oM0 4 [] hf rfl rfl, owesM 5 [4] hf rfl rfl (by kernel_rfl) ?_, owesM 6 [5] hf rfl rfl (by kernel_rfl) ?_, owesM 7 [3, 6] hf rfl rfl (by kernel_rfl) ?_, oM0 8 [] hf rfl rfl, owesM 9 [0, 7, 8] hf rfl rfl (by kernel_rfl) ?_, owesN 10 [] hf rfl (by kernel_rfl) ?_, owesP 11 10 [10, 9] hf rfl rfl (by kernel_rfl) rfl (by kernel_rfl) ?_, trivial⟩
   all_goals intro vs W hS hp hx KO hKO
   all_goals simp only [Act.put, sA, sZ, sS] at hKO
   ·have fc0 := hS.1.2.2.2.2.2.2.2.2.2.1.cell0; have fc1 := hS.1.2.2.2.2.2.2.2.2.2.1.cell1; go_simp; exact hKO _ W (.refl W) rfl
   ·have fc0 := hS.1.2.2.2.2.2.2.2.2.2.2.cell0; have fc1 := hS.1.2.2.2.2.2.2.2.2.2.2.cell1; go_simp; exact hKO _ W (.refl W) rfl
   ·have e1 := isOf hp.1; have e2 := isOf hp.2.1; simp only [e1, e2] at hKO; go_simp
    refine (Tryz.refSqrt17 K HK.out Y.1 Y.2 HR.out _ IY.out).mono ?_
    rintro e W1 ⟨rfl, hE⟩
    exact hKO _ W1 hE rfl
   ·have e4 := isOf hp.1; simp only [e4] at hKO; have fc3 := BxA.cell (hS.1.2.1) 3 (v := .int .i64 eps) rfl; go_simp; exact hKO _ W (.refl W) rfl
   ·have e5 := isOf hp.1; simp only [e5] at hKO; go_simp
    refine (Tryz.refOf17 eps _).mono ?_
    rintro e W1 ⟨rfl, hE⟩
    exact hKO _ W1 hE rfl
   ·have e3 := isOf hp.1; have e6 := isOf hp.2.1; simp only [e3, e6] at hKO; go_simp
    refine (Tryz.refAdd17 R.1 eps R.2 true HS.out _ IR.out HI.out.1.2.1).mono ?_
    rintro e W1 ⟨rfl, hE⟩
    exact hKO _ W1 hE rfl
   ·have e0 := isOf hp.1; have e7 := isOf hp.2.1; have e8 := isOf hp.2.2.1; simp only [e0, e7, e8] at hKO; go_simp
    refine (Tryz.refDiv17 K HK.out X.1 S.1 X.2 S.2 HU.out _ IX.out IS.out).mono ?_
    rintro e W1 ⟨rfl, hE⟩
    exact hKO _ W1 hE rfl
   ·have hn := BxA.new W 73 #[.int .i64 0, .bool false]
    have hsz := hS.2
    go_simp
    exact hKO _ _ rfl ⟨_, rfl, hsz, ⟨_, hn, (noU_num _ _), rfl⟩⟩
   ·have q10 := hp.1; have e9 := isOf hp.2.1; simp only [e9] at hKO
    obtain ⟨g, ev, hg, hfo⟩ := q10
    replace ev : vs 10 = _ := ev
    obtain ⟨x0, x1, c0, c1, hfz, W2, hW2, hw, hq⟩ := hfo.put2 (.int .i64 U.1) (.bool U.2) (noU_num _ _)
    have z0 := hfz 0
    have z1 := hfz 1
    simp only [ev] at hKO; go_simp
    rw [← hW2]
    exact hKO _ g rfl hg hw ⟨⟨(Ext.wr hS.1.1 hw (by omega)), (hS.1.2.1.wr hw (by omega)), (hS.1.2.2.1.wr hw (by omega)), (hS.1.2.2.2.1.wr hw (by omega)), (hS.1.2.2.2.2.1.wr hw (by omega)), (hS.1.2.2.2.2.2.1.wr hw (by omega)), (hS.1.2.2.2.2.2.2.1.wr hw (by omega)), (hS.1.2.2.2.2.2.2.2.1.wr hw (by omega)), (hS.1.2.2.2.2.2.2.2.2.1.wr hw (by omega)), (hS.1.2.2.2.2.2.2.2.2.2.1.wr hw (by omega)), (hS.1.2.2.2.2.2.2.2.2.2.2.wr hw (by omega))⟩, (Nat.le_trans hS.2 hw.apart.size)⟩ ⟨g, ev, hg, hq⟩
  intro vs W12 hS hM hp
  clear szw12 E0 p4 p6 p7 p8 p10 p11 p12 p13 p14 p15
  obtain ⟨⟨E0, p4, p6, p7, p8, p10, p11, p12, p13, p14, p15⟩, sz12⟩ := hS
  obtain ⟨h12_0, h12_1, h12_2, h12_3, h12_4, h12_5, h12_6, h12_7, h12_8, h12_9, h12_10, h12_11, -⟩ := hp
  skip
  have hh := h12_11
  obtain ⟨g16, ev16, hg16, p16⟩ := hh
  replace ev16 : vs 10 = _ := ev16
  replace p16 : Bx2 W12 g16 73 (.int .i64 U.1) (.bool U.2) := p16
  clear hM
  simp only [ev16, isOf h12_0, isOf h12_1, isOf h12_2, isOf h12_3, isOf h12_4, isOf h12_5, isOf h12_6, isOf h12_7, isOf h12_8, isOf h12_9]
  clear ev16 h12_0 h12_1 h12_2 h12_3 h12_4 h12_5 h12_6 h12_7 h12_8 h12_9 h12_10 h12_11; clear sHB2_p4 sHB2_p6 sHB2_p7 sHB2_p8 sHG10 sHB3_p4 sHB3_p6 sHB3_p7 sHB3_p8 sHB3_p10 sHG11 sHB6_p4 sHB6_p6 sHB6_p7 sHB6_p8 sHB6_p10 sHB6_p11 sHG12 sHG13 sHN12_13 sHB7_p4 sHB7_p6 sHB7_p7 sHB7_p8 sHB7_p10 sHB7_p11 sHB7_p12 sHB7_p13 sHG14 sHB8_p4 sHB8_p6 sHB8_p7 sHB8_p8 sHB8_p10 sHB8_p11 sHB8_p12 sHB8_p13 sHB8_p14 sHG15 sHB9_p4 sHB9_p6 sHB9_p7 sHB9_p8 sHB9_p10 sHB9_p11 sHB9_p12 sHB9_p13 sHB9_p14 sHB9_p15
  have HG16 := Lib.hid hg16
  clear hg16
  obtain ⟨k4a, k4b, k4c, k4d, k4e, k4f⟩ := p4.c6
  obtain ⟨k6a, k6b⟩ := p6.c2
  obtain ⟨k7a, k7b, k7c, k7d⟩ := p7.c4
  obtain ⟨k8a, k8b, k8c, k8d, k8e, k8f⟩ := p8.c6
  obtain ⟨k10a, k10b⟩ := p10.c2
  obtain ⟨k11a, k11b⟩ := p11.c2
  obtain ⟨k12a, k12b⟩ := p12.c2
  obtain ⟨k13a, k13b⟩ := p13.c2
  obtain ⟨k14a, k14b⟩ := p14.c2
  obtain ⟨k15a, k15b⟩ := p15.c2
  obtain ⟨k16a, k16b⟩ := p16.c2
  go_upto_region 10 with (fail)
  clear k4a k4b k4c k4d k4e k4f k6a k6b k7a k7b k7c k7d k8a k8b k8c k8d k8e k8f k10a k10b k11a k11b k12a k12b k13a k13b k14a k14b k15a k15b k16a k16b
  have HB10_p4 := Lib.hid p4.lt
  have HB10_p6 := Lib.hid p6.lt
  have HB10_p7 := Lib.hid p7.lt
  have HB10_p8 := Lib.hid p8.lt
  have HB10_p10 := Lib.hid p10.lt
  have HB10_p11 := Lib.hid p11.lt
  have HB10_p12 := Lib.hid p12.lt
  have HB10_p13 := Lib.hid p13.lt
  have HB10_p14 := Lib.hid p14.lt
  have HB10_p15 := Lib.hid p15.lt
  have HB10_p16 := Lib.hid p16.lt
  have sHB2_p4 := HB2_p4.out
  have sHB2_p6 := HB2_p6.out
  have sHB2_p7 := HB2_p7.out
  have sHB2_p8 := HB2_p8.out
  have sHG10 := HG10.out
  have sHB3_p4 := HB3_p4.out
  have sHB3_p6 := HB3_p6.out
  have sHB3_p7 := HB3_p7.out
  have sHB3_p8 := HB3_p8.out
  have sHB3_p10 := HB3_p10.out
  have sHG11 := HG11.out
  have sHB6_p4 := HB6_p4.out
  have sHB6_p6 := HB6_p6.out
  have sHB6_p7 := HB6_p7.out
  have sHB6_p8 := HB6_p8.out
  have sHB6_p10 := HB6_p10.out
  have sHB6_p11 := HB6_p11.out
  have sHG12 := HG12.out
  have sHG13 := HG13.out
  have sHN12_13 := HN12_13.out
  have sHB7_p4 := HB7_p4.out
  have sHB7_p6 := HB7_p6.out
  have sHB7_p7 := HB7_p7.out
  have sHB7_p8 := HB7_p8.out
  have sHB7_p10 := HB7_p10.out
  have sHB7_p11 := HB7_p11.out
  have sHB7_p12 := HB7_p12.out
  have sHB7_p13 := HB7_p13.out
  have sHG14 := HG14.out
  have sHB8_p4 := HB8_p4.out
  have sHB8_p6 := HB8_p6.out
  have sHB8_p7 := HB8_p7.out
  have sHB8_p8 := HB8_p8.out
  have sHB8_p10 := HB8_p10.out
  have sHB8_p11 := HB8_p11.out
  have sHB8_p12 := HB8_p12.out
  have sHB8_p13 := HB8_p13.out
  have sHB8_p14 := HB8_p14.out
  have sHG15 := HG15.out
  have sHB9_p4 := HB9_p4.out
  have sHB9_p6 := HB9_p6.out
  have sHB9_p7 := HB9_p7.out
  have sHB9_p8 := HB9_p8.out
  have sHB9_p10 := HB9_p10.out
  have sHB9_p11 := HB9_p11.out
  have sHB9_p12 := HB9_p12.out
  have sHB9_p13 := HB9_p13.out
  have sHB9_p14 := HB9_p14.out
  have sHB9_p15 := HB9_p15.out
  have sHG16 := HG16.out
  have sHB10_p4 := HB10_p4.out
  have sHB10_p6 := HB10_p6.out
  have sHB10_p7 := HB10_p7.out
  have sHB10_p8 := HB10_p8.out
  have sHB10_p10 := HB10_p10.out
  have sHB10_p11 := HB10_p11.out
  have sHB10_p12 := HB10_p12.out
  have sHB10_p13 := HB10_p13.out
  have sHB10_p14 := HB10_p14.out
  have sHB10_p15 := HB10_p15.out
  have sHB10_p16 := HB10_p16.out
  have ltp16 := p16.lt; have szw13 := Ext.size E0
  refine region_gk2 [isV (.agg #[.int .i64 wt, .bool true]), isV (.pointer (some ⟨w.heap.size, 0, none⟩)), isV (.int .i64 lr), isV (.agg #[.int .i64 lr, .bool true]), isV (.agg #[.int .i64 U.1, .bool U.2]), isV (.int .i64 (K : Int)), isV (.agg #[.int .i64 T.1, .bool T.2]), isV (.agg #[.int .i64 N.1, .bool N.2]),
    .one fun v W => ∃ g, v = .pointer (some ⟨g, 0, none⟩) ∧ W12.heap.size ≤ g ∧ Form W g 73 2,
    .two 8 (fun p _ W => NewA W12.heap.size 73 #[.int .i64 N.1, .bool N.2] p W)] W12.heap.size [8] [Tag.any, Tag.any, Tag.any, Tag.any, Tag.any, Tag.any, Tag.any, Tag.any, Tag.any, Tag.new 8] ⟨Good.is _, Good.is _, Good.is _, Good.is _, Good.is _, Good.is _, Good.is _, Good.is _, Good.box _ _ _, tag_newA, trivial⟩ (fun g0 hg => by simp at hg) (E0.s.k (p4.s.k (p6.s.k (p7.s.k (p8.s.k (p10.s.k (p11.s.k (p12.s.k (p13.s.k (p14.s.k (p15.s.k (p16.s)))))))))))) (fun m hm => by simp at hm; subst hm; rfl) (A := ?A13) ?hA13 ?howe13 ?hfin13
  case hA13 =>
   intro vs
   simp only [putAll, Act.put, sA, sZ, sS, Nat.zero_add, Nat.reduceAdd]
   exact rfl
  case howe13 =>
   clear E0 p4 p6 p7 p8 p10 p11 p12 p13 p14 p15 p16
   intro hf
   refine ⟨owesM 0 [] hf rfl rfl (by kernel_rfl) ?_, oM0 1 [] hf rfl rfl, owesM 2 [1] hf rfl rfl (by kernel_rfl) ?_, owesM 3 [2] hf rfl rfl (by kernel_rfl) ?_, owesM 4 [] hf rfl rfl (by kernel_rfl) ?_, oM0 5 [] hf rfl rfl, owesM 6 [3, 4, 5] hf rfl rfl (by kernel_rfl) ?_, owesM 7 [0, 6] hf rfl rfl (by kernel_rfl) ?_, owesN 8 [] hf rfl (by kernel_rfl) ?_, owesP 9 8 [8, 7] hf rfl rfl (by kernel_rfl) rfl (by kernel_rfl) ?_, trivial⟩
   all_goals intro vs W hS hp hx KO hKO
   all_goals simp only [Act.put, sA, sZ, sS] at hKO
   ·have fc0 := hS.1.2.2.2.2.2.1.cell0; have fc1 := hS.1.2.2.2.2.2.1.cell1; go_simp; exact hKO _ W (.refl W) rfl
   ·have e1 := isOf hp.1; simp only [e1] at hKO; have fc0 := BxA.cell (hS.1.2.1) 0 (v := .int .i64 lr) rfl; go_simp; exact hKO _ W (.refl W) rfl
   ·have e2 := isOf hp.1; simp only [e2] at hKO; go_simp
    refine (Tryz.refOf17 lr _).mono ?_
    rintro e W1 ⟨rfl, hE⟩
    exact hKO _ W1 hE rfl
   ·have fc0 := hS.1.2.2.2.2.2.2.2.2.2.2.2.cell0; have fc1 := hS.1.2.2.2.2.2.2.2.2.2.2.2.cell1; go_simp; exact hKO _ W (.refl W) rfl
   ·have e3 := isOf hp.1; have e4 := isOf hp.2.1; have e5 := isOf hp.2.2.1; simp only [e3, e4, e5] at hKO; go_simp
    refine (Tryz.refMul17 K HK.out lr U.1 true U.2 HT.out _ HI.out.1.1 IU.out).mono ?_
    rintro e W1 ⟨rfl, hE⟩
    exact hKO _ W1 hE rfl
   ·have e0 := isOf hp.1; have e6 := isOf hp.2.1; simp only [e0, e6] at hKO; go_simp
    refine (Tryz.refSub17 wt T.1 true T.2 HN.out _ HI.out.2.2.2.2.2 IT.out).mono ?_
    rintro e W1 ⟨rfl, hE⟩
    exact hKO _ W1 hE rfl
   ·have hn := BxA.new W 73 #[.int .i64 0, .bool false]
    have hsz := hS.2
    go_simp
    exact hKO _ _ rfl ⟨_, rfl, hsz, ⟨_, hn, (noU_num _ _), rfl⟩⟩
   ·have q8 := hp.1; have e7 := isOf hp.2.1; simp only [e7] at hKO
    obtain ⟨g, ev, hg, hfo⟩ := q8
    replace ev : vs 8 = _ := ev
    obtain ⟨x0, x1, c0, c1, hfz, W2, hW2, hw, hq⟩ := hfo.put2 (.int .i64 N.1) (.bool N.2) (noU_num _ _)
    have z0 := hfz 0
    have z1 := hfz 1
    simp only [ev] at hKO; go_simp
    rw [← hW2]
    exact hKO _ g rfl hg hw ⟨⟨(Ext.wr hS.1.1 hw (by omega)), (hS.1.2.1.wr hw (by omega)), (hS.1.2.2.1.wr hw (by omega)), (hS.1.2.2.2.1.wr hw (by omega)), (hS.1.2.2.2.2.1.wr hw (by omega)), (hS.1.2.2.2.2.2.1.wr hw (by omega)), (hS.1.2.2.2.2.2.2.1.wr hw (by omega)), (hS.1.2.2.2.2.2.2.2.1.wr hw (by omega)), (hS.1.2.2.2.2.2.2.2.2.1.wr hw (by omega)), (hS.1.2.2.2.2.2.2.2.2.2.1.wr hw (by omega)), (hS.1.2.2.2.2.2.2.2.2.2.2.1.wr hw (by omega)), (hS.1.2.2.2.2.2.2.2.2.2.2.2.wr hw (by omega))⟩, (Nat.le_trans hS.2 hw.apart.size)⟩ ⟨g, ev, hg, hq⟩
  intro vs W13 hS hM hp
  clear szw13 E0 p4 p6 p7 p8 p10 p11 p12 p13 p14 p15 p16
  obtain ⟨⟨E0, p4, p6, p7, p8, p10, p11, p12, p13, p14, p15, p16⟩, sz13⟩ := hS
  obtain ⟨h13_0, h13_1, h13_2, h13_3, h13_4, h13_5, h13_6, h13_7, h13_8, h13_9, -⟩ := hp
  skip
  have hh := h13_9
  obtain ⟨g17, ev17, hg17, p17⟩ := hh
  replace ev17 : vs 8 = _ := ev17
  replace p17 : Bx2 W13 g17 73 (.int .i64 N.1) (.bool N.2) := p17
  clear hM
  simp only [ev17, isOf h13_0, isOf h13_1, isOf h13_2, isOf h13_3, isOf h13_4, isOf h13_5, isOf h13_6, isOf h13_7]
  clear ev17 h13_0 h13_1 h13_2 h13_3 h13_4 h13_5 h13_6 h13_7 h13_8 h13_9; clear sHB2_p4 sHB2_p6 sHB2_p7 sHB2_p8 sHG10 sHB3_p4 sHB3_p6 sHB3_p7 sHB3_p8 sHB3_p10 sHG11 sHB6_p4 sHB6_p6 sHB6_p7 sHB6_p8 sHB6_p10 sHB6_p11 sHG12 sHG13 sHN12_13 sHB7_p4 sHB7_p6 sHB7_p7 sHB7_p8 sHB7_p10 sHB7_p11 sHB7_p12 sHB7_p13 sHG14 sHB8_p4 sHB8_p6 sHB8_p7 sHB8_p8 sHB8_p10 sHB8_p11 sHB8_p12 sHB8_p13 sHB8_p14 sHG15 sHB9_p4 sHB9_p6 sHB9_p7 sHB9_p8 sHB9_p10 sHB9_p11 sHB9_p12 sHB9_p13 sHB9_p14 sHB9_p15 sHG16 sHB10_p4 sHB10_p6 sHB10_p7 sHB10_p8 sHB10_p10 sHB10_p11 sHB10_p12 sHB10_p13 sHB10_p14 sHB10_p15 sHB10_p16
  have HG17 := Lib.hid hg17
  clear hg17
  obtain ⟨k4a, k4b, k4c, k4d, k4e, k4f⟩ := p4.c6
  obtain ⟨k6a, k6b⟩ := p6.c2
  obtain ⟨k7a, k7b, k7c, k7d⟩ := p7.c4
  obtain ⟨k8a, k8b, k8c, k8d, k8e, k8f⟩ := p8.c6
  obtain ⟨k10a, k10b⟩ := p10.c2
  obtain ⟨k11a, k11b⟩ := p11.c2
  obtain ⟨k12a, k12b⟩ := p12.c2
  obtain ⟨k13a, k13b⟩ := p13.c2
  obtain ⟨k14a, k14b⟩ := p14.c2
  obtain ⟨k15a, k15b⟩ := p15.c2
  obtain ⟨k16a, k16b⟩ := p16.c2
  obtain ⟨k17a, k17b⟩ := p17.c2
  go_upto_if 84 with (fail)
  clear k4a k4b k4c k4d k4e k4f k6a k6b k7a k7b k7c k7d k8a k8b k8c k8d k8e k8f k10a k10b k11a k11b k12a k12b k13a k13b k14a k14b k15a k15b k16a k16b k17a k17b
  go_cut [] from 83 to 98 (fun wx => Ext w wx ∧ BxA wx w.heap.size 23 #[.int .i64 lr, .int .i64 b1, .int .i64 b2, .int .i64 eps, .int .i64 wd, .bool ap] ∧ Bx2 wx (w.heap.size + 1) 24 (.int .i64 p0) (.int .i64 p1) ∧ BxA wx (w.heap.size + 1 + 1) 76 #[.int .i64 wt, .int .i64 m, .int .i64 vt, .int .i64 gt] ∧ BxA wx (w.heap.size + 1 + 1 + 1) 74 #[.int .i64 0, .bool false, .int .i64 0, .bool false, .int .i64 0, .bool false] ∧ Bx2 wx g10 73 (.int .i64 wt) (.bool true) ∧ Bx2 wx g11 73 (.int .i64 D.1) (.bool D.2) ∧ Bx2 wx g12 73 (.int .i64 M.1) (.bool M.2) ∧ Bx2 wx g13 73 (.int .i64 V.1) (.bool V.2) ∧ Bx2 wx g14 73 (.int .i64 X.1) (.bool X.2) ∧ Bx2 wx g15 73 (.int .i64 Y.1) (.bool Y.2) ∧ Bx2 wx g16 73 (.int .i64 U.1) (.bool U.2) ∧ Bx2 wx g17 73 (.int .i64 O.1) (.bool O.2))
  case first =>
   cases ap
   ·obtain ⟨k4a, k4b, k4c, k4d, k4e, k4f⟩ := p4.c6
    obtain ⟨k6a, k6b⟩ := p6.c2
    obtain ⟨k7a, k7b, k7c, k7d⟩ := p7.c4
    obtain ⟨k8a, k8b, k8c, k8d, k8e, k8f⟩ := p8.c6
    obtain ⟨k10a, k10b⟩ := p10.c2
    obtain ⟨k11a, k11b⟩ := p11.c2
    obtain ⟨k12a, k12b⟩ := p12.c2
    obtain ⟨k13a, k13b⟩ := p13.c2
    obtain ⟨k14a, k14b⟩ := p14.c2
    obtain ⟨k15a, k15b⟩ := p15.c2
    obtain ⟨k16a, k16b⟩ := p16.c2
    obtain ⟨k17a, k17b⟩ := p17.c2
    go_wp2_with fail
    clear k4a k4b k4c k4d k4e k4f k6a k6b k7a k7b k7c k7d k8a k8b k8c k8d k8e k8f k10a k10b k11a k11b k12a k12b k13a k13b k14a k14b k15a k15b k16a k16b k17a k17b
    have hN := HOF.out (by trivial)
    rw [hN] at p17
    go_meet
    exact ⟨E0, p4, p6, p7, p8, p10, p11, p12, p13, p14, p15, p16, p17⟩
   ·obtain ⟨k4a, k4b, k4c, k4d, k4e, k4f⟩ := p4.c6
    obtain ⟨k6a, k6b⟩ := p6.c2
    obtain ⟨k7a, k7b, k7c, k7d⟩ := p7.c4
    obtain ⟨k8a, k8b, k8c, k8d, k8e, k8f⟩ := p8.c6
    obtain ⟨k10a, k10b⟩ := p10.c2
    obtain ⟨k11a, k11b⟩ := p11.c2
    obtain ⟨k12a, k12b⟩ := p12.c2
    obtain ⟨k13a, k13b⟩ := p13.c2
    obtain ⟨k14a, k14b⟩ := p14.c2
    obtain ⟨k15a, k15b⟩ := p15.c2
    obtain ⟨k16a, k16b⟩ := p16.c2
    obtain ⟨k17a, k17b⟩ := p17.c2
    go_upto_region 12 with (fail)
    clear k4a k4b k4c k4d k4e k4f k6a k6b k7a k7b k7c k7d k8a k8b k8c k8d k8e k8f k10a k10b k11a k11b k12a k12b k13a k13b k14a k14b k15a k15b k16a k16b k17a k17b
    have HB12_p4 := Lib.hid p4.lt
    have HB12_p6 := Lib.hid p6.lt
    have HB12_p7 := Lib.hid p7.lt
    have HB12_p8 := Lib.hid p8.lt
    have HB12_p10 := Lib.hid p10.lt
    have HB12_p11 := Lib.hid p11.lt
    have HB12_p12 := Lib.hid p12.lt
    have HB12_p13 := Lib.hid p13.lt
    have HB12_p14 := Lib.hid p14.lt
    have HB12_p15 := Lib.hid p15.lt
    have HB12_p16 := Lib.hid p16.lt
    have HB12_p17 := Lib.hid p17.lt
    have sHB2_p4 := HB2_p4.out
    have sHB2_p6 := HB2_p6.out
    have sHB2_p7 := HB2_p7.out
    have sHB2_p8 := HB2_p8.out
    have sHG10 := HG10.out
    have sHB3_p4 := HB3_p4.out
    have sHB3_p6 := HB3_p6.out
    have sHB3_p7 := HB3_p7.out
    have sHB3_p8 := HB3_p8.out
    have sHB3_p10 := HB3_p10.out
    have sHG11 := HG11.out
    have sHB6_p4 := HB6_p4.out
    have sHB6_p6 := HB6_p6.out
    have sHB6_p7 := HB6_p7.out
    have sHB6_p8 := HB6_p8.out
    have sHB6_p10 := HB6_p10.out
    have sHB6_p11 := HB6_p11.out
    have sHG12 := HG12.out
    have sHG13 := HG13.out
    have sHN12_13 := HN12_13.out
    have sHB7_p4 := HB7_p4.out
    have sHB7_p6 := HB7_p6.out
    have sHB7_p7 := HB7_p7.out
    have sHB7_p8 := HB7_p8.out
    have sHB7_p10 := HB7_p10.out
    have sHB7_p11 := HB7_p11.out
    have sHB7_p12 := HB7_p12.out
    have sHB7_p13 := HB7_p13.out
    have sHG14 := HG14.out
    have sHB8_p4 := HB8_p4.out
    have sHB8_p6 := HB8_p6.out
    have sHB8_p7 := HB8_p7.out
    have sHB8_p8 := HB8_p8.out
    have sHB8_p10 := HB8_p10.out
    have sHB8_p11 := HB8_p11.out
    have sHB8_p12 := HB8_p12.out
    have sHB8_p13 := HB8_p13.out
    have sHB8_p14 := HB8_p14.out
    have sHG15 := HG15.out
    have sHB9_p4 := HB9_p4.out
    have sHB9_p6 := HB9_p6.out
    have sHB9_p7 := HB9_p7.out
    have sHB9_p8 := HB9_p8.out
    have sHB9_p10 := HB9_p10.out
    have sHB9_p11 := HB9_p11.out
    have sHB9_p12 := HB9_p12.out
    have sHB9_p13 := HB9_p13.out
    have sHB9_p14 := HB9_p14.out
    have sHB9_p15 := HB9_p15.out
    have sHG16 := HG16.out
    have sHB10_p4 := HB10_p4.out
    have sHB10_p6 := HB10_p6.out
    have sHB10_p7 := HB10_p7.out
    have sHB10_p8 := HB10_p8.out
    have sHB10_p10 := HB10_p10.out
    have sHB10_p11 := HB10_p11.out
    have sHB10_p12 := HB10_p12.out
    have sHB10_p13 := HB10_p13.out
    have sHB10_p14 := HB10_p14.out
    have sHB10_p15 := HB10_p15.out
    have sHB10_p16 := HB10_p16.out
    have sHG17 := HG17.out
    have sHB12_p4 := HB12_p4.out
    have sHB12_p6 := HB12_p6.out
    have sHB12_p7 := HB12_p7.out
    have sHB12_p8 := HB12_p8.out
    have sHB12_p10 := HB12_p10.out
    have sHB12_p11 := HB12_p11.out
    have sHB12_p12 := HB12_p12.out
    have sHB12_p13 := HB12_p13.out
    have sHB12_p14 := HB12_p14.out
    have sHB12_p15 := HB12_p15.out
    have sHB12_p16 := HB12_p16.out
    have sHB12_p17 := HB12_p17.out
    have ltp17 := p17.lt; have szw14 := Ext.size E0
    refine region_gk2 [isV (.pointer (some ⟨w.heap.size, 0, none⟩)), isV (.int .i64 lr), isV (.agg #[.int .i64 lr, .bool true]), isV (.pointer (some ⟨w.heap.size, 4, none⟩)), isV (.int .i64 wd), isV (.agg #[.int .i64 wd, .bool true]), isV (.int .i64 (K : Int)), isV (.agg #[.int .i64 Y2.1, .bool Y2.2]),
      .one fun v W => ∃ g, v = .pointer (some ⟨g, 0, none⟩) ∧ W13.heap.size ≤ g ∧ Form W g 73 2,
      .two 8 (fun p _ W => NewA W13.heap.size 73 #[.int .i64 Y2.1, .bool Y2.2] p W)] W13.heap.size [8] [Tag.any, Tag.any, Tag.any, Tag.any, Tag.any, Tag.any, Tag.any, Tag.any, Tag.any, Tag.new 8] ⟨Good.is _, Good.is _, Good.is _, Good.is _, Good.is _, Good.is _, Good.is _, Good.is _, Good.box _ _ _, tag_newA, trivial⟩ (fun g0 hg => by simp at hg) (E0.s.k (p4.s.k (p6.s.k (p7.s.k (p8.s.k (p10.s.k (p11.s.k (p12.s.k (p13.s.k (p14.s.k (p15.s.k (p16.s.k (p17.s))))))))))))) (fun m hm => by simp at hm; subst hm; rfl) (A := ?A14) ?hA14 ?howe14 ?hfin14
    case hA14 =>
     intro vs
     simp only [putAll, Act.put, sA, sZ, sS, Nat.zero_add, Nat.reduceAdd]
     exact rfl
    case howe14 =>
     clear E0 p4 p6 p7 p8 p10 p11 p12 p13 p14 p15 p16 p17
     intro hf
     refine ⟨oM0 0 [] hf rfl rfl, owesM 1 [0] hf rfl rfl (by kernel_rfl) ?_, owesM 2 [1] hf rfl rfl (by kernel_rfl) ?_, oM0 3 [] hf rfl rfl, owesM 4 [3] hf rfl rfl (by kernel_rfl) ?_, owesM 5 [4] hf rfl rfl (by kernel_rfl) ?_, oM0 6 [] hf rfl rfl, owesM 7 [2, 5, 6] hf rfl rfl (by kernel_rfl) ?_, owesN 8 [] hf rfl (by kernel_rfl) ?_, owesP 9 8 [8, 7] hf rfl rfl (by kernel_rfl) rfl (by kernel_rfl) ?_, trivial⟩
     all_goals intro vs W hS hp hx KO hKO
     all_goals simp only [Act.put, sA, sZ, sS] at hKO
     ·have e0 := isOf hp.1; simp only [e0] at hKO; have fc0 := BxA.cell (hS.1.2.1) 0 (v := .int .i64 lr) rfl; go_simp; exact hKO _ W (.refl W) rfl
     ·have e1 := isOf hp.1; simp only [e1] at hKO; go_simp
      refine (Tryz.refOf17 lr _).mono ?_
      rintro e W1 ⟨rfl, hE⟩
      exact hKO _ W1 hE rfl
     ·have e3 := isOf hp.1; simp only [e3] at hKO; have fc4 := BxA.cell (hS.1.2.1) 4 (v := .int .i64 wd) rfl; go_simp; exact hKO _ W (.refl W) rfl
     ·have e4 := isOf hp.1; simp only [e4] at hKO; go_simp
      refine (Tryz.refOf17 wd _).mono ?_
      rintro e W1 ⟨rfl, hE⟩
      exact hKO _ W1 hE rfl
     ·have e2 := isOf hp.1; have e5 := isOf hp.2.1; have e6 := isOf hp.2.2.1; simp only [e2, e5, e6] at hKO; go_simp
      refine (Tryz.refMul17 K HK.out lr wd true true HY2.out _ HI.out.1.1 HI.out.1.2.2).mono ?_
      rintro e W1 ⟨rfl, hE⟩
      exact hKO _ W1 hE rfl
     ·have hn := BxA.new W 73 #[.int .i64 0, .bool false]
      have hsz := hS.2
      go_simp
      exact hKO _ _ rfl ⟨_, rfl, hsz, ⟨_, hn, (noU_num _ _), rfl⟩⟩
     ·have q8 := hp.1; have e7 := isOf hp.2.1; simp only [e7] at hKO
      obtain ⟨g, ev, hg, hfo⟩ := q8
      replace ev : vs 8 = _ := ev
      obtain ⟨x0, x1, c0, c1, hfz, W2, hW2, hw, hq⟩ := hfo.put2 (.int .i64 Y2.1) (.bool Y2.2) (noU_num _ _)
      have z0 := hfz 0
      have z1 := hfz 1
      simp only [ev] at hKO; go_simp
      rw [← hW2]
      exact hKO _ g rfl hg hw ⟨⟨(Ext.wr hS.1.1 hw (by omega)), (hS.1.2.1.wr hw (by omega)), (hS.1.2.2.1.wr hw (by omega)), (hS.1.2.2.2.1.wr hw (by omega)), (hS.1.2.2.2.2.1.wr hw (by omega)), (hS.1.2.2.2.2.2.1.wr hw (by omega)), (hS.1.2.2.2.2.2.2.1.wr hw (by omega)), (hS.1.2.2.2.2.2.2.2.1.wr hw (by omega)), (hS.1.2.2.2.2.2.2.2.2.1.wr hw (by omega)), (hS.1.2.2.2.2.2.2.2.2.2.1.wr hw (by omega)), (hS.1.2.2.2.2.2.2.2.2.2.2.1.wr hw (by omega)), (hS.1.2.2.2.2.2.2.2.2.2.2.2.1.wr hw (by omega)), (hS.1.2.2.2.2.2.2.2.2.2.2.2.2.wr hw (by omega))⟩, (Nat.le_trans hS.2 hw.apart.size)⟩ ⟨g, ev, hg, hq⟩
    intro vs W14 hS hM hp
    clear szw14 E0 p4 p6 p7 p8 p10 p11 p12 p13 p14 p15 p16 p17
    obtain ⟨⟨E0, p4, p6, p7, p8, p10, p11, p12, p13, p14, p15, p16, p17⟩, sz14⟩ := hS
    obtain ⟨h14_0, h14_1, h14_2, h14_3, h14_4, h14_5, h14_6, h14_7, h14_8, h14_9, -⟩ := hp
    skip
    have hh := h14_9
    obtain ⟨g18, ev18, hg18, p18⟩ := hh
    replace ev18 : vs 8 = _ := ev18
    replace p18 : Bx2 W14 g18 73 (.int .i64 Y2.1) (.bool Y2.2) := p18
    clear hM
    simp only [ev18, isOf h14_0, isOf h14_1, isOf h14_2, isOf h14_3, isOf h14_4, isOf h14_5, isOf h14_6, isOf h14_7]
    clear ev18 h14_0 h14_1 h14_2 h14_3 h14_4 h14_5 h14_6 h14_7 h14_8 h14_9; clear sHB2_p4 sHB2_p6 sHB2_p7 sHB2_p8 sHG10 sHB3_p4 sHB3_p6 sHB3_p7 sHB3_p8 sHB3_p10 sHG11 sHB6_p4 sHB6_p6 sHB6_p7 sHB6_p8 sHB6_p10 sHB6_p11 sHG12 sHG13 sHN12_13 sHB7_p4 sHB7_p6 sHB7_p7 sHB7_p8 sHB7_p10 sHB7_p11 sHB7_p12 sHB7_p13 sHG14 sHB8_p4 sHB8_p6 sHB8_p7 sHB8_p8 sHB8_p10 sHB8_p11 sHB8_p12 sHB8_p13 sHB8_p14 sHG15 sHB9_p4 sHB9_p6 sHB9_p7 sHB9_p8 sHB9_p10 sHB9_p11 sHB9_p12 sHB9_p13 sHB9_p14 sHB9_p15 sHG16 sHB10_p4 sHB10_p6 sHB10_p7 sHB10_p8 sHB10_p10 sHB10_p11 sHB10_p12 sHB10_p13 sHB10_p14 sHB10_p15 sHB10_p16 sHG17 sHB12_p4 sHB12_p6 sHB12_p7 sHB12_p8 sHB12_p10 sHB12_p11 sHB12_p12 sHB12_p13 sHB12_p14 sHB12_p15 sHB12_p16 sHB12_p17
    have HG18 := Lib.hid hg18
    clear hg18
    obtain ⟨k4a, k4b, k4c, k4d, k4e, k4f⟩ := p4.c6
    obtain ⟨k6a, k6b⟩ := p6.c2
    obtain ⟨k7a, k7b, k7c, k7d⟩ := p7.c4
    obtain ⟨k8a, k8b, k8c, k8d, k8e, k8f⟩ := p8.c6
    obtain ⟨k10a, k10b⟩ := p10.c2
    obtain ⟨k11a, k11b⟩ := p11.c2
    obtain ⟨k12a, k12b⟩ := p12.c2
    obtain ⟨k13a, k13b⟩ := p13.c2
    obtain ⟨k14a, k14b⟩ := p14.c2
    obtain ⟨k15a, k15b⟩ := p15.c2
    obtain ⟨k16a, k16b⟩ := p16.c2
    obtain ⟨k17a, k17b⟩ := p17.c2
    obtain ⟨k18a, k18b⟩ := p18.c2
    go_upto_region 13 with (fail)
    clear k4a k4b k4c k4d k4e k4f k6a k6b k7a k7b k7c k7d k8a k8b k8c k8d k8e k8f k10a k10b k11a k11b k12a k12b k13a k13b k14a k14b k15a k15b k16a k16b k17a k17b k18a k18b
    have hr : Rest (fun W => Bx2 W g17 73 (.int .i64 N.1) (.bool N.2)) g17 := ⟨fun W W1 h hE => h.ext hE⟩
    have hRR := p17
    have fop17 := p17.formN
    clear p17
    have HO13_p17 := Lib.hid fop17.lt
    have sHB2_p4 := HB2_p4.out
    have sHB2_p6 := HB2_p6.out
    have sHB2_p7 := HB2_p7.out
    have sHB2_p8 := HB2_p8.out
    have sHG10 := HG10.out
    have sHB3_p4 := HB3_p4.out
    have sHB3_p6 := HB3_p6.out
    have sHB3_p7 := HB3_p7.out
    have sHB3_p8 := HB3_p8.out
    have sHB3_p10 := HB3_p10.out
    have sHG11 := HG11.out
    have sHB6_p4 := HB6_p4.out
    have sHB6_p6 := HB6_p6.out
    have sHB6_p7 := HB6_p7.out
    have sHB6_p8 := HB6_p8.out
    have sHB6_p10 := HB6_p10.out
    have sHB6_p11 := HB6_p11.out
    have sHG12 := HG12.out
    have sHG13 := HG13.out
    have sHN12_13 := HN12_13.out
    have sHB7_p4 := HB7_p4.out
    have sHB7_p6 := HB7_p6.out
    have sHB7_p7 := HB7_p7.out
    have sHB7_p8 := HB7_p8.out
    have sHB7_p10 := HB7_p10.out
    have sHB7_p11 := HB7_p11.out
    have sHB7_p12 := HB7_p12.out
    have sHB7_p13 := HB7_p13.out
    have sHG14 := HG14.out
    have sHB8_p4 := HB8_p4.out
    have sHB8_p6 := HB8_p6.out
    have sHB8_p7 := HB8_p7.out
    have sHB8_p8 := HB8_p8.out
    have sHB8_p10 := HB8_p10.out
    have sHB8_p11 := HB8_p11.out
    have sHB8_p12 := HB8_p12.out
    have sHB8_p13 := HB8_p13.out
    have sHB8_p14 := HB8_p14.out
    have sHG15 := HG15.out
    have sHB9_p4 := HB9_p4.out
    have sHB9_p6 := HB9_p6.out
    have sHB9_p7 := HB9_p7.out
    have sHB9_p8 := HB9_p8.out
    have sHB9_p10 := HB9_p10.out
    have sHB9_p11 := HB9_p11.out
    have sHB9_p12 := HB9_p12.out
    have sHB9_p13 := HB9_p13.out
    have sHB9_p14 := HB9_p14.out
    have sHB9_p15 := HB9_p15.out
    have sHG16 := HG16.out
    have sHB10_p4 := HB10_p4.out
    have sHB10_p6 := HB10_p6.out
    have sHB10_p7 := HB10_p7.out
    have sHB10_p8 := HB10_p8.out
    have sHB10_p10 := HB10_p10.out
    have sHB10_p11 := HB10_p11.out
    have sHB10_p12 := HB10_p12.out
    have sHB10_p13 := HB10_p13.out
    have sHB10_p14 := HB10_p14.out
    have sHB10_p15 := HB10_p15.out
    have sHB10_p16 := HB10_p16.out
    have sHG17 := HG17.out
    have sHB12_p4 := HB12_p4.out
    have sHB12_p6 := HB12_p6.out
    have sHB12_p7 := HB12_p7.out
    have sHB12_p8 := HB12_p8.out
    have sHB12_p10 := HB12_p10.out
    have sHB12_p11 := HB12_p11.out
    have sHB12_p12 := HB12_p12.out
    have sHB12_p13 := HB12_p13.out
    have sHB12_p14 := HB12_p14.out
    have sHB12_p15 := HB12_p15.out
    have sHB12_p16 := HB12_p16.out
    have sHB12_p17 := HB12_p17.out
    have sHG18 := HG18.out
    have sHO13_p17 := HO13_p17.out
    have ltp18 := p18.lt; have szw15 := Ext.size E0
    refine region_go3 [isV (.agg #[.int .i64 N.1, .bool N.2]), isV (.agg #[.int .i64 Y2.1, .bool Y2.2]), isV (.agg #[.int .i64 wt, .bool true]), isV (.int .i64 (K : Int)), isV (.agg #[.int .i64 Z.1, .bool Z.2]), isV (.agg #[.int .i64 O.1, .bool O.2]),
      .own fun W => Bx2 W g17 73 (.int .i64 O.1) (.bool O.2)]
     (fun W => Ext w W ∧ BxA W w.heap.size 23 #[.int .i64 lr, .int .i64 b1, .int .i64 b2, .int .i64 eps, .int .i64 wd, .bool true] ∧ Bx2 W (w.heap.size + 1) 24 (.int .i64 p0) (.int .i64 p1) ∧ BxA W (w.heap.size + 1 + 1) 76 #[.int .i64 wt, .int .i64 m, .int .i64 vt, .int .i64 gt] ∧ BxA W (w.heap.size + 1 + 1 + 1) 74 #[.int .i64 0, .bool false, .int .i64 0, .bool false, .int .i64 0, .bool false] ∧ Bx2 W g10 73 (.int .i64 wt) (.bool true) ∧ Bx2 W g11 73 (.int .i64 D.1) (.bool D.2) ∧ Bx2 W g12 73 (.int .i64 M.1) (.bool M.2) ∧ Bx2 W g13 73 (.int .i64 V.1) (.bool V.2) ∧ Bx2 W g14 73 (.int .i64 X.1) (.bool X.2) ∧ Bx2 W g15 73 (.int .i64 Y.1) (.bool Y.2) ∧ Bx2 W g16 73 (.int .i64 U.1) (.bool U.2) ∧ Form W g17 73 2 ∧ Bx2 W g18 73 (.int .i64 Y2.1) (.bool Y2.2) ∧ W14.heap.size ≤ W.heap.size) W14.heap.size [] [Tag.any, Tag.any, Tag.any, Tag.any, Tag.any, Tag.any, Tag.old (g17)] ⟨Good.is _, Good.is _, Good.is _, Good.is _, Good.is _, Good.is _, tag_bx2, trivial⟩ (fun g0 hg => by simp at hg; omega)
     (fun W W1 hS hE => ⟨(Ext.trans hS.1 hE), (hS.2.1.ext hE), (hS.2.2.1.ext hE), (hS.2.2.2.1.ext hE), (hS.2.2.2.2.1.ext hE), (hS.2.2.2.2.2.1.ext hE), (hS.2.2.2.2.2.2.1.ext hE), (hS.2.2.2.2.2.2.2.1.ext hE), (hS.2.2.2.2.2.2.2.2.1.ext hE), (hS.2.2.2.2.2.2.2.2.2.1.ext hE), (hS.2.2.2.2.2.2.2.2.2.2.1.ext hE), (hS.2.2.2.2.2.2.2.2.2.2.2.1.ext hE), (hS.2.2.2.2.2.2.2.2.2.2.2.2.1.ext hE), (hS.2.2.2.2.2.2.2.2.2.2.2.2.2.1.ext hE), (Nat.le_trans hS.2.2.2.2.2.2.2.2.2.2.2.2.2.2 (Ext.size hE))⟩) ⟨E0, p4, p6, p7, p8, p10, p11, p12, p13, p14, p15, p16, fop17, p18, Nat.le_refl _⟩ (fun m hm => by simp at hm) 6 hr hRR (by kernel_rfl) (by kernel_rfl) (by kernel_rfl) (by kernel_rfl) (A := ?A15) ?hA15 ?howe15 ?hfin15
    case hA15 =>
     intro vs
     simp only [putAll, Act.put, sA, sZ, sS, Nat.zero_add, Nat.reduceAdd]
     exact rfl
    case howe15 =>
     clear E0 p4 p6 p7 p8 p10 p11 p12 p13 p14 p15 p16 fop17 p18
     intro hf
     refine ⟨owesR3 0 [] hf hr rfl rfl (by kernel_rfl) rfl rfl rfl (by kernel_rfl) ?_, owesM3 1 [] hf hr rfl rfl rfl (by kernel_rfl) ?_, owesM3 2 [] hf hr rfl rfl rfl (by kernel_rfl) ?_, owesM3 3 [] hf hr rfl rfl rfl (by kernel_rfl) ?_, owesM3 4 [1, 2, 3] hf hr rfl rfl rfl (by kernel_rfl) ?_, owesM3 5 [0, 4] hf hr rfl rfl rfl (by kernel_rfl) ?_, owesL3 (g17) [5] hf rfl (by omega) ⟨.inr trivial, .inr trivial, .inr trivial, .inr trivial, .inr trivial, .inr trivial, .inl rfl, trivial⟩ rfl (by kernel_rfl) ?_, trivial⟩
     all_goals intro vs W hS hp hx KO hKO
     all_goals simp only [Act.put, sA, sZ, sS] at hKO
     ·have hb0 : Bx2 W g17 73 (.int .i64 N.1) (.bool N.2) := hS.2
      have fc0 := hb0.cell0; have fc1 := hb0.cell1; clear hb0; go_simp; exact hKO _ W (.refl W) rfl
     ·have fc0 := hS.2.2.2.2.2.2.2.2.2.2.2.2.2.1.cell0; have fc1 := hS.2.2.2.2.2.2.2.2.2.2.2.2.2.1.cell1; go_simp; exact hKO _ W (.refl W) rfl
     ·have fc0 := hS.2.2.2.2.2.1.cell0; have fc1 := hS.2.2.2.2.2.1.cell1; go_simp; exact hKO _ W (.refl W) rfl
     ·go_simp; exact hKO _ W (.refl W) rfl
     ·have e1 := isOf hp.1; have e2 := isOf hp.2.1; have e3 := isOf hp.2.2.1; simp only [e1, e2, e3] at hKO; go_simp
      refine (Tryz.refMul17 K HK.out Y2.1 wt Y2.2 true HZ.out _ IY2.out HI.out.2.2.2.2.2).mono ?_
      rintro e W1 ⟨rfl, hE⟩
      exact hKO _ W1 hE rfl
     ·have e0 := isOf hp.1; have e4 := isOf hp.2.1; simp only [e0, e4] at hKO; go_simp
      refine (Tryz.refSub17 N.1 Z.1 N.2 Z.2 (HOT.out (by trivial)) _ IN.out IZ.out).mono ?_
      rintro e W1 ⟨rfl, hE⟩
      exact hKO _ W1 hE rfl
     ·have e5 := isOf hp.1; simp only [e5] at hKO
      have hfo := hS.2.2.2.2.2.2.2.2.2.2.2.2.1
      obtain ⟨x0, x1, c0, c1, hfz, W2, hW2, hw, hq⟩ := hfo.put2 (.int .i64 O.1) (.bool O.2) (noU_num _ _)
      have z0 := hfz 0
      have z1 := hfz 1
      clear hfo; go_simp
      rw [← hW2]
      exact hKO _ hw ⟨(Ext.wr hS.1 hw (by omega)), (hS.2.1.wr hw (by omega)), (hS.2.2.1.wr hw (by omega)), (hS.2.2.2.1.wr hw (by omega)), (hS.2.2.2.2.1.wr hw (by omega)), (hS.2.2.2.2.2.1.wr hw (by omega)), (hS.2.2.2.2.2.2.1.wr hw (by omega)), (hS.2.2.2.2.2.2.2.1.wr hw (by omega)), (hS.2.2.2.2.2.2.2.2.1.wr hw (by omega)), (hS.2.2.2.2.2.2.2.2.2.1.wr hw (by omega)), (hS.2.2.2.2.2.2.2.2.2.2.1.wr hw (by omega)), (hS.2.2.2.2.2.2.2.2.2.2.2.1.wr hw (by omega)), (hS.2.2.2.2.2.2.2.2.2.2.2.2.1.wr hw), (hS.2.2.2.2.2.2.2.2.2.2.2.2.2.1.wr hw (by omega)), (Nat.le_trans hS.2.2.2.2.2.2.2.2.2.2.2.2.2.2 hw.apart.size)⟩ hq
    intro vs W15 hS hM hp
    clear szw15 E0 p4 p6 p7 p8 p10 p11 p12 p13 p14 p15 p16 fop17 p18
    obtain ⟨E0, p4, p6, p7, p8, p10, p11, p12, p13, p14, p15, p16, fop17, p18, sz15⟩ := hS
    obtain ⟨h15_0, h15_1, h15_2, h15_3, h15_4, h15_5, h15_6, -⟩ := hp
    have hh := h15_6
    have p17 : Bx2 W15 g17 73 (.int .i64 O.1) (.bool O.2) := hh
    clear fop17
    clear hM
    simp only [isOf h15_0, isOf h15_1, isOf h15_2, isOf h15_3, isOf h15_4, isOf h15_5]
    clear h15_0 h15_1 h15_2 h15_3 h15_4 h15_5 h15_6; clear hr; clear sHB2_p4 sHB2_p6 sHB2_p7 sHB2_p8 sHG10 sHB3_p4 sHB3_p6 sHB3_p7 sHB3_p8 sHB3_p10 sHG11 sHB6_p4 sHB6_p6 sHB6_p7 sHB6_p8 sHB6_p10 sHB6_p11 sHG12 sHG13 sHN12_13 sHB7_p4 sHB7_p6 sHB7_p7 sHB7_p8 sHB7_p10 sHB7_p11 sHB7_p12 sHB7_p13 sHG14 sHB8_p4 sHB8_p6 sHB8_p7 sHB8_p8 sHB8_p10 sHB8_p11 sHB8_p12 sHB8_p13 sHB8_p14 sHG15 sHB9_p4 sHB9_p6 sHB9_p7 sHB9_p8 sHB9_p10 sHB9_p11 sHB9_p12 sHB9_p13 sHB9_p14 sHB9_p15 sHG16 sHB10_p4 sHB10_p6 sHB10_p7 sHB10_p8 sHB10_p10 sHB10_p11 sHB10_p12 sHB10_p13 sHB10_p14 sHB10_p15 sHB10_p16 sHG17 sHB12_p4 sHB12_p6 sHB12_p7 sHB12_p8 sHB12_p10 sHB12_p11 sHB12_p12 sHB12_p13 sHB12_p14 sHB12_p15 sHB12_p16 sHB12_p17 sHG18 sHO13_p17
    obtain ⟨k4a, k4b, k4c, k4d, k4e, k4f⟩ := p4.c6
    obtain ⟨k6a, k6b⟩ := p6.c2
    obtain ⟨k7a, k7b, k7c, k7d⟩ := p7.c4
    obtain ⟨k8a, k8b, k8c, k8d, k8e, k8f⟩ := p8.c6
    obtain ⟨k10a, k10b⟩ := p10.c2
    obtain ⟨k11a, k11b⟩ := p11.c2
    obtain ⟨k12a, k12b⟩ := p12.c2
    obtain ⟨k13a, k13b⟩ := p13.c2
    obtain ⟨k14a, k14b⟩ := p14.c2
    obtain ⟨k15a, k15b⟩ := p15.c2
    obtain ⟨k16a, k16b⟩ := p16.c2
    obtain ⟨k18a, k18b⟩ := p18.c2
    obtain ⟨k17a, k17b⟩ := p17.c2
    go_wp2_with fail
    clear k4a k4b k4c k4d k4e k4f k6a k6b k7a k7b k7c k7d k8a k8b k8c k8d k8e k8f k10a k10b k11a k11b k12a k12b k13a k13b k14a k14b k15a k15b k16a k16b k18a k18b k17a k17b
    go_meet
    exact ⟨E0, p4, p6, p7, p8, p10, p11, p12, p13, p14, p15, p16, p17⟩
  case rest =>
   clear E0 p4 p6 p7 p8 p10 p11 p12 p13 p14 p15 p16 p17
   obtain ⟨E0, p4, p6, p7, p8, p10, p11, p12, p13, p14, p15, p16, p17⟩ := hcut
   have fo : Form wc (w.heap.size + 1 + 1 + 1) 74 6 := ⟨_, p8, noU_num3 0 false 0 false 0 false, rfl⟩
   have z8_0 := p8.frozN 0
   have z8_1 := p8.frozN 1
   have z8_2 := p8.frozN 2
   have z8_3 := p8.frozN 3
   have z8_4 := p8.frozN 4
   have z8_5 := p8.frozN 5
   obtain ⟨k4a, k4b, k4c, k4d, k4e, k4f⟩ := p4.c6
   obtain ⟨k6a, k6b⟩ := p6.c2
   obtain ⟨k7a, k7b, k7c, k7d⟩ := p7.c4
   obtain ⟨k8a, k8b, k8c, k8d, k8e, k8f⟩ := p8.c6
   obtain ⟨k10a, k10b⟩ := p10.c2
   obtain ⟨k11a, k11b⟩ := p11.c2
   obtain ⟨k12a, k12b⟩ := p12.c2
   obtain ⟨k13a, k13b⟩ := p13.c2
   obtain ⟨k14a, k14b⟩ := p14.c2
   obtain ⟨k15a, k15b⟩ := p15.c2
   obtain ⟨k16a, k16b⟩ := p16.c2
   obtain ⟨k17a, k17b⟩ := p17.c2
   go_wp2; clear k4a k4b k4c k4d k4e k4f k6a k6b k7a k7b k7c k7d k8a k8b k8c k8d k8e k8f k10a k10b k11a k11b k12a k12b k13a k13b k14a k14b k15a k15b k16a k16b k17a k17b
   obtain ⟨-, -, -, -, -, -, -, -, -, -, -, -, -, W2, hW2, hw, hq⟩ := fo.put6 (.int .i64 O.1) (.bool O.2) (.int .i64 M.1) (.bool M.2) (.int .i64 V.1) (.bool V.2) (noU_num3 _ _ _ _ _ _)
   rw [← hW2]
   have kq0 := BxA.cell hq 0 (v := .int .i64 O.1) rfl
   have kq1 := BxA.cell hq 1 (v := .bool O.2) rfl
   have kq2 := BxA.cell hq 2 (v := .int .i64 M.1) rfl
   have kq3 := BxA.cell hq 3 (v := .bool M.2) rfl
   have kq4 := BxA.cell hq 4 (v := .int .i64 V.1) rfl
   have kq5 := BxA.cell hq 5 (v := .bool V.2) rfl
   exact bodyPost_ret (v := .agg #[.int .i64 O.1, .bool O.2, .int .i64 M.1, .bool M.2, .int .i64 V.1, .bool V.2]) (by simp [results, Tryz.results34, go_sem, kq0, kq1, kq2, kq3, kq4, kq5]) rfl ⟨rfl, Ext.wr E0 hw (by omega)⟩


end Go.Rt
