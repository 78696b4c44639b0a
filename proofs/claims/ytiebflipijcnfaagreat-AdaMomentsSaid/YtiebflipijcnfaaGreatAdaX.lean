/-
 Adafactor: which are right, and a step of rows, or why there is none, by the program.
-/
import Derived.Test.YtiebflipijcnfaaGreatJF
import Derived.Test.YtiebflipijcnfaaGreatJD
namespace Go.Rt
open Go Go.RowKit Go.Proofs
theorem rightAda_no {lr ep d f:Int} (h:¬ 0≤f∨¬ f≤40∨¬ 0≤lr∨¬ 0 < ep∨¬ oneZ f.toNat≤d):rightAda ⟨lr,ep,d⟩ f=false:=Bool.eq_false_iff.2 fun k=>by
 have h2:=rightAda_iff.1 k
 dsimp only at h2
 omega
theorem rightAda_yes {lr ep d f:Int} (h:0≤f∧f≤40∧0≤lr∧0 < ep∧oneZ f.toNat≤d):rightAda ⟨lr,ep,d⟩ f=true:=rightAda_iff.2 h
theorem shareB_iff {t f:Int}:shareB t f=true↔(1≤t∧t≤1000000∧0≤f∧f≤40):=by unfold shareB;exact decide_eq_true_iff
def AdaOut (w w':World) (e:Ending) (A:AdaP) (f t c:Int) (lw lm lv lg:List Int):Prop:=
 Ext w w'∧∃ a1 n1 c1 a2 n2 c2 a3 n3 c3,e=.returned (.tuple #[.agg #[.slice a1 n1 c1,.slice a2 n2 c2,.slice a3 n3 c3,.slice none 0 0],.int .i64 (adaE A f t c lw lm lv lg)]) ∧
  Iw w.heap.size w'.heap.size w' a1 n1 c1 (stepW A f t c lw lm lv lg)∧Iw w.heap.size w'.heap.size w' a2 n2 c2 (stepM A f t c lw lm lv lg)∧Iw w.heap.size w'.heap.size w' a3 n3 c3 (stepV A f t c lw lm lv lg)
theorem AdaOut.no {w w':World} {A:AdaP} {f t c:Int} {lw lm lv lg:List Int} {E:Int} (hE:Ext w w') (h:adaE A f t c lw lm lv lg=E) (h0:E≠0):AdaOut w w' (.returned (.tuple #[.agg #[.slice none 0 0,.slice none 0 0,.slice none 0 0,.slice none 0 0],.int .i64 E])) A f t c lw lm lv lg:=by
 refine⟨hE,none,0,0,none,0,0,none,0,0,by rw[h],?_,?_,?_⟩
 ·unfold stepW;rw[if_neg (by rw[h];exact h0)];exact Iw.nil _ _ _
 ·unfold stepM;rw[if_neg (by rw[h];exact h0)];exact Iw.nil _ _ _
 ·unfold stepV;rw[if_neg (by rw[h];exact h0)];exact Iw.nil _ _ _
theorem adaE_arg {A:AdaP} {f t c:Int} {lw lm lv lg:List Int} (h:rightAda A f=false∨shareB t f=false∨¬ 1≤c∨negB lm=true∨negB lv=true):adaE A f t c lw lm lv lg=1:=by
 rw[adaE_one]
 rcases h with h | h | h | h | h <;> simp[h]
theorem adaE_is {A:AdaP} {f t c:Int} {lw lm lv lg:List Int} (h1:rightAda A f=true) (h2:shareB t f=true) (h3:1≤c) (h4:negB lm=false) (h5:negB lv=false):
  adaE A f t c lw lm lv lg=if shapeB lw.length c.toNat lm.length lv.length lg.length=false then 5 else if adaB f.toNat A (shareZ t f) c.toNat lw lm lv lg=false then 2 else 0:=by
 unfold adaE
 rw[if_neg (by simp[h1,h2,h3,h4,h5])]
theorem shapeB_iff {n cl m v g:Nat}:shapeB n cl m v g=true↔(g=n∧n % cl=0∧(if facB n cl=true then m=n / cl∧v=cl else m=0∧v=n)):=by
 unfold shapeB
 cases facB n cl <;> simp[and_assoc]
theorem shapeB_no {n cl m v g:Nat} (h:¬ (g=n∧n % cl=0∧(if facB n cl=true then m=n / cl∧v=cl else m=0∧v=n))):shapeB n cl m v g=false:=Bool.eq_false_iff.2 fun k=>h (shapeB_iff.1 k)
theorem shareZ_le {t f:Int} (h:shareB t f=true):0≤shareZ t f∧shareZ t f≤oneZ f.toNat:=by
 have h2:=shareB_iff.1 h
 have h3:=share_le (t:=t.toNat) (by omega) f.toNat
 unfold shareZ oneZ
 omega
set_option maxRecDepth 100000 in
set_option maxHeartbeats 16000000 in
theorem Tryz.adaRight (lr ep d f:Int) (w:World):
  Calls Tryz.prog 14 #[.agg #[.int .i64 lr,.int .i64 ep,.int .i64 d],.int .i64 f] w fun e w'=>e=.returned (.bool (rightAda ⟨lr,ep,d⟩ f))∧Ext w w':=by
 by_cases g0:0≤f
 ·have H0:=Lib.hid g0
  clear g0
  by_cases g1:f≤40
  ·have H1:=Lib.hid g1
   clear g1
   obtain⟨K,rfl⟩:=Int.eq_ofNat_of_zero_le H0.out
   have HK:Hid (K≤40):=Lib.hid (by have:=H1.out;omega)
   by_cases g2:0≤lr
   ·have H2:=Lib.hid g2
    clear g2
    by_cases g3:0 < ep
    ·have H3:=Lib.hid g3
     clear g3
     by_cases g4:oneZ K≤d
     ·have H4:=Lib.hid g4
      clear g4
      obtain⟨W0,hW0,E0,p2⟩:=boxed1 w 23 #[.int .i64 lr,.int .i64 ep,.int .i64 d]
      replace p2:=p2.b3
      go_enter Tryz.func14,Tryz.ntmps14
      obtain⟨k2a,k2b,k2c⟩:=p2.c3
      go_upto_region 1 with (fail)
      rw[← hW0]
      clear hW0;clear k2a k2b k2c
      have HR:Hid (rightAda ⟨lr,ep,d⟩ (K:Int)=true):=Lib.hid (rightAda_yes ⟨H0.out,H1.out,H2.out,H3.out,by rw[Int.toNat_natCast];exact H4.out⟩)
      have ltp2:=p2.lt;have szw1:=Ext.size E0
      refine region_gk [isV (.int .i64 (K:Int)),isV (.bool true),isV (.bool true),isV (.int .i64 (K:Int)),isV (.bool true),isV (.bool true),isV (.bool true),isV (.pointer (some ⟨w.heap.size,0,none⟩)),isV (.int .i64 lr),isV (.bool true),isV (.bool true),isV (.bool true),isV (.pointer (some ⟨w.heap.size,1,none⟩)),isV (.int .i64 ep),isV (.bool true),isV (.bool true),isV (.bool true),isV (.pointer (some ⟨w.heap.size,2,none⟩)),isV (.int .i64 d),isV (.int .i64 (K:Int)),isV (.int .i64 (oneZ K)),isV (.bool true),isV (.bool true),
        .one fun v _=>v=.bool true] ⟨Good.is _,Good.is _,Good.is _,Good.is _,Good.is _,Good.is _,Good.is _,Good.is _,Good.is _,Good.is _,Good.is _,Good.is _,Good.is _,Good.is _,Good.is _,Good.is _,Good.is _,Good.is _,Good.is _,Good.is _,Good.is _,Good.is _,Good.is _,Good.is _,trivial⟩ (E0.s.k (p2.s)) (A:=?A1) ?hA1 ?howe1 ?hfin1
      case hA1=>
       intro vs
       simp only[putAll,Act.put,sA,sZ,sS,Nat.zero_add,Nat.reduceAdd]
       exact rfl
      case howe1=>
       clear E0 p2
       intro hf
       refine⟨oP0 0 [] hf rfl,oE 1 [0] hf rfl ?_,oP1 2 [1] hf rfl,oP1 3 [2] hf rfl,oE 4 [2,3] hf rfl ?_,oP2 5 [2,4] hf rfl,oP1 6 [5] hf rfl,oP1 7 [6] hf rfl,oE 8 [6,7] hf rfl ?_,oE 9 [6,8] hf rfl ?_,oP2 10 [6,9] hf rfl,oP1 11 [10] hf rfl,oP1 12 [11] hf rfl,oE 13 [11,12] hf rfl ?_,oE 14 [11,13] hf rfl ?_,oP2 15 [11,14] hf rfl,oP1 16 [15] hf rfl,oP1 17 [16] hf rfl,oE 18 [16,17] hf rfl ?_,oP1 19 [16] hf rfl,oE 20 [16,19] hf rfl ?_,oE 21 [16,18,20] hf rfl ?_,oP2 22 [16,21] hf rfl,oP1 23 [22] hf rfl,trivial⟩
       all_goals intro vs W hS hp hx KO hKO
       all_goals simp only[Act.put,sA,sZ,sS]at hKO
       ·have e0:=isOf hp.1;simp only[e0]at hKO;go_simp;exact hKO _ W (Ext.refl W) (by first | rfl | exact congrArg Value.bool (decide_eq_true H0.out))
       ·have e2:=isOf hp.1;have e3:=isOf hp.2.1;simp only[e2,e3]at hKO;go_simp;exact hKO _ W (Ext.refl W) (by first | rfl | exact congrArg Value.bool (decide_eq_true H1.out))
       ·have e6:=isOf hp.1;have e7:=isOf hp.2.1;simp only[e6,e7]at hKO;have fc0:=hS.1.2.cell0;go_simp;exact hKO _ W (.refl W) rfl
       ·have e6:=isOf hp.1;have e8:=isOf hp.2.1;simp only[e6,e8]at hKO;go_simp;exact hKO _ W (Ext.refl W) (by first | rfl | exact congrArg Value.bool (decide_eq_true H2.out))
       ·have e11:=isOf hp.1;have e12:=isOf hp.2.1;simp only[e11,e12]at hKO;have fc1:=hS.1.2.cell1;go_simp;exact hKO _ W (.refl W) rfl
       ·have e11:=isOf hp.1;have e13:=isOf hp.2.1;simp only[e11,e13]at hKO;go_simp;exact hKO _ W (Ext.refl W) (by first | rfl | exact congrArg Value.bool (decide_eq_true H3.out))
       ·have e16:=isOf hp.1;have e17:=isOf hp.2.1;simp only[e16,e17]at hKO;have fc2:=hS.1.2.cell2;go_simp;exact hKO _ W (.refl W) rfl
       ·have e16:=isOf hp.1;have e19:=isOf hp.2.1;simp only[e16,e19]at hKO;go_simp
        refine(Tryz.adaOne K HK.out _).mono ?_
        rintro e W1 ⟨rfl,hE⟩
        exact hKO _ W1 hE rfl
       ·have e16:=isOf hp.1;have e18:=isOf hp.2.1;have e20:=isOf hp.2.2.1;simp only[e16,e18,e20]at hKO;go_simp;exact hKO _ W (Ext.refl W) (by first | rfl | exact congrArg Value.bool (decide_eq_true H4.out))
      intro vs W1 hS hp
      clear szw1 E0 p2
      obtain⟨⟨E0,p2⟩,sz1⟩:=hS
      obtain⟨h1_0,h1_1,h1_2,h1_3,h1_4,h1_5,h1_6,h1_7,h1_8,h1_9,h1_10,h1_11,h1_12,h1_13,h1_14,h1_15,h1_16,h1_17,h1_18,h1_19,h1_20,h1_21,h1_22,h1_23,-⟩:=hp
      simp only[isOf h1_0,isOf h1_1,isOf h1_2,isOf h1_3,isOf h1_4,isOf h1_5,isOf h1_6,isOf h1_7,isOf h1_8,isOf h1_9,isOf h1_10,isOf h1_11,isOf h1_12,isOf h1_13,isOf h1_14,isOf h1_15,isOf h1_16,isOf h1_17,isOf h1_18,isOf h1_19,isOf h1_20,isOf h1_21,isOf h1_22,isOf h1_23]
      clear h1_0 h1_1 h1_2 h1_3 h1_4 h1_5 h1_6 h1_7 h1_8 h1_9 h1_10 h1_11 h1_12 h1_13 h1_14 h1_15 h1_16 h1_17 h1_18 h1_19 h1_20 h1_21 h1_22 h1_23
      obtain⟨k2a,k2b,k2c⟩:=p2.c3
      go_wp2;go_ret
      exact⟨ret_b HR.out.symm,E0⟩
     ·have H4:=Lib.hid g4
      clear g4
      obtain⟨W0,hW0,E0,p2⟩:=boxed1 w 23 #[.int .i64 lr,.int .i64 ep,.int .i64 d]
      replace p2:=p2.b3
      go_enter Tryz.func14,Tryz.ntmps14
      obtain⟨k2a,k2b,k2c⟩:=p2.c3
      go_upto_region 1 with (fail)
      rw[← hW0]
      clear hW0;clear k2a k2b k2c
      have HR:Hid (rightAda ⟨lr,ep,d⟩ (K:Int)=false):=Lib.hid (rightAda_no (.inr (.inr (.inr (.inr (by rw[Int.toNat_natCast];exact H4.out))))))
      have ltp2:=p2.lt;have szw2:=Ext.size E0
      refine region_gk [isV (.int .i64 (K:Int)),isV (.bool true),isV (.bool true),isV (.int .i64 (K:Int)),isV (.bool true),isV (.bool true),isV (.bool true),isV (.pointer (some ⟨w.heap.size,0,none⟩)),isV (.int .i64 lr),isV (.bool true),isV (.bool true),isV (.bool true),isV (.pointer (some ⟨w.heap.size,1,none⟩)),isV (.int .i64 ep),isV (.bool true),isV (.bool true),isV (.bool true),isV (.pointer (some ⟨w.heap.size,2,none⟩)),isV (.int .i64 d),isV (.int .i64 (K:Int)),isV (.int .i64 (oneZ K)),isV (.bool false),isV (.bool false),
        .one fun v _=>v=.bool false] ⟨Good.is _,Good.is _,Good.is _,Good.is _,Good.is _,Good.is _,Good.is _,Good.is _,Good.is _,Good.is _,Good.is _,Good.is _,Good.is _,Good.is _,Good.is _,Good.is _,Good.is _,Good.is _,Good.is _,Good.is _,Good.is _,Good.is _,Good.is _,Good.is _,trivial⟩ (E0.s.k (p2.s)) (A:=?A2) ?hA2 ?howe2 ?hfin2
      case hA2=>
       intro vs
       simp only[putAll,Act.put,sA,sZ,sS,Nat.zero_add,Nat.reduceAdd]
       exact rfl
      case howe2=>
       clear E0 p2
       intro hf
       refine⟨oP0 0 [] hf rfl,oE 1 [0] hf rfl ?_,oP1 2 [1] hf rfl,oP1 3 [2] hf rfl,oE 4 [2,3] hf rfl ?_,oP2 5 [2,4] hf rfl,oP1 6 [5] hf rfl,oP1 7 [6] hf rfl,oE 8 [6,7] hf rfl ?_,oE 9 [6,8] hf rfl ?_,oP2 10 [6,9] hf rfl,oP1 11 [10] hf rfl,oP1 12 [11] hf rfl,oE 13 [11,12] hf rfl ?_,oE 14 [11,13] hf rfl ?_,oP2 15 [11,14] hf rfl,oP1 16 [15] hf rfl,oP1 17 [16] hf rfl,oE 18 [16,17] hf rfl ?_,oP1 19 [16] hf rfl,oE 20 [16,19] hf rfl ?_,oE 21 [16,18,20] hf rfl ?_,oP2 22 [16,21] hf rfl,oP1 23 [22] hf rfl,trivial⟩
       all_goals intro vs W hS hp hx KO hKO
       all_goals simp only[Act.put,sA,sZ,sS]at hKO
       ·have e0:=isOf hp.1;simp only[e0]at hKO;go_simp;exact hKO _ W (Ext.refl W) (by first | rfl | exact congrArg Value.bool (decide_eq_true H0.out))
       ·have e2:=isOf hp.1;have e3:=isOf hp.2.1;simp only[e2,e3]at hKO;go_simp;exact hKO _ W (Ext.refl W) (by first | rfl | exact congrArg Value.bool (decide_eq_true H1.out))
       ·have e6:=isOf hp.1;have e7:=isOf hp.2.1;simp only[e6,e7]at hKO;have fc0:=hS.1.2.cell0;go_simp;exact hKO _ W (.refl W) rfl
       ·have e6:=isOf hp.1;have e8:=isOf hp.2.1;simp only[e6,e8]at hKO;go_simp;exact hKO _ W (Ext.refl W) (by first | rfl | exact congrArg Value.bool (decide_eq_true H2.out))
       ·have e11:=isOf hp.1;have e12:=isOf hp.2.1;simp only[e11,e12]at hKO;have fc1:=hS.1.2.cell1;go_simp;exact hKO _ W (.refl W) rfl
       ·have e11:=isOf hp.1;have e13:=isOf hp.2.1;simp only[e11,e13]at hKO;go_simp;exact hKO _ W (Ext.refl W) (by first | rfl | exact congrArg Value.bool (decide_eq_true H3.out))
       ·have e16:=isOf hp.1;have e17:=isOf hp.2.1;simp only[e16,e17]at hKO;have fc2:=hS.1.2.cell2;go_simp;exact hKO _ W (.refl W) rfl
       ·have e16:=isOf hp.1;have e19:=isOf hp.2.1;simp only[e16,e19]at hKO;go_simp
        refine(Tryz.adaOne K HK.out _).mono ?_
        rintro e W1 ⟨rfl,hE⟩
        exact hKO _ W1 hE rfl
       ·have e16:=isOf hp.1;have e18:=isOf hp.2.1;have e20:=isOf hp.2.2.1;simp only[e16,e18,e20]at hKO;go_simp;exact hKO _ W (Ext.refl W) (by first | rfl | exact congrArg Value.bool (decide_eq_false H4.out))
      intro vs W2 hS hp
      clear szw2 E0 p2
      obtain⟨⟨E0,p2⟩,sz2⟩:=hS
      obtain⟨h2_0,h2_1,h2_2,h2_3,h2_4,h2_5,h2_6,h2_7,h2_8,h2_9,h2_10,h2_11,h2_12,h2_13,h2_14,h2_15,h2_16,h2_17,h2_18,h2_19,h2_20,h2_21,h2_22,h2_23,-⟩:=hp
      simp only[isOf h2_0,isOf h2_1,isOf h2_2,isOf h2_3,isOf h2_4,isOf h2_5,isOf h2_6,isOf h2_7,isOf h2_8,isOf h2_9,isOf h2_10,isOf h2_11,isOf h2_12,isOf h2_13,isOf h2_14,isOf h2_15,isOf h2_16,isOf h2_17,isOf h2_18,isOf h2_19,isOf h2_20,isOf h2_21,isOf h2_22,isOf h2_23]
      clear h2_0 h2_1 h2_2 h2_3 h2_4 h2_5 h2_6 h2_7 h2_8 h2_9 h2_10 h2_11 h2_12 h2_13 h2_14 h2_15 h2_16 h2_17 h2_18 h2_19 h2_20 h2_21 h2_22 h2_23
      obtain⟨k2a,k2b,k2c⟩:=p2.c3
      go_wp2;go_ret
      exact⟨ret_b HR.out.symm,E0⟩
    ·have H3:=Lib.hid g3
     clear g3
     obtain⟨W0,hW0,E0,p2⟩:=boxed1 w 23 #[.int .i64 lr,.int .i64 ep,.int .i64 d]
     replace p2:=p2.b3
     go_enter Tryz.func14,Tryz.ntmps14
     obtain⟨k2a,k2b,k2c⟩:=p2.c3
     go_upto_region 1 with (fail)
     rw[← hW0]
     clear hW0;clear k2a k2b k2c
     have HR:Hid (rightAda ⟨lr,ep,d⟩ (K:Int)=false):=Lib.hid (rightAda_no (.inr (.inr (.inr (.inl H3.out)))))
     have ltp2:=p2.lt;have szw3:=Ext.size E0
     refine region_gk [isV (.int .i64 (K:Int)),isV (.bool true),isV (.bool true),isV (.int .i64 (K:Int)),isV (.bool true),isV (.bool true),isV (.bool true),isV (.pointer (some ⟨w.heap.size,0,none⟩)),isV (.int .i64 lr),isV (.bool true),isV (.bool true),isV (.bool true),isV (.pointer (some ⟨w.heap.size,1,none⟩)),isV (.int .i64 ep),isV (.bool false),isV (.bool false),isV (.bool false),isV (undef),isV (undef),isV (undef),isV (undef),isV (undef),isV (.bool false),
       .one fun v _=>v=.bool false] ⟨Good.is _,Good.is _,Good.is _,Good.is _,Good.is _,Good.is _,Good.is _,Good.is _,Good.is _,Good.is _,Good.is _,Good.is _,Good.is _,Good.is _,Good.is _,Good.is _,Good.is _,Good.is _,Good.is _,Good.is _,Good.is _,Good.is _,Good.is _,Good.is _,trivial⟩ (E0.s.k (p2.s)) (A:=?A3) ?hA3 ?howe3 ?hfin3
     case hA3=>
      intro vs
      simp only[putAll,Act.put,sA,sZ,sS,Nat.zero_add,Nat.reduceAdd]
      exact rfl
     case howe3=>
      clear E0 p2
      intro hf
      refine⟨oP0 0 [] hf rfl,oE 1 [0] hf rfl ?_,oP1 2 [1] hf rfl,oP1 3 [2] hf rfl,oE 4 [2,3] hf rfl ?_,oP2 5 [2,4] hf rfl,oP1 6 [5] hf rfl,oP1 7 [6] hf rfl,oE 8 [6,7] hf rfl ?_,oE 9 [6,8] hf rfl ?_,oP2 10 [6,9] hf rfl,oP1 11 [10] hf rfl,oP1 12 [11] hf rfl,oE 13 [11,12] hf rfl ?_,oE 14 [11,13] hf rfl ?_,oP2 15 [11,14] hf rfl,oP1 16 [15] hf rfl,oP1 17 [16] hf rfl,oP1 18 [16] hf rfl,oP1 19 [16] hf rfl,oP1 20 [16] hf rfl,oP1 21 [16] hf rfl,oP2 22 [16,21] hf rfl,oP1 23 [22] hf rfl,trivial⟩
      all_goals intro vs W hS hp hx KO hKO
      all_goals simp only[Act.put,sA,sZ,sS]at hKO
      ·have e0:=isOf hp.1;simp only[e0]at hKO;go_simp;exact hKO _ W (Ext.refl W) (by first | rfl | exact congrArg Value.bool (decide_eq_true H0.out))
      ·have e2:=isOf hp.1;have e3:=isOf hp.2.1;simp only[e2,e3]at hKO;go_simp;exact hKO _ W (Ext.refl W) (by first | rfl | exact congrArg Value.bool (decide_eq_true H1.out))
      ·have e6:=isOf hp.1;have e7:=isOf hp.2.1;simp only[e6,e7]at hKO;have fc0:=hS.1.2.cell0;go_simp;exact hKO _ W (.refl W) rfl
      ·have e6:=isOf hp.1;have e8:=isOf hp.2.1;simp only[e6,e8]at hKO;go_simp;exact hKO _ W (Ext.refl W) (by first | rfl | exact congrArg Value.bool (decide_eq_true H2.out))
      ·have e11:=isOf hp.1;have e12:=isOf hp.2.1;simp only[e11,e12]at hKO;have fc1:=hS.1.2.cell1;go_simp;exact hKO _ W (.refl W) rfl
      ·have e11:=isOf hp.1;have e13:=isOf hp.2.1;simp only[e11,e13]at hKO;go_simp;exact hKO _ W (Ext.refl W) (by first | rfl | exact congrArg Value.bool (decide_eq_false H3.out))
     intro vs W3 hS hp
     clear szw3 E0 p2
     obtain⟨⟨E0,p2⟩,sz3⟩:=hS
     obtain⟨h3_0,h3_1,h3_2,h3_3,h3_4,h3_5,h3_6,h3_7,h3_8,h3_9,h3_10,h3_11,h3_12,h3_13,h3_14,h3_15,h3_16,h3_17,h3_18,h3_19,h3_20,h3_21,h3_22,h3_23,-⟩:=hp
     simp only[isOf h3_0,isOf h3_1,isOf h3_2,isOf h3_3,isOf h3_4,isOf h3_5,isOf h3_6,isOf h3_7,isOf h3_8,isOf h3_9,isOf h3_10,isOf h3_11,isOf h3_12,isOf h3_13,isOf h3_14,isOf h3_15,isOf h3_16,isOf h3_17,isOf h3_18,isOf h3_19,isOf h3_20,isOf h3_21,isOf h3_22,isOf h3_23]
     clear h3_0 h3_1 h3_2 h3_3 h3_4 h3_5 h3_6 h3_7 h3_8 h3_9 h3_10 h3_11 h3_12 h3_13 h3_14 h3_15 h3_16 h3_17 h3_18 h3_19 h3_20 h3_21 h3_22 h3_23
     obtain⟨k2a,k2b,k2c⟩:=p2.c3
     go_wp2;go_ret
     exact⟨ret_b HR.out.symm,E0⟩
   ·have H2:=Lib.hid g2
    clear g2
    obtain⟨W0,hW0,E0,p2⟩:=boxed1 w 23 #[.int .i64 lr,.int .i64 ep,.int .i64 d]
    replace p2:=p2.b3
    go_enter Tryz.func14,Tryz.ntmps14
    obtain⟨k2a,k2b,k2c⟩:=p2.c3
    go_upto_region 1 with (fail)
    rw[← hW0]
    clear hW0;clear k2a k2b k2c
    have HR:Hid (rightAda ⟨lr,ep,d⟩ (K:Int)=false):=Lib.hid (rightAda_no (.inr (.inr (.inl H2.out))))
    have ltp2:=p2.lt;have szw4:=Ext.size E0
    refine region_gk [isV (.int .i64 (K:Int)),isV (.bool true),isV (.bool true),isV (.int .i64 (K:Int)),isV (.bool true),isV (.bool true),isV (.bool true),isV (.pointer (some ⟨w.heap.size,0,none⟩)),isV (.int .i64 lr),isV (.bool false),isV (.bool false),isV (.bool false),isV (undef),isV (undef),isV (undef),isV (.bool false),isV (.bool false),isV (undef),isV (undef),isV (undef),isV (undef),isV (undef),isV (.bool false),
      .one fun v _=>v=.bool false] ⟨Good.is _,Good.is _,Good.is _,Good.is _,Good.is _,Good.is _,Good.is _,Good.is _,Good.is _,Good.is _,Good.is _,Good.is _,Good.is _,Good.is _,Good.is _,Good.is _,Good.is _,Good.is _,Good.is _,Good.is _,Good.is _,Good.is _,Good.is _,Good.is _,trivial⟩ (E0.s.k (p2.s)) (A:=?A4) ?hA4 ?howe4 ?hfin4
    case hA4=>
     intro vs
     simp only[putAll,Act.put,sA,sZ,sS,Nat.zero_add,Nat.reduceAdd]
     exact rfl
    case howe4=>
     clear E0 p2
     intro hf
     refine⟨oP0 0 [] hf rfl,oE 1 [0] hf rfl ?_,oP1 2 [1] hf rfl,oP1 3 [2] hf rfl,oE 4 [2,3] hf rfl ?_,oP2 5 [2,4] hf rfl,oP1 6 [5] hf rfl,oP1 7 [6] hf rfl,oE 8 [6,7] hf rfl ?_,oE 9 [6,8] hf rfl ?_,oP2 10 [6,9] hf rfl,oP1 11 [10] hf rfl,oP1 12 [11] hf rfl,oP1 13 [11] hf rfl,oP1 14 [11] hf rfl,oP2 15 [11,14] hf rfl,oP1 16 [15] hf rfl,oP1 17 [16] hf rfl,oP1 18 [16] hf rfl,oP1 19 [16] hf rfl,oP1 20 [16] hf rfl,oP1 21 [16] hf rfl,oP2 22 [16,21] hf rfl,oP1 23 [22] hf rfl,trivial⟩
     all_goals intro vs W hS hp hx KO hKO
     all_goals simp only[Act.put,sA,sZ,sS]at hKO
     ·have e0:=isOf hp.1;simp only[e0]at hKO;go_simp;exact hKO _ W (Ext.refl W) (by first | rfl | exact congrArg Value.bool (decide_eq_true H0.out))
     ·have e2:=isOf hp.1;have e3:=isOf hp.2.1;simp only[e2,e3]at hKO;go_simp;exact hKO _ W (Ext.refl W) (by first | rfl | exact congrArg Value.bool (decide_eq_true H1.out))
     ·have e6:=isOf hp.1;have e7:=isOf hp.2.1;simp only[e6,e7]at hKO;have fc0:=hS.1.2.cell0;go_simp;exact hKO _ W (.refl W) rfl
     ·have e6:=isOf hp.1;have e8:=isOf hp.2.1;simp only[e6,e8]at hKO;go_simp;exact hKO _ W (Ext.refl W) (by first | rfl | exact congrArg Value.bool (decide_eq_false H2.out))
    intro vs W4 hS hp
    clear szw4 E0 p2
    obtain⟨⟨E0,p2⟩,sz4⟩:=hS
    obtain⟨h4_0,h4_1,h4_2,h4_3,h4_4,h4_5,h4_6,h4_7,h4_8,h4_9,h4_10,h4_11,h4_12,h4_13,h4_14,h4_15,h4_16,h4_17,h4_18,h4_19,h4_20,h4_21,h4_22,h4_23,-⟩:=hp
    simp only[isOf h4_0,isOf h4_1,isOf h4_2,isOf h4_3,isOf h4_4,isOf h4_5,isOf h4_6,isOf h4_7,isOf h4_8,isOf h4_9,isOf h4_10,isOf h4_11,isOf h4_12,isOf h4_13,isOf h4_14,isOf h4_15,isOf h4_16,isOf h4_17,isOf h4_18,isOf h4_19,isOf h4_20,isOf h4_21,isOf h4_22,isOf h4_23]
    clear h4_0 h4_1 h4_2 h4_3 h4_4 h4_5 h4_6 h4_7 h4_8 h4_9 h4_10 h4_11 h4_12 h4_13 h4_14 h4_15 h4_16 h4_17 h4_18 h4_19 h4_20 h4_21 h4_22 h4_23
    obtain⟨k2a,k2b,k2c⟩:=p2.c3
    go_wp2;go_ret
    exact⟨ret_b HR.out.symm,E0⟩
  ·have H1:=Lib.hid g1
   clear g1
   obtain⟨W0,hW0,E0,p2⟩:=boxed1 w 23 #[.int .i64 lr,.int .i64 ep,.int .i64 d]
   replace p2:=p2.b3
   go_enter Tryz.func14,Tryz.ntmps14
   obtain⟨k2a,k2b,k2c⟩:=p2.c3
   go_upto_region 1 with (fail)
   rw[← hW0]
   clear hW0;clear k2a k2b k2c
   have HR:Hid (rightAda ⟨lr,ep,d⟩ f=false):=Lib.hid (rightAda_no (.inr (.inl H1.out)))
   have ltp2:=p2.lt;have szw5:=Ext.size E0
   refine region_gk [isV (.int .i64 f),isV (.bool true),isV (.bool true),isV (.int .i64 f),isV (.bool false),isV (.bool false),isV (.bool false),isV (undef),isV (undef),isV (undef),isV (.bool false),isV (.bool false),isV (undef),isV (undef),isV (undef),isV (.bool false),isV (.bool false),isV (undef),isV (undef),isV (undef),isV (undef),isV (undef),isV (.bool false),
     .one fun v _=>v=.bool false] ⟨Good.is _,Good.is _,Good.is _,Good.is _,Good.is _,Good.is _,Good.is _,Good.is _,Good.is _,Good.is _,Good.is _,Good.is _,Good.is _,Good.is _,Good.is _,Good.is _,Good.is _,Good.is _,Good.is _,Good.is _,Good.is _,Good.is _,Good.is _,Good.is _,trivial⟩ (E0.s.k (p2.s)) (A:=?A5) ?hA5 ?howe5 ?hfin5
   case hA5=>
    intro vs
    simp only[putAll,Act.put,sA,sZ,sS,Nat.zero_add,Nat.reduceAdd]
    exact rfl
   case howe5=>
    clear E0 p2
    intro hf
    refine⟨oP0 0 [] hf rfl,oE 1 [0] hf rfl ?_,oP1 2 [1] hf rfl,oP1 3 [2] hf rfl,oE 4 [2,3] hf rfl ?_,oP2 5 [2,4] hf rfl,oP1 6 [5] hf rfl,oP1 7 [6] hf rfl,oP1 8 [6] hf rfl,oP1 9 [6] hf rfl,oP2 10 [6,9] hf rfl,oP1 11 [10] hf rfl,oP1 12 [11] hf rfl,oP1 13 [11] hf rfl,oP1 14 [11] hf rfl,oP2 15 [11,14] hf rfl,oP1 16 [15] hf rfl,oP1 17 [16] hf rfl,oP1 18 [16] hf rfl,oP1 19 [16] hf rfl,oP1 20 [16] hf rfl,oP1 21 [16] hf rfl,oP2 22 [16,21] hf rfl,oP1 23 [22] hf rfl,trivial⟩
    all_goals intro vs W hS hp hx KO hKO
    all_goals simp only[Act.put,sA,sZ,sS]at hKO
    ·have e0:=isOf hp.1;simp only[e0]at hKO;go_simp;exact hKO _ W (Ext.refl W) (by first | rfl | exact congrArg Value.bool (decide_eq_true H0.out))
    ·have e2:=isOf hp.1;have e3:=isOf hp.2.1;simp only[e2,e3]at hKO;go_simp;exact hKO _ W (Ext.refl W) (by first | rfl | exact congrArg Value.bool (decide_eq_false H1.out))
   intro vs W5 hS hp
   clear szw5 E0 p2
   obtain⟨⟨E0,p2⟩,sz5⟩:=hS
   obtain⟨h5_0,h5_1,h5_2,h5_3,h5_4,h5_5,h5_6,h5_7,h5_8,h5_9,h5_10,h5_11,h5_12,h5_13,h5_14,h5_15,h5_16,h5_17,h5_18,h5_19,h5_20,h5_21,h5_22,h5_23,-⟩:=hp
   simp only[isOf h5_0,isOf h5_1,isOf h5_2,isOf h5_3,isOf h5_4,isOf h5_5,isOf h5_6,isOf h5_7,isOf h5_8,isOf h5_9,isOf h5_10,isOf h5_11,isOf h5_12,isOf h5_13,isOf h5_14,isOf h5_15,isOf h5_16,isOf h5_17,isOf h5_18,isOf h5_19,isOf h5_20,isOf h5_21,isOf h5_22,isOf h5_23]
   clear h5_0 h5_1 h5_2 h5_3 h5_4 h5_5 h5_6 h5_7 h5_8 h5_9 h5_10 h5_11 h5_12 h5_13 h5_14 h5_15 h5_16 h5_17 h5_18 h5_19 h5_20 h5_21 h5_22 h5_23
   obtain⟨k2a,k2b,k2c⟩:=p2.c3
   go_wp2;go_ret
   exact⟨ret_b HR.out.symm,E0⟩
 ·have H0:=Lib.hid g0
  clear g0
  obtain⟨W0,hW0,E0,p2⟩:=boxed1 w 23 #[.int .i64 lr,.int .i64 ep,.int .i64 d]
  replace p2:=p2.b3
  go_enter Tryz.func14,Tryz.ntmps14
  obtain⟨k2a,k2b,k2c⟩:=p2.c3
  go_upto_region 1 with (fail)
  rw[← hW0]
  clear hW0;clear k2a k2b k2c
  have HR:Hid (rightAda ⟨lr,ep,d⟩ f=false):=Lib.hid (rightAda_no (.inl H0.out))
  have ltp2:=p2.lt;have szw6:=Ext.size E0
  refine region_gk [isV (.int .i64 f),isV (.bool false),isV (.bool false),isV (undef),isV (undef),isV (.bool false),isV (.bool false),isV (undef),isV (undef),isV (undef),isV (.bool false),isV (.bool false),isV (undef),isV (undef),isV (undef),isV (.bool false),isV (.bool false),isV (undef),isV (undef),isV (undef),isV (undef),isV (undef),isV (.bool false),
    .one fun v _=>v=.bool false] ⟨Good.is _,Good.is _,Good.is _,Good.is _,Good.is _,Good.is _,Good.is _,Good.is _,Good.is _,Good.is _,Good.is _,Good.is _,Good.is _,Good.is _,Good.is _,Good.is _,Good.is _,Good.is _,Good.is _,Good.is _,Good.is _,Good.is _,Good.is _,Good.is _,trivial⟩ (E0.s.k (p2.s)) (A:=?A6) ?hA6 ?howe6 ?hfin6
  case hA6=>
   intro vs
   simp only[putAll,Act.put,sA,sZ,sS,Nat.zero_add,Nat.reduceAdd]
   exact rfl
  case howe6=>
   clear E0 p2
   intro hf
   refine⟨oP0 0 [] hf rfl,oE 1 [0] hf rfl ?_,oP1 2 [1] hf rfl,oP1 3 [2] hf rfl,oP1 4 [2] hf rfl,oP2 5 [2,4] hf rfl,oP1 6 [5] hf rfl,oP1 7 [6] hf rfl,oP1 8 [6] hf rfl,oP1 9 [6] hf rfl,oP2 10 [6,9] hf rfl,oP1 11 [10] hf rfl,oP1 12 [11] hf rfl,oP1 13 [11] hf rfl,oP1 14 [11] hf rfl,oP2 15 [11,14] hf rfl,oP1 16 [15] hf rfl,oP1 17 [16] hf rfl,oP1 18 [16] hf rfl,oP1 19 [16] hf rfl,oP1 20 [16] hf rfl,oP1 21 [16] hf rfl,oP2 22 [16,21] hf rfl,oP1 23 [22] hf rfl,trivial⟩
   all_goals intro vs W hS hp hx KO hKO
   all_goals simp only[Act.put,sA,sZ,sS]at hKO
   ·have e0:=isOf hp.1;simp only[e0]at hKO;go_simp;exact hKO _ W (Ext.refl W) (by first | rfl | exact congrArg Value.bool (decide_eq_false H0.out))
  intro vs W6 hS hp
  clear szw6 E0 p2
  obtain⟨⟨E0,p2⟩,sz6⟩:=hS
  obtain⟨h6_0,h6_1,h6_2,h6_3,h6_4,h6_5,h6_6,h6_7,h6_8,h6_9,h6_10,h6_11,h6_12,h6_13,h6_14,h6_15,h6_16,h6_17,h6_18,h6_19,h6_20,h6_21,h6_22,h6_23,-⟩:=hp
  simp only[isOf h6_0,isOf h6_1,isOf h6_2,isOf h6_3,isOf h6_4,isOf h6_5,isOf h6_6,isOf h6_7,isOf h6_8,isOf h6_9,isOf h6_10,isOf h6_11,isOf h6_12,isOf h6_13,isOf h6_14,isOf h6_15,isOf h6_16,isOf h6_17,isOf h6_18,isOf h6_19,isOf h6_20,isOf h6_21,isOf h6_22,isOf h6_23]
  clear h6_0 h6_1 h6_2 h6_3 h6_4 h6_5 h6_6 h6_7 h6_8 h6_9 h6_10 h6_11 h6_12 h6_13 h6_14 h6_15 h6_16 h6_17 h6_18 h6_19 h6_20 h6_21 h6_22 h6_23
  obtain⟨k2a,k2b,k2c⟩:=p2.c3
  go_wp2;go_ret
  exact⟨ret_b HR.out.symm,E0⟩
set_option maxRecDepth 100000 in
set_option maxHeartbeats 16000000 in
theorem Tryz.adaStepIs {a0 a1 a2 a3:Option Addr} {n0 n1 n2 n3 c0 c1 c2 c3:Nat} {lw lm lv lg:List Int} (lr ep d f tt c:Int) (w:World) (q1:I64 lr) (q2:I64 ep) (q3:I64 d) (q4:I64 c) (hn:n0≤40)
  (hi0:Iw 0 w.heap.size w a0 n0 c0 lw) (hi1:Iw 0 w.heap.size w a1 n1 c1 lm) (hi2:Iw 0 w.heap.size w a2 n2 c2 lv) (hi3:Iw 0 w.heap.size w a3 n3 c3 lg):
  Calls Tryz.prog 6 #[.agg #[.int .i64 lr,.int .i64 ep,.int .i64 d],.int .i64 f,.agg #[.int .i64 tt,.int .i64 c],.agg #[.slice a0 n0 c0,.slice a1 n1 c1,.slice a2 n2 c2,.slice a3 n3 c3]] w fun e w'=>AdaOut w w' e ⟨lr,ep,d⟩ f tt c lw lm lv lg:=by
 have HQ:=Lib.hid (And.intro q1 (And.intro q2 (And.intro q3 q4)))
 have HN:=Lib.hid hn
 have HLN:=Lib.hid (And.intro hi0.len (And.intro hi1.len (And.intro hi2.len hi3.len)))
 have HCP:=Lib.hid (And.intro hi1.cap (And.intro hi2.cap hi3.cap))
 clear q1 q2 q3 q4 hn
 obtain⟨W0,hW0,E0,p4,p6,p7,p8⟩:=boxed4 w 23 #[.int .i64 lr,.int .i64 ep,.int .i64 d] 24 #[.int .i64 tt,.int .i64 c] 27 #[.slice a0 n0 c0,.slice a1 n1 c1,.slice a2 n2 c2,.slice a3 n3 c3] 27 #[.slice none 0 0,.slice none 0 0,.slice none 0 0,.slice none 0 0]
 replace p4:=p4.b3
 replace p6:=p6.b2
 replace hi0:Iw 0 w.heap.size W0 a0 n0 c0 (lw):=hi0.ext E0
 replace hi1:Iw 0 w.heap.size W0 a1 n1 c1 (lm):=hi1.ext E0
 replace hi2:Iw 0 w.heap.size W0 a2 n2 c2 (lv):=hi2.ext E0
 replace hi3:Iw 0 w.heap.size W0 a3 n3 c3 (lg):=hi3.ext E0
 go_enter Tryz.func6,Tryz.ntmps6
 cases hs:shareB tt f
 ·have HS:=Lib.hid hs
  have hsn:tt < 1∨1000000 < tt∨f < 0∨40 < f:=Classical.byContradiction fun k=>Bool.eq_false_iff.1 hs (shareB_iff.2 (by omega))
  clear hs
  obtain⟨k4a,k4b,k4c⟩:=p4.c3
  obtain⟨k6a,k6b⟩:=p6.c2
  obtain⟨k7a,k7b,k7c,k7d⟩:=p7.c4
  obtain⟨k8a,k8b,k8c,k8d⟩:=p8.c4
  go_wp2_with fail
  rw[← hW0]
  clear hW0;clear k4a k4b k4c k6a k6b k7a k7b k7c k7d k8a k8b k8c k8d
  refine(Tryz.adaShareNo tt f _ hsn).mono ?_
  clear hsn
  rintro e V1 ⟨rfl,rfl⟩
  cases hr:rightAda ⟨lr,ep,d⟩ f
  ·have HR:=Lib.hid hr
   clear hr
   obtain⟨k4a,k4b,k4c⟩:=p4.c3
   obtain⟨k6a,k6b⟩:=p6.c2
   obtain⟨k7a,k7b,k7c,k7d⟩:=p7.c4
   obtain⟨k8a,k8b,k8c,k8d⟩:=p8.c4
   go_upto_region 3 with (fail)
   clear k4a k4b k4c k6a k6b k7a k7b k7c k7d k8a k8b k8c k8d;have ltp4:=p4.lt;have ltp6:=p6.lt;have ltp7:=p7.lt;have ltp8:=p8.lt;have szw7:=Ext.size E0
   refine region_gs [isV (.agg #[.int .i64 lr,.int .i64 ep,.int .i64 d]),isV (.int .i64 f),isV (.bool false),isV (.bool true),isV (.bool true),isV (undef),isV (undef),isV (.bool true),isV (.bool true),isV (undef),isV (undef),isV (undef),isV (.bool true),isV (.bool true),isV (undef),isV (undef),isV (undef),isV (undef),isV (.bool true),isV (.bool true),isV (undef),isV (undef),isV (undef),isV (undef),isV (.bool true)]
    (fun W=>Ext w W∧Iw 0 w.heap.size W a0 n0 c0 (lw)∧Iw 0 w.heap.size W a1 n1 c1 (lm)∧Iw 0 w.heap.size W a2 n2 c2 (lv)∧Iw 0 w.heap.size W a3 n3 c3 (lg)∧Bx3 W w.heap.size 23 (.int .i64 lr) (.int .i64 ep) (.int .i64 d)∧Bx2 W (w.heap.size+1) 24 (.int .i64 tt) (.int .i64 c)∧BxA W (w.heap.size+1+1) 27 #[.slice a0 n0 c0,.slice a1 n1 c1,.slice a2 n2 c2,.slice a3 n3 c3]∧BxA W (w.heap.size+1+1+1) 27 #[.slice none 0 0,.slice none 0 0,.slice none 0 0,.slice none 0 0]∧W0.heap.size≤W.heap.size) ⟨Good.is _,Good.is _,Good.is _,Good.is _,Good.is _,Good.is _,Good.is _,Good.is _,Good.is _,Good.is _,Good.is _,Good.is _,Good.is _,Good.is _,Good.is _,Good.is _,Good.is _,Good.is _,Good.is _,Good.is _,Good.is _,Good.is _,Good.is _,Good.is _,Good.is _,trivial⟩
    ⟨E0,hi0,hi1,hi2,hi3,p4,p6,p7,p8,Nat.le_refl _⟩ (A:=?A7) ?hA7 ?howe7 ?hfin7
   case hA7=>
    intro vs
    simp only[putAll,Act.put,sA,sZ,sS,Nat.zero_add,Nat.reduceAdd]
    exact rfl
   case howe7=>
    clear E0 hi0 hi1 hi2 hi3 p4 p6 p7 p8
    intro hf
    refine⟨oE 0 [] hf rfl ?_,oP0 1 [] hf rfl,oE 2 [0,1] hf rfl ?_,oP1 3 [2] hf rfl,oP1 4 [3] hf rfl,oP1 5 [4] hf rfl,oP1 6 [4] hf rfl,oP2 7 [4,6] hf rfl,oP1 8 [7] hf rfl,oP1 9 [8] hf rfl,oP1 10 [8] hf rfl,oP1 11 [8] hf rfl,oP2 12 [8,11] hf rfl,oP1 13 [12] hf rfl,oP1 14 [13] hf rfl,oP1 15 [13] hf rfl,oP1 16 [13] hf rfl,oP1 17 [13] hf rfl,oP2 18 [13,17] hf rfl,oP1 19 [18] hf rfl,oP1 20 [19] hf rfl,oP1 21 [19] hf rfl,oP1 22 [19] hf rfl,oP1 23 [19] hf rfl,oP2 24 [19,23] hf rfl,trivial⟩
    all_goals intro vs W hS hp hx KO hKO
    all_goals simp only[Act.put,sA,sZ,sS]at hKO
    ·have fc0:=hS.2.2.2.2.2.1.cell0;have fc1:=hS.2.2.2.2.2.1.cell1;have fc2:=hS.2.2.2.2.2.1.cell2;go_simp;exact hKO _ W (.refl W) rfl
    ·have e0:=isOf hp.1;have e1:=isOf hp.2.1;simp only[e0,e1]at hKO;go_simp
     refine(Tryz.adaRight lr ep d f _).mono ?_
     rintro e W1 ⟨rfl,hE⟩
     rw[HR.out]
     exact hKO _ W1 hE rfl
   intro vs W7 hS hp
   clear szw7 E0 hi0 hi1 hi2 hi3 p4 p6 p7 p8
   obtain⟨E0,hi0,hi1,hi2,hi3,p4,p6,p7,p8,sz7⟩:=hS
   obtain⟨h7_0,h7_1,h7_2,h7_3,h7_4,h7_5,h7_6,h7_7,h7_8,h7_9,h7_10,h7_11,h7_12,h7_13,h7_14,h7_15,h7_16,h7_17,h7_18,h7_19,h7_20,h7_21,h7_22,h7_23,h7_24,-⟩:=hp
   simp only[isOf h7_0,isOf h7_1,isOf h7_2,isOf h7_3,isOf h7_4,isOf h7_5,isOf h7_6,isOf h7_7,isOf h7_8,isOf h7_9,isOf h7_10,isOf h7_11,isOf h7_12,isOf h7_13,isOf h7_14,isOf h7_15,isOf h7_16,isOf h7_17,isOf h7_18,isOf h7_19,isOf h7_20,isOf h7_21,isOf h7_22,isOf h7_23,isOf h7_24]
   clear h7_0 h7_1 h7_2 h7_3 h7_4 h7_5 h7_6 h7_7 h7_8 h7_9 h7_10 h7_11 h7_12 h7_13 h7_14 h7_15 h7_16 h7_17 h7_18 h7_19 h7_20 h7_21 h7_22 h7_23 h7_24
   have z8:∀ i,W7.frozen? ⟨w.heap.size+1+1+1,i,none⟩=false:=fun i=>by simp[World.frozen?,show W7.heap[w.heap.size+1+1+1]? = _ from p8]
   have z80:=z8 0
   have z81:=z8 1
   have z82:=z8 2
   have z83:=z8 3
   clear z8
   obtain⟨k4a,k4b,k4c⟩:=p4.c3
   obtain⟨k6a,k6b⟩:=p6.c2
   obtain⟨k7a,k7b,k7c,k7d⟩:=p7.c4
   obtain⟨k8a,k8b,k8c,k8d⟩:=p8.c4
   go_wp2;clear k4a k4b k4c k6a k6b k7a k7b k7c k7d k8a k8b k8c k8d
   obtain⟨W2,hW2,hw,hq⟩:=(Form4.of p8).put none 0 0 none 0 0 none 0 0 none 0 0
   rw[← hW2]
   have k80:=hq.cell 0 (v:=.slice none 0 0) rfl
   have k81:=hq.cell 1 (v:=.slice none 0 0) rfl
   have k82:=hq.cell 2 (v:=.slice none 0 0) rfl
   have k83:=hq.cell 3 (v:=.slice none 0 0) rfl
   exact bodyPost_ret (v:=.tuple #[.agg #[.slice none 0 0,.slice none 0 0,.slice none 0 0,.slice none 0 0],.int .i64 1]) (by simp[results,Tryz.results6,go_sem,k80,k81,k82,k83]) rfl (AdaOut.no (Ext.wr E0 hw (by omega)) (adaE_arg (.inl HR.out)) (by omega))
  ·have HR:=Lib.hid hr
   clear hr
   obtain⟨k4a,k4b,k4c⟩:=p4.c3
   obtain⟨k6a,k6b⟩:=p6.c2
   obtain⟨k7a,k7b,k7c,k7d⟩:=p7.c4
   obtain⟨k8a,k8b,k8c,k8d⟩:=p8.c4
   go_upto_region 3 with (fail)
   clear k4a k4b k4c k6a k6b k7a k7b k7c k7d k8a k8b k8c k8d;have ltp4:=p4.lt;have ltp6:=p6.lt;have ltp7:=p7.lt;have ltp8:=p8.lt;have szw8:=Ext.size E0
   refine region_gs [isV (.agg #[.int .i64 lr,.int .i64 ep,.int .i64 d]),isV (.int .i64 f),isV (.bool true),isV (.bool false),isV (.bool false),isV (.int .i64 1),isV (.bool true),isV (.bool true),isV (.bool true),isV (undef),isV (undef),isV (undef),isV (.bool true),isV (.bool true),isV (undef),isV (undef),isV (undef),isV (undef),isV (.bool true),isV (.bool true),isV (undef),isV (undef),isV (undef),isV (undef),isV (.bool true)]
    (fun W=>Ext w W∧Iw 0 w.heap.size W a0 n0 c0 (lw)∧Iw 0 w.heap.size W a1 n1 c1 (lm)∧Iw 0 w.heap.size W a2 n2 c2 (lv)∧Iw 0 w.heap.size W a3 n3 c3 (lg)∧Bx3 W w.heap.size 23 (.int .i64 lr) (.int .i64 ep) (.int .i64 d)∧Bx2 W (w.heap.size+1) 24 (.int .i64 tt) (.int .i64 c)∧BxA W (w.heap.size+1+1) 27 #[.slice a0 n0 c0,.slice a1 n1 c1,.slice a2 n2 c2,.slice a3 n3 c3]∧BxA W (w.heap.size+1+1+1) 27 #[.slice none 0 0,.slice none 0 0,.slice none 0 0,.slice none 0 0]∧W0.heap.size≤W.heap.size) ⟨Good.is _,Good.is _,Good.is _,Good.is _,Good.is _,Good.is _,Good.is _,Good.is _,Good.is _,Good.is _,Good.is _,Good.is _,Good.is _,Good.is _,Good.is _,Good.is _,Good.is _,Good.is _,Good.is _,Good.is _,Good.is _,Good.is _,Good.is _,Good.is _,Good.is _,trivial⟩
    ⟨E0,hi0,hi1,hi2,hi3,p4,p6,p7,p8,Nat.le_refl _⟩ (A:=?A8) ?hA8 ?howe8 ?hfin8
   case hA8=>
    intro vs
    simp only[putAll,Act.put,sA,sZ,sS,Nat.zero_add,Nat.reduceAdd]
    exact rfl
   case howe8=>
    clear E0 hi0 hi1 hi2 hi3 p4 p6 p7 p8
    intro hf
    refine⟨oE 0 [] hf rfl ?_,oP0 1 [] hf rfl,oE 2 [0,1] hf rfl ?_,oP1 3 [2] hf rfl,oP1 4 [3] hf rfl,oP1 5 [4] hf rfl,oE 6 [4,5] hf rfl ?_,oP2 7 [4,6] hf rfl,oP1 8 [7] hf rfl,oP1 9 [8] hf rfl,oP1 10 [8] hf rfl,oP1 11 [8] hf rfl,oP2 12 [8,11] hf rfl,oP1 13 [12] hf rfl,oP1 14 [13] hf rfl,oP1 15 [13] hf rfl,oP1 16 [13] hf rfl,oP1 17 [13] hf rfl,oP2 18 [13,17] hf rfl,oP1 19 [18] hf rfl,oP1 20 [19] hf rfl,oP1 21 [19] hf rfl,oP1 22 [19] hf rfl,oP1 23 [19] hf rfl,oP2 24 [19,23] hf rfl,trivial⟩
    all_goals intro vs W hS hp hx KO hKO
    all_goals simp only[Act.put,sA,sZ,sS]at hKO
    ·have fc0:=hS.2.2.2.2.2.1.cell0;have fc1:=hS.2.2.2.2.2.1.cell1;have fc2:=hS.2.2.2.2.2.1.cell2;go_simp;exact hKO _ W (.refl W) rfl
    ·have e0:=isOf hp.1;have e1:=isOf hp.2.1;simp only[e0,e1]at hKO;go_simp
     refine(Tryz.adaRight lr ep d f _).mono ?_
     rintro e W1 ⟨rfl,hE⟩
     rw[HR.out]
     exact hKO _ W1 hE rfl
    ·have e4:=isOf hp.1;have e5:=isOf hp.2.1;simp only[e4,e5]at hKO;go_simp;exact hKO _ W (Ext.refl W) (by rfl)
   intro vs W8 hS hp
   clear szw8 E0 hi0 hi1 hi2 hi3 p4 p6 p7 p8
   obtain⟨E0,hi0,hi1,hi2,hi3,p4,p6,p7,p8,sz8⟩:=hS
   obtain⟨h8_0,h8_1,h8_2,h8_3,h8_4,h8_5,h8_6,h8_7,h8_8,h8_9,h8_10,h8_11,h8_12,h8_13,h8_14,h8_15,h8_16,h8_17,h8_18,h8_19,h8_20,h8_21,h8_22,h8_23,h8_24,-⟩:=hp
   simp only[isOf h8_0,isOf h8_1,isOf h8_2,isOf h8_3,isOf h8_4,isOf h8_5,isOf h8_6,isOf h8_7,isOf h8_8,isOf h8_9,isOf h8_10,isOf h8_11,isOf h8_12,isOf h8_13,isOf h8_14,isOf h8_15,isOf h8_16,isOf h8_17,isOf h8_18,isOf h8_19,isOf h8_20,isOf h8_21,isOf h8_22,isOf h8_23,isOf h8_24]
   clear h8_0 h8_1 h8_2 h8_3 h8_4 h8_5 h8_6 h8_7 h8_8 h8_9 h8_10 h8_11 h8_12 h8_13 h8_14 h8_15 h8_16 h8_17 h8_18 h8_19 h8_20 h8_21 h8_22 h8_23 h8_24
   have z8:∀ i,W8.frozen? ⟨w.heap.size+1+1+1,i,none⟩=false:=fun i=>by simp[World.frozen?,show W8.heap[w.heap.size+1+1+1]? = _ from p8]
   have z80:=z8 0
   have z81:=z8 1
   have z82:=z8 2
   have z83:=z8 3
   clear z8
   obtain⟨k4a,k4b,k4c⟩:=p4.c3
   obtain⟨k6a,k6b⟩:=p6.c2
   obtain⟨k7a,k7b,k7c,k7d⟩:=p7.c4
   obtain⟨k8a,k8b,k8c,k8d⟩:=p8.c4
   go_wp2;clear k4a k4b k4c k6a k6b k7a k7b k7c k7d k8a k8b k8c k8d
   obtain⟨W2,hW2,hw,hq⟩:=(Form4.of p8).put none 0 0 none 0 0 none 0 0 none 0 0
   rw[← hW2]
   have k80:=hq.cell 0 (v:=.slice none 0 0) rfl
   have k81:=hq.cell 1 (v:=.slice none 0 0) rfl
   have k82:=hq.cell 2 (v:=.slice none 0 0) rfl
   have k83:=hq.cell 3 (v:=.slice none 0 0) rfl
   exact bodyPost_ret (v:=.tuple #[.agg #[.slice none 0 0,.slice none 0 0,.slice none 0 0,.slice none 0 0],.int .i64 1]) (by simp[results,Tryz.results6,go_sem,k80,k81,k82,k83]) rfl (AdaOut.no (Ext.wr E0 hw (by omega)) (adaE_arg (.inr (.inl HS.out))) (by omega))
 ·have hs2:=shareB_iff.1 hs
  have HS:=Lib.hid hs
  obtain⟨T,rfl⟩:=Int.eq_ofNat_of_zero_le (show 0≤tt by omega)
  obtain⟨K,rfl⟩:=Int.eq_ofNat_of_zero_le (show 0≤f by omega)
  have HK:Hid (K≤40):=Lib.hid (by omega)
  have HT:Hid (1≤T∧T≤1000000):=Lib.hid (by omega)
  clear hs hs2
  obtain⟨sh,hsh⟩:∃ s,s=((shareN T K:Nat):Int):=⟨_,rfl⟩
  have HSH:Hid (sh=shareZ (T:Int) (K:Int)):=Lib.hid (by rw[hsh];rfl)
  have HSL:Hid (0≤sh∧sh≤oneZ K):=Lib.hid (by rw[HSH.out];exact shareZ_le HS.out)
  obtain⟨k4a,k4b,k4c⟩:=p4.c3
  obtain⟨k6a,k6b⟩:=p6.c2
  obtain⟨k7a,k7b,k7c,k7d⟩:=p7.c4
  obtain⟨k8a,k8b,k8c,k8d⟩:=p8.c4
  go_wp2_with fail
  rw[← hW0]
  clear hW0;clear k4a k4b k4c k6a k6b k7a k7b k7c k7d k8a k8b k8c k8d
  refine(Tryz.adaShare T K _ HT.out.1 HT.out.2 HK.out).mono ?_
  rintro e V1 ⟨rfl,hE⟩
  rw[← hsh]
  clear hsh;replace E0:=(Ext.trans E0 hE);replace hi0:=(hi0.ext hE);replace hi1:=(hi1.ext hE);replace hi2:=(hi2.ext hE);replace hi3:=(hi3.ext hE);replace p4:=(p4.ext hE);replace p6:=(p6.ext hE);replace p7:=(p7.ext hE);replace p8:=(p8.ext hE);clear hE
  cases hr:rightAda ⟨lr,ep,d⟩ (K:Int)
  ·have HR:=Lib.hid hr
   clear hr
   obtain⟨k4a,k4b,k4c⟩:=p4.c3
   obtain⟨k6a,k6b⟩:=p6.c2
   obtain⟨k7a,k7b,k7c,k7d⟩:=p7.c4
   obtain⟨k8a,k8b,k8c,k8d⟩:=p8.c4
   go_upto_region 3 with (fail)
   clear k4a k4b k4c k6a k6b k7a k7b k7c k7d k8a k8b k8c k8d;have ltp4:=p4.lt;have ltp6:=p6.lt;have ltp7:=p7.lt;have ltp8:=p8.lt;have szw9:=Ext.size E0
   refine region_gs [isV (.agg #[.int .i64 lr,.int .i64 ep,.int .i64 d]),isV (.int .i64 (K:Int)),isV (.bool false),isV (.bool true),isV (.bool true),isV (undef),isV (undef),isV (.bool true),isV (.bool true),isV (undef),isV (undef),isV (undef),isV (.bool true),isV (.bool true),isV (undef),isV (undef),isV (undef),isV (undef),isV (.bool true),isV (.bool true),isV (undef),isV (undef),isV (undef),isV (undef),isV (.bool true)]
    (fun W=>Ext w W∧Iw 0 w.heap.size W a0 n0 c0 (lw)∧Iw 0 w.heap.size W a1 n1 c1 (lm)∧Iw 0 w.heap.size W a2 n2 c2 (lv)∧Iw 0 w.heap.size W a3 n3 c3 (lg)∧Bx3 W w.heap.size 23 (.int .i64 lr) (.int .i64 ep) (.int .i64 d)∧Bx2 W (w.heap.size+1) 24 (.int .i64 (T:Int)) (.int .i64 c)∧BxA W (w.heap.size+1+1) 27 #[.slice a0 n0 c0,.slice a1 n1 c1,.slice a2 n2 c2,.slice a3 n3 c3]∧BxA W (w.heap.size+1+1+1) 27 #[.slice none 0 0,.slice none 0 0,.slice none 0 0,.slice none 0 0]∧V1.heap.size≤W.heap.size) ⟨Good.is _,Good.is _,Good.is _,Good.is _,Good.is _,Good.is _,Good.is _,Good.is _,Good.is _,Good.is _,Good.is _,Good.is _,Good.is _,Good.is _,Good.is _,Good.is _,Good.is _,Good.is _,Good.is _,Good.is _,Good.is _,Good.is _,Good.is _,Good.is _,Good.is _,trivial⟩
    ⟨E0,hi0,hi1,hi2,hi3,p4,p6,p7,p8,Nat.le_refl _⟩ (A:=?A9) ?hA9 ?howe9 ?hfin9
   case hA9=>
    intro vs
    simp only[putAll,Act.put,sA,sZ,sS,Nat.zero_add,Nat.reduceAdd]
    exact rfl
   case howe9=>
    clear E0 hi0 hi1 hi2 hi3 p4 p6 p7 p8
    intro hf
    refine⟨oE 0 [] hf rfl ?_,oP0 1 [] hf rfl,oE 2 [0,1] hf rfl ?_,oP1 3 [2] hf rfl,oP1 4 [3] hf rfl,oP1 5 [4] hf rfl,oP1 6 [4] hf rfl,oP2 7 [4,6] hf rfl,oP1 8 [7] hf rfl,oP1 9 [8] hf rfl,oP1 10 [8] hf rfl,oP1 11 [8] hf rfl,oP2 12 [8,11] hf rfl,oP1 13 [12] hf rfl,oP1 14 [13] hf rfl,oP1 15 [13] hf rfl,oP1 16 [13] hf rfl,oP1 17 [13] hf rfl,oP2 18 [13,17] hf rfl,oP1 19 [18] hf rfl,oP1 20 [19] hf rfl,oP1 21 [19] hf rfl,oP1 22 [19] hf rfl,oP1 23 [19] hf rfl,oP2 24 [19,23] hf rfl,trivial⟩
    all_goals intro vs W hS hp hx KO hKO
    all_goals simp only[Act.put,sA,sZ,sS]at hKO
    ·have fc0:=hS.2.2.2.2.2.1.cell0;have fc1:=hS.2.2.2.2.2.1.cell1;have fc2:=hS.2.2.2.2.2.1.cell2;go_simp;exact hKO _ W (.refl W) rfl
    ·have e0:=isOf hp.1;have e1:=isOf hp.2.1;simp only[e0,e1]at hKO;go_simp
     refine(Tryz.adaRight lr ep d (K:Int) _).mono ?_
     rintro e W1 ⟨rfl,hE⟩
     rw[HR.out]
     exact hKO _ W1 hE rfl
   intro vs W9 hS hp
   clear szw9 E0 hi0 hi1 hi2 hi3 p4 p6 p7 p8
   obtain⟨E0,hi0,hi1,hi2,hi3,p4,p6,p7,p8,sz9⟩:=hS
   obtain⟨h9_0,h9_1,h9_2,h9_3,h9_4,h9_5,h9_6,h9_7,h9_8,h9_9,h9_10,h9_11,h9_12,h9_13,h9_14,h9_15,h9_16,h9_17,h9_18,h9_19,h9_20,h9_21,h9_22,h9_23,h9_24,-⟩:=hp
   simp only[isOf h9_0,isOf h9_1,isOf h9_2,isOf h9_3,isOf h9_4,isOf h9_5,isOf h9_6,isOf h9_7,isOf h9_8,isOf h9_9,isOf h9_10,isOf h9_11,isOf h9_12,isOf h9_13,isOf h9_14,isOf h9_15,isOf h9_16,isOf h9_17,isOf h9_18,isOf h9_19,isOf h9_20,isOf h9_21,isOf h9_22,isOf h9_23,isOf h9_24]
   clear h9_0 h9_1 h9_2 h9_3 h9_4 h9_5 h9_6 h9_7 h9_8 h9_9 h9_10 h9_11 h9_12 h9_13 h9_14 h9_15 h9_16 h9_17 h9_18 h9_19 h9_20 h9_21 h9_22 h9_23 h9_24
   have z8:∀ i,W9.frozen? ⟨w.heap.size+1+1+1,i,none⟩=false:=fun i=>by simp[World.frozen?,show W9.heap[w.heap.size+1+1+1]? = _ from p8]
   have z80:=z8 0
   have z81:=z8 1
   have z82:=z8 2
   have z83:=z8 3
   clear z8
   obtain⟨k4a,k4b,k4c⟩:=p4.c3
   obtain⟨k6a,k6b⟩:=p6.c2
   obtain⟨k7a,k7b,k7c,k7d⟩:=p7.c4
   obtain⟨k8a,k8b,k8c,k8d⟩:=p8.c4
   go_wp2;clear k4a k4b k4c k6a k6b k7a k7b k7c k7d k8a k8b k8c k8d
   obtain⟨W2,hW2,hw,hq⟩:=(Form4.of p8).put none 0 0 none 0 0 none 0 0 none 0 0
   rw[← hW2]
   have k80:=hq.cell 0 (v:=.slice none 0 0) rfl
   have k81:=hq.cell 1 (v:=.slice none 0 0) rfl
   have k82:=hq.cell 2 (v:=.slice none 0 0) rfl
   have k83:=hq.cell 3 (v:=.slice none 0 0) rfl
   exact bodyPost_ret (v:=.tuple #[.agg #[.slice none 0 0,.slice none 0 0,.slice none 0 0,.slice none 0 0],.int .i64 1]) (by simp[results,Tryz.results6,go_sem,k80,k81,k82,k83]) rfl (AdaOut.no (Ext.wr E0 hw (by omega)) (adaE_arg (.inl HR.out)) (by omega))
  ·have HR:=Lib.hid hr
   clear hr
   by_cases hc:c < 1
   ·have HC:=Lib.hid hc
    clear hc
    obtain⟨k4a,k4b,k4c⟩:=p4.c3
    obtain⟨k6a,k6b⟩:=p6.c2
    obtain⟨k7a,k7b,k7c,k7d⟩:=p7.c4
    obtain⟨k8a,k8b,k8c,k8d⟩:=p8.c4
    go_upto_region 3 with (fail)
    clear k4a k4b k4c k6a k6b k7a k7b k7c k7d k8a k8b k8c k8d;have ltp4:=p4.lt;have ltp6:=p6.lt;have ltp7:=p7.lt;have ltp8:=p8.lt;have szw10:=Ext.size E0
    refine region_gs [isV (.agg #[.int .i64 lr,.int .i64 ep,.int .i64 d]),isV (.int .i64 (K:Int)),isV (.bool true),isV (.bool false),isV (.bool false),isV (.int .i64 0),isV (.bool false),isV (.bool false),isV (.bool false),isV (.pointer (some ⟨w.heap.size+1,1,none⟩)),isV (.int .i64 c),isV (.bool true),isV (.bool true),isV (.bool true),isV (undef),isV (undef),isV (undef),isV (undef),isV (.bool true),isV (.bool true),isV (undef),isV (undef),isV (undef),isV (undef),isV (.bool true)]
     (fun W=>Ext w W∧Iw 0 w.heap.size W a0 n0 c0 (lw)∧Iw 0 w.heap.size W a1 n1 c1 (lm)∧Iw 0 w.heap.size W a2 n2 c2 (lv)∧Iw 0 w.heap.size W a3 n3 c3 (lg)∧Bx3 W w.heap.size 23 (.int .i64 lr) (.int .i64 ep) (.int .i64 d)∧Bx2 W (w.heap.size+1) 24 (.int .i64 (T:Int)) (.int .i64 c)∧BxA W (w.heap.size+1+1) 27 #[.slice a0 n0 c0,.slice a1 n1 c1,.slice a2 n2 c2,.slice a3 n3 c3]∧BxA W (w.heap.size+1+1+1) 27 #[.slice none 0 0,.slice none 0 0,.slice none 0 0,.slice none 0 0]∧V1.heap.size≤W.heap.size) ⟨Good.is _,Good.is _,Good.is _,Good.is _,Good.is _,Good.is _,Good.is _,Good.is _,Good.is _,Good.is _,Good.is _,Good.is _,Good.is _,Good.is _,Good.is _,Good.is _,Good.is _,Good.is _,Good.is _,Good.is _,Good.is _,Good.is _,Good.is _,Good.is _,Good.is _,trivial⟩
     ⟨E0,hi0,hi1,hi2,hi3,p4,p6,p7,p8,Nat.le_refl _⟩ (A:=?A10) ?hA10 ?howe10 ?hfin10
    case hA10=>
     intro vs
     simp only[putAll,Act.put,sA,sZ,sS,Nat.zero_add,Nat.reduceAdd]
     exact rfl
    case howe10=>
     clear E0 hi0 hi1 hi2 hi3 p4 p6 p7 p8
     intro hf
     refine⟨oE 0 [] hf rfl ?_,oP0 1 [] hf rfl,oE 2 [0,1] hf rfl ?_,oP1 3 [2] hf rfl,oP1 4 [3] hf rfl,oP1 5 [4] hf rfl,oE 6 [4,5] hf rfl ?_,oP2 7 [4,6] hf rfl,oP1 8 [7] hf rfl,oP1 9 [8] hf rfl,oE 10 [8,9] hf rfl ?_,oE 11 [8,10] hf rfl ?_,oP2 12 [8,11] hf rfl,oP1 13 [12] hf rfl,oP1 14 [13] hf rfl,oP1 15 [13] hf rfl,oP1 16 [13] hf rfl,oP1 17 [13] hf rfl,oP2 18 [13,17] hf rfl,oP1 19 [18] hf rfl,oP1 20 [19] hf rfl,oP1 21 [19] hf rfl,oP1 22 [19] hf rfl,oP1 23 [19] hf rfl,oP2 24 [19,23] hf rfl,trivial⟩
     all_goals intro vs W hS hp hx KO hKO
     all_goals simp only[Act.put,sA,sZ,sS]at hKO
     ·have fc0:=hS.2.2.2.2.2.1.cell0;have fc1:=hS.2.2.2.2.2.1.cell1;have fc2:=hS.2.2.2.2.2.1.cell2;go_simp;exact hKO _ W (.refl W) rfl
     ·have e0:=isOf hp.1;have e1:=isOf hp.2.1;simp only[e0,e1]at hKO;go_simp
      refine(Tryz.adaRight lr ep d (K:Int) _).mono ?_
      rintro e W1 ⟨rfl,hE⟩
      rw[HR.out]
      exact hKO _ W1 hE rfl
     ·have e4:=isOf hp.1;have e5:=isOf hp.2.1;simp only[e4,e5]at hKO;go_simp;exact hKO _ W (Ext.refl W) (by rfl)
     ·have e8:=isOf hp.1;have e9:=isOf hp.2.1;simp only[e8,e9]at hKO;have fc1:=hS.2.2.2.2.2.2.1.cell1;go_simp;exact hKO _ W (.refl W) rfl
     ·have e8:=isOf hp.1;have e10:=isOf hp.2.1;simp only[e8,e10]at hKO;go_simp;exact hKO _ W (Ext.refl W) (by first | rfl | exact congrArg Value.bool (decide_eq_true (by have:=HC.out;omega)))
    intro vs W10 hS hp
    clear szw10 E0 hi0 hi1 hi2 hi3 p4 p6 p7 p8
    obtain⟨E0,hi0,hi1,hi2,hi3,p4,p6,p7,p8,sz10⟩:=hS
    obtain⟨h10_0,h10_1,h10_2,h10_3,h10_4,h10_5,h10_6,h10_7,h10_8,h10_9,h10_10,h10_11,h10_12,h10_13,h10_14,h10_15,h10_16,h10_17,h10_18,h10_19,h10_20,h10_21,h10_22,h10_23,h10_24,-⟩:=hp
    simp only[isOf h10_0,isOf h10_1,isOf h10_2,isOf h10_3,isOf h10_4,isOf h10_5,isOf h10_6,isOf h10_7,isOf h10_8,isOf h10_9,isOf h10_10,isOf h10_11,isOf h10_12,isOf h10_13,isOf h10_14,isOf h10_15,isOf h10_16,isOf h10_17,isOf h10_18,isOf h10_19,isOf h10_20,isOf h10_21,isOf h10_22,isOf h10_23,isOf h10_24]
    clear h10_0 h10_1 h10_2 h10_3 h10_4 h10_5 h10_6 h10_7 h10_8 h10_9 h10_10 h10_11 h10_12 h10_13 h10_14 h10_15 h10_16 h10_17 h10_18 h10_19 h10_20 h10_21 h10_22 h10_23 h10_24
    have z8:∀ i,W10.frozen? ⟨w.heap.size+1+1+1,i,none⟩=false:=fun i=>by simp[World.frozen?,show W10.heap[w.heap.size+1+1+1]? = _ from p8]
    have z80:=z8 0
    have z81:=z8 1
    have z82:=z8 2
    have z83:=z8 3
    clear z8
    obtain⟨k4a,k4b,k4c⟩:=p4.c3
    obtain⟨k6a,k6b⟩:=p6.c2
    obtain⟨k7a,k7b,k7c,k7d⟩:=p7.c4
    obtain⟨k8a,k8b,k8c,k8d⟩:=p8.c4
    go_wp2;clear k4a k4b k4c k6a k6b k7a k7b k7c k7d k8a k8b k8c k8d
    obtain⟨W2,hW2,hw,hq⟩:=(Form4.of p8).put none 0 0 none 0 0 none 0 0 none 0 0
    rw[← hW2]
    have k80:=hq.cell 0 (v:=.slice none 0 0) rfl
    have k81:=hq.cell 1 (v:=.slice none 0 0) rfl
    have k82:=hq.cell 2 (v:=.slice none 0 0) rfl
    have k83:=hq.cell 3 (v:=.slice none 0 0) rfl
    exact bodyPost_ret (v:=.tuple #[.agg #[.slice none 0 0,.slice none 0 0,.slice none 0 0,.slice none 0 0],.int .i64 1]) (by simp[results,Tryz.results6,go_sem,k80,k81,k82,k83]) rfl (AdaOut.no (Ext.wr E0 hw (by omega)) (adaE_arg (.inr (.inr (.inl (by have:=HC.out;omega))))) (by omega))
   ·have HC:=Lib.hid hc
    clear hc
    cases hm:negB lm
    ·have HM:=Lib.hid hm
     clear hm
     cases hv:negB lv
     ·have HV:=Lib.hid hv
      clear hv
      obtain⟨k4a,k4b,k4c⟩:=p4.c3
      obtain⟨k6a,k6b⟩:=p6.c2
      obtain⟨k7a,k7b,k7c,k7d⟩:=p7.c4
      obtain⟨k8a,k8b,k8c,k8d⟩:=p8.c4
      go_upto_region 3 with (fail)
      clear k4a k4b k4c k6a k6b k7a k7b k7c k7d k8a k8b k8c k8d;have ltp4:=p4.lt;have ltp6:=p6.lt;have ltp7:=p7.lt;have ltp8:=p8.lt;have szw11:=Ext.size E0
      refine region_gs [isV (.agg #[.int .i64 lr,.int .i64 ep,.int .i64 d]),isV (.int .i64 (K:Int)),isV (.bool true),isV (.bool false),isV (.bool false),isV (.int .i64 0),isV (.bool false),isV (.bool false),isV (.bool false),isV (.pointer (some ⟨w.heap.size+1,1,none⟩)),isV (.int .i64 c),isV (.bool false),isV (.bool false),isV (.bool false),isV (.pointer (some ⟨w.heap.size+1+1,1,none⟩)),isV (.slice a1 n1 c1),isV (.func (.func 15) #[] #[]),isV (.bool false),isV (.bool false),isV (.bool false),isV (.pointer (some ⟨w.heap.size+1+1,2,none⟩)),isV (.slice a2 n2 c2),isV (.func (.func 15) #[] #[]),isV (.bool false),isV (.bool false)]
       (fun W=>Ext w W∧Iw 0 w.heap.size W a0 n0 c0 (lw)∧Iw 0 w.heap.size W a1 n1 c1 (lm)∧Iw 0 w.heap.size W a2 n2 c2 (lv)∧Iw 0 w.heap.size W a3 n3 c3 (lg)∧Bx3 W w.heap.size 23 (.int .i64 lr) (.int .i64 ep) (.int .i64 d)∧Bx2 W (w.heap.size+1) 24 (.int .i64 (T:Int)) (.int .i64 c)∧BxA W (w.heap.size+1+1) 27 #[.slice a0 n0 c0,.slice a1 n1 c1,.slice a2 n2 c2,.slice a3 n3 c3]∧BxA W (w.heap.size+1+1+1) 27 #[.slice none 0 0,.slice none 0 0,.slice none 0 0,.slice none 0 0]∧V1.heap.size≤W.heap.size) ⟨Good.is _,Good.is _,Good.is _,Good.is _,Good.is _,Good.is _,Good.is _,Good.is _,Good.is _,Good.is _,Good.is _,Good.is _,Good.is _,Good.is _,Good.is _,Good.is _,Good.is _,Good.is _,Good.is _,Good.is _,Good.is _,Good.is _,Good.is _,Good.is _,Good.is _,trivial⟩
       ⟨E0,hi0,hi1,hi2,hi3,p4,p6,p7,p8,Nat.le_refl _⟩ (A:=?A11) ?hA11 ?howe11 ?hfin11
      case hA11=>
       intro vs
       simp only[putAll,Act.put,sA,sZ,sS,Nat.zero_add,Nat.reduceAdd]
       exact rfl
      case howe11=>
       clear E0 hi0 hi1 hi2 hi3 p4 p6 p7 p8
       intro hf
       refine⟨oE 0 [] hf rfl ?_,oP0 1 [] hf rfl,oE 2 [0,1] hf rfl ?_,oP1 3 [2] hf rfl,oP1 4 [3] hf rfl,oP1 5 [4] hf rfl,oE 6 [4,5] hf rfl ?_,oP2 7 [4,6] hf rfl,oP1 8 [7] hf rfl,oP1 9 [8] hf rfl,oE 10 [8,9] hf rfl ?_,oE 11 [8,10] hf rfl ?_,oP2 12 [8,11] hf rfl,oP1 13 [12] hf rfl,oP1 14 [13] hf rfl,oE 15 [13,14] hf rfl ?_,oP1 16 [13] hf rfl,oE 17 [13,15,16] hf rfl ?_,oP2 18 [13,17] hf rfl,oP1 19 [18] hf rfl,oP1 20 [19] hf rfl,oE 21 [19,20] hf rfl ?_,oP1 22 [19] hf rfl,oE 23 [19,21,22] hf rfl ?_,oP2 24 [19,23] hf rfl,trivial⟩
       all_goals intro vs W hS hp hx KO hKO
       all_goals simp only[Act.put,sA,sZ,sS]at hKO
       ·have fc0:=hS.2.2.2.2.2.1.cell0;have fc1:=hS.2.2.2.2.2.1.cell1;have fc2:=hS.2.2.2.2.2.1.cell2;go_simp;exact hKO _ W (.refl W) rfl
       ·have e0:=isOf hp.1;have e1:=isOf hp.2.1;simp only[e0,e1]at hKO;go_simp
        refine(Tryz.adaRight lr ep d (K:Int) _).mono ?_
        rintro e W1 ⟨rfl,hE⟩
        rw[HR.out]
        exact hKO _ W1 hE rfl
       ·have e4:=isOf hp.1;have e5:=isOf hp.2.1;simp only[e4,e5]at hKO;go_simp;exact hKO _ W (Ext.refl W) (by rfl)
       ·have e8:=isOf hp.1;have e9:=isOf hp.2.1;simp only[e8,e9]at hKO;have fc1:=hS.2.2.2.2.2.2.1.cell1;go_simp;exact hKO _ W (.refl W) rfl
       ·have e8:=isOf hp.1;have e10:=isOf hp.2.1;simp only[e8,e10]at hKO;go_simp;exact hKO _ W (Ext.refl W) (by first | rfl | exact congrArg Value.bool (decide_eq_false (by have:=HC.out;omega)))
       ·have e13:=isOf hp.1;have e14:=isOf hp.2.1;simp only[e13,e14]at hKO;have fc1:=BxA.cell (hS.2.2.2.2.2.2.2.1) 1 (v:=.slice a1 n1 c1) rfl;go_simp;exact hKO _ W (.refl W) rfl
       ·have e13:=isOf hp.1;have e15:=isOf hp.2.1;have e16:=isOf hp.2.2.1;simp only[e13,e15,e16]at hKO;go_simp
        refine(Tryz.adaNeg hS.2.2.1).mono ?_
        rintro e W1 ⟨rfl,hE⟩
        rw[HM.out]
        exact hKO _ W1 hE rfl
       ·have e19:=isOf hp.1;have e20:=isOf hp.2.1;simp only[e19,e20]at hKO;have fc2:=BxA.cell (hS.2.2.2.2.2.2.2.1) 2 (v:=.slice a2 n2 c2) rfl;go_simp;exact hKO _ W (.refl W) rfl
       ·have e19:=isOf hp.1;have e21:=isOf hp.2.1;have e22:=isOf hp.2.2.1;simp only[e19,e21,e22]at hKO;go_simp
        refine(Tryz.adaNeg hS.2.2.2.1).mono ?_
        rintro e W1 ⟨rfl,hE⟩
        rw[HV.out]
        exact hKO _ W1 hE rfl
      intro vs W11 hS hp
      clear szw11 E0 hi0 hi1 hi2 hi3 p4 p6 p7 p8
      obtain⟨E0,hi0,hi1,hi2,hi3,p4,p6,p7,p8,sz11⟩:=hS
      obtain⟨h11_0,h11_1,h11_2,h11_3,h11_4,h11_5,h11_6,h11_7,h11_8,h11_9,h11_10,h11_11,h11_12,h11_13,h11_14,h11_15,h11_16,h11_17,h11_18,h11_19,h11_20,h11_21,h11_22,h11_23,h11_24,-⟩:=hp
      simp only[isOf h11_0,isOf h11_1,isOf h11_2,isOf h11_3,isOf h11_4,isOf h11_5,isOf h11_6,isOf h11_7,isOf h11_8,isOf h11_9,isOf h11_10,isOf h11_11,isOf h11_12,isOf h11_13,isOf h11_14,isOf h11_15,isOf h11_16,isOf h11_17,isOf h11_18,isOf h11_19,isOf h11_20,isOf h11_21,isOf h11_22,isOf h11_23,isOf h11_24]
      clear h11_0 h11_1 h11_2 h11_3 h11_4 h11_5 h11_6 h11_7 h11_8 h11_9 h11_10 h11_11 h11_12 h11_13 h11_14 h11_15 h11_16 h11_17 h11_18 h11_19 h11_20 h11_21 h11_22 h11_23 h11_24
      obtain⟨cl,rfl⟩:=Int.eq_ofNat_of_zero_le (show 0≤c by have:=HC.out;omega)
      have HC1:Hid (1≤cl∧cl < 9223372036854775808):=Lib.hid (by have h1:=HC.out;have h2:=HQ.out.2.2.2.2;omega)
      have HAE:Hid (adaE ⟨lr,ep,d⟩ (K:Int) (T:Int) (cl:Int) lw lm lv lg=if shapeB n0 cl n1 n2 n3=false then 5 else if adaB K ⟨lr,ep,d⟩ sh cl lw lm lv lg=false then 2 else 0):=Lib.hid (by rw[adaE_is HR.out HS.out (by have:=HC1.out;omega) HM.out HV.out,HLN.out.1,HLN.out.2.1,HLN.out.2.2.1,HLN.out.2.2.2,← HSH.out];rfl)
      obtain⟨k4a,k4b,k4c⟩:=p4.c3
      obtain⟨k6a,k6b⟩:=p6.c2
      obtain⟨k7a,k7b,k7c,k7d⟩:=p7.c4
      obtain⟨k8a,k8b,k8c,k8d⟩:=p8.c4
      go_upto_region 6 with (fail)
      clear k4a k4b k4c k6a k6b k7a k7b k7c k7d k8a k8b k8c k8d
      have p13:=BxA.new W11 54 #[.int .i64 lr,.int .i64 ep,.int .i64 d,.int .i64 (K:Int),.int .i64 (cl:Int),.int .i64 sh]
      have hE:=Ext.alloc1 W11 (.cells #[.int .i64 lr,.int .i64 ep,.int .i64 d,.int .i64 (K:Int),.int .i64 (cl:Int),.int .i64 sh] 54)
      obtain⟨N13,hN13⟩:∃ V,V=W11.alloc (.cells #[.int .i64 lr,.int .i64 ep,.int .i64 d,.int .i64 (K:Int),.int .i64 (cl:Int),.int .i64 sh] 54):=⟨_,rfl⟩
      rw[← hN13]at p13 hE ⊢
      clear hN13
      obtain⟨g13,hg13⟩:∃ g,g=W11.heap.size:=⟨_,rfl⟩
      rw[← hg13]at p13 ⊢
      clear hg13
      replace E0:Ext w N13:=(Ext.trans E0 hE)
      replace hi0:Iw 0 w.heap.size N13 a0 n0 c0 (lw):=(hi0.ext hE)
      replace hi1:Iw 0 w.heap.size N13 a1 n1 c1 (lm):=(hi1.ext hE)
      replace hi2:Iw 0 w.heap.size N13 a2 n2 c2 (lv):=(hi2.ext hE)
      replace hi3:Iw 0 w.heap.size N13 a3 n3 c3 (lg):=(hi3.ext hE)
      replace p4:Bx3 N13 w.heap.size 23 (.int .i64 lr) (.int .i64 ep) (.int .i64 d):=(p4.ext hE)
      replace p6:Bx2 N13 (w.heap.size+1) 24 (.int .i64 (T:Int)) (.int .i64 (cl:Int)):=(p6.ext hE)
      replace p7:BxA N13 (w.heap.size+1+1) 27 #[.slice a0 n0 c0,.slice a1 n1 c1,.slice a2 n2 c2,.slice a3 n3 c3]:=(p7.ext hE)
      replace p8:BxA N13 (w.heap.size+1+1+1) 27 #[.slice none 0 0,.slice none 0 0,.slice none 0 0,.slice none 0 0]:=(p8.ext hE)
      clear hE
      cases hf:facB n0 cl
      ·have HF:=Lib.hid hf
       clear hf
       obtain⟨k4a,k4b,k4c⟩:=p4.c3
       obtain⟨k6a,k6b⟩:=p6.c2
       obtain⟨k7a,k7b,k7c,k7d⟩:=p7.c4
       obtain⟨k8a,k8b,k8c,k8d⟩:=p8.c4
       obtain⟨k13a,k13b,k13c,k13d,k13e,k13f⟩:=p13.c6
       go_wp2_with fail
       clear k4a k4b k4c k6a k6b k7a k7b k7c k7d k8a k8b k8c k8d k13a k13b k13c k13d k13e k13f
       refine(Tryz.adaFac lr ep d sh K n0 cl HC1.out.1 (by have:=HN.out;omega) _).mono ?_
       rintro e V3 ⟨rfl,hE⟩
       rw[HF.out];replace E0:=(Ext.trans E0 hE);replace hi0:=(hi0.ext hE);replace hi1:=(hi1.ext hE);replace hi2:=(hi2.ext hE);replace hi3:=(hi3.ext hE);replace p4:=(p4.ext hE);replace p6:=(p6.ext hE);replace p7:=(p7.ext hE);replace p8:=(p8.ext hE);replace p13:=(p13.ext hE);clear hE
       obtain⟨ri,hri⟩:∃ q,q=n0 % cl:=⟨_,rfl⟩
       have HRI:=Lib.hid hri
       have hr0:ri≤n0:=by rw[hri];exact Nat.mod_le _ _
       have t1:(n0:Int).tmod (cl:Int)=(ri:Int):=by rw[Int.tmod_eq_emod_of_nonneg (by omega),hri];rfl
       have t2:(n0:Int) % (cl:Int)=(ri:Int):=by rw[hri];rfl
       have t3:IntKind.i64.wrap ((n0:Int).tmod (cl:Int))=(ri:Int):=by rw[t1,IntKind.wrap_i64];have:=HN.out;omega
       have t4:IntKind.i64.wrap (ri:Int)=(ri:Int):=by rw[IntKind.wrap_i64];have:=HN.out;omega
       have hv0:((cl:Int)==0)=false:=beq_eq_false_iff_ne.2 (by have:=HC1.out;omega)
       have hv0a:¬ ((cl:Int)=0):=by have:=HC1.out;omega
       have hv0b:¬ (cl=0):=by have:=HC1.out;omega
       clear hri
       by_cases e0:n3=n0
       ·have NE0:Hid (((n3:Int) != ((n0:Int):Int))=false):=Lib.hid (by rw[bne_eq_false_iff_eq];omega)
        have D0:=Lib.hid e0
        clear e0
        by_cases e1:ri=0
        ·have NE1:Hid (((ri:Int) != (0:Int))=false):=Lib.hid (by rw[bne_eq_false_iff_eq];omega)
         have D1:=Lib.hid e1
         clear e1
         by_cases e2:n1=0
         ·have NE2:Hid (((n1:Int) != (0:Int))=false):=Lib.hid (by rw[bne_eq_false_iff_eq];omega)
          have D2:=Lib.hid e2
          clear e2
          by_cases e3:n2=n0
          ·have NE3:Hid (((n2:Int) != ((n0:Int):Int))=false):=Lib.hid (by rw[bne_eq_false_iff_eq];omega)
           have D3:=Lib.hid e3
           clear e3
           obtain⟨k4a,k4b,k4c⟩:=p4.c3
           obtain⟨k6a,k6b⟩:=p6.c2
           obtain⟨k7a,k7b,k7c,k7d⟩:=p7.c4
           obtain⟨k8a,k8b,k8c,k8d⟩:=p8.c4
           obtain⟨k13a,k13b,k13c,k13d,k13e,k13f⟩:=p13.c6
           go_upto_region 10 with (fail)
           clear k4a k4b k4c k6a k6b k7a k7b k7c k7d k8a k8b k8c k8d k13a k13b k13c k13d k13e k13f;have ltp13:=p13.lt;have szw12:=Ext.size E0
           refine region_gs [isV (.pointer (some ⟨w.heap.size+1+1,3,none⟩)),isV (.slice a3 n3 c3),isV (.int .i64 (n3:Int)),isV (.int .i64 (n0:Int)),isV (.bool false),isV (.bool false),isV (.int .i64 (n0:Int)),isV (.pointer (some ⟨g13,4,none⟩)),isV (.int .i64 (cl:Int)),isV (.int .i64 (ri:Int)),isV (.bool false),isV (.bool false),isV (.bool false),isV (.pointer (some ⟨w.heap.size+1+1,1,none⟩)),isV (.slice a1 n1 c1),isV (.int .i64 (n1:Int)),isV (.int .i64 0),isV (.bool false),isV (.bool false),isV (.bool false),isV (.pointer (some ⟨w.heap.size+1+1,2,none⟩)),isV (.slice a2 n2 c2),isV (.int .i64 (n2:Int)),isV (.int .i64 (n0:Int)),isV (.bool false),isV (.bool false)]
            (fun W=>Ext w W∧Iw 0 w.heap.size W a0 n0 c0 (lw)∧Iw 0 w.heap.size W a1 n1 c1 (lm)∧Iw 0 w.heap.size W a2 n2 c2 (lv)∧Iw 0 w.heap.size W a3 n3 c3 (lg)∧Bx3 W w.heap.size 23 (.int .i64 lr) (.int .i64 ep) (.int .i64 d)∧Bx2 W (w.heap.size+1) 24 (.int .i64 (T:Int)) (.int .i64 (cl:Int))∧BxA W (w.heap.size+1+1) 27 #[.slice a0 n0 c0,.slice a1 n1 c1,.slice a2 n2 c2,.slice a3 n3 c3]∧BxA W (w.heap.size+1+1+1) 27 #[.slice none 0 0,.slice none 0 0,.slice none 0 0,.slice none 0 0]∧BxA W g13 54 #[.int .i64 lr,.int .i64 ep,.int .i64 d,.int .i64 (K:Int),.int .i64 (cl:Int),.int .i64 sh]∧V3.heap.size≤W.heap.size) ⟨Good.is _,Good.is _,Good.is _,Good.is _,Good.is _,Good.is _,Good.is _,Good.is _,Good.is _,Good.is _,Good.is _,Good.is _,Good.is _,Good.is _,Good.is _,Good.is _,Good.is _,Good.is _,Good.is _,Good.is _,Good.is _,Good.is _,Good.is _,Good.is _,Good.is _,Good.is _,trivial⟩
            ⟨E0,hi0,hi1,hi2,hi3,p4,p6,p7,p8,p13,Nat.le_refl _⟩ (A:=?A12) ?hA12 ?howe12 ?hfin12
           case hA12=>
            intro vs
            simp only[putAll,Act.put,sA,sZ,sS,Nat.zero_add,Nat.reduceAdd]
            exact rfl
           case howe12=>
            clear E0 hi0 hi1 hi2 hi3 p4 p6 p7 p8 p13
            intro hf
            refine⟨oP0 0 [] hf rfl,oE 1 [0] hf rfl ?_,oP1 2 [1] hf rfl,oP0 3 [] hf rfl,oE 4 [2,3] hf rfl ?_,oP1 5 [4] hf rfl,oP1 6 [5] hf rfl,oP1 7 [5] hf rfl,oE 8 [5,7] hf rfl ?_,oP3 9 [5,6,8] hf rfl,oE 10 [5,9] hf rfl ?_,oP2 11 [5,10] hf rfl,oP1 12 [11] hf rfl,oP1 13 [12] hf rfl,oE 14 [12,13] hf rfl ?_,oP2 15 [12,14] hf rfl,oP1 16 [12] hf rfl,oE 17 [12,15,16] hf rfl ?_,oP2 18 [12,17] hf rfl,oP1 19 [18] hf rfl,oP1 20 [19] hf rfl,oE 21 [19,20] hf rfl ?_,oP2 22 [19,21] hf rfl,oP1 23 [19] hf rfl,oE 24 [19,22,23] hf rfl ?_,oP2 25 [19,24] hf rfl,trivial⟩
            all_goals intro vs W hS hp hx KO hKO
            all_goals simp only[Act.put,sA,sZ,sS]at hKO
            ·have e0:=isOf hp.1;simp only[e0]at hKO;have fc3:=BxA.cell (hS.2.2.2.2.2.2.2.1) 3 (v:=.slice a3 n3 c3) rfl;go_simp;exact hKO _ W (.refl W) rfl
            ·have e2:=isOf hp.1;have e3:=isOf hp.2.1;simp only[e2,e3]at hKO;go_simp;exact hKO _ W (Ext.refl W) (by first | rfl | exact congrArg Value.bool NE0.out)
            ·have e5:=isOf hp.1;have e7:=isOf hp.2.1;simp only[e5,e7]at hKO;have fc4:=BxA.cell (hS.2.2.2.2.2.2.2.2.2.1) 4 (v:=.int .i64 (cl:Int)) rfl;go_simp;exact hKO _ W (.refl W) rfl
            ·have e5:=isOf hp.1;have e9:=isOf hp.2.1;simp only[e5,e9]at hKO;go_simp;exact hKO _ W (Ext.refl W) (by first | rfl | exact congrArg Value.bool NE1.out)
            ·have e12:=isOf hp.1;have e13:=isOf hp.2.1;simp only[e12,e13]at hKO;have fc1:=BxA.cell (hS.2.2.2.2.2.2.2.1) 1 (v:=.slice a1 n1 c1) rfl;go_simp;exact hKO _ W (.refl W) rfl
            ·have e12:=isOf hp.1;have e15:=isOf hp.2.1;have e16:=isOf hp.2.2.1;simp only[e12,e15,e16]at hKO;go_simp;exact hKO _ W (Ext.refl W) (by first | rfl | exact congrArg Value.bool NE2.out)
            ·have e19:=isOf hp.1;have e20:=isOf hp.2.1;simp only[e19,e20]at hKO;have fc2:=BxA.cell (hS.2.2.2.2.2.2.2.1) 2 (v:=.slice a2 n2 c2) rfl;go_simp;exact hKO _ W (.refl W) rfl
            ·have e19:=isOf hp.1;have e22:=isOf hp.2.1;have e23:=isOf hp.2.2.1;simp only[e19,e22,e23]at hKO;go_simp;exact hKO _ W (Ext.refl W) (by first | rfl | exact congrArg Value.bool NE3.out)
           intro vs W12 hS hp
           clear szw12 E0 hi0 hi1 hi2 hi3 p4 p6 p7 p8 p13
           obtain⟨E0,hi0,hi1,hi2,hi3,p4,p6,p7,p8,p13,sz12⟩:=hS
           obtain⟨h12_0,h12_1,h12_2,h12_3,h12_4,h12_5,h12_6,h12_7,h12_8,h12_9,h12_10,h12_11,h12_12,h12_13,h12_14,h12_15,h12_16,h12_17,h12_18,h12_19,h12_20,h12_21,h12_22,h12_23,h12_24,h12_25,-⟩:=hp
           simp only[isOf h12_0,isOf h12_1,isOf h12_2,isOf h12_3,isOf h12_4,isOf h12_5,isOf h12_6,isOf h12_7,isOf h12_8,isOf h12_9,isOf h12_10,isOf h12_11,isOf h12_12,isOf h12_13,isOf h12_14,isOf h12_15,isOf h12_16,isOf h12_17,isOf h12_18,isOf h12_19,isOf h12_20,isOf h12_21,isOf h12_22,isOf h12_23,isOf h12_24,isOf h12_25]
           clear h12_0 h12_1 h12_2 h12_3 h12_4 h12_5 h12_6 h12_7 h12_8 h12_9 h12_10 h12_11 h12_12 h12_13 h12_14 h12_15 h12_16 h12_17 h12_18 h12_19 h12_20 h12_21 h12_22 h12_23 h12_24 h12_25;clear hr0 t1 t2 t3 t4 hv0 hv0a hv0b
           obtain rfl:n0=n3:=D0.out.symm
           have HSB:Hid (shapeB n0 cl n1 n2 n0=true):=Lib.hid (shapeB_iff.2 ⟨rfl,HRI.out.symm.trans D1.out,by rw[HF.out];exact⟨D2.out,D3.out⟩⟩)
           have hzE:=Ext.size E0
           have lt8:=BxA.lt p8
           have HRA:=Lib.hid (rightAda_iff.1 HR.out)
           obtain⟨k4a,k4b,k4c⟩:=p4.c3
           obtain⟨k6a,k6b⟩:=p6.c2
           obtain⟨k7a,k7b,k7c,k7d⟩:=p7.c4
           obtain⟨k8a,k8b,k8c,k8d⟩:=p8.c4
           obtain⟨k13a,k13b,k13c,k13d,k13e,k13f⟩:=p13.c6
           go_wp2_with fail
           clear k4a k4b k4c k6a k6b k7a k7b k7c k7d k8a k8b k8c k8d k13a k13b k13c k13d k13e k13f
           refine(Tryz.adaStep lr ep d sh K cl _ HK.out HSL.out.1 HSL.out.2 HQ.out.2.1 HRA.out.2.2.2.1 HQ.out.1 (by have h1:=HRA.out.2.2.2.2;have h2:=one_pos K;have e:((K:Int)).toNat=K:=rfl;rw[e]at h1;omega) HQ.out.2.2.1 HC1.out.1 HN.out (shapeB_iff.1 HSB.out).2.1 (shapeB_iff.1 HSB.out).2.2 HM.out HV.out (hi0.mono (Nat.le_refl _) hzE) (hi1.mono (Nat.le_refl _) hzE) (hi2.mono (Nat.le_refl _) hzE) (hi3.mono (Nat.le_refl _) hzE)).mono ?_
           rintro e V4 ⟨hE,⟨hb,a1,n1,c1,a2,n2,c2,a3,n3,c3,rfl,i1,i2,i3⟩ | ⟨hb,rfl⟩⟩
           ·have HB:=Lib.hid hb
            clear hb
            have szc:=Ext.size hE
            clear hi0 hi1 hi2 hi3;replace E0:=(Ext.trans E0 hE);replace p4:=(p4.ext hE);replace p6:=(p6.ext hE);replace p7:=(p7.ext hE);replace p8:=(p8.ext hE);replace p13:=(p13.ext hE);clear hE
            have HA0:Hid (adaE ⟨lr,ep,d⟩ (K:Int) (T:Int) (cl:Int) lw lm lv lg=0):=Lib.hid (by rw[HAE.out,if_neg (by rw[HSB.out];exact Bool.noConfusion),if_neg (by rw[HB.out];exact Bool.noConfusion)])
            have z8:∀ i,V4.frozen? ⟨w.heap.size+1+1+1,i,none⟩=false:=fun i=>by simp[World.frozen?,show V4.heap[w.heap.size+1+1+1]? = _ from p8]
            have z80:=z8 0
            have z81:=z8 1
            have z82:=z8 2
            have z83:=z8 3
            clear z8
            obtain⟨k4a,k4b,k4c⟩:=p4.c3
            obtain⟨k6a,k6b⟩:=p6.c2
            obtain⟨k7a,k7b,k7c,k7d⟩:=p7.c4
            obtain⟨k8a,k8b,k8c,k8d⟩:=p8.c4
            obtain⟨k13a,k13b,k13c,k13d,k13e,k13f⟩:=p13.c6
            go_wp2;clear k4a k4b k4c k6a k6b k7a k7b k7c k7d k8a k8b k8c k8d k13a k13b k13c k13d k13e k13f
            obtain⟨W2,hW2,hw,hq⟩:=(Form4.of p8).put a1 n1 c1 a2 n2 c2 a3 n3 c3 none 0 0
            rw[← hW2]
            have szw:=hw.apart.size
            have k80:=hq.cell 0 (v:=.slice a1 n1 c1) rfl
            have k81:=hq.cell 1 (v:=.slice a2 n2 c2) rfl
            have k82:=hq.cell 2 (v:=.slice a3 n3 c3) rfl
            have k83:=hq.cell 3 (v:=.slice none 0 0) rfl
            exact bodyPost_ret (v:=.tuple #[.agg #[.slice a1 n1 c1,.slice a2 n2 c2,.slice a3 n3 c3,.slice none 0 0],.int .i64 0]) (by simp[results,Tryz.results6,go_sem,k80,k81,k82,k83]) rfl ⟨Ext.wr E0 hw (by omega),a1,n1,c1,a2,n2,c2,a3,n3,c3,by rw[HA0.out],by unfold stepW;rw[if_pos HA0.out,← HSH.out];exact(i1.wr hw (by omega)).mono (by omega) szw,by unfold stepM;rw[if_pos HA0.out,← HSH.out];exact(i2.wr hw (by omega)).mono (by omega) szw,by unfold stepV;rw[if_pos HA0.out,← HSH.out];exact(i3.wr hw (by omega)).mono (by omega) szw⟩
           ·have HB:=Lib.hid hb
            clear hb
            have szc:=Ext.size hE
            clear hi0 hi1 hi2 hi3;replace E0:=(Ext.trans E0 hE);replace p4:=(p4.ext hE);replace p6:=(p6.ext hE);replace p7:=(p7.ext hE);replace p8:=(p8.ext hE);replace p13:=(p13.ext hE);clear hE
            have HA0:Hid (adaE ⟨lr,ep,d⟩ (K:Int) (T:Int) (cl:Int) lw lm lv lg=2):=Lib.hid (by rw[HAE.out,if_neg (by rw[HSB.out];exact Bool.noConfusion),if_pos HB.out])
            have z8:∀ i,V4.frozen? ⟨w.heap.size+1+1+1,i,none⟩=false:=fun i=>by simp[World.frozen?,show V4.heap[w.heap.size+1+1+1]? = _ from p8]
            have z80:=z8 0
            have z81:=z8 1
            have z82:=z8 2
            have z83:=z8 3
            clear z8
            obtain⟨k4a,k4b,k4c⟩:=p4.c3
            obtain⟨k6a,k6b⟩:=p6.c2
            obtain⟨k7a,k7b,k7c,k7d⟩:=p7.c4
            obtain⟨k8a,k8b,k8c,k8d⟩:=p8.c4
            obtain⟨k13a,k13b,k13c,k13d,k13e,k13f⟩:=p13.c6
            go_wp2;clear k4a k4b k4c k6a k6b k7a k7b k7c k7d k8a k8b k8c k8d k13a k13b k13c k13d k13e k13f
            obtain⟨W2,hW2,hw,hq⟩:=(Form4.of p8).put none 0 0 none 0 0 none 0 0 none 0 0
            rw[← hW2]
            have szw:=hw.apart.size
            have k80:=hq.cell 0 (v:=.slice none 0 0) rfl
            have k81:=hq.cell 1 (v:=.slice none 0 0) rfl
            have k82:=hq.cell 2 (v:=.slice none 0 0) rfl
            have k83:=hq.cell 3 (v:=.slice none 0 0) rfl
            exact bodyPost_ret (v:=.tuple #[.agg #[.slice none 0 0,.slice none 0 0,.slice none 0 0,.slice none 0 0],.int .i64 2]) (by simp[results,Tryz.results6,go_sem,k80,k81,k82,k83]) rfl (AdaOut.no (Ext.wr E0 hw (by omega)) HA0.out (by omega))
          ·have NE3:Hid (((n2:Int) != ((n0:Int):Int))=true):=Lib.hid (bne_iff_ne.2 (by omega))
           have ND3:=Lib.hid e3
           clear e3
           obtain⟨k4a,k4b,k4c⟩:=p4.c3
           obtain⟨k6a,k6b⟩:=p6.c2
           obtain⟨k7a,k7b,k7c,k7d⟩:=p7.c4
           obtain⟨k8a,k8b,k8c,k8d⟩:=p8.c4
           obtain⟨k13a,k13b,k13c,k13d,k13e,k13f⟩:=p13.c6
           go_upto_region 10 with (fail)
           clear k4a k4b k4c k6a k6b k7a k7b k7c k7d k8a k8b k8c k8d k13a k13b k13c k13d k13e k13f;have ltp13:=p13.lt;have szw13:=Ext.size E0
           refine region_gs [isV (.pointer (some ⟨w.heap.size+1+1,3,none⟩)),isV (.slice a3 n3 c3),isV (.int .i64 (n3:Int)),isV (.int .i64 (n0:Int)),isV (.bool false),isV (.bool false),isV (.int .i64 (n0:Int)),isV (.pointer (some ⟨g13,4,none⟩)),isV (.int .i64 (cl:Int)),isV (.int .i64 (ri:Int)),isV (.bool false),isV (.bool false),isV (.bool false),isV (.pointer (some ⟨w.heap.size+1+1,1,none⟩)),isV (.slice a1 n1 c1),isV (.int .i64 (n1:Int)),isV (.int .i64 0),isV (.bool false),isV (.bool false),isV (.bool false),isV (.pointer (some ⟨w.heap.size+1+1,2,none⟩)),isV (.slice a2 n2 c2),isV (.int .i64 (n2:Int)),isV (.int .i64 (n0:Int)),isV (.bool true),isV (.bool true)]
            (fun W=>Ext w W∧Iw 0 w.heap.size W a0 n0 c0 (lw)∧Iw 0 w.heap.size W a1 n1 c1 (lm)∧Iw 0 w.heap.size W a2 n2 c2 (lv)∧Iw 0 w.heap.size W a3 n3 c3 (lg)∧Bx3 W w.heap.size 23 (.int .i64 lr) (.int .i64 ep) (.int .i64 d)∧Bx2 W (w.heap.size+1) 24 (.int .i64 (T:Int)) (.int .i64 (cl:Int))∧BxA W (w.heap.size+1+1) 27 #[.slice a0 n0 c0,.slice a1 n1 c1,.slice a2 n2 c2,.slice a3 n3 c3]∧BxA W (w.heap.size+1+1+1) 27 #[.slice none 0 0,.slice none 0 0,.slice none 0 0,.slice none 0 0]∧BxA W g13 54 #[.int .i64 lr,.int .i64 ep,.int .i64 d,.int .i64 (K:Int),.int .i64 (cl:Int),.int .i64 sh]∧V3.heap.size≤W.heap.size) ⟨Good.is _,Good.is _,Good.is _,Good.is _,Good.is _,Good.is _,Good.is _,Good.is _,Good.is _,Good.is _,Good.is _,Good.is _,Good.is _,Good.is _,Good.is _,Good.is _,Good.is _,Good.is _,Good.is _,Good.is _,Good.is _,Good.is _,Good.is _,Good.is _,Good.is _,Good.is _,trivial⟩
            ⟨E0,hi0,hi1,hi2,hi3,p4,p6,p7,p8,p13,Nat.le_refl _⟩ (A:=?A13) ?hA13 ?howe13 ?hfin13
           case hA13=>
            intro vs
            simp only[putAll,Act.put,sA,sZ,sS,Nat.zero_add,Nat.reduceAdd]
            exact rfl
           case howe13=>
            clear E0 hi0 hi1 hi2 hi3 p4 p6 p7 p8 p13
            intro hf
            refine⟨oP0 0 [] hf rfl,oE 1 [0] hf rfl ?_,oP1 2 [1] hf rfl,oP0 3 [] hf rfl,oE 4 [2,3] hf rfl ?_,oP1 5 [4] hf rfl,oP1 6 [5] hf rfl,oP1 7 [5] hf rfl,oE 8 [5,7] hf rfl ?_,oP3 9 [5,6,8] hf rfl,oE 10 [5,9] hf rfl ?_,oP2 11 [5,10] hf rfl,oP1 12 [11] hf rfl,oP1 13 [12] hf rfl,oE 14 [12,13] hf rfl ?_,oP2 15 [12,14] hf rfl,oP1 16 [12] hf rfl,oE 17 [12,15,16] hf rfl ?_,oP2 18 [12,17] hf rfl,oP1 19 [18] hf rfl,oP1 20 [19] hf rfl,oE 21 [19,20] hf rfl ?_,oP2 22 [19,21] hf rfl,oP1 23 [19] hf rfl,oE 24 [19,22,23] hf rfl ?_,oP2 25 [19,24] hf rfl,trivial⟩
            all_goals intro vs W hS hp hx KO hKO
            all_goals simp only[Act.put,sA,sZ,sS]at hKO
            ·have e0:=isOf hp.1;simp only[e0]at hKO;have fc3:=BxA.cell (hS.2.2.2.2.2.2.2.1) 3 (v:=.slice a3 n3 c3) rfl;go_simp;exact hKO _ W (.refl W) rfl
            ·have e2:=isOf hp.1;have e3:=isOf hp.2.1;simp only[e2,e3]at hKO;go_simp;exact hKO _ W (Ext.refl W) (by first | rfl | exact congrArg Value.bool NE0.out)
            ·have e5:=isOf hp.1;have e7:=isOf hp.2.1;simp only[e5,e7]at hKO;have fc4:=BxA.cell (hS.2.2.2.2.2.2.2.2.2.1) 4 (v:=.int .i64 (cl:Int)) rfl;go_simp;exact hKO _ W (.refl W) rfl
            ·have e5:=isOf hp.1;have e9:=isOf hp.2.1;simp only[e5,e9]at hKO;go_simp;exact hKO _ W (Ext.refl W) (by first | rfl | exact congrArg Value.bool NE1.out)
            ·have e12:=isOf hp.1;have e13:=isOf hp.2.1;simp only[e12,e13]at hKO;have fc1:=BxA.cell (hS.2.2.2.2.2.2.2.1) 1 (v:=.slice a1 n1 c1) rfl;go_simp;exact hKO _ W (.refl W) rfl
            ·have e12:=isOf hp.1;have e15:=isOf hp.2.1;have e16:=isOf hp.2.2.1;simp only[e12,e15,e16]at hKO;go_simp;exact hKO _ W (Ext.refl W) (by first | rfl | exact congrArg Value.bool NE2.out)
            ·have e19:=isOf hp.1;have e20:=isOf hp.2.1;simp only[e19,e20]at hKO;have fc2:=BxA.cell (hS.2.2.2.2.2.2.2.1) 2 (v:=.slice a2 n2 c2) rfl;go_simp;exact hKO _ W (.refl W) rfl
            ·have e19:=isOf hp.1;have e22:=isOf hp.2.1;have e23:=isOf hp.2.2.1;simp only[e19,e22,e23]at hKO;go_simp;exact hKO _ W (Ext.refl W) (by first | rfl | exact congrArg Value.bool NE3.out)
           intro vs W13 hS hp
           clear szw13 E0 hi0 hi1 hi2 hi3 p4 p6 p7 p8 p13
           obtain⟨E0,hi0,hi1,hi2,hi3,p4,p6,p7,p8,p13,sz13⟩:=hS
           obtain⟨h13_0,h13_1,h13_2,h13_3,h13_4,h13_5,h13_6,h13_7,h13_8,h13_9,h13_10,h13_11,h13_12,h13_13,h13_14,h13_15,h13_16,h13_17,h13_18,h13_19,h13_20,h13_21,h13_22,h13_23,h13_24,h13_25,-⟩:=hp
           simp only[isOf h13_0,isOf h13_1,isOf h13_2,isOf h13_3,isOf h13_4,isOf h13_5,isOf h13_6,isOf h13_7,isOf h13_8,isOf h13_9,isOf h13_10,isOf h13_11,isOf h13_12,isOf h13_13,isOf h13_14,isOf h13_15,isOf h13_16,isOf h13_17,isOf h13_18,isOf h13_19,isOf h13_20,isOf h13_21,isOf h13_22,isOf h13_23,isOf h13_24,isOf h13_25]
           clear h13_0 h13_1 h13_2 h13_3 h13_4 h13_5 h13_6 h13_7 h13_8 h13_9 h13_10 h13_11 h13_12 h13_13 h13_14 h13_15 h13_16 h13_17 h13_18 h13_19 h13_20 h13_21 h13_22 h13_23 h13_24 h13_25;clear hr0 t1 t2 t3 t4 hv0 hv0a hv0b
           have z8:∀ i,W13.frozen? ⟨w.heap.size+1+1+1,i,none⟩=false:=fun i=>by simp[World.frozen?,show W13.heap[w.heap.size+1+1+1]? = _ from p8]
           have z80:=z8 0
           have z81:=z8 1
           have z82:=z8 2
           have z83:=z8 3
           clear z8
           obtain⟨k4a,k4b,k4c⟩:=p4.c3
           obtain⟨k6a,k6b⟩:=p6.c2
           obtain⟨k7a,k7b,k7c,k7d⟩:=p7.c4
           obtain⟨k8a,k8b,k8c,k8d⟩:=p8.c4
           obtain⟨k13a,k13b,k13c,k13d,k13e,k13f⟩:=p13.c6
           go_wp2;clear k4a k4b k4c k6a k6b k7a k7b k7c k7d k8a k8b k8c k8d k13a k13b k13c k13d k13e k13f
           obtain⟨W2,hW2,hw,hq⟩:=(Form4.of p8).put none 0 0 none 0 0 none 0 0 none 0 0
           rw[← hW2]
           have k80:=hq.cell 0 (v:=.slice none 0 0) rfl
           have k81:=hq.cell 1 (v:=.slice none 0 0) rfl
           have k82:=hq.cell 2 (v:=.slice none 0 0) rfl
           have k83:=hq.cell 3 (v:=.slice none 0 0) rfl
           exact bodyPost_ret (v:=.tuple #[.agg #[.slice none 0 0,.slice none 0 0,.slice none 0 0,.slice none 0 0],.int .i64 5]) (by simp[results,Tryz.results6,go_sem,k80,k81,k82,k83]) rfl (AdaOut.no (Ext.wr E0 hw (by omega)) (by rw[HAE.out,if_pos (shapeB_no (fun k=>by rw[HF.out]at k;simp only[Bool.false_eq_true,if_false]at k;have h:=ND3.out;have hr:=HRI.out;omega))]) (by omega))
         ·have NE2:Hid (((n1:Int) != (0:Int))=true):=Lib.hid (bne_iff_ne.2 (by omega))
          have ND2:=Lib.hid e2
          clear e2
          obtain⟨k4a,k4b,k4c⟩:=p4.c3
          obtain⟨k6a,k6b⟩:=p6.c2
          obtain⟨k7a,k7b,k7c,k7d⟩:=p7.c4
          obtain⟨k8a,k8b,k8c,k8d⟩:=p8.c4
          obtain⟨k13a,k13b,k13c,k13d,k13e,k13f⟩:=p13.c6
          go_upto_region 10 with (fail)
          clear k4a k4b k4c k6a k6b k7a k7b k7c k7d k8a k8b k8c k8d k13a k13b k13c k13d k13e k13f;have ltp13:=p13.lt;have szw14:=Ext.size E0
          refine region_gs [isV (.pointer (some ⟨w.heap.size+1+1,3,none⟩)),isV (.slice a3 n3 c3),isV (.int .i64 (n3:Int)),isV (.int .i64 (n0:Int)),isV (.bool false),isV (.bool false),isV (.int .i64 (n0:Int)),isV (.pointer (some ⟨g13,4,none⟩)),isV (.int .i64 (cl:Int)),isV (.int .i64 (ri:Int)),isV (.bool false),isV (.bool false),isV (.bool false),isV (.pointer (some ⟨w.heap.size+1+1,1,none⟩)),isV (.slice a1 n1 c1),isV (.int .i64 (n1:Int)),isV (.int .i64 0),isV (.bool true),isV (.bool true),isV (.bool true),isV (undef),isV (undef),isV (undef),isV (undef),isV (undef),isV (.bool true)]
           (fun W=>Ext w W∧Iw 0 w.heap.size W a0 n0 c0 (lw)∧Iw 0 w.heap.size W a1 n1 c1 (lm)∧Iw 0 w.heap.size W a2 n2 c2 (lv)∧Iw 0 w.heap.size W a3 n3 c3 (lg)∧Bx3 W w.heap.size 23 (.int .i64 lr) (.int .i64 ep) (.int .i64 d)∧Bx2 W (w.heap.size+1) 24 (.int .i64 (T:Int)) (.int .i64 (cl:Int))∧BxA W (w.heap.size+1+1) 27 #[.slice a0 n0 c0,.slice a1 n1 c1,.slice a2 n2 c2,.slice a3 n3 c3]∧BxA W (w.heap.size+1+1+1) 27 #[.slice none 0 0,.slice none 0 0,.slice none 0 0,.slice none 0 0]∧BxA W g13 54 #[.int .i64 lr,.int .i64 ep,.int .i64 d,.int .i64 (K:Int),.int .i64 (cl:Int),.int .i64 sh]∧V3.heap.size≤W.heap.size) ⟨Good.is _,Good.is _,Good.is _,Good.is _,Good.is _,Good.is _,Good.is _,Good.is _,Good.is _,Good.is _,Good.is _,Good.is _,Good.is _,Good.is _,Good.is _,Good.is _,Good.is _,Good.is _,Good.is _,Good.is _,Good.is _,Good.is _,Good.is _,Good.is _,Good.is _,Good.is _,trivial⟩
           ⟨E0,hi0,hi1,hi2,hi3,p4,p6,p7,p8,p13,Nat.le_refl _⟩ (A:=?A14) ?hA14 ?howe14 ?hfin14
          case hA14=>
           intro vs
           simp only[putAll,Act.put,sA,sZ,sS,Nat.zero_add,Nat.reduceAdd]
           exact rfl
          case howe14=>
           clear E0 hi0 hi1 hi2 hi3 p4 p6 p7 p8 p13
           intro hf
           refine⟨oP0 0 [] hf rfl,oE 1 [0] hf rfl ?_,oP1 2 [1] hf rfl,oP0 3 [] hf rfl,oE 4 [2,3] hf rfl ?_,oP1 5 [4] hf rfl,oP1 6 [5] hf rfl,oP1 7 [5] hf rfl,oE 8 [5,7] hf rfl ?_,oP3 9 [5,6,8] hf rfl,oE 10 [5,9] hf rfl ?_,oP2 11 [5,10] hf rfl,oP1 12 [11] hf rfl,oP1 13 [12] hf rfl,oE 14 [12,13] hf rfl ?_,oP2 15 [12,14] hf rfl,oP1 16 [12] hf rfl,oE 17 [12,15,16] hf rfl ?_,oP2 18 [12,17] hf rfl,oP1 19 [18] hf rfl,oP1 20 [19] hf rfl,oP1 21 [19] hf rfl,oP1 22 [19] hf rfl,oP1 23 [19] hf rfl,oP1 24 [19] hf rfl,oP2 25 [19,24] hf rfl,trivial⟩
           all_goals intro vs W hS hp hx KO hKO
           all_goals simp only[Act.put,sA,sZ,sS]at hKO
           ·have e0:=isOf hp.1;simp only[e0]at hKO;have fc3:=BxA.cell (hS.2.2.2.2.2.2.2.1) 3 (v:=.slice a3 n3 c3) rfl;go_simp;exact hKO _ W (.refl W) rfl
           ·have e2:=isOf hp.1;have e3:=isOf hp.2.1;simp only[e2,e3]at hKO;go_simp;exact hKO _ W (Ext.refl W) (by first | rfl | exact congrArg Value.bool NE0.out)
           ·have e5:=isOf hp.1;have e7:=isOf hp.2.1;simp only[e5,e7]at hKO;have fc4:=BxA.cell (hS.2.2.2.2.2.2.2.2.2.1) 4 (v:=.int .i64 (cl:Int)) rfl;go_simp;exact hKO _ W (.refl W) rfl
           ·have e5:=isOf hp.1;have e9:=isOf hp.2.1;simp only[e5,e9]at hKO;go_simp;exact hKO _ W (Ext.refl W) (by first | rfl | exact congrArg Value.bool NE1.out)
           ·have e12:=isOf hp.1;have e13:=isOf hp.2.1;simp only[e12,e13]at hKO;have fc1:=BxA.cell (hS.2.2.2.2.2.2.2.1) 1 (v:=.slice a1 n1 c1) rfl;go_simp;exact hKO _ W (.refl W) rfl
           ·have e12:=isOf hp.1;have e15:=isOf hp.2.1;have e16:=isOf hp.2.2.1;simp only[e12,e15,e16]at hKO;go_simp;exact hKO _ W (Ext.refl W) (by first | rfl | exact congrArg Value.bool NE2.out)
          intro vs W14 hS hp
          clear szw14 E0 hi0 hi1 hi2 hi3 p4 p6 p7 p8 p13
          obtain⟨E0,hi0,hi1,hi2,hi3,p4,p6,p7,p8,p13,sz14⟩:=hS
          obtain⟨h14_0,h14_1,h14_2,h14_3,h14_4,h14_5,h14_6,h14_7,h14_8,h14_9,h14_10,h14_11,h14_12,h14_13,h14_14,h14_15,h14_16,h14_17,h14_18,h14_19,h14_20,h14_21,h14_22,h14_23,h14_24,h14_25,-⟩:=hp
          simp only[isOf h14_0,isOf h14_1,isOf h14_2,isOf h14_3,isOf h14_4,isOf h14_5,isOf h14_6,isOf h14_7,isOf h14_8,isOf h14_9,isOf h14_10,isOf h14_11,isOf h14_12,isOf h14_13,isOf h14_14,isOf h14_15,isOf h14_16,isOf h14_17,isOf h14_18,isOf h14_19,isOf h14_20,isOf h14_21,isOf h14_22,isOf h14_23,isOf h14_24,isOf h14_25]
          clear h14_0 h14_1 h14_2 h14_3 h14_4 h14_5 h14_6 h14_7 h14_8 h14_9 h14_10 h14_11 h14_12 h14_13 h14_14 h14_15 h14_16 h14_17 h14_18 h14_19 h14_20 h14_21 h14_22 h14_23 h14_24 h14_25;clear hr0 t1 t2 t3 t4 hv0 hv0a hv0b
          have z8:∀ i,W14.frozen? ⟨w.heap.size+1+1+1,i,none⟩=false:=fun i=>by simp[World.frozen?,show W14.heap[w.heap.size+1+1+1]? = _ from p8]
          have z80:=z8 0
          have z81:=z8 1
          have z82:=z8 2
          have z83:=z8 3
          clear z8
          obtain⟨k4a,k4b,k4c⟩:=p4.c3
          obtain⟨k6a,k6b⟩:=p6.c2
          obtain⟨k7a,k7b,k7c,k7d⟩:=p7.c4
          obtain⟨k8a,k8b,k8c,k8d⟩:=p8.c4
          obtain⟨k13a,k13b,k13c,k13d,k13e,k13f⟩:=p13.c6
          go_wp2;clear k4a k4b k4c k6a k6b k7a k7b k7c k7d k8a k8b k8c k8d k13a k13b k13c k13d k13e k13f
          obtain⟨W2,hW2,hw,hq⟩:=(Form4.of p8).put none 0 0 none 0 0 none 0 0 none 0 0
          rw[← hW2]
          have k80:=hq.cell 0 (v:=.slice none 0 0) rfl
          have k81:=hq.cell 1 (v:=.slice none 0 0) rfl
          have k82:=hq.cell 2 (v:=.slice none 0 0) rfl
          have k83:=hq.cell 3 (v:=.slice none 0 0) rfl
          exact bodyPost_ret (v:=.tuple #[.agg #[.slice none 0 0,.slice none 0 0,.slice none 0 0,.slice none 0 0],.int .i64 5]) (by simp[results,Tryz.results6,go_sem,k80,k81,k82,k83]) rfl (AdaOut.no (Ext.wr E0 hw (by omega)) (by rw[HAE.out,if_pos (shapeB_no (fun k=>by rw[HF.out]at k;simp only[Bool.false_eq_true,if_false]at k;have h:=ND2.out;have hr:=HRI.out;omega))]) (by omega))
        ·have NE1:Hid (((ri:Int) != (0:Int))=true):=Lib.hid (bne_iff_ne.2 (by omega))
         have ND1:=Lib.hid e1
         clear e1
         obtain⟨k4a,k4b,k4c⟩:=p4.c3
         obtain⟨k6a,k6b⟩:=p6.c2
         obtain⟨k7a,k7b,k7c,k7d⟩:=p7.c4
         obtain⟨k8a,k8b,k8c,k8d⟩:=p8.c4
         obtain⟨k13a,k13b,k13c,k13d,k13e,k13f⟩:=p13.c6
         go_upto_region 10 with (fail)
         clear k4a k4b k4c k6a k6b k7a k7b k7c k7d k8a k8b k8c k8d k13a k13b k13c k13d k13e k13f;have ltp13:=p13.lt;have szw15:=Ext.size E0
         refine region_gs [isV (.pointer (some ⟨w.heap.size+1+1,3,none⟩)),isV (.slice a3 n3 c3),isV (.int .i64 (n3:Int)),isV (.int .i64 (n0:Int)),isV (.bool false),isV (.bool false),isV (.int .i64 (n0:Int)),isV (.pointer (some ⟨g13,4,none⟩)),isV (.int .i64 (cl:Int)),isV (.int .i64 (ri:Int)),isV (.bool true),isV (.bool true),isV (.bool true),isV (undef),isV (undef),isV (undef),isV (undef),isV (undef),isV (.bool true),isV (.bool true),isV (undef),isV (undef),isV (undef),isV (undef),isV (undef),isV (.bool true)]
          (fun W=>Ext w W∧Iw 0 w.heap.size W a0 n0 c0 (lw)∧Iw 0 w.heap.size W a1 n1 c1 (lm)∧Iw 0 w.heap.size W a2 n2 c2 (lv)∧Iw 0 w.heap.size W a3 n3 c3 (lg)∧Bx3 W w.heap.size 23 (.int .i64 lr) (.int .i64 ep) (.int .i64 d)∧Bx2 W (w.heap.size+1) 24 (.int .i64 (T:Int)) (.int .i64 (cl:Int))∧BxA W (w.heap.size+1+1) 27 #[.slice a0 n0 c0,.slice a1 n1 c1,.slice a2 n2 c2,.slice a3 n3 c3]∧BxA W (w.heap.size+1+1+1) 27 #[.slice none 0 0,.slice none 0 0,.slice none 0 0,.slice none 0 0]∧BxA W g13 54 #[.int .i64 lr,.int .i64 ep,.int .i64 d,.int .i64 (K:Int),.int .i64 (cl:Int),.int .i64 sh]∧V3.heap.size≤W.heap.size) ⟨Good.is _,Good.is _,Good.is _,Good.is _,Good.is _,Good.is _,Good.is _,Good.is _,Good.is _,Good.is _,Good.is _,Good.is _,Good.is _,Good.is _,Good.is _,Good.is _,Good.is _,Good.is _,Good.is _,Good.is _,Good.is _,Good.is _,Good.is _,Good.is _,Good.is _,Good.is _,trivial⟩
          ⟨E0,hi0,hi1,hi2,hi3,p4,p6,p7,p8,p13,Nat.le_refl _⟩ (A:=?A15) ?hA15 ?howe15 ?hfin15
         case hA15=>
          intro vs
          simp only[putAll,Act.put,sA,sZ,sS,Nat.zero_add,Nat.reduceAdd]
          exact rfl
         case howe15=>
          clear E0 hi0 hi1 hi2 hi3 p4 p6 p7 p8 p13
          intro hf
          refine⟨oP0 0 [] hf rfl,oE 1 [0] hf rfl ?_,oP1 2 [1] hf rfl,oP0 3 [] hf rfl,oE 4 [2,3] hf rfl ?_,oP1 5 [4] hf rfl,oP1 6 [5] hf rfl,oP1 7 [5] hf rfl,oE 8 [5,7] hf rfl ?_,oP3 9 [5,6,8] hf rfl,oE 10 [5,9] hf rfl ?_,oP2 11 [5,10] hf rfl,oP1 12 [11] hf rfl,oP1 13 [12] hf rfl,oP1 14 [12] hf rfl,oP1 15 [12] hf rfl,oP1 16 [12] hf rfl,oP1 17 [12] hf rfl,oP2 18 [12,17] hf rfl,oP1 19 [18] hf rfl,oP1 20 [19] hf rfl,oP1 21 [19] hf rfl,oP1 22 [19] hf rfl,oP1 23 [19] hf rfl,oP1 24 [19] hf rfl,oP2 25 [19,24] hf rfl,trivial⟩
          all_goals intro vs W hS hp hx KO hKO
          all_goals simp only[Act.put,sA,sZ,sS]at hKO
          ·have e0:=isOf hp.1;simp only[e0]at hKO;have fc3:=BxA.cell (hS.2.2.2.2.2.2.2.1) 3 (v:=.slice a3 n3 c3) rfl;go_simp;exact hKO _ W (.refl W) rfl
          ·have e2:=isOf hp.1;have e3:=isOf hp.2.1;simp only[e2,e3]at hKO;go_simp;exact hKO _ W (Ext.refl W) (by first | rfl | exact congrArg Value.bool NE0.out)
          ·have e5:=isOf hp.1;have e7:=isOf hp.2.1;simp only[e5,e7]at hKO;have fc4:=BxA.cell (hS.2.2.2.2.2.2.2.2.2.1) 4 (v:=.int .i64 (cl:Int)) rfl;go_simp;exact hKO _ W (.refl W) rfl
          ·have e5:=isOf hp.1;have e9:=isOf hp.2.1;simp only[e5,e9]at hKO;go_simp;exact hKO _ W (Ext.refl W) (by first | rfl | exact congrArg Value.bool NE1.out)
         intro vs W15 hS hp
         clear szw15 E0 hi0 hi1 hi2 hi3 p4 p6 p7 p8 p13
         obtain⟨E0,hi0,hi1,hi2,hi3,p4,p6,p7,p8,p13,sz15⟩:=hS
         obtain⟨h15_0,h15_1,h15_2,h15_3,h15_4,h15_5,h15_6,h15_7,h15_8,h15_9,h15_10,h15_11,h15_12,h15_13,h15_14,h15_15,h15_16,h15_17,h15_18,h15_19,h15_20,h15_21,h15_22,h15_23,h15_24,h15_25,-⟩:=hp
         simp only[isOf h15_0,isOf h15_1,isOf h15_2,isOf h15_3,isOf h15_4,isOf h15_5,isOf h15_6,isOf h15_7,isOf h15_8,isOf h15_9,isOf h15_10,isOf h15_11,isOf h15_12,isOf h15_13,isOf h15_14,isOf h15_15,isOf h15_16,isOf h15_17,isOf h15_18,isOf h15_19,isOf h15_20,isOf h15_21,isOf h15_22,isOf h15_23,isOf h15_24,isOf h15_25]
         clear h15_0 h15_1 h15_2 h15_3 h15_4 h15_5 h15_6 h15_7 h15_8 h15_9 h15_10 h15_11 h15_12 h15_13 h15_14 h15_15 h15_16 h15_17 h15_18 h15_19 h15_20 h15_21 h15_22 h15_23 h15_24 h15_25;clear hr0 t1 t2 t3 t4 hv0 hv0a hv0b
         have z8:∀ i,W15.frozen? ⟨w.heap.size+1+1+1,i,none⟩=false:=fun i=>by simp[World.frozen?,show W15.heap[w.heap.size+1+1+1]? = _ from p8]
         have z80:=z8 0
         have z81:=z8 1
         have z82:=z8 2
         have z83:=z8 3
         clear z8
         obtain⟨k4a,k4b,k4c⟩:=p4.c3
         obtain⟨k6a,k6b⟩:=p6.c2
         obtain⟨k7a,k7b,k7c,k7d⟩:=p7.c4
         obtain⟨k8a,k8b,k8c,k8d⟩:=p8.c4
         obtain⟨k13a,k13b,k13c,k13d,k13e,k13f⟩:=p13.c6
         go_wp2;clear k4a k4b k4c k6a k6b k7a k7b k7c k7d k8a k8b k8c k8d k13a k13b k13c k13d k13e k13f
         obtain⟨W2,hW2,hw,hq⟩:=(Form4.of p8).put none 0 0 none 0 0 none 0 0 none 0 0
         rw[← hW2]
         have k80:=hq.cell 0 (v:=.slice none 0 0) rfl
         have k81:=hq.cell 1 (v:=.slice none 0 0) rfl
         have k82:=hq.cell 2 (v:=.slice none 0 0) rfl
         have k83:=hq.cell 3 (v:=.slice none 0 0) rfl
         exact bodyPost_ret (v:=.tuple #[.agg #[.slice none 0 0,.slice none 0 0,.slice none 0 0,.slice none 0 0],.int .i64 5]) (by simp[results,Tryz.results6,go_sem,k80,k81,k82,k83]) rfl (AdaOut.no (Ext.wr E0 hw (by omega)) (by rw[HAE.out,if_pos (shapeB_no (fun k=>by rw[HF.out]at k;simp only[Bool.false_eq_true,if_false]at k;have h:=ND1.out;have hr:=HRI.out;omega))]) (by omega))
       ·have NE0:Hid (((n3:Int) != ((n0:Int):Int))=true):=Lib.hid (bne_iff_ne.2 (by omega))
        have ND0:=Lib.hid e0
        clear e0
        obtain⟨k4a,k4b,k4c⟩:=p4.c3
        obtain⟨k6a,k6b⟩:=p6.c2
        obtain⟨k7a,k7b,k7c,k7d⟩:=p7.c4
        obtain⟨k8a,k8b,k8c,k8d⟩:=p8.c4
        obtain⟨k13a,k13b,k13c,k13d,k13e,k13f⟩:=p13.c6
        go_upto_region 10 with (fail)
        clear k4a k4b k4c k6a k6b k7a k7b k7c k7d k8a k8b k8c k8d k13a k13b k13c k13d k13e k13f;have ltp13:=p13.lt;have szw16:=Ext.size E0
        refine region_gs [isV (.pointer (some ⟨w.heap.size+1+1,3,none⟩)),isV (.slice a3 n3 c3),isV (.int .i64 (n3:Int)),isV (.int .i64 (n0:Int)),isV (.bool true),isV (.bool true),isV (undef),isV (undef),isV (undef),isV (undef),isV (undef),isV (.bool true),isV (.bool true),isV (undef),isV (undef),isV (undef),isV (undef),isV (undef),isV (.bool true),isV (.bool true),isV (undef),isV (undef),isV (undef),isV (undef),isV (undef),isV (.bool true)]
         (fun W=>Ext w W∧Iw 0 w.heap.size W a0 n0 c0 (lw)∧Iw 0 w.heap.size W a1 n1 c1 (lm)∧Iw 0 w.heap.size W a2 n2 c2 (lv)∧Iw 0 w.heap.size W a3 n3 c3 (lg)∧Bx3 W w.heap.size 23 (.int .i64 lr) (.int .i64 ep) (.int .i64 d)∧Bx2 W (w.heap.size+1) 24 (.int .i64 (T:Int)) (.int .i64 (cl:Int))∧BxA W (w.heap.size+1+1) 27 #[.slice a0 n0 c0,.slice a1 n1 c1,.slice a2 n2 c2,.slice a3 n3 c3]∧BxA W (w.heap.size+1+1+1) 27 #[.slice none 0 0,.slice none 0 0,.slice none 0 0,.slice none 0 0]∧BxA W g13 54 #[.int .i64 lr,.int .i64 ep,.int .i64 d,.int .i64 (K:Int),.int .i64 (cl:Int),.int .i64 sh]∧V3.heap.size≤W.heap.size) ⟨Good.is _,Good.is _,Good.is _,Good.is _,Good.is _,Good.is _,Good.is _,Good.is _,Good.is _,Good.is _,Good.is _,Good.is _,Good.is _,Good.is _,Good.is _,Good.is _,Good.is _,Good.is _,Good.is _,Good.is _,Good.is _,Good.is _,Good.is _,Good.is _,Good.is _,Good.is _,trivial⟩
         ⟨E0,hi0,hi1,hi2,hi3,p4,p6,p7,p8,p13,Nat.le_refl _⟩ (A:=?A16) ?hA16 ?howe16 ?hfin16
        case hA16=>
         intro vs
         simp only[putAll,Act.put,sA,sZ,sS,Nat.zero_add,Nat.reduceAdd]
         exact rfl
        case howe16=>
         clear E0 hi0 hi1 hi2 hi3 p4 p6 p7 p8 p13
         intro hf
         refine⟨oP0 0 [] hf rfl,oE 1 [0] hf rfl ?_,oP1 2 [1] hf rfl,oP0 3 [] hf rfl,oE 4 [2,3] hf rfl ?_,oP1 5 [4] hf rfl,oP1 6 [5] hf rfl,oP1 7 [5] hf rfl,oP1 8 [5] hf rfl,oP1 9 [5] hf rfl,oP1 10 [5] hf rfl,oP2 11 [5,10] hf rfl,oP1 12 [11] hf rfl,oP1 13 [12] hf rfl,oP1 14 [12] hf rfl,oP1 15 [12] hf rfl,oP1 16 [12] hf rfl,oP1 17 [12] hf rfl,oP2 18 [12,17] hf rfl,oP1 19 [18] hf rfl,oP1 20 [19] hf rfl,oP1 21 [19] hf rfl,oP1 22 [19] hf rfl,oP1 23 [19] hf rfl,oP1 24 [19] hf rfl,oP2 25 [19,24] hf rfl,trivial⟩
         all_goals intro vs W hS hp hx KO hKO
         all_goals simp only[Act.put,sA,sZ,sS]at hKO
         ·have e0:=isOf hp.1;simp only[e0]at hKO;have fc3:=BxA.cell (hS.2.2.2.2.2.2.2.1) 3 (v:=.slice a3 n3 c3) rfl;go_simp;exact hKO _ W (.refl W) rfl
         ·have e2:=isOf hp.1;have e3:=isOf hp.2.1;simp only[e2,e3]at hKO;go_simp;exact hKO _ W (Ext.refl W) (by first | rfl | exact congrArg Value.bool NE0.out)
        intro vs W16 hS hp
        clear szw16 E0 hi0 hi1 hi2 hi3 p4 p6 p7 p8 p13
        obtain⟨E0,hi0,hi1,hi2,hi3,p4,p6,p7,p8,p13,sz16⟩:=hS
        obtain⟨h16_0,h16_1,h16_2,h16_3,h16_4,h16_5,h16_6,h16_7,h16_8,h16_9,h16_10,h16_11,h16_12,h16_13,h16_14,h16_15,h16_16,h16_17,h16_18,h16_19,h16_20,h16_21,h16_22,h16_23,h16_24,h16_25,-⟩:=hp
        simp only[isOf h16_0,isOf h16_1,isOf h16_2,isOf h16_3,isOf h16_4,isOf h16_5,isOf h16_6,isOf h16_7,isOf h16_8,isOf h16_9,isOf h16_10,isOf h16_11,isOf h16_12,isOf h16_13,isOf h16_14,isOf h16_15,isOf h16_16,isOf h16_17,isOf h16_18,isOf h16_19,isOf h16_20,isOf h16_21,isOf h16_22,isOf h16_23,isOf h16_24,isOf h16_25]
        clear h16_0 h16_1 h16_2 h16_3 h16_4 h16_5 h16_6 h16_7 h16_8 h16_9 h16_10 h16_11 h16_12 h16_13 h16_14 h16_15 h16_16 h16_17 h16_18 h16_19 h16_20 h16_21 h16_22 h16_23 h16_24 h16_25;clear hr0 t1 t2 t3 t4 hv0 hv0a hv0b
        have z8:∀ i,W16.frozen? ⟨w.heap.size+1+1+1,i,none⟩=false:=fun i=>by simp[World.frozen?,show W16.heap[w.heap.size+1+1+1]? = _ from p8]
        have z80:=z8 0
        have z81:=z8 1
        have z82:=z8 2
        have z83:=z8 3
        clear z8
        obtain⟨k4a,k4b,k4c⟩:=p4.c3
        obtain⟨k6a,k6b⟩:=p6.c2
        obtain⟨k7a,k7b,k7c,k7d⟩:=p7.c4
        obtain⟨k8a,k8b,k8c,k8d⟩:=p8.c4
        obtain⟨k13a,k13b,k13c,k13d,k13e,k13f⟩:=p13.c6
        go_wp2;clear k4a k4b k4c k6a k6b k7a k7b k7c k7d k8a k8b k8c k8d k13a k13b k13c k13d k13e k13f
        obtain⟨W2,hW2,hw,hq⟩:=(Form4.of p8).put none 0 0 none 0 0 none 0 0 none 0 0
        rw[← hW2]
        have k80:=hq.cell 0 (v:=.slice none 0 0) rfl
        have k81:=hq.cell 1 (v:=.slice none 0 0) rfl
        have k82:=hq.cell 2 (v:=.slice none 0 0) rfl
        have k83:=hq.cell 3 (v:=.slice none 0 0) rfl
        exact bodyPost_ret (v:=.tuple #[.agg #[.slice none 0 0,.slice none 0 0,.slice none 0 0,.slice none 0 0],.int .i64 5]) (by simp[results,Tryz.results6,go_sem,k80,k81,k82,k83]) rfl (AdaOut.no (Ext.wr E0 hw (by omega)) (by rw[HAE.out,if_pos (shapeB_no (fun k=>by rw[HF.out]at k;simp only[Bool.false_eq_true,if_false]at k;have h:=ND0.out;have hr:=HRI.out;omega))]) (by omega))
      ·have HF:=Lib.hid hf
       clear hf
       obtain⟨k4a,k4b,k4c⟩:=p4.c3
       obtain⟨k6a,k6b⟩:=p6.c2
       obtain⟨k7a,k7b,k7c,k7d⟩:=p7.c4
       obtain⟨k8a,k8b,k8c,k8d⟩:=p8.c4
       obtain⟨k13a,k13b,k13c,k13d,k13e,k13f⟩:=p13.c6
       go_wp2_with fail
       clear k4a k4b k4c k6a k6b k7a k7b k7c k7d k8a k8b k8c k8d k13a k13b k13c k13d k13e k13f
       refine(Tryz.adaFac lr ep d sh K n0 cl HC1.out.1 (by have:=HN.out;omega) _).mono ?_
       rintro e V3 ⟨rfl,hE⟩
       rw[HF.out];replace E0:=(Ext.trans E0 hE);replace hi0:=(hi0.ext hE);replace hi1:=(hi1.ext hE);replace hi2:=(hi2.ext hE);replace hi3:=(hi3.ext hE);replace p4:=(p4.ext hE);replace p6:=(p6.ext hE);replace p7:=(p7.ext hE);replace p8:=(p8.ext hE);replace p13:=(p13.ext hE);clear hE
       obtain⟨rr,hrr⟩:∃ q,q=n0 / cl:=⟨_,rfl⟩
       have HRR:=Lib.hid hrr
       have hr0:rr≤n0:=by rw[hrr];exact Nat.div_le_self _ _
       have d1:=divT hrr
       have d2:(n0:Int) / (cl:Int)=(rr:Int):=by rw[hrr];rfl
       have d3:IntKind.i64.wrap ((n0:Int).tdiv (cl:Int))=(rr:Int):=by rw[d1,IntKind.wrap_i64];have:=HN.out;omega
       have d4:IntKind.i64.wrap (rr:Int)=(rr:Int):=by rw[IntKind.wrap_i64];have:=HN.out;omega
       have hv0:((cl:Int)==0)=false:=beq_eq_false_iff_ne.2 (by have:=HC1.out;omega)
       have hv0a:¬ ((cl:Int)=0):=by have:=HC1.out;omega
       have hv0b:¬ (cl=0):=by have:=HC1.out;omega
       clear hrr
       obtain⟨k4a,k4b,k4c⟩:=p4.c3
       obtain⟨k6a,k6b⟩:=p6.c2
       obtain⟨k7a,k7b,k7c,k7d⟩:=p7.c4
       obtain⟨k8a,k8b,k8c,k8d⟩:=p8.c4
       obtain⟨k13a,k13b,k13c,k13d,k13e,k13f⟩:=p13.c6
       go_upto_region 9 with (fail)
       clear k4a k4b k4c k6a k6b k7a k7b k7c k7d k8a k8b k8c k8d k13a k13b k13c k13d k13e k13f;have ltp13:=p13.lt;have szw17:=Ext.size E0
       refine region_gs [isV (.int .i64 (n0:Int)),isV (.pointer (some ⟨g13,4,none⟩)),isV (.int .i64 (cl:Int)),isV (.int .i64 (rr:Int)),isV (.pointer (some ⟨g13,4,none⟩)),isV (.int .i64 (cl:Int)),isV (.int .i64 (rr:Int)),isV (.int .i64 (cl:Int))]
        (fun W=>Ext w W∧Iw 0 w.heap.size W a0 n0 c0 (lw)∧Iw 0 w.heap.size W a1 n1 c1 (lm)∧Iw 0 w.heap.size W a2 n2 c2 (lv)∧Iw 0 w.heap.size W a3 n3 c3 (lg)∧Bx3 W w.heap.size 23 (.int .i64 lr) (.int .i64 ep) (.int .i64 d)∧Bx2 W (w.heap.size+1) 24 (.int .i64 (T:Int)) (.int .i64 (cl:Int))∧BxA W (w.heap.size+1+1) 27 #[.slice a0 n0 c0,.slice a1 n1 c1,.slice a2 n2 c2,.slice a3 n3 c3]∧BxA W (w.heap.size+1+1+1) 27 #[.slice none 0 0,.slice none 0 0,.slice none 0 0,.slice none 0 0]∧BxA W g13 54 #[.int .i64 lr,.int .i64 ep,.int .i64 d,.int .i64 (K:Int),.int .i64 (cl:Int),.int .i64 sh]∧V3.heap.size≤W.heap.size) ⟨Good.is _,Good.is _,Good.is _,Good.is _,Good.is _,Good.is _,Good.is _,Good.is _,trivial⟩
        ⟨E0,hi0,hi1,hi2,hi3,p4,p6,p7,p8,p13,Nat.le_refl _⟩ (A:=?A17) ?hA17 ?howe17 ?hfin17
       case hA17=>
        intro vs
        simp only[putAll,Act.put,sA,sZ,sS,Nat.zero_add,Nat.reduceAdd]
        exact rfl
       case howe17=>
        clear E0 hi0 hi1 hi2 hi3 p4 p6 p7 p8 p13
        intro hf
        refine⟨oP0 0 [] hf rfl,oP0 1 [] hf rfl,oE 2 [1] hf rfl ?_,oP2 3 [0,2] hf rfl,oP0 4 [] hf rfl,oE 5 [4] hf rfl ?_,oP1 6 [3] hf rfl,oP1 7 [5] hf rfl,trivial⟩
        all_goals intro vs W hS hp hx KO hKO
        all_goals simp only[Act.put,sA,sZ,sS]at hKO
        ·have e1:=isOf hp.1;simp only[e1]at hKO;have fc4:=BxA.cell (hS.2.2.2.2.2.2.2.2.2.1) 4 (v:=.int .i64 (cl:Int)) rfl;go_simp;exact hKO _ W (.refl W) rfl
        ·have e4:=isOf hp.1;simp only[e4]at hKO;have fc4:=BxA.cell (hS.2.2.2.2.2.2.2.2.2.1) 4 (v:=.int .i64 (cl:Int)) rfl;go_simp;exact hKO _ W (.refl W) rfl
       intro vs W17 hS hp
       clear szw17 E0 hi0 hi1 hi2 hi3 p4 p6 p7 p8 p13
       obtain⟨E0,hi0,hi1,hi2,hi3,p4,p6,p7,p8,p13,sz17⟩:=hS
       obtain⟨h17_0,h17_1,h17_2,h17_3,h17_4,h17_5,h17_6,h17_7,-⟩:=hp
       simp only[isOf h17_0,isOf h17_1,isOf h17_2,isOf h17_3,isOf h17_4,isOf h17_5,isOf h17_6,isOf h17_7]
       clear h17_0 h17_1 h17_2 h17_3 h17_4 h17_5 h17_6 h17_7;clear hr0 d1 d2 d3 d4 hv0 hv0a hv0b
       obtain⟨ri,hri⟩:∃ q,q=n0 % cl:=⟨_,rfl⟩
       have HRI:=Lib.hid hri
       have hr0:ri≤n0:=by rw[hri];exact Nat.mod_le _ _
       have t1:(n0:Int).tmod (cl:Int)=(ri:Int):=by rw[Int.tmod_eq_emod_of_nonneg (by omega),hri];rfl
       have t2:(n0:Int) % (cl:Int)=(ri:Int):=by rw[hri];rfl
       have t3:IntKind.i64.wrap ((n0:Int).tmod (cl:Int))=(ri:Int):=by rw[t1,IntKind.wrap_i64];have:=HN.out;omega
       have t4:IntKind.i64.wrap (ri:Int)=(ri:Int):=by rw[IntKind.wrap_i64];have:=HN.out;omega
       have hv0:((cl:Int)==0)=false:=beq_eq_false_iff_ne.2 (by have:=HC1.out;omega)
       have hv0a:¬ ((cl:Int)=0):=by have:=HC1.out;omega
       have hv0b:¬ (cl=0):=by have:=HC1.out;omega
       clear hri
       by_cases e0:n3=n0
       ·have NE0:Hid (((n3:Int) != ((n0:Int):Int))=false):=Lib.hid (by rw[bne_eq_false_iff_eq];omega)
        have D0:=Lib.hid e0
        clear e0
        by_cases e1:ri=0
        ·have NE1:Hid (((ri:Int) != (0:Int))=false):=Lib.hid (by rw[bne_eq_false_iff_eq];omega)
         have D1:=Lib.hid e1
         clear e1
         by_cases e2:n1=rr
         ·have NE2:Hid (((n1:Int) != ((rr:Int):Int))=false):=Lib.hid (by rw[bne_eq_false_iff_eq];omega)
          have D2:=Lib.hid e2
          clear e2
          by_cases e3:n2=cl
          ·have NE3:Hid (((n2:Int) != ((cl:Int):Int))=false):=Lib.hid (by rw[bne_eq_false_iff_eq];omega)
           have D3:=Lib.hid e3
           clear e3
           obtain⟨k4a,k4b,k4c⟩:=p4.c3
           obtain⟨k6a,k6b⟩:=p6.c2
           obtain⟨k7a,k7b,k7c,k7d⟩:=p7.c4
           obtain⟨k8a,k8b,k8c,k8d⟩:=p8.c4
           obtain⟨k13a,k13b,k13c,k13d,k13e,k13f⟩:=p13.c6
           go_upto_region 10 with (fail)
           clear k4a k4b k4c k6a k6b k7a k7b k7c k7d k8a k8b k8c k8d k13a k13b k13c k13d k13e k13f;have szw18:=Ext.size E0
           refine region_gs [isV (.pointer (some ⟨w.heap.size+1+1,3,none⟩)),isV (.slice a3 n3 c3),isV (.int .i64 (n3:Int)),isV (.int .i64 (n0:Int)),isV (.bool false),isV (.bool false),isV (.int .i64 (n0:Int)),isV (.pointer (some ⟨g13,4,none⟩)),isV (.int .i64 (cl:Int)),isV (.int .i64 (ri:Int)),isV (.bool false),isV (.bool false),isV (.bool false),isV (.pointer (some ⟨w.heap.size+1+1,1,none⟩)),isV (.slice a1 n1 c1),isV (.int .i64 (n1:Int)),isV (.int .i64 (rr:Int)),isV (.bool false),isV (.bool false),isV (.bool false),isV (.pointer (some ⟨w.heap.size+1+1,2,none⟩)),isV (.slice a2 n2 c2),isV (.int .i64 (n2:Int)),isV (.int .i64 (cl:Int)),isV (.bool false),isV (.bool false)]
            (fun W=>Ext w W∧Iw 0 w.heap.size W a0 n0 c0 (lw)∧Iw 0 w.heap.size W a1 n1 c1 (lm)∧Iw 0 w.heap.size W a2 n2 c2 (lv)∧Iw 0 w.heap.size W a3 n3 c3 (lg)∧Bx3 W w.heap.size 23 (.int .i64 lr) (.int .i64 ep) (.int .i64 d)∧Bx2 W (w.heap.size+1) 24 (.int .i64 (T:Int)) (.int .i64 (cl:Int))∧BxA W (w.heap.size+1+1) 27 #[.slice a0 n0 c0,.slice a1 n1 c1,.slice a2 n2 c2,.slice a3 n3 c3]∧BxA W (w.heap.size+1+1+1) 27 #[.slice none 0 0,.slice none 0 0,.slice none 0 0,.slice none 0 0]∧BxA W g13 54 #[.int .i64 lr,.int .i64 ep,.int .i64 d,.int .i64 (K:Int),.int .i64 (cl:Int),.int .i64 sh]∧W17.heap.size≤W.heap.size) ⟨Good.is _,Good.is _,Good.is _,Good.is _,Good.is _,Good.is _,Good.is _,Good.is _,Good.is _,Good.is _,Good.is _,Good.is _,Good.is _,Good.is _,Good.is _,Good.is _,Good.is _,Good.is _,Good.is _,Good.is _,Good.is _,Good.is _,Good.is _,Good.is _,Good.is _,Good.is _,trivial⟩
            ⟨E0,hi0,hi1,hi2,hi3,p4,p6,p7,p8,p13,Nat.le_refl _⟩ (A:=?A18) ?hA18 ?howe18 ?hfin18
           case hA18=>
            intro vs
            simp only[putAll,Act.put,sA,sZ,sS,Nat.zero_add,Nat.reduceAdd]
            exact rfl
           case howe18=>
            clear E0 hi0 hi1 hi2 hi3 p4 p6 p7 p8 p13
            intro hf
            refine⟨oP0 0 [] hf rfl,oE 1 [0] hf rfl ?_,oP1 2 [1] hf rfl,oP0 3 [] hf rfl,oE 4 [2,3] hf rfl ?_,oP1 5 [4] hf rfl,oP1 6 [5] hf rfl,oP1 7 [5] hf rfl,oE 8 [5,7] hf rfl ?_,oP3 9 [5,6,8] hf rfl,oE 10 [5,9] hf rfl ?_,oP2 11 [5,10] hf rfl,oP1 12 [11] hf rfl,oP1 13 [12] hf rfl,oE 14 [12,13] hf rfl ?_,oP2 15 [12,14] hf rfl,oP1 16 [12] hf rfl,oE 17 [12,15,16] hf rfl ?_,oP2 18 [12,17] hf rfl,oP1 19 [18] hf rfl,oP1 20 [19] hf rfl,oE 21 [19,20] hf rfl ?_,oP2 22 [19,21] hf rfl,oP1 23 [19] hf rfl,oE 24 [19,22,23] hf rfl ?_,oP2 25 [19,24] hf rfl,trivial⟩
            all_goals intro vs W hS hp hx KO hKO
            all_goals simp only[Act.put,sA,sZ,sS]at hKO
            ·have e0:=isOf hp.1;simp only[e0]at hKO;have fc3:=BxA.cell (hS.2.2.2.2.2.2.2.1) 3 (v:=.slice a3 n3 c3) rfl;go_simp;exact hKO _ W (.refl W) rfl
            ·have e2:=isOf hp.1;have e3:=isOf hp.2.1;simp only[e2,e3]at hKO;go_simp;exact hKO _ W (Ext.refl W) (by first | rfl | exact congrArg Value.bool NE0.out)
            ·have e5:=isOf hp.1;have e7:=isOf hp.2.1;simp only[e5,e7]at hKO;have fc4:=BxA.cell (hS.2.2.2.2.2.2.2.2.2.1) 4 (v:=.int .i64 (cl:Int)) rfl;go_simp;exact hKO _ W (.refl W) rfl
            ·have e5:=isOf hp.1;have e9:=isOf hp.2.1;simp only[e5,e9]at hKO;go_simp;exact hKO _ W (Ext.refl W) (by first | rfl | exact congrArg Value.bool NE1.out)
            ·have e12:=isOf hp.1;have e13:=isOf hp.2.1;simp only[e12,e13]at hKO;have fc1:=BxA.cell (hS.2.2.2.2.2.2.2.1) 1 (v:=.slice a1 n1 c1) rfl;go_simp;exact hKO _ W (.refl W) rfl
            ·have e12:=isOf hp.1;have e15:=isOf hp.2.1;have e16:=isOf hp.2.2.1;simp only[e12,e15,e16]at hKO;go_simp;exact hKO _ W (Ext.refl W) (by first | rfl | exact congrArg Value.bool NE2.out)
            ·have e19:=isOf hp.1;have e20:=isOf hp.2.1;simp only[e19,e20]at hKO;have fc2:=BxA.cell (hS.2.2.2.2.2.2.2.1) 2 (v:=.slice a2 n2 c2) rfl;go_simp;exact hKO _ W (.refl W) rfl
            ·have e19:=isOf hp.1;have e22:=isOf hp.2.1;have e23:=isOf hp.2.2.1;simp only[e19,e22,e23]at hKO;go_simp;exact hKO _ W (Ext.refl W) (by first | rfl | exact congrArg Value.bool NE3.out)
           intro vs W18 hS hp
           clear szw18 E0 hi0 hi1 hi2 hi3 p4 p6 p7 p8 p13
           obtain⟨E0,hi0,hi1,hi2,hi3,p4,p6,p7,p8,p13,sz18⟩:=hS
           obtain⟨h18_0,h18_1,h18_2,h18_3,h18_4,h18_5,h18_6,h18_7,h18_8,h18_9,h18_10,h18_11,h18_12,h18_13,h18_14,h18_15,h18_16,h18_17,h18_18,h18_19,h18_20,h18_21,h18_22,h18_23,h18_24,h18_25,-⟩:=hp
           simp only[isOf h18_0,isOf h18_1,isOf h18_2,isOf h18_3,isOf h18_4,isOf h18_5,isOf h18_6,isOf h18_7,isOf h18_8,isOf h18_9,isOf h18_10,isOf h18_11,isOf h18_12,isOf h18_13,isOf h18_14,isOf h18_15,isOf h18_16,isOf h18_17,isOf h18_18,isOf h18_19,isOf h18_20,isOf h18_21,isOf h18_22,isOf h18_23,isOf h18_24,isOf h18_25]
           clear h18_0 h18_1 h18_2 h18_3 h18_4 h18_5 h18_6 h18_7 h18_8 h18_9 h18_10 h18_11 h18_12 h18_13 h18_14 h18_15 h18_16 h18_17 h18_18 h18_19 h18_20 h18_21 h18_22 h18_23 h18_24 h18_25;clear hr0 t1 t2 t3 t4 hv0 hv0a hv0b
           obtain rfl:n0=n3:=D0.out.symm
           have HSB:Hid (shapeB n0 cl n1 n2 n0=true):=Lib.hid (shapeB_iff.2 ⟨rfl,HRI.out.symm.trans D1.out,by rw[HF.out];exact⟨D2.out.trans HRR.out,D3.out⟩⟩)
           have hzE:=Ext.size E0
           have lt8:=BxA.lt p8
           have HRA:=Lib.hid (rightAda_iff.1 HR.out)
           obtain⟨k4a,k4b,k4c⟩:=p4.c3
           obtain⟨k6a,k6b⟩:=p6.c2
           obtain⟨k7a,k7b,k7c,k7d⟩:=p7.c4
           obtain⟨k8a,k8b,k8c,k8d⟩:=p8.c4
           obtain⟨k13a,k13b,k13c,k13d,k13e,k13f⟩:=p13.c6
           go_wp2_with fail
           clear k4a k4b k4c k6a k6b k7a k7b k7c k7d k8a k8b k8c k8d k13a k13b k13c k13d k13e k13f
           refine(Tryz.adaStep lr ep d sh K cl _ HK.out HSL.out.1 HSL.out.2 HQ.out.2.1 HRA.out.2.2.2.1 HQ.out.1 (by have h1:=HRA.out.2.2.2.2;have h2:=one_pos K;have e:((K:Int)).toNat=K:=rfl;rw[e]at h1;omega) HQ.out.2.2.1 HC1.out.1 HN.out (shapeB_iff.1 HSB.out).2.1 (shapeB_iff.1 HSB.out).2.2 HM.out HV.out (hi0.mono (Nat.le_refl _) hzE) (hi1.mono (Nat.le_refl _) hzE) (hi2.mono (Nat.le_refl _) hzE) (hi3.mono (Nat.le_refl _) hzE)).mono ?_
           rintro e V4 ⟨hE,⟨hb,a1,n1,c1,a2,n2,c2,a3,n3,c3,rfl,i1,i2,i3⟩ | ⟨hb,rfl⟩⟩
           ·have HB:=Lib.hid hb
            clear hb
            have szc:=Ext.size hE
            clear hi0 hi1 hi2 hi3;replace E0:=(Ext.trans E0 hE);replace p4:=(p4.ext hE);replace p6:=(p6.ext hE);replace p7:=(p7.ext hE);replace p8:=(p8.ext hE);replace p13:=(p13.ext hE);clear hE
            have HA0:Hid (adaE ⟨lr,ep,d⟩ (K:Int) (T:Int) (cl:Int) lw lm lv lg=0):=Lib.hid (by rw[HAE.out,if_neg (by rw[HSB.out];exact Bool.noConfusion),if_neg (by rw[HB.out];exact Bool.noConfusion)])
            have z8:∀ i,V4.frozen? ⟨w.heap.size+1+1+1,i,none⟩=false:=fun i=>by simp[World.frozen?,show V4.heap[w.heap.size+1+1+1]? = _ from p8]
            have z80:=z8 0
            have z81:=z8 1
            have z82:=z8 2
            have z83:=z8 3
            clear z8
            obtain⟨k4a,k4b,k4c⟩:=p4.c3
            obtain⟨k6a,k6b⟩:=p6.c2
            obtain⟨k7a,k7b,k7c,k7d⟩:=p7.c4
            obtain⟨k8a,k8b,k8c,k8d⟩:=p8.c4
            obtain⟨k13a,k13b,k13c,k13d,k13e,k13f⟩:=p13.c6
            go_wp2;clear k4a k4b k4c k6a k6b k7a k7b k7c k7d k8a k8b k8c k8d k13a k13b k13c k13d k13e k13f
            obtain⟨W2,hW2,hw,hq⟩:=(Form4.of p8).put a1 n1 c1 a2 n2 c2 a3 n3 c3 none 0 0
            rw[← hW2]
            have szw:=hw.apart.size
            have k80:=hq.cell 0 (v:=.slice a1 n1 c1) rfl
            have k81:=hq.cell 1 (v:=.slice a2 n2 c2) rfl
            have k82:=hq.cell 2 (v:=.slice a3 n3 c3) rfl
            have k83:=hq.cell 3 (v:=.slice none 0 0) rfl
            exact bodyPost_ret (v:=.tuple #[.agg #[.slice a1 n1 c1,.slice a2 n2 c2,.slice a3 n3 c3,.slice none 0 0],.int .i64 0]) (by simp[results,Tryz.results6,go_sem,k80,k81,k82,k83]) rfl ⟨Ext.wr E0 hw (by omega),a1,n1,c1,a2,n2,c2,a3,n3,c3,by rw[HA0.out],by unfold stepW;rw[if_pos HA0.out,← HSH.out];exact(i1.wr hw (by omega)).mono (by omega) szw,by unfold stepM;rw[if_pos HA0.out,← HSH.out];exact(i2.wr hw (by omega)).mono (by omega) szw,by unfold stepV;rw[if_pos HA0.out,← HSH.out];exact(i3.wr hw (by omega)).mono (by omega) szw⟩
           ·have HB:=Lib.hid hb
            clear hb
            have szc:=Ext.size hE
            clear hi0 hi1 hi2 hi3;replace E0:=(Ext.trans E0 hE);replace p4:=(p4.ext hE);replace p6:=(p6.ext hE);replace p7:=(p7.ext hE);replace p8:=(p8.ext hE);replace p13:=(p13.ext hE);clear hE
            have HA0:Hid (adaE ⟨lr,ep,d⟩ (K:Int) (T:Int) (cl:Int) lw lm lv lg=2):=Lib.hid (by rw[HAE.out,if_neg (by rw[HSB.out];exact Bool.noConfusion),if_pos HB.out])
            have z8:∀ i,V4.frozen? ⟨w.heap.size+1+1+1,i,none⟩=false:=fun i=>by simp[World.frozen?,show V4.heap[w.heap.size+1+1+1]? = _ from p8]
            have z80:=z8 0
            have z81:=z8 1
            have z82:=z8 2
            have z83:=z8 3
            clear z8
            obtain⟨k4a,k4b,k4c⟩:=p4.c3
            obtain⟨k6a,k6b⟩:=p6.c2
            obtain⟨k7a,k7b,k7c,k7d⟩:=p7.c4
            obtain⟨k8a,k8b,k8c,k8d⟩:=p8.c4
            obtain⟨k13a,k13b,k13c,k13d,k13e,k13f⟩:=p13.c6
            go_wp2;clear k4a k4b k4c k6a k6b k7a k7b k7c k7d k8a k8b k8c k8d k13a k13b k13c k13d k13e k13f
            obtain⟨W2,hW2,hw,hq⟩:=(Form4.of p8).put none 0 0 none 0 0 none 0 0 none 0 0
            rw[← hW2]
            have szw:=hw.apart.size
            have k80:=hq.cell 0 (v:=.slice none 0 0) rfl
            have k81:=hq.cell 1 (v:=.slice none 0 0) rfl
            have k82:=hq.cell 2 (v:=.slice none 0 0) rfl
            have k83:=hq.cell 3 (v:=.slice none 0 0) rfl
            exact bodyPost_ret (v:=.tuple #[.agg #[.slice none 0 0,.slice none 0 0,.slice none 0 0,.slice none 0 0],.int .i64 2]) (by simp[results,Tryz.results6,go_sem,k80,k81,k82,k83]) rfl (AdaOut.no (Ext.wr E0 hw (by omega)) HA0.out (by omega))
          ·have NE3:Hid (((n2:Int) != ((cl:Int):Int))=true):=Lib.hid (bne_iff_ne.2 (by omega))
           have ND3:=Lib.hid e3
           clear e3
           obtain⟨k4a,k4b,k4c⟩:=p4.c3
           obtain⟨k6a,k6b⟩:=p6.c2
           obtain⟨k7a,k7b,k7c,k7d⟩:=p7.c4
           obtain⟨k8a,k8b,k8c,k8d⟩:=p8.c4
           obtain⟨k13a,k13b,k13c,k13d,k13e,k13f⟩:=p13.c6
           go_upto_region 10 with (fail)
           clear k4a k4b k4c k6a k6b k7a k7b k7c k7d k8a k8b k8c k8d k13a k13b k13c k13d k13e k13f;have szw19:=Ext.size E0
           refine region_gs [isV (.pointer (some ⟨w.heap.size+1+1,3,none⟩)),isV (.slice a3 n3 c3),isV (.int .i64 (n3:Int)),isV (.int .i64 (n0:Int)),isV (.bool false),isV (.bool false),isV (.int .i64 (n0:Int)),isV (.pointer (some ⟨g13,4,none⟩)),isV (.int .i64 (cl:Int)),isV (.int .i64 (ri:Int)),isV (.bool false),isV (.bool false),isV (.bool false),isV (.pointer (some ⟨w.heap.size+1+1,1,none⟩)),isV (.slice a1 n1 c1),isV (.int .i64 (n1:Int)),isV (.int .i64 (rr:Int)),isV (.bool false),isV (.bool false),isV (.bool false),isV (.pointer (some ⟨w.heap.size+1+1,2,none⟩)),isV (.slice a2 n2 c2),isV (.int .i64 (n2:Int)),isV (.int .i64 (cl:Int)),isV (.bool true),isV (.bool true)]
            (fun W=>Ext w W∧Iw 0 w.heap.size W a0 n0 c0 (lw)∧Iw 0 w.heap.size W a1 n1 c1 (lm)∧Iw 0 w.heap.size W a2 n2 c2 (lv)∧Iw 0 w.heap.size W a3 n3 c3 (lg)∧Bx3 W w.heap.size 23 (.int .i64 lr) (.int .i64 ep) (.int .i64 d)∧Bx2 W (w.heap.size+1) 24 (.int .i64 (T:Int)) (.int .i64 (cl:Int))∧BxA W (w.heap.size+1+1) 27 #[.slice a0 n0 c0,.slice a1 n1 c1,.slice a2 n2 c2,.slice a3 n3 c3]∧BxA W (w.heap.size+1+1+1) 27 #[.slice none 0 0,.slice none 0 0,.slice none 0 0,.slice none 0 0]∧BxA W g13 54 #[.int .i64 lr,.int .i64 ep,.int .i64 d,.int .i64 (K:Int),.int .i64 (cl:Int),.int .i64 sh]∧W17.heap.size≤W.heap.size) ⟨Good.is _,Good.is _,Good.is _,Good.is _,Good.is _,Good.is _,Good.is _,Good.is _,Good.is _,Good.is _,Good.is _,Good.is _,Good.is _,Good.is _,Good.is _,Good.is _,Good.is _,Good.is _,Good.is _,Good.is _,Good.is _,Good.is _,Good.is _,Good.is _,Good.is _,Good.is _,trivial⟩
            ⟨E0,hi0,hi1,hi2,hi3,p4,p6,p7,p8,p13,Nat.le_refl _⟩ (A:=?A19) ?hA19 ?howe19 ?hfin19
           case hA19=>
            intro vs
            simp only[putAll,Act.put,sA,sZ,sS,Nat.zero_add,Nat.reduceAdd]
            exact rfl
           case howe19=>
            clear E0 hi0 hi1 hi2 hi3 p4 p6 p7 p8 p13
            intro hf
            refine⟨oP0 0 [] hf rfl,oE 1 [0] hf rfl ?_,oP1 2 [1] hf rfl,oP0 3 [] hf rfl,oE 4 [2,3] hf rfl ?_,oP1 5 [4] hf rfl,oP1 6 [5] hf rfl,oP1 7 [5] hf rfl,oE 8 [5,7] hf rfl ?_,oP3 9 [5,6,8] hf rfl,oE 10 [5,9] hf rfl ?_,oP2 11 [5,10] hf rfl,oP1 12 [11] hf rfl,oP1 13 [12] hf rfl,oE 14 [12,13] hf rfl ?_,oP2 15 [12,14] hf rfl,oP1 16 [12] hf rfl,oE 17 [12,15,16] hf rfl ?_,oP2 18 [12,17] hf rfl,oP1 19 [18] hf rfl,oP1 20 [19] hf rfl,oE 21 [19,20] hf rfl ?_,oP2 22 [19,21] hf rfl,oP1 23 [19] hf rfl,oE 24 [19,22,23] hf rfl ?_,oP2 25 [19,24] hf rfl,trivial⟩
            all_goals intro vs W hS hp hx KO hKO
            all_goals simp only[Act.put,sA,sZ,sS]at hKO
            ·have e0:=isOf hp.1;simp only[e0]at hKO;have fc3:=BxA.cell (hS.2.2.2.2.2.2.2.1) 3 (v:=.slice a3 n3 c3) rfl;go_simp;exact hKO _ W (.refl W) rfl
            ·have e2:=isOf hp.1;have e3:=isOf hp.2.1;simp only[e2,e3]at hKO;go_simp;exact hKO _ W (Ext.refl W) (by first | rfl | exact congrArg Value.bool NE0.out)
            ·have e5:=isOf hp.1;have e7:=isOf hp.2.1;simp only[e5,e7]at hKO;have fc4:=BxA.cell (hS.2.2.2.2.2.2.2.2.2.1) 4 (v:=.int .i64 (cl:Int)) rfl;go_simp;exact hKO _ W (.refl W) rfl
            ·have e5:=isOf hp.1;have e9:=isOf hp.2.1;simp only[e5,e9]at hKO;go_simp;exact hKO _ W (Ext.refl W) (by first | rfl | exact congrArg Value.bool NE1.out)
            ·have e12:=isOf hp.1;have e13:=isOf hp.2.1;simp only[e12,e13]at hKO;have fc1:=BxA.cell (hS.2.2.2.2.2.2.2.1) 1 (v:=.slice a1 n1 c1) rfl;go_simp;exact hKO _ W (.refl W) rfl
            ·have e12:=isOf hp.1;have e15:=isOf hp.2.1;have e16:=isOf hp.2.2.1;simp only[e12,e15,e16]at hKO;go_simp;exact hKO _ W (Ext.refl W) (by first | rfl | exact congrArg Value.bool NE2.out)
            ·have e19:=isOf hp.1;have e20:=isOf hp.2.1;simp only[e19,e20]at hKO;have fc2:=BxA.cell (hS.2.2.2.2.2.2.2.1) 2 (v:=.slice a2 n2 c2) rfl;go_simp;exact hKO _ W (.refl W) rfl
            ·have e19:=isOf hp.1;have e22:=isOf hp.2.1;have e23:=isOf hp.2.2.1;simp only[e19,e22,e23]at hKO;go_simp;exact hKO _ W (Ext.refl W) (by first | rfl | exact congrArg Value.bool NE3.out)
           intro vs W19 hS hp
           clear szw19 E0 hi0 hi1 hi2 hi3 p4 p6 p7 p8 p13
           obtain⟨E0,hi0,hi1,hi2,hi3,p4,p6,p7,p8,p13,sz19⟩:=hS
           obtain⟨h19_0,h19_1,h19_2,h19_3,h19_4,h19_5,h19_6,h19_7,h19_8,h19_9,h19_10,h19_11,h19_12,h19_13,h19_14,h19_15,h19_16,h19_17,h19_18,h19_19,h19_20,h19_21,h19_22,h19_23,h19_24,h19_25,-⟩:=hp
           simp only[isOf h19_0,isOf h19_1,isOf h19_2,isOf h19_3,isOf h19_4,isOf h19_5,isOf h19_6,isOf h19_7,isOf h19_8,isOf h19_9,isOf h19_10,isOf h19_11,isOf h19_12,isOf h19_13,isOf h19_14,isOf h19_15,isOf h19_16,isOf h19_17,isOf h19_18,isOf h19_19,isOf h19_20,isOf h19_21,isOf h19_22,isOf h19_23,isOf h19_24,isOf h19_25]
           clear h19_0 h19_1 h19_2 h19_3 h19_4 h19_5 h19_6 h19_7 h19_8 h19_9 h19_10 h19_11 h19_12 h19_13 h19_14 h19_15 h19_16 h19_17 h19_18 h19_19 h19_20 h19_21 h19_22 h19_23 h19_24 h19_25;clear hr0 t1 t2 t3 t4 hv0 hv0a hv0b
           have z8:∀ i,W19.frozen? ⟨w.heap.size+1+1+1,i,none⟩=false:=fun i=>by simp[World.frozen?,show W19.heap[w.heap.size+1+1+1]? = _ from p8]
           have z80:=z8 0
           have z81:=z8 1
           have z82:=z8 2
           have z83:=z8 3
           clear z8
           obtain⟨k4a,k4b,k4c⟩:=p4.c3
           obtain⟨k6a,k6b⟩:=p6.c2
           obtain⟨k7a,k7b,k7c,k7d⟩:=p7.c4
           obtain⟨k8a,k8b,k8c,k8d⟩:=p8.c4
           obtain⟨k13a,k13b,k13c,k13d,k13e,k13f⟩:=p13.c6
           go_wp2;clear k4a k4b k4c k6a k6b k7a k7b k7c k7d k8a k8b k8c k8d k13a k13b k13c k13d k13e k13f
           obtain⟨W2,hW2,hw,hq⟩:=(Form4.of p8).put none 0 0 none 0 0 none 0 0 none 0 0
           rw[← hW2]
           have k80:=hq.cell 0 (v:=.slice none 0 0) rfl
           have k81:=hq.cell 1 (v:=.slice none 0 0) rfl
           have k82:=hq.cell 2 (v:=.slice none 0 0) rfl
           have k83:=hq.cell 3 (v:=.slice none 0 0) rfl
           exact bodyPost_ret (v:=.tuple #[.agg #[.slice none 0 0,.slice none 0 0,.slice none 0 0,.slice none 0 0],.int .i64 5]) (by simp[results,Tryz.results6,go_sem,k80,k81,k82,k83]) rfl (AdaOut.no (Ext.wr E0 hw (by omega)) (by rw[HAE.out,if_pos (shapeB_no (fun k=>by rw[HF.out]at k;simp only[if_true]at k;have h:=ND3.out;have hr:=HRI.out;have hq:=HRR.out;omega))]) (by omega))
         ·have NE2:Hid (((n1:Int) != ((rr:Int):Int))=true):=Lib.hid (bne_iff_ne.2 (by omega))
          have ND2:=Lib.hid e2
          clear e2
          obtain⟨k4a,k4b,k4c⟩:=p4.c3
          obtain⟨k6a,k6b⟩:=p6.c2
          obtain⟨k7a,k7b,k7c,k7d⟩:=p7.c4
          obtain⟨k8a,k8b,k8c,k8d⟩:=p8.c4
          obtain⟨k13a,k13b,k13c,k13d,k13e,k13f⟩:=p13.c6
          go_upto_region 10 with (fail)
          clear k4a k4b k4c k6a k6b k7a k7b k7c k7d k8a k8b k8c k8d k13a k13b k13c k13d k13e k13f;have szw20:=Ext.size E0
          refine region_gs [isV (.pointer (some ⟨w.heap.size+1+1,3,none⟩)),isV (.slice a3 n3 c3),isV (.int .i64 (n3:Int)),isV (.int .i64 (n0:Int)),isV (.bool false),isV (.bool false),isV (.int .i64 (n0:Int)),isV (.pointer (some ⟨g13,4,none⟩)),isV (.int .i64 (cl:Int)),isV (.int .i64 (ri:Int)),isV (.bool false),isV (.bool false),isV (.bool false),isV (.pointer (some ⟨w.heap.size+1+1,1,none⟩)),isV (.slice a1 n1 c1),isV (.int .i64 (n1:Int)),isV (.int .i64 (rr:Int)),isV (.bool true),isV (.bool true),isV (.bool true),isV (undef),isV (undef),isV (undef),isV (undef),isV (undef),isV (.bool true)]
           (fun W=>Ext w W∧Iw 0 w.heap.size W a0 n0 c0 (lw)∧Iw 0 w.heap.size W a1 n1 c1 (lm)∧Iw 0 w.heap.size W a2 n2 c2 (lv)∧Iw 0 w.heap.size W a3 n3 c3 (lg)∧Bx3 W w.heap.size 23 (.int .i64 lr) (.int .i64 ep) (.int .i64 d)∧Bx2 W (w.heap.size+1) 24 (.int .i64 (T:Int)) (.int .i64 (cl:Int))∧BxA W (w.heap.size+1+1) 27 #[.slice a0 n0 c0,.slice a1 n1 c1,.slice a2 n2 c2,.slice a3 n3 c3]∧BxA W (w.heap.size+1+1+1) 27 #[.slice none 0 0,.slice none 0 0,.slice none 0 0,.slice none 0 0]∧BxA W g13 54 #[.int .i64 lr,.int .i64 ep,.int .i64 d,.int .i64 (K:Int),.int .i64 (cl:Int),.int .i64 sh]∧W17.heap.size≤W.heap.size) ⟨Good.is _,Good.is _,Good.is _,Good.is _,Good.is _,Good.is _,Good.is _,Good.is _,Good.is _,Good.is _,Good.is _,Good.is _,Good.is _,Good.is _,Good.is _,Good.is _,Good.is _,Good.is _,Good.is _,Good.is _,Good.is _,Good.is _,Good.is _,Good.is _,Good.is _,Good.is _,trivial⟩
           ⟨E0,hi0,hi1,hi2,hi3,p4,p6,p7,p8,p13,Nat.le_refl _⟩ (A:=?A20) ?hA20 ?howe20 ?hfin20
          case hA20=>
           intro vs
           simp only[putAll,Act.put,sA,sZ,sS,Nat.zero_add,Nat.reduceAdd]
           exact rfl
          case howe20=>
           clear E0 hi0 hi1 hi2 hi3 p4 p6 p7 p8 p13
           intro hf
           refine⟨oP0 0 [] hf rfl,oE 1 [0] hf rfl ?_,oP1 2 [1] hf rfl,oP0 3 [] hf rfl,oE 4 [2,3] hf rfl ?_,oP1 5 [4] hf rfl,oP1 6 [5] hf rfl,oP1 7 [5] hf rfl,oE 8 [5,7] hf rfl ?_,oP3 9 [5,6,8] hf rfl,oE 10 [5,9] hf rfl ?_,oP2 11 [5,10] hf rfl,oP1 12 [11] hf rfl,oP1 13 [12] hf rfl,oE 14 [12,13] hf rfl ?_,oP2 15 [12,14] hf rfl,oP1 16 [12] hf rfl,oE 17 [12,15,16] hf rfl ?_,oP2 18 [12,17] hf rfl,oP1 19 [18] hf rfl,oP1 20 [19] hf rfl,oP1 21 [19] hf rfl,oP1 22 [19] hf rfl,oP1 23 [19] hf rfl,oP1 24 [19] hf rfl,oP2 25 [19,24] hf rfl,trivial⟩
           all_goals intro vs W hS hp hx KO hKO
           all_goals simp only[Act.put,sA,sZ,sS]at hKO
           ·have e0:=isOf hp.1;simp only[e0]at hKO;have fc3:=BxA.cell (hS.2.2.2.2.2.2.2.1) 3 (v:=.slice a3 n3 c3) rfl;go_simp;exact hKO _ W (.refl W) rfl
           ·have e2:=isOf hp.1;have e3:=isOf hp.2.1;simp only[e2,e3]at hKO;go_simp;exact hKO _ W (Ext.refl W) (by first | rfl | exact congrArg Value.bool NE0.out)
           ·have e5:=isOf hp.1;have e7:=isOf hp.2.1;simp only[e5,e7]at hKO;have fc4:=BxA.cell (hS.2.2.2.2.2.2.2.2.2.1) 4 (v:=.int .i64 (cl:Int)) rfl;go_simp;exact hKO _ W (.refl W) rfl
           ·have e5:=isOf hp.1;have e9:=isOf hp.2.1;simp only[e5,e9]at hKO;go_simp;exact hKO _ W (Ext.refl W) (by first | rfl | exact congrArg Value.bool NE1.out)
           ·have e12:=isOf hp.1;have e13:=isOf hp.2.1;simp only[e12,e13]at hKO;have fc1:=BxA.cell (hS.2.2.2.2.2.2.2.1) 1 (v:=.slice a1 n1 c1) rfl;go_simp;exact hKO _ W (.refl W) rfl
           ·have e12:=isOf hp.1;have e15:=isOf hp.2.1;have e16:=isOf hp.2.2.1;simp only[e12,e15,e16]at hKO;go_simp;exact hKO _ W (Ext.refl W) (by first | rfl | exact congrArg Value.bool NE2.out)
          intro vs W20 hS hp
          clear szw20 E0 hi0 hi1 hi2 hi3 p4 p6 p7 p8 p13
          obtain⟨E0,hi0,hi1,hi2,hi3,p4,p6,p7,p8,p13,sz20⟩:=hS
          obtain⟨h20_0,h20_1,h20_2,h20_3,h20_4,h20_5,h20_6,h20_7,h20_8,h20_9,h20_10,h20_11,h20_12,h20_13,h20_14,h20_15,h20_16,h20_17,h20_18,h20_19,h20_20,h20_21,h20_22,h20_23,h20_24,h20_25,-⟩:=hp
          simp only[isOf h20_0,isOf h20_1,isOf h20_2,isOf h20_3,isOf h20_4,isOf h20_5,isOf h20_6,isOf h20_7,isOf h20_8,isOf h20_9,isOf h20_10,isOf h20_11,isOf h20_12,isOf h20_13,isOf h20_14,isOf h20_15,isOf h20_16,isOf h20_17,isOf h20_18,isOf h20_19,isOf h20_20,isOf h20_21,isOf h20_22,isOf h20_23,isOf h20_24,isOf h20_25]
          clear h20_0 h20_1 h20_2 h20_3 h20_4 h20_5 h20_6 h20_7 h20_8 h20_9 h20_10 h20_11 h20_12 h20_13 h20_14 h20_15 h20_16 h20_17 h20_18 h20_19 h20_20 h20_21 h20_22 h20_23 h20_24 h20_25;clear hr0 t1 t2 t3 t4 hv0 hv0a hv0b
          have z8:∀ i,W20.frozen? ⟨w.heap.size+1+1+1,i,none⟩=false:=fun i=>by simp[World.frozen?,show W20.heap[w.heap.size+1+1+1]? = _ from p8]
          have z80:=z8 0
          have z81:=z8 1
          have z82:=z8 2
          have z83:=z8 3
          clear z8
          obtain⟨k4a,k4b,k4c⟩:=p4.c3
          obtain⟨k6a,k6b⟩:=p6.c2
          obtain⟨k7a,k7b,k7c,k7d⟩:=p7.c4
          obtain⟨k8a,k8b,k8c,k8d⟩:=p8.c4
          obtain⟨k13a,k13b,k13c,k13d,k13e,k13f⟩:=p13.c6
          go_wp2;clear k4a k4b k4c k6a k6b k7a k7b k7c k7d k8a k8b k8c k8d k13a k13b k13c k13d k13e k13f
          obtain⟨W2,hW2,hw,hq⟩:=(Form4.of p8).put none 0 0 none 0 0 none 0 0 none 0 0
          rw[← hW2]
          have k80:=hq.cell 0 (v:=.slice none 0 0) rfl
          have k81:=hq.cell 1 (v:=.slice none 0 0) rfl
          have k82:=hq.cell 2 (v:=.slice none 0 0) rfl
          have k83:=hq.cell 3 (v:=.slice none 0 0) rfl
          exact bodyPost_ret (v:=.tuple #[.agg #[.slice none 0 0,.slice none 0 0,.slice none 0 0,.slice none 0 0],.int .i64 5]) (by simp[results,Tryz.results6,go_sem,k80,k81,k82,k83]) rfl (AdaOut.no (Ext.wr E0 hw (by omega)) (by rw[HAE.out,if_pos (shapeB_no (fun k=>by rw[HF.out]at k;simp only[if_true]at k;have h:=ND2.out;have hr:=HRI.out;have hq:=HRR.out;omega))]) (by omega))
        ·have NE1:Hid (((ri:Int) != (0:Int))=true):=Lib.hid (bne_iff_ne.2 (by omega))
         have ND1:=Lib.hid e1
         clear e1
         obtain⟨k4a,k4b,k4c⟩:=p4.c3
         obtain⟨k6a,k6b⟩:=p6.c2
         obtain⟨k7a,k7b,k7c,k7d⟩:=p7.c4
         obtain⟨k8a,k8b,k8c,k8d⟩:=p8.c4
         obtain⟨k13a,k13b,k13c,k13d,k13e,k13f⟩:=p13.c6
         go_upto_region 10 with (fail)
         clear k4a k4b k4c k6a k6b k7a k7b k7c k7d k8a k8b k8c k8d k13a k13b k13c k13d k13e k13f;have szw21:=Ext.size E0
         refine region_gs [isV (.pointer (some ⟨w.heap.size+1+1,3,none⟩)),isV (.slice a3 n3 c3),isV (.int .i64 (n3:Int)),isV (.int .i64 (n0:Int)),isV (.bool false),isV (.bool false),isV (.int .i64 (n0:Int)),isV (.pointer (some ⟨g13,4,none⟩)),isV (.int .i64 (cl:Int)),isV (.int .i64 (ri:Int)),isV (.bool true),isV (.bool true),isV (.bool true),isV (undef),isV (undef),isV (undef),isV (undef),isV (undef),isV (.bool true),isV (.bool true),isV (undef),isV (undef),isV (undef),isV (undef),isV (undef),isV (.bool true)]
          (fun W=>Ext w W∧Iw 0 w.heap.size W a0 n0 c0 (lw)∧Iw 0 w.heap.size W a1 n1 c1 (lm)∧Iw 0 w.heap.size W a2 n2 c2 (lv)∧Iw 0 w.heap.size W a3 n3 c3 (lg)∧Bx3 W w.heap.size 23 (.int .i64 lr) (.int .i64 ep) (.int .i64 d)∧Bx2 W (w.heap.size+1) 24 (.int .i64 (T:Int)) (.int .i64 (cl:Int))∧BxA W (w.heap.size+1+1) 27 #[.slice a0 n0 c0,.slice a1 n1 c1,.slice a2 n2 c2,.slice a3 n3 c3]∧BxA W (w.heap.size+1+1+1) 27 #[.slice none 0 0,.slice none 0 0,.slice none 0 0,.slice none 0 0]∧BxA W g13 54 #[.int .i64 lr,.int .i64 ep,.int .i64 d,.int .i64 (K:Int),.int .i64 (cl:Int),.int .i64 sh]∧W17.heap.size≤W.heap.size) ⟨Good.is _,Good.is _,Good.is _,Good.is _,Good.is _,Good.is _,Good.is _,Good.is _,Good.is _,Good.is _,Good.is _,Good.is _,Good.is _,Good.is _,Good.is _,Good.is _,Good.is _,Good.is _,Good.is _,Good.is _,Good.is _,Good.is _,Good.is _,Good.is _,Good.is _,Good.is _,trivial⟩
          ⟨E0,hi0,hi1,hi2,hi3,p4,p6,p7,p8,p13,Nat.le_refl _⟩ (A:=?A21) ?hA21 ?howe21 ?hfin21
         case hA21=>
          intro vs
          simp only[putAll,Act.put,sA,sZ,sS,Nat.zero_add,Nat.reduceAdd]
          exact rfl
         case howe21=>
          clear E0 hi0 hi1 hi2 hi3 p4 p6 p7 p8 p13
          intro hf
          refine⟨oP0 0 [] hf rfl,oE 1 [0] hf rfl ?_,oP1 2 [1] hf rfl,oP0 3 [] hf rfl,oE 4 [2,3] hf rfl ?_,oP1 5 [4] hf rfl,oP1 6 [5] hf rfl,oP1 7 [5] hf rfl,oE 8 [5,7] hf rfl ?_,oP3 9 [5,6,8] hf rfl,oE 10 [5,9] hf rfl ?_,oP2 11 [5,10] hf rfl,oP1 12 [11] hf rfl,oP1 13 [12] hf rfl,oP1 14 [12] hf rfl,oP1 15 [12] hf rfl,oP1 16 [12] hf rfl,oP1 17 [12] hf rfl,oP2 18 [12,17] hf rfl,oP1 19 [18] hf rfl,oP1 20 [19] hf rfl,oP1 21 [19] hf rfl,oP1 22 [19] hf rfl,oP1 23 [19] hf rfl,oP1 24 [19] hf rfl,oP2 25 [19,24] hf rfl,trivial⟩
          all_goals intro vs W hS hp hx KO hKO
          all_goals simp only[Act.put,sA,sZ,sS]at hKO
          ·have e0:=isOf hp.1;simp only[e0]at hKO;have fc3:=BxA.cell (hS.2.2.2.2.2.2.2.1) 3 (v:=.slice a3 n3 c3) rfl;go_simp;exact hKO _ W (.refl W) rfl
          ·have e2:=isOf hp.1;have e3:=isOf hp.2.1;simp only[e2,e3]at hKO;go_simp;exact hKO _ W (Ext.refl W) (by first | rfl | exact congrArg Value.bool NE0.out)
          ·have e5:=isOf hp.1;have e7:=isOf hp.2.1;simp only[e5,e7]at hKO;have fc4:=BxA.cell (hS.2.2.2.2.2.2.2.2.2.1) 4 (v:=.int .i64 (cl:Int)) rfl;go_simp;exact hKO _ W (.refl W) rfl
          ·have e5:=isOf hp.1;have e9:=isOf hp.2.1;simp only[e5,e9]at hKO;go_simp;exact hKO _ W (Ext.refl W) (by first | rfl | exact congrArg Value.bool NE1.out)
         intro vs W21 hS hp
         clear szw21 E0 hi0 hi1 hi2 hi3 p4 p6 p7 p8 p13
         obtain⟨E0,hi0,hi1,hi2,hi3,p4,p6,p7,p8,p13,sz21⟩:=hS
         obtain⟨h21_0,h21_1,h21_2,h21_3,h21_4,h21_5,h21_6,h21_7,h21_8,h21_9,h21_10,h21_11,h21_12,h21_13,h21_14,h21_15,h21_16,h21_17,h21_18,h21_19,h21_20,h21_21,h21_22,h21_23,h21_24,h21_25,-⟩:=hp
         simp only[isOf h21_0,isOf h21_1,isOf h21_2,isOf h21_3,isOf h21_4,isOf h21_5,isOf h21_6,isOf h21_7,isOf h21_8,isOf h21_9,isOf h21_10,isOf h21_11,isOf h21_12,isOf h21_13,isOf h21_14,isOf h21_15,isOf h21_16,isOf h21_17,isOf h21_18,isOf h21_19,isOf h21_20,isOf h21_21,isOf h21_22,isOf h21_23,isOf h21_24,isOf h21_25]
         clear h21_0 h21_1 h21_2 h21_3 h21_4 h21_5 h21_6 h21_7 h21_8 h21_9 h21_10 h21_11 h21_12 h21_13 h21_14 h21_15 h21_16 h21_17 h21_18 h21_19 h21_20 h21_21 h21_22 h21_23 h21_24 h21_25;clear hr0 t1 t2 t3 t4 hv0 hv0a hv0b
         have z8:∀ i,W21.frozen? ⟨w.heap.size+1+1+1,i,none⟩=false:=fun i=>by simp[World.frozen?,show W21.heap[w.heap.size+1+1+1]? = _ from p8]
         have z80:=z8 0
         have z81:=z8 1
         have z82:=z8 2
         have z83:=z8 3
         clear z8
         obtain⟨k4a,k4b,k4c⟩:=p4.c3
         obtain⟨k6a,k6b⟩:=p6.c2
         obtain⟨k7a,k7b,k7c,k7d⟩:=p7.c4
         obtain⟨k8a,k8b,k8c,k8d⟩:=p8.c4
         obtain⟨k13a,k13b,k13c,k13d,k13e,k13f⟩:=p13.c6
         go_wp2;clear k4a k4b k4c k6a k6b k7a k7b k7c k7d k8a k8b k8c k8d k13a k13b k13c k13d k13e k13f
         obtain⟨W2,hW2,hw,hq⟩:=(Form4.of p8).put none 0 0 none 0 0 none 0 0 none 0 0
         rw[← hW2]
         have k80:=hq.cell 0 (v:=.slice none 0 0) rfl
         have k81:=hq.cell 1 (v:=.slice none 0 0) rfl
         have k82:=hq.cell 2 (v:=.slice none 0 0) rfl
         have k83:=hq.cell 3 (v:=.slice none 0 0) rfl
         exact bodyPost_ret (v:=.tuple #[.agg #[.slice none 0 0,.slice none 0 0,.slice none 0 0,.slice none 0 0],.int .i64 5]) (by simp[results,Tryz.results6,go_sem,k80,k81,k82,k83]) rfl (AdaOut.no (Ext.wr E0 hw (by omega)) (by rw[HAE.out,if_pos (shapeB_no (fun k=>by rw[HF.out]at k;simp only[if_true]at k;have h:=ND1.out;have hr:=HRI.out;have hq:=HRR.out;omega))]) (by omega))
       ·have NE0:Hid (((n3:Int) != ((n0:Int):Int))=true):=Lib.hid (bne_iff_ne.2 (by omega))
        have ND0:=Lib.hid e0
        clear e0
        obtain⟨k4a,k4b,k4c⟩:=p4.c3
        obtain⟨k6a,k6b⟩:=p6.c2
        obtain⟨k7a,k7b,k7c,k7d⟩:=p7.c4
        obtain⟨k8a,k8b,k8c,k8d⟩:=p8.c4
        obtain⟨k13a,k13b,k13c,k13d,k13e,k13f⟩:=p13.c6
        go_upto_region 10 with (fail)
        clear k4a k4b k4c k6a k6b k7a k7b k7c k7d k8a k8b k8c k8d k13a k13b k13c k13d k13e k13f;have szw22:=Ext.size E0
        refine region_gs [isV (.pointer (some ⟨w.heap.size+1+1,3,none⟩)),isV (.slice a3 n3 c3),isV (.int .i64 (n3:Int)),isV (.int .i64 (n0:Int)),isV (.bool true),isV (.bool true),isV (undef),isV (undef),isV (undef),isV (undef),isV (undef),isV (.bool true),isV (.bool true),isV (undef),isV (undef),isV (undef),isV (undef),isV (undef),isV (.bool true),isV (.bool true),isV (undef),isV (undef),isV (undef),isV (undef),isV (undef),isV (.bool true)]
         (fun W=>Ext w W∧Iw 0 w.heap.size W a0 n0 c0 (lw)∧Iw 0 w.heap.size W a1 n1 c1 (lm)∧Iw 0 w.heap.size W a2 n2 c2 (lv)∧Iw 0 w.heap.size W a3 n3 c3 (lg)∧Bx3 W w.heap.size 23 (.int .i64 lr) (.int .i64 ep) (.int .i64 d)∧Bx2 W (w.heap.size+1) 24 (.int .i64 (T:Int)) (.int .i64 (cl:Int))∧BxA W (w.heap.size+1+1) 27 #[.slice a0 n0 c0,.slice a1 n1 c1,.slice a2 n2 c2,.slice a3 n3 c3]∧BxA W (w.heap.size+1+1+1) 27 #[.slice none 0 0,.slice none 0 0,.slice none 0 0,.slice none 0 0]∧BxA W g13 54 #[.int .i64 lr,.int .i64 ep,.int .i64 d,.int .i64 (K:Int),.int .i64 (cl:Int),.int .i64 sh]∧W17.heap.size≤W.heap.size) ⟨Good.is _,Good.is _,Good.is _,Good.is _,Good.is _,Good.is _,Good.is _,Good.is _,Good.is _,Good.is _,Good.is _,Good.is _,Good.is _,Good.is _,Good.is _,Good.is _,Good.is _,Good.is _,Good.is _,Good.is _,Good.is _,Good.is _,Good.is _,Good.is _,Good.is _,Good.is _,trivial⟩
         ⟨E0,hi0,hi1,hi2,hi3,p4,p6,p7,p8,p13,Nat.le_refl _⟩ (A:=?A22) ?hA22 ?howe22 ?hfin22
        case hA22=>
         intro vs
         simp only[putAll,Act.put,sA,sZ,sS,Nat.zero_add,Nat.reduceAdd]
         exact rfl
        case howe22=>
         clear E0 hi0 hi1 hi2 hi3 p4 p6 p7 p8 p13
         intro hf
         refine⟨oP0 0 [] hf rfl,oE 1 [0] hf rfl ?_,oP1 2 [1] hf rfl,oP0 3 [] hf rfl,oE 4 [2,3] hf rfl ?_,oP1 5 [4] hf rfl,oP1 6 [5] hf rfl,oP1 7 [5] hf rfl,oP1 8 [5] hf rfl,oP1 9 [5] hf rfl,oP1 10 [5] hf rfl,oP2 11 [5,10] hf rfl,oP1 12 [11] hf rfl,oP1 13 [12] hf rfl,oP1 14 [12] hf rfl,oP1 15 [12] hf rfl,oP1 16 [12] hf rfl,oP1 17 [12] hf rfl,oP2 18 [12,17] hf rfl,oP1 19 [18] hf rfl,oP1 20 [19] hf rfl,oP1 21 [19] hf rfl,oP1 22 [19] hf rfl,oP1 23 [19] hf rfl,oP1 24 [19] hf rfl,oP2 25 [19,24] hf rfl,trivial⟩
         all_goals intro vs W hS hp hx KO hKO
         all_goals simp only[Act.put,sA,sZ,sS]at hKO
         ·have e0:=isOf hp.1;simp only[e0]at hKO;have fc3:=BxA.cell (hS.2.2.2.2.2.2.2.1) 3 (v:=.slice a3 n3 c3) rfl;go_simp;exact hKO _ W (.refl W) rfl
         ·have e2:=isOf hp.1;have e3:=isOf hp.2.1;simp only[e2,e3]at hKO;go_simp;exact hKO _ W (Ext.refl W) (by first | rfl | exact congrArg Value.bool NE0.out)
        intro vs W22 hS hp
        clear szw22 E0 hi0 hi1 hi2 hi3 p4 p6 p7 p8 p13
        obtain⟨E0,hi0,hi1,hi2,hi3,p4,p6,p7,p8,p13,sz22⟩:=hS
        obtain⟨h22_0,h22_1,h22_2,h22_3,h22_4,h22_5,h22_6,h22_7,h22_8,h22_9,h22_10,h22_11,h22_12,h22_13,h22_14,h22_15,h22_16,h22_17,h22_18,h22_19,h22_20,h22_21,h22_22,h22_23,h22_24,h22_25,-⟩:=hp
        simp only[isOf h22_0,isOf h22_1,isOf h22_2,isOf h22_3,isOf h22_4,isOf h22_5,isOf h22_6,isOf h22_7,isOf h22_8,isOf h22_9,isOf h22_10,isOf h22_11,isOf h22_12,isOf h22_13,isOf h22_14,isOf h22_15,isOf h22_16,isOf h22_17,isOf h22_18,isOf h22_19,isOf h22_20,isOf h22_21,isOf h22_22,isOf h22_23,isOf h22_24,isOf h22_25]
        clear h22_0 h22_1 h22_2 h22_3 h22_4 h22_5 h22_6 h22_7 h22_8 h22_9 h22_10 h22_11 h22_12 h22_13 h22_14 h22_15 h22_16 h22_17 h22_18 h22_19 h22_20 h22_21 h22_22 h22_23 h22_24 h22_25;clear hr0 t1 t2 t3 t4 hv0 hv0a hv0b
        have z8:∀ i,W22.frozen? ⟨w.heap.size+1+1+1,i,none⟩=false:=fun i=>by simp[World.frozen?,show W22.heap[w.heap.size+1+1+1]? = _ from p8]
        have z80:=z8 0
        have z81:=z8 1
        have z82:=z8 2
        have z83:=z8 3
        clear z8
        obtain⟨k4a,k4b,k4c⟩:=p4.c3
        obtain⟨k6a,k6b⟩:=p6.c2
        obtain⟨k7a,k7b,k7c,k7d⟩:=p7.c4
        obtain⟨k8a,k8b,k8c,k8d⟩:=p8.c4
        obtain⟨k13a,k13b,k13c,k13d,k13e,k13f⟩:=p13.c6
        go_wp2;clear k4a k4b k4c k6a k6b k7a k7b k7c k7d k8a k8b k8c k8d k13a k13b k13c k13d k13e k13f
        obtain⟨W2,hW2,hw,hq⟩:=(Form4.of p8).put none 0 0 none 0 0 none 0 0 none 0 0
        rw[← hW2]
        have k80:=hq.cell 0 (v:=.slice none 0 0) rfl
        have k81:=hq.cell 1 (v:=.slice none 0 0) rfl
        have k82:=hq.cell 2 (v:=.slice none 0 0) rfl
        have k83:=hq.cell 3 (v:=.slice none 0 0) rfl
        exact bodyPost_ret (v:=.tuple #[.agg #[.slice none 0 0,.slice none 0 0,.slice none 0 0,.slice none 0 0],.int .i64 5]) (by simp[results,Tryz.results6,go_sem,k80,k81,k82,k83]) rfl (AdaOut.no (Ext.wr E0 hw (by omega)) (by rw[HAE.out,if_pos (shapeB_no (fun k=>by rw[HF.out]at k;simp only[if_true]at k;have h:=ND0.out;have hr:=HRI.out;have hq:=HRR.out;omega))]) (by omega))
     ·have HV:=Lib.hid hv
      clear hv
      obtain⟨k4a,k4b,k4c⟩:=p4.c3
      obtain⟨k6a,k6b⟩:=p6.c2
      obtain⟨k7a,k7b,k7c,k7d⟩:=p7.c4
      obtain⟨k8a,k8b,k8c,k8d⟩:=p8.c4
      go_upto_region 3 with (fail)
      clear k4a k4b k4c k6a k6b k7a k7b k7c k7d k8a k8b k8c k8d;have ltp4:=p4.lt;have ltp6:=p6.lt;have ltp7:=p7.lt;have ltp8:=p8.lt;have szw23:=Ext.size E0
      refine region_gs [isV (.agg #[.int .i64 lr,.int .i64 ep,.int .i64 d]),isV (.int .i64 (K:Int)),isV (.bool true),isV (.bool false),isV (.bool false),isV (.int .i64 0),isV (.bool false),isV (.bool false),isV (.bool false),isV (.pointer (some ⟨w.heap.size+1,1,none⟩)),isV (.int .i64 c),isV (.bool false),isV (.bool false),isV (.bool false),isV (.pointer (some ⟨w.heap.size+1+1,1,none⟩)),isV (.slice a1 n1 c1),isV (.func (.func 15) #[] #[]),isV (.bool false),isV (.bool false),isV (.bool false),isV (.pointer (some ⟨w.heap.size+1+1,2,none⟩)),isV (.slice a2 n2 c2),isV (.func (.func 15) #[] #[]),isV (.bool true),isV (.bool true)]
       (fun W=>Ext w W∧Iw 0 w.heap.size W a0 n0 c0 (lw)∧Iw 0 w.heap.size W a1 n1 c1 (lm)∧Iw 0 w.heap.size W a2 n2 c2 (lv)∧Iw 0 w.heap.size W a3 n3 c3 (lg)∧Bx3 W w.heap.size 23 (.int .i64 lr) (.int .i64 ep) (.int .i64 d)∧Bx2 W (w.heap.size+1) 24 (.int .i64 (T:Int)) (.int .i64 c)∧BxA W (w.heap.size+1+1) 27 #[.slice a0 n0 c0,.slice a1 n1 c1,.slice a2 n2 c2,.slice a3 n3 c3]∧BxA W (w.heap.size+1+1+1) 27 #[.slice none 0 0,.slice none 0 0,.slice none 0 0,.slice none 0 0]∧V1.heap.size≤W.heap.size) ⟨Good.is _,Good.is _,Good.is _,Good.is _,Good.is _,Good.is _,Good.is _,Good.is _,Good.is _,Good.is _,Good.is _,Good.is _,Good.is _,Good.is _,Good.is _,Good.is _,Good.is _,Good.is _,Good.is _,Good.is _,Good.is _,Good.is _,Good.is _,Good.is _,Good.is _,trivial⟩
       ⟨E0,hi0,hi1,hi2,hi3,p4,p6,p7,p8,Nat.le_refl _⟩ (A:=?A23) ?hA23 ?howe23 ?hfin23
      case hA23=>
       intro vs
       simp only[putAll,Act.put,sA,sZ,sS,Nat.zero_add,Nat.reduceAdd]
       exact rfl
      case howe23=>
       clear E0 hi0 hi1 hi2 hi3 p4 p6 p7 p8
       intro hf
       refine⟨oE 0 [] hf rfl ?_,oP0 1 [] hf rfl,oE 2 [0,1] hf rfl ?_,oP1 3 [2] hf rfl,oP1 4 [3] hf rfl,oP1 5 [4] hf rfl,oE 6 [4,5] hf rfl ?_,oP2 7 [4,6] hf rfl,oP1 8 [7] hf rfl,oP1 9 [8] hf rfl,oE 10 [8,9] hf rfl ?_,oE 11 [8,10] hf rfl ?_,oP2 12 [8,11] hf rfl,oP1 13 [12] hf rfl,oP1 14 [13] hf rfl,oE 15 [13,14] hf rfl ?_,oP1 16 [13] hf rfl,oE 17 [13,15,16] hf rfl ?_,oP2 18 [13,17] hf rfl,oP1 19 [18] hf rfl,oP1 20 [19] hf rfl,oE 21 [19,20] hf rfl ?_,oP1 22 [19] hf rfl,oE 23 [19,21,22] hf rfl ?_,oP2 24 [19,23] hf rfl,trivial⟩
       all_goals intro vs W hS hp hx KO hKO
       all_goals simp only[Act.put,sA,sZ,sS]at hKO
       ·have fc0:=hS.2.2.2.2.2.1.cell0;have fc1:=hS.2.2.2.2.2.1.cell1;have fc2:=hS.2.2.2.2.2.1.cell2;go_simp;exact hKO _ W (.refl W) rfl
       ·have e0:=isOf hp.1;have e1:=isOf hp.2.1;simp only[e0,e1]at hKO;go_simp
        refine(Tryz.adaRight lr ep d (K:Int) _).mono ?_
        rintro e W1 ⟨rfl,hE⟩
        rw[HR.out]
        exact hKO _ W1 hE rfl
       ·have e4:=isOf hp.1;have e5:=isOf hp.2.1;simp only[e4,e5]at hKO;go_simp;exact hKO _ W (Ext.refl W) (by rfl)
       ·have e8:=isOf hp.1;have e9:=isOf hp.2.1;simp only[e8,e9]at hKO;have fc1:=hS.2.2.2.2.2.2.1.cell1;go_simp;exact hKO _ W (.refl W) rfl
       ·have e8:=isOf hp.1;have e10:=isOf hp.2.1;simp only[e8,e10]at hKO;go_simp;exact hKO _ W (Ext.refl W) (by first | rfl | exact congrArg Value.bool (decide_eq_false (by have:=HC.out;omega)))
       ·have e13:=isOf hp.1;have e14:=isOf hp.2.1;simp only[e13,e14]at hKO;have fc1:=BxA.cell (hS.2.2.2.2.2.2.2.1) 1 (v:=.slice a1 n1 c1) rfl;go_simp;exact hKO _ W (.refl W) rfl
       ·have e13:=isOf hp.1;have e15:=isOf hp.2.1;have e16:=isOf hp.2.2.1;simp only[e13,e15,e16]at hKO;go_simp
        refine(Tryz.adaNeg hS.2.2.1).mono ?_
        rintro e W1 ⟨rfl,hE⟩
        rw[HM.out]
        exact hKO _ W1 hE rfl
       ·have e19:=isOf hp.1;have e20:=isOf hp.2.1;simp only[e19,e20]at hKO;have fc2:=BxA.cell (hS.2.2.2.2.2.2.2.1) 2 (v:=.slice a2 n2 c2) rfl;go_simp;exact hKO _ W (.refl W) rfl
       ·have e19:=isOf hp.1;have e21:=isOf hp.2.1;have e22:=isOf hp.2.2.1;simp only[e19,e21,e22]at hKO;go_simp
        refine(Tryz.adaNeg hS.2.2.2.1).mono ?_
        rintro e W1 ⟨rfl,hE⟩
        rw[HV.out]
        exact hKO _ W1 hE rfl
      intro vs W23 hS hp
      clear szw23 E0 hi0 hi1 hi2 hi3 p4 p6 p7 p8
      obtain⟨E0,hi0,hi1,hi2,hi3,p4,p6,p7,p8,sz23⟩:=hS
      obtain⟨h23_0,h23_1,h23_2,h23_3,h23_4,h23_5,h23_6,h23_7,h23_8,h23_9,h23_10,h23_11,h23_12,h23_13,h23_14,h23_15,h23_16,h23_17,h23_18,h23_19,h23_20,h23_21,h23_22,h23_23,h23_24,-⟩:=hp
      simp only[isOf h23_0,isOf h23_1,isOf h23_2,isOf h23_3,isOf h23_4,isOf h23_5,isOf h23_6,isOf h23_7,isOf h23_8,isOf h23_9,isOf h23_10,isOf h23_11,isOf h23_12,isOf h23_13,isOf h23_14,isOf h23_15,isOf h23_16,isOf h23_17,isOf h23_18,isOf h23_19,isOf h23_20,isOf h23_21,isOf h23_22,isOf h23_23,isOf h23_24]
      clear h23_0 h23_1 h23_2 h23_3 h23_4 h23_5 h23_6 h23_7 h23_8 h23_9 h23_10 h23_11 h23_12 h23_13 h23_14 h23_15 h23_16 h23_17 h23_18 h23_19 h23_20 h23_21 h23_22 h23_23 h23_24
      have z8:∀ i,W23.frozen? ⟨w.heap.size+1+1+1,i,none⟩=false:=fun i=>by simp[World.frozen?,show W23.heap[w.heap.size+1+1+1]? = _ from p8]
      have z80:=z8 0
      have z81:=z8 1
      have z82:=z8 2
      have z83:=z8 3
      clear z8
      obtain⟨k4a,k4b,k4c⟩:=p4.c3
      obtain⟨k6a,k6b⟩:=p6.c2
      obtain⟨k7a,k7b,k7c,k7d⟩:=p7.c4
      obtain⟨k8a,k8b,k8c,k8d⟩:=p8.c4
      go_wp2;clear k4a k4b k4c k6a k6b k7a k7b k7c k7d k8a k8b k8c k8d
      obtain⟨W2,hW2,hw,hq⟩:=(Form4.of p8).put none 0 0 none 0 0 none 0 0 none 0 0
      rw[← hW2]
      have k80:=hq.cell 0 (v:=.slice none 0 0) rfl
      have k81:=hq.cell 1 (v:=.slice none 0 0) rfl
      have k82:=hq.cell 2 (v:=.slice none 0 0) rfl
      have k83:=hq.cell 3 (v:=.slice none 0 0) rfl
      exact bodyPost_ret (v:=.tuple #[.agg #[.slice none 0 0,.slice none 0 0,.slice none 0 0,.slice none 0 0],.int .i64 1]) (by simp[results,Tryz.results6,go_sem,k80,k81,k82,k83]) rfl (AdaOut.no (Ext.wr E0 hw (by omega)) (adaE_arg (.inr (.inr (.inr (.inr HV.out))))) (by omega))
    ·have HM:=Lib.hid hm
     clear hm
     obtain⟨k4a,k4b,k4c⟩:=p4.c3
     obtain⟨k6a,k6b⟩:=p6.c2
     obtain⟨k7a,k7b,k7c,k7d⟩:=p7.c4
     obtain⟨k8a,k8b,k8c,k8d⟩:=p8.c4
     go_upto_region 3 with (fail)
     clear k4a k4b k4c k6a k6b k7a k7b k7c k7d k8a k8b k8c k8d;have ltp4:=p4.lt;have ltp6:=p6.lt;have ltp7:=p7.lt;have ltp8:=p8.lt;have szw24:=Ext.size E0
     refine region_gs [isV (.agg #[.int .i64 lr,.int .i64 ep,.int .i64 d]),isV (.int .i64 (K:Int)),isV (.bool true),isV (.bool false),isV (.bool false),isV (.int .i64 0),isV (.bool false),isV (.bool false),isV (.bool false),isV (.pointer (some ⟨w.heap.size+1,1,none⟩)),isV (.int .i64 c),isV (.bool false),isV (.bool false),isV (.bool false),isV (.pointer (some ⟨w.heap.size+1+1,1,none⟩)),isV (.slice a1 n1 c1),isV (.func (.func 15) #[] #[]),isV (.bool true),isV (.bool true),isV (.bool true),isV (undef),isV (undef),isV (undef),isV (undef),isV (.bool true)]
      (fun W=>Ext w W∧Iw 0 w.heap.size W a0 n0 c0 (lw)∧Iw 0 w.heap.size W a1 n1 c1 (lm)∧Iw 0 w.heap.size W a2 n2 c2 (lv)∧Iw 0 w.heap.size W a3 n3 c3 (lg)∧Bx3 W w.heap.size 23 (.int .i64 lr) (.int .i64 ep) (.int .i64 d)∧Bx2 W (w.heap.size+1) 24 (.int .i64 (T:Int)) (.int .i64 c)∧BxA W (w.heap.size+1+1) 27 #[.slice a0 n0 c0,.slice a1 n1 c1,.slice a2 n2 c2,.slice a3 n3 c3]∧BxA W (w.heap.size+1+1+1) 27 #[.slice none 0 0,.slice none 0 0,.slice none 0 0,.slice none 0 0]∧V1.heap.size≤W.heap.size) ⟨Good.is _,Good.is _,Good.is _,Good.is _,Good.is _,Good.is _,Good.is _,Good.is _,Good.is _,Good.is _,Good.is _,Good.is _,Good.is _,Good.is _,Good.is _,Good.is _,Good.is _,Good.is _,Good.is _,Good.is _,Good.is _,Good.is _,Good.is _,Good.is _,Good.is _,trivial⟩
      ⟨E0,hi0,hi1,hi2,hi3,p4,p6,p7,p8,Nat.le_refl _⟩ (A:=?A24) ?hA24 ?howe24 ?hfin24
     case hA24=>
      intro vs
      simp only[putAll,Act.put,sA,sZ,sS,Nat.zero_add,Nat.reduceAdd]
      exact rfl
     case howe24=>
      clear E0 hi0 hi1 hi2 hi3 p4 p6 p7 p8
      intro hf
      refine⟨oE 0 [] hf rfl ?_,oP0 1 [] hf rfl,oE 2 [0,1] hf rfl ?_,oP1 3 [2] hf rfl,oP1 4 [3] hf rfl,oP1 5 [4] hf rfl,oE 6 [4,5] hf rfl ?_,oP2 7 [4,6] hf rfl,oP1 8 [7] hf rfl,oP1 9 [8] hf rfl,oE 10 [8,9] hf rfl ?_,oE 11 [8,10] hf rfl ?_,oP2 12 [8,11] hf rfl,oP1 13 [12] hf rfl,oP1 14 [13] hf rfl,oE 15 [13,14] hf rfl ?_,oP1 16 [13] hf rfl,oE 17 [13,15,16] hf rfl ?_,oP2 18 [13,17] hf rfl,oP1 19 [18] hf rfl,oP1 20 [19] hf rfl,oP1 21 [19] hf rfl,oP1 22 [19] hf rfl,oP1 23 [19] hf rfl,oP2 24 [19,23] hf rfl,trivial⟩
      all_goals intro vs W hS hp hx KO hKO
      all_goals simp only[Act.put,sA,sZ,sS]at hKO
      ·have fc0:=hS.2.2.2.2.2.1.cell0;have fc1:=hS.2.2.2.2.2.1.cell1;have fc2:=hS.2.2.2.2.2.1.cell2;go_simp;exact hKO _ W (.refl W) rfl
      ·have e0:=isOf hp.1;have e1:=isOf hp.2.1;simp only[e0,e1]at hKO;go_simp
       refine(Tryz.adaRight lr ep d (K:Int) _).mono ?_
       rintro e W1 ⟨rfl,hE⟩
       rw[HR.out]
       exact hKO _ W1 hE rfl
      ·have e4:=isOf hp.1;have e5:=isOf hp.2.1;simp only[e4,e5]at hKO;go_simp;exact hKO _ W (Ext.refl W) (by rfl)
      ·have e8:=isOf hp.1;have e9:=isOf hp.2.1;simp only[e8,e9]at hKO;have fc1:=hS.2.2.2.2.2.2.1.cell1;go_simp;exact hKO _ W (.refl W) rfl
      ·have e8:=isOf hp.1;have e10:=isOf hp.2.1;simp only[e8,e10]at hKO;go_simp;exact hKO _ W (Ext.refl W) (by first | rfl | exact congrArg Value.bool (decide_eq_false (by have:=HC.out;omega)))
      ·have e13:=isOf hp.1;have e14:=isOf hp.2.1;simp only[e13,e14]at hKO;have fc1:=BxA.cell (hS.2.2.2.2.2.2.2.1) 1 (v:=.slice a1 n1 c1) rfl;go_simp;exact hKO _ W (.refl W) rfl
      ·have e13:=isOf hp.1;have e15:=isOf hp.2.1;have e16:=isOf hp.2.2.1;simp only[e13,e15,e16]at hKO;go_simp
       refine(Tryz.adaNeg hS.2.2.1).mono ?_
       rintro e W1 ⟨rfl,hE⟩
       rw[HM.out]
       exact hKO _ W1 hE rfl
     intro vs W24 hS hp
     clear szw24 E0 hi0 hi1 hi2 hi3 p4 p6 p7 p8
     obtain⟨E0,hi0,hi1,hi2,hi3,p4,p6,p7,p8,sz24⟩:=hS
     obtain⟨h24_0,h24_1,h24_2,h24_3,h24_4,h24_5,h24_6,h24_7,h24_8,h24_9,h24_10,h24_11,h24_12,h24_13,h24_14,h24_15,h24_16,h24_17,h24_18,h24_19,h24_20,h24_21,h24_22,h24_23,h24_24,-⟩:=hp
     simp only[isOf h24_0,isOf h24_1,isOf h24_2,isOf h24_3,isOf h24_4,isOf h24_5,isOf h24_6,isOf h24_7,isOf h24_8,isOf h24_9,isOf h24_10,isOf h24_11,isOf h24_12,isOf h24_13,isOf h24_14,isOf h24_15,isOf h24_16,isOf h24_17,isOf h24_18,isOf h24_19,isOf h24_20,isOf h24_21,isOf h24_22,isOf h24_23,isOf h24_24]
     clear h24_0 h24_1 h24_2 h24_3 h24_4 h24_5 h24_6 h24_7 h24_8 h24_9 h24_10 h24_11 h24_12 h24_13 h24_14 h24_15 h24_16 h24_17 h24_18 h24_19 h24_20 h24_21 h24_22 h24_23 h24_24
     have z8:∀ i,W24.frozen? ⟨w.heap.size+1+1+1,i,none⟩=false:=fun i=>by simp[World.frozen?,show W24.heap[w.heap.size+1+1+1]? = _ from p8]
     have z80:=z8 0
     have z81:=z8 1
     have z82:=z8 2
     have z83:=z8 3
     clear z8
     obtain⟨k4a,k4b,k4c⟩:=p4.c3
     obtain⟨k6a,k6b⟩:=p6.c2
     obtain⟨k7a,k7b,k7c,k7d⟩:=p7.c4
     obtain⟨k8a,k8b,k8c,k8d⟩:=p8.c4
     go_wp2;clear k4a k4b k4c k6a k6b k7a k7b k7c k7d k8a k8b k8c k8d
     obtain⟨W2,hW2,hw,hq⟩:=(Form4.of p8).put none 0 0 none 0 0 none 0 0 none 0 0
     rw[← hW2]
     have k80:=hq.cell 0 (v:=.slice none 0 0) rfl
     have k81:=hq.cell 1 (v:=.slice none 0 0) rfl
     have k82:=hq.cell 2 (v:=.slice none 0 0) rfl
     have k83:=hq.cell 3 (v:=.slice none 0 0) rfl
     exact bodyPost_ret (v:=.tuple #[.agg #[.slice none 0 0,.slice none 0 0,.slice none 0 0,.slice none 0 0],.int .i64 1]) (by simp[results,Tryz.results6,go_sem,k80,k81,k82,k83]) rfl (AdaOut.no (Ext.wr E0 hw (by omega)) (adaE_arg (.inr (.inr (.inr (.inl HM.out))))) (by omega))
end Go.Rt
