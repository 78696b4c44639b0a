/-
  Adam: a step of rows in numbers: why there is none, or the three new rows; what every step answers.
  Rows of integers compared by definition; whether rows are few.
  The laws of chapter 18 (Adam): Powers. Adams as they are handed in.
  Rows of numbers compared by definition, four and four.
-/
import Derived.Test.YtiebflipijcnfaaGreatGZ
import Derived.Test.YtiebflipijcnfaaGreatGV
namespace Go.Rt
open Go Go.RowKit Go.Proofs
noncomputable def stepP (A:AdamP) (f p0 p1:Int) (lw lm lv lg:List Int) (i:Nat):Option (Int × Int × Int):=placeO f.toNat A p0 p1 (atL lw i) (atL lm i) (atL lv i) (atL lg i)
theorem outL_len (n:Nat) (f:Nat→Int):(outL n f).length=n:=by simp[outL]
theorem outL_at {n:Nat} {f:Nat→Int} {i:Nat} (h:i < n):atL (outL n f) i=f i:=by rw[atL_eq (by rw[outL_len];exact h)];simp[outL]
def StepAt (lo:Nat) (W:World) (v:Value) (E:Int) (xw xm xv:List Int):Prop:=
 ∃ (x1 x2 x3:Option Addr) (m:Nat),v=.tuple #[.agg #[.slice x1 m m,.slice x2 m m,.slice x3 m m,.slice none 0 0],.int .i64 E]∧Iw lo W.heap.size W x1 m m xw∧Iw lo W.heap.size W x2 m m xm∧Iw lo W.heap.size W x3 m m xv
end Go.Rt
namespace Go.Rt
open Go Go.RowKit Go.Proofs
theorem atL_ext {l m:List Int} (h:l.length=m.length) (k:∀ i,i < l.length→atL l i=atL m i):l=m:=by
 apply List.ext_getElem h
 intro i h1 h2
 have:=k i h1
 rwa [atL_eq h1,atL_eq h2]at this
set_option maxRecDepth 100000 in
set_option maxHeartbeats 8000000 in
theorem Tryz.refSame09 {lo hi lo' hi':Nat} {a a':Option Addr} {n c n' c':Nat} {l l':List Int} {w:World} (h1:Iw lo hi w a n c l) (h2:Iw lo' hi' w a' n' c' l'):
  Calls Tryz.prog 19 #[.slice a n c,.slice a' n' c'] w fun e w'=>e=.returned (.bool (decide (l=l')))∧Ext w w':=by
 have hc:=h1.cap
 have hl1:=h1.len
 have hl2:=h2.len
 have hn63:n≤9223372036854775807:=by omega
 have HL:=Lib.hid (And.intro hl1 hl2)
 clear hc hl1 hl2
 by_cases hlen:n=n'
 ·subst hlen
  obtain⟨W0,hW0⟩:∃ W0,W0=w:=⟨_,rfl⟩
  have E0:Ext w W0:=by rw[hW0];exact Ext.refl w
  replace h1:Iw lo hi W0 a n c (l):=h1.ext E0
  replace h2:Iw lo' hi' W0 a' n c' (l'):=h2.ext E0
  go_enter Tryz.func19,Tryz.ntmps19
  go_wp2_with fail
  try rw[← hW0]
  clear hW0
  go_loopw [5] (fun i wr=>∃ k:Nat,i=.int .i64 (k:Int)∧k≤n∧Hid (∀ j,j < k→atL l j=atL l' j)∧Ext w wr∧Iw lo hi wr a n c l∧Iw lo' hi' wr a' n c' l') (fun i _=>n - (intOf i).toNat)
  case atStart=>exact⟨0,rfl,by omega,Lib.hid (fun j hj=>absurd hj (by omega)),E0,h1,h2⟩
  case round=>
   clear E0 h1 h2
   obtain⟨k,rfl,hk,HA,E0,h1,h2⟩:=hrel
   by_cases hlt:k < n
   ·have hltI:(k:Int) < (n:Int):=by omega
    obtain⟨ba,oa,rfl,-,-⟩:=h1.some (by omega)
    obtain⟨bb,ob,rfl,-,-⟩:=h2.some (by omega)
    by_cases heq:atL l k=atL l' k
    ·have HEQ:=Lib.hid heq
     clear heq
     have HNE:Hid ((atL l k != atL l' k)=false):=Lib.hid (by have:=HEQ.out;simp_all)
     go_upto_region 6 with (fail)
     have szw1:=Ext.size E0
     refine region_gs [isV (.slice (some ⟨ba,oa,none⟩) n c),isV (.int .i64 (k:Int)),isV (.pointer (some ⟨ba,oa+k,none⟩)),isV (.int .i64 (atL l k)),isV (.slice (some ⟨bb,ob,none⟩) n c'),isV (.int .i64 (k:Int)),isV (.pointer (some ⟨bb,ob+k,none⟩)),isV (.int .i64 (atL l' k)),isV (.bool false)]
      (fun W=>Ext w W∧Iw lo hi W (some ⟨ba,oa,none⟩) n c (l)∧Iw lo' hi' W (some ⟨bb,ob,none⟩) n c' (l')∧wr.heap.size≤W.heap.size) ⟨Good.is _,Good.is _,Good.is _,Good.is _,Good.is _,Good.is _,Good.is _,Good.is _,Good.is _,trivial⟩
      ⟨E0,h1,h2,Nat.le_refl _⟩ (A:=?A1) ?hA1 ?howe1 ?hfin1
     case hA1=>
      intro vs
      simp only[putAll,Act.put,sA,sZ,sS,Nat.zero_add,Nat.reduceAdd]
      exact rfl
     case howe1=>
      clear E0 h1 h2
      intro hf
      refine⟨oP0 0 [] hf rfl,oP0 1 [] hf rfl,oP2 2 [0,1] hf rfl,oE 3 [2] hf rfl ?_,oP0 4 [] hf rfl,oP0 5 [] hf rfl,oP2 6 [4,5] hf rfl,oE 7 [6] hf rfl ?_,oE 8 [3,7] hf rfl ?_,trivial⟩
      all_goals intro vs W hS hp hx KO hKO
      all_goals simp only[Act.put,sA,sZ,sS]at hKO
      ·have e2:=isOf hp.1;simp only[e2]at hKO
       have fc:=Iw.cell (hS.2.1) (i:=k) (by omega)
       go_simp;exact hKO _ W (.refl W) rfl
      ·have e6:=isOf hp.1;simp only[e6]at hKO
       have fc:=Iw.cell (hS.2.2.1) (i:=k) (by omega)
       go_simp;exact hKO _ W (.refl W) rfl
      ·have e3:=isOf hp.1;have e7:=isOf hp.2.1;simp only[e3,e7]at hKO;go_simp;exact hKO _ W (Ext.refl W) (by first | rfl | exact congrArg Value.bool HNE.out)
     intro vs W1 hS hp
     clear szw1 E0 h1 h2
     obtain⟨E0,h1,h2,sz1⟩:=hS
     obtain⟨h1_0,h1_1,h1_2,h1_3,h1_4,h1_5,h1_6,h1_7,h1_8,-⟩:=hp
     simp only[isOf h1_0,isOf h1_1,isOf h1_2,isOf h1_3,isOf h1_4,isOf h1_5,isOf h1_6,isOf h1_7,isOf h1_8]
     clear h1_0 h1_1 h1_2 h1_3 h1_4 h1_5 h1_6 h1_7 h1_8;go_wp2
     go_roundw
     case rel=>exact⟨k+1,by go_num,by omega,Lib.hid (grow_all HA.out HEQ.out),E0,h1,h2⟩
     case measure=>simp[intOf];omega
    ·have HEQ:=Lib.hid heq
     clear heq
     have HNE:Hid ((atL l k != atL l' k)=true):=Lib.hid (by have:=HEQ.out;simp_all)
     go_upto_region 6 with (fail)
     have szw2:=Ext.size E0
     refine region_gs [isV (.slice (some ⟨ba,oa,none⟩) n c),isV (.int .i64 (k:Int)),isV (.pointer (some ⟨ba,oa+k,none⟩)),isV (.int .i64 (atL l k)),isV (.slice (some ⟨bb,ob,none⟩) n c'),isV (.int .i64 (k:Int)),isV (.pointer (some ⟨bb,ob+k,none⟩)),isV (.int .i64 (atL l' k)),isV (.bool true)]
      (fun W=>Ext w W∧Iw lo hi W (some ⟨ba,oa,none⟩) n c (l)∧Iw lo' hi' W (some ⟨bb,ob,none⟩) n c' (l')∧wr.heap.size≤W.heap.size) ⟨Good.is _,Good.is _,Good.is _,Good.is _,Good.is _,Good.is _,Good.is _,Good.is _,Good.is _,trivial⟩
      ⟨E0,h1,h2,Nat.le_refl _⟩ (A:=?A2) ?hA2 ?howe2 ?hfin2
     case hA2=>
      intro vs
      simp only[putAll,Act.put,sA,sZ,sS,Nat.zero_add,Nat.reduceAdd]
      exact rfl
     case howe2=>
      clear E0 h1 h2
      intro hf
      refine⟨oP0 0 [] hf rfl,oP0 1 [] hf rfl,oP2 2 [0,1] hf rfl,oE 3 [2] hf rfl ?_,oP0 4 [] hf rfl,oP0 5 [] hf rfl,oP2 6 [4,5] hf rfl,oE 7 [6] hf rfl ?_,oE 8 [3,7] hf rfl ?_,trivial⟩
      all_goals intro vs W hS hp hx KO hKO
      all_goals simp only[Act.put,sA,sZ,sS]at hKO
      ·have e2:=isOf hp.1;simp only[e2]at hKO
       have fc:=Iw.cell (hS.2.1) (i:=k) (by omega)
       go_simp;exact hKO _ W (.refl W) rfl
      ·have e6:=isOf hp.1;simp only[e6]at hKO
       have fc:=Iw.cell (hS.2.2.1) (i:=k) (by omega)
       go_simp;exact hKO _ W (.refl W) rfl
      ·have e3:=isOf hp.1;have e7:=isOf hp.2.1;simp only[e3,e7]at hKO;go_simp;exact hKO _ W (Ext.refl W) (by first | rfl | exact congrArg Value.bool HNE.out)
     intro vs W2 hS hp
     clear szw2 E0 h1 h2
     obtain⟨E0,h1,h2,sz2⟩:=hS
     obtain⟨h2_0,h2_1,h2_2,h2_3,h2_4,h2_5,h2_6,h2_7,h2_8,-⟩:=hp
     simp only[isOf h2_0,isOf h2_1,isOf h2_2,isOf h2_3,isOf h2_4,isOf h2_5,isOf h2_6,isOf h2_7,isOf h2_8]
     clear h2_0 h2_1 h2_2 h2_3 h2_4 h2_5 h2_6 h2_7 h2_8
     have HR:Hid (decide (l=l')=false):=Lib.hid (decide_eq_false (fun h=>HEQ.out (by rw[h])))
     go_wp2;go_ret
     exact⟨ret_b HR.out.symm,E0⟩
   ·have hge:¬ (k:Int) < (n:Int):=by omega
    have HR:Hid (decide (l=l')=true):=Lib.hid (decide_eq_true (atL_ext (by have:=HL.out;omega) (fun i hi=>HA.out i (by have:=HL.out;omega))))
    clear h1 h2;go_wp2;go_ret
    exact⟨ret_b HR.out.symm,E0⟩
 ·have hne:((n:Int) != (n':Int))=true:=bne_iff_ne.2 (by omega)
  have HR:Hid (decide (l=l')=false):=Lib.hid (decide_eq_false (fun h=>hlen (by have:=HL.out;rw[h]at this;omega)))
  clear hlen h1 h2
  go_enter Tryz.func19,Tryz.ntmps19
  go_wp2;go_ret
  exact⟨ret_b HR.out.symm,Ext.refl _⟩
set_option maxRecDepth 100000 in
set_option maxHeartbeats 4000000 in
theorem Tryz.refFew17 (a0:Option Addr) (n0 c0:Nat) (a1:Option Addr) (n1 c1:Nat) (a2:Option Addr) (n2 c2:Nat) (a3:Option Addr) (n3 c3:Nat) (m:Nat) (w:World) (hs:n0+n1+n2+n3≤9223372036854775807):
  Calls Tryz.prog 4 #[.agg #[.slice a0 n0 c0,.slice a1 n1 c1,.slice a2 n2 c2,.slice a3 n3 c3],.int .i64 (m:Int)] w fun e w'=>e=.returned (.bool (decide (n0+n1+n2+n3≤m)))∧Ext w w':=by
 have w1:IntKind.i64.wrap ((n0:Int)+(n1:Int))=((n0+n1:Nat):Int):=by rw[IntKind.wrap_i64];omega
 have w2:IntKind.i64.wrap (((n0+n1:Nat):Int)+(n2:Int))=((n0+n1+n2:Nat):Int):=by rw[IntKind.wrap_i64];omega
 have w3:IntKind.i64.wrap (((n0+n1+n2:Nat):Int)+(n3:Int))=((n0+n1+n2+n3:Nat):Int):=by rw[IntKind.wrap_i64];omega
 obtain⟨x1,hx1⟩:∃ x,n0+n1=x:=⟨_,rfl⟩
 rw[hx1]at w1 w2 w3 ⊢
 obtain⟨x2,hx2⟩:∃ x,x1+n2=x:=⟨_,rfl⟩
 rw[hx2]at w2 w3 ⊢
 obtain⟨x3,hx3⟩:∃ x,x2+n3=x:=⟨_,rfl⟩
 rw[hx3]at w3 ⊢
 clear hx1 hx2 hx3 hs
 obtain⟨W0,hW0,E0,p2⟩:=boxed1 w 27 #[.slice a0 n0 c0,.slice a1 n1 c1,.slice a2 n2 c2,.slice a3 n3 c3]
 go_enter Tryz.func4,Tryz.ntmps4
 obtain⟨k2a,k2b,k2c,k2d⟩:=p2.c4
 go_upto_region 1 with (fail)
 rw[← hW0]
 clear hW0;clear k2a k2b k2c k2d;have ltp2:=p2.lt;have szw3:=Ext.size E0
 refine region_gk [isV (.pointer (some ⟨w.heap.size,0,none⟩)),isV (.slice a0 n0 c0),isV (.int .i64 (n0:Int)),isV (.pointer (some ⟨w.heap.size,1,none⟩)),isV (.slice a1 n1 c1),isV (.int .i64 (n1:Int)),isV (.int .i64 (x1:Int)),isV (.pointer (some ⟨w.heap.size,2,none⟩)),isV (.slice a2 n2 c2),isV (.int .i64 (n2:Int)),isV (.int .i64 (x2:Int)),isV (.pointer (some ⟨w.heap.size,3,none⟩)),isV (.slice a3 n3 c3),isV (.int .i64 (n3:Int)),isV (.int .i64 (x3:Int)),isV (.int .i64 (m:Int)),isV (.bool (decide (x3≤m))),
   .one fun v _=>v=.bool (decide (x3≤m))] ⟨Good.is _,Good.is _,Good.is _,Good.is _,Good.is _,Good.is _,Good.is _,Good.is _,Good.is _,Good.is _,Good.is _,Good.is _,Good.is _,Good.is _,Good.is _,Good.is _,Good.is _,Good.is _,trivial⟩ (E0.s.k (p2.s)) (A:=?A3) ?hA3 ?howe3 ?hfin3
 case hA3=>
  intro vs
  simp only[putAll,Act.put,sA,sZ,sS,Nat.zero_add,Nat.reduceAdd]
  exact rfl
 case howe3=>
  clear E0 p2
  intro hf
  refine⟨oP0 0 [] hf rfl,oE 1 [0] hf rfl ?_,oP1 2 [1] hf rfl,oP0 3 [] hf rfl,oE 4 [3] hf rfl ?_,oP1 5 [4] hf rfl,oP2 6 [2,5] hf rfl,oP0 7 [] hf rfl,oE 8 [7] hf rfl ?_,oP1 9 [8] hf rfl,oP2 10 [6,9] hf rfl,oP0 11 [] hf rfl,oE 12 [11] hf rfl ?_,oP1 13 [12] hf rfl,oP2 14 [10,13] hf rfl,oP0 15 [] hf rfl,oE 16 [14,15] hf rfl ?_,oP1 17 [16] hf rfl,trivial⟩
  all_goals intro vs W hS hp hx KO hKO
  all_goals simp only[Act.put,sA,sZ,sS]at hKO
  ·have e0:=isOf hp.1;simp only[e0]at hKO;have fc0:=BxA.cell (hS.1.2) 0 (v:=.slice a0 n0 c0) rfl;go_simp;exact hKO _ W (.refl W) rfl
  ·have e3:=isOf hp.1;simp only[e3]at hKO;have fc1:=BxA.cell (hS.1.2) 1 (v:=.slice a1 n1 c1) rfl;go_simp;exact hKO _ W (.refl W) rfl
  ·have e7:=isOf hp.1;simp only[e7]at hKO;have fc2:=BxA.cell (hS.1.2) 2 (v:=.slice a2 n2 c2) rfl;go_simp;exact hKO _ W (.refl W) rfl
  ·have e11:=isOf hp.1;simp only[e11]at hKO;have fc3:=BxA.cell (hS.1.2) 3 (v:=.slice a3 n3 c3) rfl;go_simp;exact hKO _ W (.refl W) rfl
  ·have e14:=isOf hp.1;have e15:=isOf hp.2.1;simp only[e14,e15]at hKO;go_simp;exact hKO _ W (Ext.refl W) (by first | rfl | exact congrArg Value.bool (by rw[Bool.eq_iff_iff,decide_eq_true_iff,decide_eq_true_iff];omega))
 intro vs W3 hS hp
 clear szw3 E0 p2
 obtain⟨⟨E0,p2⟩,sz3⟩:=hS
 obtain⟨h3_0,h3_1,h3_2,h3_3,h3_4,h3_5,h3_6,h3_7,h3_8,h3_9,h3_10,h3_11,h3_12,h3_13,h3_14,h3_15,h3_16,h3_17,-⟩:=hp
 simp only[isOf h3_0,isOf h3_1,isOf h3_2,isOf h3_3,isOf h3_4,isOf h3_5,isOf h3_6,isOf h3_7,isOf h3_8,isOf h3_9,isOf h3_10,isOf h3_11,isOf h3_12,isOf h3_13,isOf h3_14,isOf h3_15,isOf h3_16,isOf h3_17]
 clear h3_0 h3_1 h3_2 h3_3 h3_4 h3_5 h3_6 h3_7 h3_8 h3_9 h3_10 h3_11 h3_12 h3_13 h3_14 h3_15 h3_16 h3_17
 obtain⟨k2a,k2b,k2c,k2d⟩:=p2.c4
 go_wp2;go_ret
 exact⟨rfl,E0⟩
end Go.Rt
namespace Go.Rt
open Go Go.RowKit Go.Proofs Go.WideShapes Go.ChangeShapes
theorem cell_int64 {P:Program} {W:World} {base:Nat} {t:TypeId} {v:Value} (ht:P.underlying t=some (.int .i64)) (h:Cell.okWide P W .any base t v):∃ n:Int,v=.int .i64 n∧I64 n:=by
 have h':Value.okWide P W .any base t v:=by simp only[Value.okWide,ht];exact h
 obtain⟨n,rfl⟩:=okWide_int ht h'
 refine⟨n,rfl,?_⟩
 simp[Cell.okWide,Cell.ok,ht,IntKind.has,IntKind.min,IntKind.max,IntKind.signed,IntKind.bits]at h
 exact⟨by omega,by omega⟩
theorem cell_bool {P:Program} {W:World} {base:Nat} {t:TypeId} {v:Value} (ht:P.underlying t=some .bool) (h:Cell.okWide P W .any base t v):∃ b,v=.bool b:=by
 have h':Value.okWide P W .any base t v:=by simp only[Value.okWide,ht];exact h
 exact okWide_bool ht h'
end Go.Rt
namespace Go.Rt
open Go Go.RowKit Go.Proofs
set_option maxRecDepth 100000 in
set_option maxHeartbeats 8000000 in
theorem Tryz.refSame17 {a0 b0:Option Addr} {n0 c0 m0 d0:Nat} {l0 k0:List Int} {lo0 hi0 lp0 hp0:Nat} {a1 b1:Option Addr} {n1 c1 m1 d1:Nat} {l1 k1:List Int} {lo1 hi1 lp1 hp1:Nat} {a2 b2:Option Addr} {n2 c2 m2 d2:Nat} {l2 k2:List Int} {lo2 hi2 lp2 hp2:Nat} {a3 b3:Option Addr} {n3 c3 m3 d3:Nat} {l3 k3:List Int} {lo3 hi3 lp3 hp3:Nat} {w:World} (x0:Iw lo0 hi0 w a0 n0 c0 l0) (y0:Iw lp0 hp0 w b0 m0 d0 k0) (x1:Iw lo1 hi1 w a1 n1 c1 l1) (y1:Iw lp1 hp1 w b1 m1 d1 k1) (x2:Iw lo2 hi2 w a2 n2 c2 l2) (y2:Iw lp2 hp2 w b2 m2 d2 k2) (x3:Iw lo3 hi3 w a3 n3 c3 l3) (y3:Iw lp3 hp3 w b3 m3 d3 k3):
    Calls Tryz.prog 7 #[.agg #[.slice a0 n0 c0,.slice a1 n1 c1,.slice a2 n2 c2,.slice a3 n3 c3],.agg #[.slice b0 m0 d0,.slice b1 m1 d1,.slice b2 m2 d2,.slice b3 m3 d3]] w fun e w'=>e=.returned (.bool (decide (l0=k0) && decide (l1=k1) && decide (l2=k2) && decide (l3=k3)))∧Ext w w':=by
  obtain⟨W0,hW0⟩:∃ W0,W0=((w.alloc (.cells #[.slice a0 n0 c0,.slice a1 n1 c1,.slice a2 n2 c2,.slice a3 n3 c3] 27)).alloc (.cells #[.slice b0 m0 d0,.slice b1 m1 d1,.slice b2 m2 d2,.slice b3 m3 d3] 27)):=⟨_,rfl⟩
  have E0:Ext w W0:=by rw[hW0];exact((Ext.alloc1 w (.cells #[.slice a0 n0 c0,.slice a1 n1 c1,.slice a2 n2 c2,.slice a3 n3 c3] 27)).alloc (.cells #[.slice b0 m0 d0,.slice b1 m1 d1,.slice b2 m2 d2,.slice b3 m3 d3] 27))
  replace x0:Iw lo0 hi0 W0 a0 n0 c0 (l0):=x0.ext E0
  replace y0:Iw lp0 hp0 W0 b0 m0 d0 (k0):=y0.ext E0
  replace x1:Iw lo1 hi1 W0 a1 n1 c1 (l1):=x1.ext E0
  replace y1:Iw lp1 hp1 W0 b1 m1 d1 (k1):=y1.ext E0
  replace x2:Iw lo2 hi2 W0 a2 n2 c2 (l2):=x2.ext E0
  replace y2:Iw lp2 hp2 W0 b2 m2 d2 (k2):=y2.ext E0
  replace x3:Iw lo3 hi3 W0 a3 n3 c3 (l3):=x3.ext E0
  replace y3:Iw lp3 hp3 W0 b3 m3 d3 (k3):=y3.ext E0
  have p2:BxA W0 w.heap.size 27 #[.slice a0 n0 c0,.slice a1 n1 c1,.slice a2 n2 c2,.slice a3 n3 c3]:=by rw[hW0];exact(BxA.new w 27 #[.slice a0 n0 c0,.slice a1 n1 c1,.slice a2 n2 c2,.slice a3 n3 c3]).ext (Ext.alloc1 (w.alloc (.cells #[.slice a0 n0 c0,.slice a1 n1 c1,.slice a2 n2 c2,.slice a3 n3 c3] 27)) (.cells #[.slice b0 m0 d0,.slice b1 m1 d1,.slice b2 m2 d2,.slice b3 m3 d3] 27))
  have p3:BxA W0 (w.heap.size+1) 27 #[.slice b0 m0 d0,.slice b1 m1 d1,.slice b2 m2 d2,.slice b3 m3 d3]:=by rw[hW0];simpa using (BxA.new (w.alloc (.cells #[.slice a0 n0 c0,.slice a1 n1 c1,.slice a2 n2 c2,.slice a3 n3 c3] 27)) 27 #[.slice b0 m0 d0,.slice b1 m1 d1,.slice b2 m2 d2,.slice b3 m3 d3])
  go_enter Tryz.func7,Tryz.ntmps7
  obtain⟨kp2_0,kp2_1,kp2_2,kp2_3⟩:=p2.c4
  obtain⟨kp3_0,kp3_1,kp3_2,kp3_3⟩:=p3.c4
  go_wp2_with fail
  rw[← hW0]
  clear hW0
  clear kp2_0 kp2_1 kp2_2 kp2_3 kp3_0 kp3_1 kp3_2 kp3_3
  refine(Tryz.refSame09 x0 y0).mono ?_
  rintro e Wa ⟨rfl,hE⟩
  replace E0:=(Ext.trans E0 hE)
  replace x0:=(x0.ext hE)
  replace y0:=(y0.ext hE)
  replace x1:=(x1.ext hE)
  replace y1:=(y1.ext hE)
  replace x2:=(x2.ext hE)
  replace y2:=(y2.ext hE)
  replace x3:=(x3.ext hE)
  replace y3:=(y3.ext hE)
  replace p2:=(p2.ext hE)
  replace p3:=(p3.ext hE)
  clear hE
  cases g0:decide (l0=k0)
  · obtain⟨kp2_0,kp2_1,kp2_2,kp2_3⟩:=p2.c4
    obtain⟨kp3_0,kp3_1,kp3_2,kp3_3⟩:=p3.c4
    go_wp2
    go_ret
    exact⟨ret_b (by rw[g0];rfl),E0⟩
  · obtain⟨kp2_0,kp2_1,kp2_2,kp2_3⟩:=p2.c4
    obtain⟨kp3_0,kp3_1,kp3_2,kp3_3⟩:=p3.c4
    go_wp2_with fail
    clear kp2_0 kp2_1 kp2_2 kp2_3 kp3_0 kp3_1 kp3_2 kp3_3
    refine(Tryz.refSame09 x1 y1).mono ?_
    rintro e Wb ⟨rfl,hE⟩
    replace E0:=(Ext.trans E0 hE)
    replace x0:=(x0.ext hE)
    replace y0:=(y0.ext hE)
    replace x1:=(x1.ext hE)
    replace y1:=(y1.ext hE)
    replace x2:=(x2.ext hE)
    replace y2:=(y2.ext hE)
    replace x3:=(x3.ext hE)
    replace y3:=(y3.ext hE)
    replace p2:=(p2.ext hE)
    replace p3:=(p3.ext hE)
    clear hE
    cases g1:decide (l1=k1)
    · obtain⟨kp2_0,kp2_1,kp2_2,kp2_3⟩:=p2.c4
      obtain⟨kp3_0,kp3_1,kp3_2,kp3_3⟩:=p3.c4
      go_wp2
      go_ret
      exact⟨ret_b (by rw[g0,g1];rfl),E0⟩
    · obtain⟨kp2_0,kp2_1,kp2_2,kp2_3⟩:=p2.c4
      obtain⟨kp3_0,kp3_1,kp3_2,kp3_3⟩:=p3.c4
      go_wp2_with fail
      clear kp2_0 kp2_1 kp2_2 kp2_3 kp3_0 kp3_1 kp3_2 kp3_3
      refine(Tryz.refSame09 x2 y2).mono ?_
      rintro e Wc ⟨rfl,hE⟩
      replace E0:=(Ext.trans E0 hE)
      replace x0:=(x0.ext hE)
      replace y0:=(y0.ext hE)
      replace x1:=(x1.ext hE)
      replace y1:=(y1.ext hE)
      replace x2:=(x2.ext hE)
      replace y2:=(y2.ext hE)
      replace x3:=(x3.ext hE)
      replace y3:=(y3.ext hE)
      replace p2:=(p2.ext hE)
      replace p3:=(p3.ext hE)
      clear hE
      cases g2:decide (l2=k2)
      · obtain⟨kp2_0,kp2_1,kp2_2,kp2_3⟩:=p2.c4
        obtain⟨kp3_0,kp3_1,kp3_2,kp3_3⟩:=p3.c4
        go_wp2
        go_ret
        exact⟨ret_b (by rw[g0,g1,g2];rfl),E0⟩
      · obtain⟨kp2_0,kp2_1,kp2_2,kp2_3⟩:=p2.c4
        obtain⟨kp3_0,kp3_1,kp3_2,kp3_3⟩:=p3.c4
        go_wp2_with fail
        clear kp2_0 kp2_1 kp2_2 kp2_3 kp3_0 kp3_1 kp3_2 kp3_3
        refine(Tryz.refSame09 x3 y3).mono ?_
        rintro e Wd ⟨rfl,hE⟩
        replace E0:=(Ext.trans E0 hE)
        replace x0:=(x0.ext hE)
        replace y0:=(y0.ext hE)
        replace x1:=(x1.ext hE)
        replace y1:=(y1.ext hE)
        replace x2:=(x2.ext hE)
        replace y2:=(y2.ext hE)
        replace x3:=(x3.ext hE)
        replace y3:=(y3.ext hE)
        replace p2:=(p2.ext hE)
        replace p3:=(p3.ext hE)
        clear hE
        cases g3:decide (l3=k3)
        · obtain⟨kp2_0,kp2_1,kp2_2,kp2_3⟩:=p2.c4
          obtain⟨kp3_0,kp3_1,kp3_2,kp3_3⟩:=p3.c4
          go_wp2
          go_ret
          exact⟨ret_b (by rw[g0,g1,g2,g3];rfl),E0⟩
        · obtain⟨kp2_0,kp2_1,kp2_2,kp2_3⟩:=p2.c4
          obtain⟨kp3_0,kp3_1,kp3_2,kp3_3⟩:=p3.c4
          go_wp2
          go_ret
          exact⟨ret_b (by rw[g0,g1,g2,g3];rfl),E0⟩
end Go.Rt
