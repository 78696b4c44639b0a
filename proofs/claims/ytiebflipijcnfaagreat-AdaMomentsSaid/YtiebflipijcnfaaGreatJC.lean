/-
  Adafactor: its reckoning by the program, where all is there.
  Adafactor: its reckoning by the program: what is there, and what panics.
-/
import Derived.Test.YtiebflipijcnfaaGreatAdaT
namespace Go.Rt
open Go Go.RowKit Go.Proofs
set_option maxRecDepth 100000 in
set_option maxHeartbeats 4000000 in
theorem Tryz.adaHeld (n:Int) (w:World):Calls Tryz.prog 45 #[.int .i64 n,.int .i64 0] w fun e w'=>e=.returned (.int .i64 n)∧Ext w w':=by
 go_enter Tryz.func45,Tryz.ntmps45
 go_wp2
 go_ret
 exact⟨rfl,Ext.refl _⟩
set_option maxRecDepth 100000 in
set_option maxHeartbeats 4000000 in
theorem Tryz.adaOne (K:Nat) (hK:K≤40) (w:World):Calls Tryz.prog 40 #[.int .i64 (K:Int)] w fun e w'=>e=.returned (.int .i64 (oneZ K))∧Ext w w':=by
 obtain⟨P,hP⟩:∃ P,P=2^K:=⟨_,rfl⟩
 have hPb:P≤1099511627776:=by rw[hP];exact Nat.le_trans (Nat.pow_le_pow_right (by omega) hK) (by decide)
 have hsh:IntKind.i64.wrap (2^K)=(P:Int):=by rw[show ((2:Int)^K)=((2^K:Nat):Int) by simp,← hP,IntKind.wrap_i64];omega
 unfold oneZ
 rw[← hP]
 clear hP hPb
 go_enter Tryz.func40,Tryz.ntmps40
 go_wp2
 go_ret
 exact⟨rfl,Ext.refl _⟩
end Go.Rt
namespace Go.Rt
open Go Go.RowKit Go.Proofs
def HeldA (t:TypeId) (e:Ending) (o:Option Int):Prop:=
 match o with
 | some z=>e=.returned (.int .i64 z)
 | none=>e=.panicked [{ v:=.iface t (.agg #[]),recovered:=false }]
theorem HeldA.no {t:TypeId} {o:Option Int} (h:o=none):HeldA t (.panicked [{ v:=.iface t (.agg #[]),recovered:=false }]) o:=by subst h;rfl
theorem HeldA.yes {t:TypeId} {z:Int} {o:Option Int} (h:o=some z):HeldA t (.returned (.int .i64 z)) o:=by subst h;rfl
theorem HeldA.out {t:TypeId} {e:Ending} {z:Int} {o:Option Int} (q:HeldA t e o) (h:o=some z):e=.returned (.int .i64 z):=by subst h;exact q
theorem bind_no1 {o:Option Int} {f:Int→Option Int} (h:f (o.getD 0)=none):o.bind f=none:=by
 cases o with
 | none=>rfl
 | some x=>exact h
theorem bind_no2 {o o2:Option Int} {f:Int→Int→Option Int} (h:f (o.getD 0) (o2.getD 0)=none):(o.bind fun x=>o2.bind fun y=>f x y)=none:=
 bind_no1 (bind_no1 (f:=fun y=>f (o.getD 0) y) h)
theorem HeldA.out0 {t:TypeId} {e:Ending} {o:Option Int} (q:HeldA t e o) (h:o=none):e=.panicked [{ v:=.iface t (.agg #[]),recovered:=false }]:=by subst h;exact q
set_option maxRecDepth 100000 in
set_option maxHeartbeats 4000000 in
theorem Tryz.adaHeldW (n e0:Int) (w:World):Calls Tryz.prog 45 #[.int .i64 n,.int .i64 e0] w fun e w'=>HeldA 113 e (heldO n e0)∧Ext w w':=by
 by_cases h0:e0=0
 ·subst h0
  exact(Tryz.adaHeld n w).mono fun e w' ⟨h1,hE⟩=>⟨h1,hE⟩
 ·have hb:(e0 != 0)=true:=bne_iff_ne.2 h0
  have hn:heldO n e0=none:=if_neg h0
  rw[hn]
  go_enter Tryz.func45,Tryz.ntmps45
  go_wp2
  exact⟨rfl,rfl,Ext.refl _⟩
theorem Tryz.adaHeldS (n e0:Int) {z:Int} (h:heldO n e0=some z) (w:World):Calls Tryz.prog 45 #[.int .i64 n,.int .i64 e0] w fun e w'=>e=.returned (.int .i64 z)∧Ext w w':=
 (Tryz.adaHeldW n e0 w).mono fun _ _ ⟨q,hE⟩=>⟨q.out h,hE⟩
theorem Tryz.adaHeldN (n e0:Int) (h:heldO n e0=none) (w:World):Calls Tryz.prog 45 #[.int .i64 n,.int .i64 e0] w fun e w'=>e=.panicked [{ v:=.iface 113 (.agg #[]),recovered:=false }]∧Ext w w':=
 (Tryz.adaHeldW n e0 w).mono fun _ _ ⟨q,hE⟩=>⟨q.out0 h,hE⟩
set_option maxRecDepth 100000 in
set_option maxHeartbeats 4000000 in
theorem Tryz.adaMulW {a b:Int} (lr ep d cl sh:Int) (K:Nat) (hK:K≤40) (ha:I64 a) (hb:I64 b) (w:World):
  Calls Tryz.prog 47 #[.agg #[.int .i64 lr,.int .i64 ep,.int .i64 d,.int .i64 (K:Int),.int .i64 cl,.int .i64 sh],.int .i64 a,.int .i64 b] w fun e w'=>HeldA 113 e (mulO K a b)∧Ext w w':=by
 obtain⟨V,hV⟩:∃ V,fitV (mulZ K a b)=V:=⟨_,rfl⟩
 obtain⟨E,hE⟩:∃ E,fitE (mulZ K a b)=E:=⟨_,rfl⟩
 have HZ:Hid (heldO V E=mulO K a b):=Lib.hid (by rw[← hV,← hE];exact heldO_fit _)
 have HV:=Lib.hid hV
 have HE:=Lib.hid hE
 have HK:=Lib.hid hK
 have HA:=Lib.hid ha
 have HB:=Lib.hid hb
 clear hV hE hK ha hb
 obtain⟨z,Hz⟩:∃ z,z=(heldO V E).getD 0:=⟨_,rfl⟩
 replace Hz:=Lib.hid Hz
 obtain⟨W0,hW0⟩:∃ W0,W0=(w.alloc (.cells #[.int .i64 lr,.int .i64 ep,.int .i64 d,.int .i64 (K:Int),.int .i64 cl,.int .i64 sh] 54)):=⟨_,rfl⟩
 have E0:Ext w W0:=by rw[hW0];exact(Ext.alloc1 w (.cells #[.int .i64 lr,.int .i64 ep,.int .i64 d,.int .i64 (K:Int),.int .i64 cl,.int .i64 sh] 54))
 have p3:BxA W0 w.heap.size 54 #[.int .i64 lr,.int .i64 ep,.int .i64 d,.int .i64 (K:Int),.int .i64 cl,.int .i64 sh]:=by rw[hW0];exact(BxA.new w 54 #[.int .i64 lr,.int .i64 ep,.int .i64 d,.int .i64 (K:Int),.int .i64 cl,.int .i64 sh])
 go_enter Tryz.func47,Tryz.ntmps47
 obtain⟨kp3_0,kp3_1,kp3_2,kp3_3,kp3_4,kp3_5⟩:=p3.c6
 go_upto_region 1 with (fail)
 rw[← hW0]
 clear hW0
 clear kp3_0 kp3_1 kp3_2 kp3_3 kp3_4 kp3_5
 have ltp3:=p3.lt
 have szw1:=Ext.size E0
 refine region_go [.one fun v _=>v=.int .i64 a,
   .one fun v _=>v=.int .i64 b,
   .one fun v _=>v=.pointer (some ⟨w.heap.size,3,none⟩),
   .one fun v _=>v=.int .i64 (K:Int),
   .one fun v _=>v=.tuple #[.int .i64 V,.int .i64 E],
   .one fun v _=>v=.int .i64 V,
   .one fun v _=>v=.int .i64 E,
   .one fun v _=>v=.int .i64 z∧heldO V E=some z,
   .one fun v _=>v=.int .i64 z]
  (fun W=>Ext w W∧BxA W w.heap.size 54 #[.int .i64 lr,.int .i64 ep,.int .i64 d,.int .i64 (K:Int),.int .i64 cl,.int .i64 sh]∧W0.heap.size≤W.heap.size) ⟨Good.is _,Good.is _,Good.is _,Good.is _,Good.is _,Good.is _,Good.is _,Good.may _ _,Good.is _,trivial⟩
  (fun W W1 hS hE=>⟨(Ext.trans hS.1 hE),(hS.2.1.ext hE),(Nat.le_trans hS.2.2 (Ext.size hE))⟩) ⟨E0,p3,Nat.le_refl _⟩ (by kernel_rfl) (by kernel_rfl) (by kernel_rfl) (by kernel_rfl) (A:=?A1) ?hA1 ?howe1 ?hfin1
 case hA1=>
  intro vs
  simp only[putAll,Act.put,List.setIfInBounds_toArray,List.set_cons_zero,List.set_cons_succ,Nat.zero_add,Nat.reduceAdd]
  exact rfl
 case howe1=>
  clear E0 p3
  intro hf
  refine⟨owesE 0 [] hf rfl (by kernel_rfl) ?_,owesE 1 [] hf rfl (by kernel_rfl) ?_,owesE 2 [] hf rfl (by kernel_rfl) ?_,owesE 3 [2] hf rfl (by kernel_rfl) ?_,owesE 4 [0,1,3] hf rfl (by kernel_rfl) ?_,owesE 5 [4] hf rfl (by kernel_rfl) ?_,owesE 6 [4] hf rfl (by kernel_rfl) ?_,owesE 7 [5,6] hf rfl (by kernel_rfl) ?_,owesE 8 [7] hf rfl (by kernel_rfl) ?_,trivial⟩
  all_goals intro vs W hS hp hx KO hKO
  all_goals simp only[Act.put,List.setIfInBounds_toArray,List.set_cons_zero,List.set_cons_succ]at hKO
  ·go_simp
   exact hKO _ W (Ext.refl W) rfl
  ·go_simp
   exact hKO _ W (Ext.refl W) rfl
  ·go_simp
   exact hKO _ W (Ext.refl W) rfl
  ·have e2:=isOf hp.1
   simp only[e2]at hKO
   have fc3:=BxA.cell (hS.2.1) 3 (v:=.int .i64 (K:Int)) rfl
   go_simp
   exact hKO _ W (Ext.refl W) rfl
  ·have e0:=isOf hp.1
   have e1:=isOf hp.2.1
   have e3:=isOf hp.2.2.1
   simp only[e0,e1,e3]at hKO
   go_simp
   refine(Tryz.fixMulV a b K HK.out _ HA.out.1 HA.out.2 HB.out.1 HB.out.2 HV.out HE.out).mono ?_
   rintro e W1 ⟨rfl,hE⟩
   exact hKO _ W1 hE rfl
  ·have e4:=isOf hp.1
   simp only[e4]at hKO
   go_simp
   exact hKO _ W (Ext.refl W) rfl
  ·have e4:=isOf hp.1
   simp only[e4]at hKO
   go_simp
   exact hKO _ W (Ext.refl W) rfl
  ·have e5:=isOf hp.1
   have e6:=isOf hp.2.1
   simp only[e5,e6]at hKO
   go_simp
   cases g:heldO V E
   ·skip
    refine(Tryz.adaHeldN V E g _).mono ?_
    rintro e W1 ⟨⟨c,hc,rfl⟩,hE⟩
    exact⟨rfl,HeldA.no (HZ.out.symm.trans g),Ext.trans hS.1 hE⟩
   ·have g2:heldO V E=some z:=by rw[Hz.out,g];rfl
    refine(Tryz.adaHeldS V E g2 _).mono ?_
    rintro e W1 ⟨rfl,hE⟩
    exact hKO _ W1 hE ⟨rfl,g2⟩
  ·have e7:vs 7=.int .i64 z:=(hp.1).1
   have Gz:Hid (heldO V E=some z):=Lib.hid (hp.1).2
   simp only[e7]at hKO
   go_simp
   exact hKO _ W (Ext.refl W) rfl
 intro vs W1 hS hp
 clear szw1 E0 p3
 obtain⟨E0,p3,sz1⟩:=hS
 obtain⟨h1_0,h1_1,h1_2,h1_3,h1_4,h1_5,h1_6,h1_7,h1_8,-⟩:=hp
 replace h1_0:vs 0=.int .i64 a:=h1_0
 replace h1_1:vs 1=.int .i64 b:=h1_1
 replace h1_2:vs 2=.pointer (some ⟨w.heap.size,3,none⟩):=h1_2
 replace h1_3:vs 3=.int .i64 (K:Int):=h1_3
 replace h1_4:vs 4=.tuple #[.int .i64 V,.int .i64 E]:=h1_4
 replace h1_5:vs 5=.int .i64 V:=h1_5
 replace h1_6:vs 6=.int .i64 E:=h1_6
 obtain⟨h1_7,Gz⟩:=h1_7
 replace Gz:=Lib.hid Gz
 replace h1_7:vs 7=.int .i64 z:=h1_7
 replace h1_8:vs 8=.int .i64 z:=h1_8
 simp only[h1_0,h1_1,h1_2,h1_3,h1_4,h1_5,h1_6,h1_7,h1_8]
 clear h1_0 h1_1 h1_2 h1_3 h1_4 h1_5 h1_6 h1_7 h1_8
 go_wp2
 go_ret
 exact⟨HeldA.yes (HZ.out.symm.trans Gz.out),E0⟩
theorem Tryz.adaMulS {a b:Int} (lr ep d cl sh:Int) (K:Nat) (hK:K≤40) (ha:I64 a) (hb:I64 b) {z:Int} (h:mulO K a b=some z) (w:World):Calls Tryz.prog 47 #[.agg #[.int .i64 lr,.int .i64 ep,.int .i64 d,.int .i64 (K:Int),.int .i64 cl,.int .i64 sh],.int .i64 a,.int .i64 b] w fun e w'=>e=.returned (.int .i64 z)∧Ext w w':=
 (Tryz.adaMulW lr ep d cl sh K hK ha hb w).mono fun _ _ ⟨q,hE⟩=>⟨q.out h,hE⟩
theorem Tryz.adaMulN {a b:Int} (lr ep d cl sh:Int) (K:Nat) (hK:K≤40) (ha:I64 a) (hb:I64 b) (h:mulO K a b=none) (w:World):Calls Tryz.prog 47 #[.agg #[.int .i64 lr,.int .i64 ep,.int .i64 d,.int .i64 (K:Int),.int .i64 cl,.int .i64 sh],.int .i64 a,.int .i64 b] w fun e w'=>e=.panicked [{ v:=.iface 113 (.agg #[]),recovered:=false }]∧Ext w w':=
 (Tryz.adaMulW lr ep d cl sh K hK ha hb w).mono fun _ _ ⟨q,hE⟩=>⟨q.out0 h,hE⟩
set_option maxRecDepth 100000 in
set_option maxHeartbeats 4000000 in
theorem Tryz.adaBlendW {old q:Int} (lr ep d cl sh:Int) (K:Nat) (hK:K≤40) (h0:0≤sh) (h1:sh≤oneZ K) (ho:I64 old) (hq:I64 q) (w:World):
  Calls Tryz.prog 84 #[.agg #[.int .i64 lr,.int .i64 ep,.int .i64 d,.int .i64 (K:Int),.int .i64 cl,.int .i64 sh],.int .i64 old,.int .i64 q] w fun e w'=>HeldA 113 e (blendO K sh old q)∧Ext w w':=by
 have HK:=Lib.hid hK
 have HO:=Lib.hid ho
 have HQ:=Lib.hid hq
 obtain⟨dc,hd⟩:∃ d,oneZ K - sh=d:=⟨_,rfl⟩
 have hw:IntKind.i64.wrap (oneZ K - sh)=dc:=by have:=one_max hK;rw[← hd,IntKind.wrap_i64];omega
 have HD:Hid (I64 dc∧I64 sh):=Lib.hid (by have:=one_max hK;unfold I64;omega)
 unfold blendO
 rw[hd]
 clear hd ho hq hK h0 h1
 obtain⟨x,Hx⟩:∃ u_,u_=(mulO K dc old).getD 0:=⟨_,rfl⟩
 replace Hx:=Lib.hid Hx
 obtain⟨y,Hy⟩:∃ u_,u_=(mulO K sh q).getD 0:=⟨_,rfl⟩
 replace Hy:=Lib.hid Hy
 obtain⟨z,Hz⟩:∃ u_,u_=(addO x y).getD 0:=⟨_,rfl⟩
 replace Hz:=Lib.hid Hz
 obtain⟨V,hV⟩:∃ V,fitV (x+y)=V:=⟨_,rfl⟩
 obtain⟨E,hE⟩:∃ E,fitE (x+y)=E:=⟨_,rfl⟩
 have HZ:Hid (heldO V E=addO x y):=Lib.hid (by rw[← hV,← hE];exact heldO_fit _)
 replace Hz:Hid (z=(heldO V E).getD 0):=Lib.hid (Hz.out.trans (by rw[HZ.out]))
 have HV:=Lib.hid hV
 have HE:=Lib.hid hE
 clear hV hE
 obtain⟨W0,hW0⟩:∃ W0,W0=(w.alloc (.cells #[.int .i64 lr,.int .i64 ep,.int .i64 d,.int .i64 (K:Int),.int .i64 cl,.int .i64 sh] 54)):=⟨_,rfl⟩
 have E0:Ext w W0:=by rw[hW0];exact(Ext.alloc1 w (.cells #[.int .i64 lr,.int .i64 ep,.int .i64 d,.int .i64 (K:Int),.int .i64 cl,.int .i64 sh] 54))
 have p3:BxA W0 w.heap.size 54 #[.int .i64 lr,.int .i64 ep,.int .i64 d,.int .i64 (K:Int),.int .i64 cl,.int .i64 sh]:=by rw[hW0];exact(BxA.new w 54 #[.int .i64 lr,.int .i64 ep,.int .i64 d,.int .i64 (K:Int),.int .i64 cl,.int .i64 sh])
 go_enter Tryz.func84,Tryz.ntmps84
 obtain⟨kp3_0,kp3_1,kp3_2,kp3_3,kp3_4,kp3_5⟩:=p3.c6
 go_upto_region 1 with (fail)
 rw[← hW0]
 clear hW0
 clear kp3_0 kp3_1 kp3_2 kp3_3 kp3_4 kp3_5
 have ltp3:=p3.lt
 have szw2:=Ext.size E0
 refine region_go [.one fun v _=>v=.agg #[.int .i64 lr,.int .i64 ep,.int .i64 d,.int .i64 (K:Int),.int .i64 cl,.int .i64 sh],
   .one fun v _=>v=.pointer (some ⟨w.heap.size,3,none⟩),
   .one fun v _=>v=.int .i64 (K:Int),
   .one fun v _=>v=.int .i64 (oneZ K),
   .one fun v _=>v=.pointer (some ⟨w.heap.size,5,none⟩),
   .one fun v _=>v=.int .i64 sh,
   .one fun v _=>v=.int .i64 dc,
   .one fun v _=>v=.int .i64 old,
   .one fun v _=>v=.int .i64 x∧mulO K dc old=some x,
   .one fun v _=>v=.agg #[.int .i64 lr,.int .i64 ep,.int .i64 d,.int .i64 (K:Int),.int .i64 cl,.int .i64 sh],
   .one fun v _=>v=.pointer (some ⟨w.heap.size,5,none⟩),
   .one fun v _=>v=.int .i64 sh,
   .one fun v _=>v=.int .i64 q,
   .one fun v _=>v=.int .i64 y∧mulO K sh q=some y,
   .one fun v _=>v=.tuple #[.int .i64 V,.int .i64 E],
   .one fun v _=>v=.int .i64 V,
   .one fun v _=>v=.int .i64 E,
   .one fun v _=>v=.int .i64 z∧heldO V E=some z,
   .one fun v _=>v=.int .i64 z]
  (fun W=>Ext w W∧BxA W w.heap.size 54 #[.int .i64 lr,.int .i64 ep,.int .i64 d,.int .i64 (K:Int),.int .i64 cl,.int .i64 sh]∧W0.heap.size≤W.heap.size) ⟨Good.is _,Good.is _,Good.is _,Good.is _,Good.is _,Good.is _,Good.is _,Good.is _,Good.may _ _,Good.is _,Good.is _,Good.is _,Good.is _,Good.may _ _,Good.is _,Good.is _,Good.is _,Good.may _ _,Good.is _,trivial⟩
  (fun W W1 hS hE=>⟨(Ext.trans hS.1 hE),(hS.2.1.ext hE),(Nat.le_trans hS.2.2 (Ext.size hE))⟩) ⟨E0,p3,Nat.le_refl _⟩ (by kernel_rfl) (by kernel_rfl) (by kernel_rfl) (by kernel_rfl) (A:=?A2) ?hA2 ?howe2 ?hfin2
 case hA2=>
  intro vs
  simp only[putAll,Act.put,List.setIfInBounds_toArray,List.set_cons_zero,List.set_cons_succ,Nat.zero_add,Nat.reduceAdd]
  exact rfl
 case howe2=>
  clear E0 p3
  intro hf
  refine⟨owesE 0 [] hf rfl (by kernel_rfl) ?_,owesE 1 [] hf rfl (by kernel_rfl) ?_,owesE 2 [1] hf rfl (by kernel_rfl) ?_,owesE 3 [2] hf rfl (by kernel_rfl) ?_,owesE 4 [] hf rfl (by kernel_rfl) ?_,owesE 5 [4] hf rfl (by kernel_rfl) ?_,owesE 6 [3,5] hf rfl (by kernel_rfl) ?_,owesE 7 [] hf rfl (by kernel_rfl) ?_,owesE 8 [0,6,7] hf rfl (by kernel_rfl) ?_,owesE 9 [] hf rfl (by kernel_rfl) ?_,owesE 10 [] hf rfl (by kernel_rfl) ?_,owesE 11 [10] hf rfl (by kernel_rfl) ?_,owesE 12 [] hf rfl (by kernel_rfl) ?_,owesE 13 [8,9,11,12] hf rfl (by kernel_rfl) ?_,owesE 14 [8,13] hf rfl (by kernel_rfl) ?_,owesE 15 [14] hf rfl (by kernel_rfl) ?_,owesE 16 [14] hf rfl (by kernel_rfl) ?_,owesE 17 [15,16] hf rfl (by kernel_rfl) ?_,owesE 18 [17] hf rfl (by kernel_rfl) ?_,trivial⟩
  all_goals intro vs W hS hp hx KO hKO
  all_goals simp only[Act.put,List.setIfInBounds_toArray,List.set_cons_zero,List.set_cons_succ]at hKO
  ·have fc0:=BxA.cell (hS.2.1) 0 (v:=.int .i64 lr) rfl
   have fc1:=BxA.cell (hS.2.1) 1 (v:=.int .i64 ep) rfl
   have fc2:=BxA.cell (hS.2.1) 2 (v:=.int .i64 d) rfl
   have fc3:=BxA.cell (hS.2.1) 3 (v:=.int .i64 (K:Int)) rfl
   have fc4:=BxA.cell (hS.2.1) 4 (v:=.int .i64 cl) rfl
   have fc5:=BxA.cell (hS.2.1) 5 (v:=.int .i64 sh) rfl
   go_simp
   exact hKO _ W (Ext.refl W) rfl
  ·go_simp
   exact hKO _ W (Ext.refl W) rfl
  ·have e1:=isOf hp.1
   simp only[e1]at hKO
   have fc3:=BxA.cell (hS.2.1) 3 (v:=.int .i64 (K:Int)) rfl
   go_simp
   exact hKO _ W (Ext.refl W) rfl
  ·have e2:=isOf hp.1
   simp only[e2]at hKO
   go_simp
   refine(Tryz.adaOne K HK.out _).mono ?_
   rintro e W1 ⟨rfl,hE⟩
   exact hKO _ W1 hE rfl
  ·go_simp
   exact hKO _ W (Ext.refl W) rfl
  ·have e4:=isOf hp.1
   simp only[e4]at hKO
   have fc5:=BxA.cell (hS.2.1) 5 (v:=.int .i64 sh) rfl
   go_simp
   exact hKO _ W (Ext.refl W) rfl
  ·have e3:=isOf hp.1
   have e5:=isOf hp.2.1
   simp only[e3,e5]at hKO
   go_simp
   exact hKO _ W (Ext.refl W) rfl
  ·go_simp
   exact hKO _ W (Ext.refl W) rfl
  ·have e0:=isOf hp.1
   have e6:=isOf hp.2.1
   have e7:=isOf hp.2.2.1
   simp only[e0,e6,e7]at hKO
   go_simp
   cases g:mulO K dc old
   ·have HN:Hid (((mulO K dc old).bind fun x=>(mulO K sh q).bind fun y=>addO x y)=none):=Lib.hid (by rw[g];rfl)
    refine(Tryz.adaMulN (a:=dc) (b:=old) lr ep d cl sh K HK.out HD.out.1 HO.out g _).mono ?_
    rintro e W1 ⟨⟨c,hc,rfl⟩,hE⟩
    exact⟨rfl,HeldA.no HN.out,Ext.trans hS.1 hE⟩
   ·have g2:mulO K dc old=some x:=by rw[Hx.out,g];rfl
    refine(Tryz.adaMulS (a:=dc) (b:=old) lr ep d cl sh K HK.out HD.out.1 HO.out g2 _).mono ?_
    rintro e W1 ⟨rfl,hE⟩
    exact hKO _ W1 hE ⟨rfl,g2⟩
  ·have fc0:=BxA.cell (hS.2.1) 0 (v:=.int .i64 lr) rfl
   have fc1:=BxA.cell (hS.2.1) 1 (v:=.int .i64 ep) rfl
   have fc2:=BxA.cell (hS.2.1) 2 (v:=.int .i64 d) rfl
   have fc3:=BxA.cell (hS.2.1) 3 (v:=.int .i64 (K:Int)) rfl
   have fc4:=BxA.cell (hS.2.1) 4 (v:=.int .i64 cl) rfl
   have fc5:=BxA.cell (hS.2.1) 5 (v:=.int .i64 sh) rfl
   go_simp
   exact hKO _ W (Ext.refl W) rfl
  ·go_simp
   exact hKO _ W (Ext.refl W) rfl
  ·have e10:=isOf hp.1
   simp only[e10]at hKO
   have fc5:=BxA.cell (hS.2.1) 5 (v:=.int .i64 sh) rfl
   go_simp
   exact hKO _ W (Ext.refl W) rfl
  ·go_simp
   exact hKO _ W (Ext.refl W) rfl
  ·have e8:vs 8=.int .i64 x:=(hp.1).1
   have Gx:Hid (mulO K dc old=some x):=Lib.hid (hp.1).2
   have e9:=isOf hp.2.1
   have e11:=isOf hp.2.2.1
   have e12:=isOf hp.2.2.2.1
   simp only[e8,e9,e11,e12]at hKO
   go_simp
   cases g:mulO K sh q
   ·have HN:Hid (((mulO K dc old).bind fun x=>(mulO K sh q).bind fun y=>addO x y)=none):=Lib.hid (by rw[Gx.out,Option.bind_some,g];rfl)
    refine(Tryz.adaMulN (a:=sh) (b:=q) lr ep d cl sh K HK.out HD.out.2 HQ.out g _).mono ?_
    rintro e W1 ⟨⟨c,hc,rfl⟩,hE⟩
    exact⟨rfl,HeldA.no HN.out,Ext.trans hS.1 hE⟩
   ·have g2:mulO K sh q=some y:=by rw[Hy.out,g];rfl
    refine(Tryz.adaMulS (a:=sh) (b:=q) lr ep d cl sh K HK.out HD.out.2 HQ.out g2 _).mono ?_
    rintro e W1 ⟨rfl,hE⟩
    exact hKO _ W1 hE ⟨rfl,g2⟩
  ·have e8:vs 8=.int .i64 x:=(hp.1).1
   have Gx:Hid (mulO K dc old=some x):=Lib.hid (hp.1).2
   have e13:vs 13=.int .i64 y:=(hp.2.1).1
   have Gy:Hid (mulO K sh q=some y):=Lib.hid (hp.2.1).2
   simp only[e8,e13]at hKO
   go_simp
   refine(Tryz.fixAddV x y _ (okZ_i64 Gx.out).1 (okZ_i64 Gx.out).2 (okZ_i64 Gy.out).1 (okZ_i64 Gy.out).2 HV.out HE.out).mono ?_
   rintro e W1 ⟨rfl,hE⟩
   exact hKO _ W1 hE rfl
  ·have e14:=isOf hp.1
   simp only[e14]at hKO
   go_simp
   exact hKO _ W (Ext.refl W) rfl
  ·have e14:=isOf hp.1
   simp only[e14]at hKO
   go_simp
   exact hKO _ W (Ext.refl W) rfl
  ·have e15:=isOf hp.1
   have e16:=isOf hp.2.1
   simp only[e15,e16]at hKO
   go_simp
   cases g:heldO V E
   ·have HN:Hid (((mulO K dc old).bind fun x=>(mulO K sh q).bind fun y=>addO x y)=none):=Lib.hid (by exact bind_no2 (by rw[← Hx.out,← Hy.out,← HZ.out];exact g))
    refine(Tryz.adaHeldN V E g _).mono ?_
    rintro e W1 ⟨⟨c,hc,rfl⟩,hE⟩
    exact⟨rfl,HeldA.no HN.out,Ext.trans hS.1 hE⟩
   ·have g2:heldO V E=some z:=by rw[Hz.out,g];rfl
    refine(Tryz.adaHeldS V E g2 _).mono ?_
    rintro e W1 ⟨rfl,hE⟩
    exact hKO _ W1 hE ⟨rfl,g2⟩
  ·have e17:vs 17=.int .i64 z:=(hp.1).1
   have Gz:Hid (heldO V E=some z):=Lib.hid (hp.1).2
   simp only[e17]at hKO
   go_simp
   exact hKO _ W (Ext.refl W) rfl
 intro vs W2 hS hp
 clear szw2 E0 p3
 obtain⟨E0,p3,sz2⟩:=hS
 obtain⟨h2_0,h2_1,h2_2,h2_3,h2_4,h2_5,h2_6,h2_7,h2_8,h2_9,h2_10,h2_11,h2_12,h2_13,h2_14,h2_15,h2_16,h2_17,h2_18,-⟩:=hp
 replace h2_0:vs 0=.agg #[.int .i64 lr,.int .i64 ep,.int .i64 d,.int .i64 (K:Int),.int .i64 cl,.int .i64 sh]:=h2_0
 replace h2_1:vs 1=.pointer (some ⟨w.heap.size,3,none⟩):=h2_1
 replace h2_2:vs 2=.int .i64 (K:Int):=h2_2
 replace h2_3:vs 3=.int .i64 (oneZ K):=h2_3
 replace h2_4:vs 4=.pointer (some ⟨w.heap.size,5,none⟩):=h2_4
 replace h2_5:vs 5=.int .i64 sh:=h2_5
 replace h2_6:vs 6=.int .i64 dc:=h2_6
 replace h2_7:vs 7=.int .i64 old:=h2_7
 obtain⟨h2_8,Gx⟩:=h2_8
 replace Gx:=Lib.hid Gx
 replace h2_8:vs 8=.int .i64 x:=h2_8
 replace h2_9:vs 9=.agg #[.int .i64 lr,.int .i64 ep,.int .i64 d,.int .i64 (K:Int),.int .i64 cl,.int .i64 sh]:=h2_9
 replace h2_10:vs 10=.pointer (some ⟨w.heap.size,5,none⟩):=h2_10
 replace h2_11:vs 11=.int .i64 sh:=h2_11
 replace h2_12:vs 12=.int .i64 q:=h2_12
 obtain⟨h2_13,Gy⟩:=h2_13
 replace Gy:=Lib.hid Gy
 replace h2_13:vs 13=.int .i64 y:=h2_13
 replace h2_14:vs 14=.tuple #[.int .i64 V,.int .i64 E]:=h2_14
 replace h2_15:vs 15=.int .i64 V:=h2_15
 replace h2_16:vs 16=.int .i64 E:=h2_16
 obtain⟨h2_17,Gz⟩:=h2_17
 replace Gz:=Lib.hid Gz
 replace h2_17:vs 17=.int .i64 z:=h2_17
 replace h2_18:vs 18=.int .i64 z:=h2_18
 simp only[h2_0,h2_1,h2_2,h2_3,h2_4,h2_5,h2_6,h2_7,h2_8,h2_9,h2_10,h2_11,h2_12,h2_13,h2_14,h2_15,h2_16,h2_17,h2_18]
 clear h2_0 h2_1 h2_2 h2_3 h2_4 h2_5 h2_6 h2_7 h2_8 h2_9 h2_10 h2_11 h2_12 h2_13 h2_14 h2_15 h2_16 h2_17 h2_18
 go_wp2
 go_ret
 exact⟨HeldA.yes (by rw[Gx.out,Option.bind_some,Gy.out,Option.bind_some,← HZ.out,Gz.out]),E0⟩
theorem Tryz.adaBlendS {old q:Int} (lr ep d cl sh:Int) (K:Nat) (hK:K≤40) (h0:0≤sh) (h1:sh≤oneZ K) (ho:I64 old) (hq:I64 q) {z:Int} (h:blendO K sh old q=some z) (w:World):Calls Tryz.prog 84 #[.agg #[.int .i64 lr,.int .i64 ep,.int .i64 d,.int .i64 (K:Int),.int .i64 cl,.int .i64 sh],.int .i64 old,.int .i64 q] w fun e w'=>e=.returned (.int .i64 z)∧Ext w w':=
 (Tryz.adaBlendW lr ep d cl sh K hK h0 h1 ho hq w).mono fun _ _ ⟨q,hE⟩=>⟨q.out h,hE⟩
theorem Tryz.adaBlendN {old q:Int} (lr ep d cl sh:Int) (K:Nat) (hK:K≤40) (h0:0≤sh) (h1:sh≤oneZ K) (ho:I64 old) (hq:I64 q) (h:blendO K sh old q=none) (w:World):Calls Tryz.prog 84 #[.agg #[.int .i64 lr,.int .i64 ep,.int .i64 d,.int .i64 (K:Int),.int .i64 cl,.int .i64 sh],.int .i64 old,.int .i64 q] w fun e w'=>e=.panicked [{ v:=.iface 113 (.agg #[]),recovered:=false }]∧Ext w w':=
 (Tryz.adaBlendW lr ep d cl sh K hK h0 h1 ho hq w).mono fun _ _ ⟨q,hE⟩=>⟨q.out0 h,hE⟩
end Go.Rt
