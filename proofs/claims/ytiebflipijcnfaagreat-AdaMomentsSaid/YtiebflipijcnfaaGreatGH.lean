/-
  Integers as structs: a side and a number.
  The reference's integers: Same, Cmp, Right, Few, Mul, Add.
  The reference's integers: Mul, Add.
-/
import Derived.Test.YtiebflipijcnfaaGreatGF
import Derived.Test.YtiebflipijcnfaaGreatGE
namespace Go.Rt
open Go.RowKit Go.Proofs
def sgn (b:Bool) (N:Nat):Int:=if b then -(N:Int) else (N:Int)
theorem sgn_abs (b:Bool) (N:Nat):(sgn b N).natAbs=N:=by unfold sgn;cases b <;> simp
theorem sgn_neg (b:Bool) (N:Nat):decide (sgn b N < 0)=(b && decide (0 < N)):=by
  unfold sgn
  cases b
  · simp
  · simp
def Zw (w:World) (v:Value) (z:Int):Prop:=∃ b a n c,v=.agg #[.bool b,.slice a n c]∧Hid (b=decide (z < 0))∧Nw w (.slice a n c) z.natAbs
theorem Zw.ext {w w':World} (h:Ext w w') {v:Value} {z:Int} (s:Zw w v z):Zw w' v z:=let ⟨b,a,n,c,h1,hb,h2⟩:=s;⟨b,a,n,c,h1,hb,h2.ext h⟩
theorem Nw.slice {w:World} {v:Value} {N:Nat} (h:Nw w v N):∃ a n c,v=.slice a n c:=let ⟨a,n,c,h1,_⟩:=h.len;⟨a,n,c,h1⟩
theorem Zw.mk {w:World} {a:Option Addr} {n c:Nat} {b:Bool} {N:Nat} (h:Nw w (.slice a n c) N) (hb:b=decide (sgn b N < 0)):Zw w (.agg #[.bool b,.slice a n c]) (sgn b N):=
  ⟨b,a,n,c,rfl,Lib.hid hb,by rw[sgn_abs];exact h⟩
/-! boxes of two and of three cells -/
def Bx2 (W:World) (b:Nat) (t:TypeId) (x y:Value):Prop:=W.heap[b]? = some (.cells #[x,y] t (0,0))
theorem Bx2.new (W:World) (t:TypeId) (x y:Value):Bx2 (W.alloc (.cells #[x,y] t)) W.heap.size t x y:=World.alloc_heap_new W _
theorem Bx2.ext {W W':World} {b:Nat} {t:TypeId} {x y:Value} (h:Bx2 W b t x y) (hx:Ext W W'):Bx2 W' b t x y:=(Below.block hx b (Array.getElem?_eq_some_iff.1 h).1).trans h
theorem Bx2.cell0 {W:World} {b:Nat} {t:TypeId} {x y:Value} (h:Bx2 W b t x y):W.cell? ⟨b,0,none⟩=some x:=by simp[World.cell?,show W.heap[b]? = _ from h]
theorem Bx2.cell1 {W:World} {b:Nat} {t:TypeId} {x y:Value} (h:Bx2 W b t x y):W.cell? ⟨b,1,none⟩=some y:=by simp[World.cell?,show W.heap[b]? = _ from h]
theorem Bx2.froz0 {W:World} {b:Nat} {t:TypeId} {x y:Value} (h:Bx2 W b t x y):W.frozen? ⟨b,0,none⟩=false:=by simp[World.frozen?,show W.heap[b]? = _ from h]
theorem Bx2.froz1 {W:World} {b:Nat} {t:TypeId} {x y:Value} (h:Bx2 W b t x y):W.frozen? ⟨b,1,none⟩=false:=by simp[World.frozen?,show W.heap[b]? = _ from h]
theorem Bx2.lt {W:World} {b:Nat} {t:TypeId} {x y:Value} (h:Bx2 W b t x y):b < W.heap.size:=(Array.getElem?_eq_some_iff.1 h).1
theorem Bx2.set {W:World} {b:Nat} {t:TypeId} {x y:Value} (h:Bx2 W b t x y) (x' y':Value):Bx2 ((W.setCell ⟨b,0,none⟩ x').setCell ⟨b,1,none⟩ y') b t x' y':=by
  obtain⟨hlt,hk⟩:=Array.getElem?_eq_some_iff.1 h
  have e1:(W.setCell ⟨b,0,none⟩ x').heap[b]? = some (.cells #[x',y] t (0,0)):=by
    show (W.heap.modify b _)[b]? = _
    rw[Array.getElem?_eq_getElem (by rw[Array.size_modify];exact hlt),Array.getElem_modify_self,hk]
    rfl
  obtain⟨hlt2,hk2⟩:=Array.getElem?_eq_some_iff.1 e1
  show ((W.setCell ⟨b,0,none⟩ x').heap.modify b _)[b]? = _
  rw[Array.getElem?_eq_getElem (by rw[Array.size_modify];exact hlt2),Array.getElem_modify_self,hk2]
  rfl
theorem Ext.set2 {W W':World} {b:Nat} (h:Ext W W') (hb:W.heap.size≤b) (x y:Value):Ext W ((W'.setCell ⟨b,0,none⟩ x).setCell ⟨b,1,none⟩ y):=(h.setCell (p:=⟨b,0,none⟩) hb x).setCell (p:=⟨b,1,none⟩) hb y
def NoU (cs:Array Value):Prop:=∀ (i:Nat) (v:Value),cs[i]? = some v→∀ n,v≠.int .u64 n
theorem noU2 (b:Bool) (a:Option Addr) (n c:Nat):NoU #[.bool b,.slice a n c]:=fun i v h k e=>by
  match i,h with
  | 0,h=>simp at h;subst h;cases e
  | 1,h=>simp at h;subst h;cases e
  | i+2,h=>simp at h
theorem noU3 (b:Bool) (a:Option Addr) (n c:Nat) (a':Option Addr) (n' c':Nat):NoU #[.bool b,.slice a n c,.slice a' n' c']:=fun i v h k e=>by
  match i,h with
  | 0,h=>simp at h;subst h;cases e
  | 1,h=>simp at h;subst h;cases e
  | 2,h=>simp at h;subst h;cases e
  | i+3,h=>simp at h
theorem Nw.off {w w':World} {v:Value} {N b:Nat} {t:TypeId} {cs:Array Value} (h:Nw w v N) (hb:w.heap[b]? = some (.cells cs t (0,0))) (hc:NoU cs) (hs:∀ k,k≠b→w'.heap[k]? = w.heap[k]?):Nw w' v N:=by
  obtain⟨xs,⟨a,b',o,cap,rfl,hs1,hl⟩,hn,he⟩:=h
  refine⟨xs,⟨a,b',o,cap,rfl,⟨hs1.1,hs1.2.1,hs1.2.2.1,fun i hi=>?_⟩,hl⟩,hn,he⟩
  have hcell:=hs1.cell hi
  by_cases hbb:b'=b
  · exfalso
    subst hbb
    simp only[World.cell?,hb]at hcell
    exact hc _ _ (by simpa using hcell) _ rfl
  · rw[World.cell?_of_block (w:=w) (hs b' hbb)]
    exact hcell
theorem off_set2 (w:World) (b:Nat) (x y:Value):∀ k,k≠b→((w.setCell ⟨b,0,none⟩ x).setCell ⟨b,1,none⟩ y).heap[k]? = w.heap[k]?:=fun k hk=>
  (Below.heap_setCell _ ⟨b,1,none⟩ y k hk).trans (Below.heap_setCell _ ⟨b,0,none⟩ x k hk)
theorem Zw.off {w w':World} {v:Value} {z:Int} {b:Nat} {t:TypeId} {cs:Array Value} (h:Zw w v z) (hb:w.heap[b]? = some (.cells cs t (0,0))) (hc:NoU cs) (hs:∀ k,k≠b→w'.heap[k]? = w.heap[k]?):Zw w' v z:=
  let ⟨b',a,n,c,h1,h2,h3⟩:=h;⟨b',a,n,c,h1,h2,h3.off hb hc hs⟩
theorem pos_of {n N:Nat} (hz:n=0↔N=0) (h:0 < n):decide (0 < N)=true:=decide_eq_true (by
  rcases Nat.eq_zero_or_pos N with e | e
  · have:=hz.2 e;omega
  · exact e)
theorem zero_of {n N:Nat} (hz:n=0↔N=0) (h:¬ 0 < n):decide (0 < N)=false:=decide_eq_false (by have:=hz.1 (by omega);omega)
set_option maxHeartbeats 400000 in
theorem Tryz.refMade {v:Value} {N:Nat} {w:World} (h:Nw w v N) (b:Bool):
    Calls Tryz.prog 98 #[.bool b,v] w fun e w'=>∃ v',e=.returned v'∧Zw w' v' (sgn b N)∧Ext w w':=by
  obtain⟨a,n,c,rfl,hz,-⟩:=h.len
  have key:∀ b',b'=(b && decide (0 < N))→Hid (Zw (w.alloc (.cells #[.bool b',.slice a n c] 43)) (.agg #[.bool b',.slice a n c]) (sgn b N)):=fun b' hb=>
    Lib.hid ⟨b',a,n,c,rfl,Lib.hid (by rw[sgn_neg,hb]),by rw[sgn_abs];exact h.ext (Ext.alloc1 _ _)⟩
  cases b
  · have HZ:=key false (by simp)
    clear hz h key
    go_enter Tryz.func98,Tryz.ntmps98
    go_wp2
    exact bodyPost_ret (v:=.agg #[.bool false,.slice a n c]) (by simp[results,Tryz.results98,go_sem]) rfl ⟨_,rfl,HZ.out,Ext.alloc1 _ _⟩
  · by_cases h0:0 < n
    · have h0I:(0:Int) < (n:Int):=by omega
      have HZ:=key true (by rw[pos_of hz h0];rfl)
      clear hz h key
      go_enter Tryz.func98,Tryz.ntmps98
      go_wp2
      exact bodyPost_ret (v:=.agg #[.bool true,.slice a n c]) (by simp[results,Tryz.results98,go_sem]) rfl ⟨_,rfl,HZ.out,Ext.alloc1 _ _⟩
    · have h0I:¬ (0:Int) < (n:Int):=by omega
      have HZ:=key false (by rw[zero_of hz h0];rfl)
      clear hz h key
      go_enter Tryz.func98,Tryz.ntmps98
      go_wp2
      exact bodyPost_ret (v:=.agg #[.bool false,.slice a n c]) (by simp[results,Tryz.results98,go_sem]) rfl ⟨_,rfl,HZ.out,Ext.alloc1 _ _⟩
theorem sgn_not (z:Int):sgn (!decide (z < 0)) z.natAbs = -z:=by
  unfold sgn
  by_cases h:z < 0
  · rw[decide_eq_true h];simp;omega
  · rw[decide_eq_false h];simp;omega
set_option maxHeartbeats 400000 in
theorem Tryz.refNeg {v:Value} {z:Int} {w:World} (h:Zw w v z):
    Calls Tryz.prog 94 #[v] w fun e w'=>∃ v',e=.returned v'∧Zw w' v' (-z)∧Ext w w':=by
  obtain⟨b,a,n,c,rfl,hb,hn⟩:=h
  have HB:Hid (sgn (!b) z.natAbs = -z):=Lib.hid (by rw[hb.out];exact sgn_not z)
  have r0:=Bx2.new (w.alloc (.cells #[.bool b,.slice a n c] 43)) 43 (.bool false) (.slice none 0 0)
  have E0:=(Ext.alloc1 w (.cells #[.bool b,.slice a n c] 43)).alloc (.cells #[.bool false,.slice none 0 0] 43)
  simp only[World.size_alloc]at r0
  go_enter Tryz.func94,Tryz.ntmps94
  go_wp2_with fail
  refine(Tryz.refMade (hn.ext E0) (!b)).mono ?_
  rintro e w1 ⟨v',rfl,hz,hE⟩
  rw[HB.out]at hz
  replace r0:=r0.ext hE
  have f0:=r0.froz0
  have f1:=r0.froz1
  have k0:=r0.cell0
  have k1:=r0.cell1
  have hz':=hz
  obtain⟨b2,a2,n2,c2,rfl,-,hn2⟩:=hz
  go_wp2
  have q:=r0.set (.bool b2) (.slice a2 n2 c2)
  have q0:=q.cell0
  have q1:=q.cell1
  exact bodyPost_ret (v:=.agg #[.bool b2,.slice a2 n2 c2]) (by simp[results,Tryz.results94,go_sem,q0,q1]) rfl ⟨_,rfl,hz'.off r0 (noU2 _ _ _ _) (off_set2 _ _ _ _),(E0.trans hE).set2 (by omega) _ _⟩
end Go.Rt
namespace Go.Rt
open Go.RowKit Go.Proofs
theorem Bx2.off {w:World} {b b':Nat} {t:TypeId} {x0 y0:Value} (h:Bx2 w b t x0 y0) (hne:b≠b') (x y:Value):Bx2 ((w.setCell ⟨b',0,none⟩ x).setCell ⟨b',1,none⟩ y) b t x0 y0:=(off_set2 w b' x y b hne).trans h
theorem sgn_eq {z:Int} {b:Bool} (h:b=decide (z < 0)):z=sgn b z.natAbs:=by
  subst h;unfold sgn
  by_cases h:z < 0
  · rw[decide_eq_true h];simp;omega
  · rw[decide_eq_false h];simp;omega
theorem cmpI_sgn {x y:Int} {b:Bool} (h1:b=decide (x < 0)) (h2:b=decide (y < 0)):(b=false→cmpI (x.natAbs:Nat) (y.natAbs:Nat)=cmpI x y)∧(b=true → -(cmpI (x.natAbs:Nat) (y.natAbs:Nat))=cmpI x y):=by
  constructor
  · intro hb
    subst hb
    have h1:=of_decide_eq_false h1.symm
    have h2:=of_decide_eq_false h2.symm
    rw[show ((x.natAbs:Nat):Int)=x from by omega,show ((y.natAbs:Nat):Int)=y from by omega]
  · intro hb
    subst hb
    have h1:=of_decide_eq_true h1.symm
    have h2:=of_decide_eq_true h2.symm
    rw[show ((x.natAbs:Nat):Int) = -x from by omega,show ((y.natAbs:Nat):Int) = -y from by omega]
    unfold cmpI
    by_cases ha:x < y
    · rw[if_neg (by omega),if_pos (by omega),if_pos ha]
    · rw[if_neg ha]
      by_cases hc:y < x
      · rw[if_pos (by omega),if_pos hc];rfl
      · rw[if_neg (by omega),if_neg (by omega),if_neg hc];rfl
set_option maxHeartbeats 400000 in
theorem Tryz.refZCmp {v1 v2:Value} {x y:Int} {w:World} (h1:Zw w v1 x) (h2:Zw w v2 y):
    Calls Tryz.prog 61 #[v1,v2] w fun e w'=>e=.returned (.int .i64 (cmpI x y))∧Ext w w':=by
  obtain⟨b1,a1,n1,c1,rfl,hb1,g1⟩:=h1
  obtain⟨b2,a2,n2,c2,rfl,hb2,g2⟩:=h2
  have E0:=(Ext.alloc1 w (.cells #[.bool b1,.slice a1 n1 c1] 43)).alloc (.cells #[.bool b2,.slice a2 n2 c2] 43)
  have p0:=(Bx2.new w 43 (.bool b1) (.slice a1 n1 c1)).ext (Ext.alloc1 _ (.cells #[.bool b2,.slice a2 n2 c2] 43))
  by_cases hb:b1=b2
  · subst hb
    obtain⟨k1,k2⟩:=cmpI_sgn hb1.out hb2.out
    obtain⟨c,hc⟩:∃ c,c=cmpI (x.natAbs:Nat) (y.natAbs:Nat):=⟨_,rfl⟩
    rw[← hc]at k1 k2
    have hcb:=cmpI_bd (x.natAbs:Nat) (y.natAbs:Nat)
    rw[← hc]at hcb
    have HC:=Lib.hid hc
    clear hc
    cases b1
    · have HR:=Lib.hid (k1 rfl)
      clear k1 k2
      go_enter Tryz.func61,Tryz.ntmps61
      go_wp2_with fail
      refine(Tryz.refCmp (g1.ext E0) (g2.ext E0)).mono ?_
      rintro e w1 ⟨rfl,hE⟩
      rw[← HC.out]
      have E1:=E0.trans hE
      replace p0:=(p0.ext hE).cell0
      clear hE E0
      go_wp2
      go_ret
      exact⟨ret_i HR.out,E1⟩
    · have HR:=Lib.hid (k2 rfl)
      clear k1 k2
      go_enter Tryz.func61,Tryz.ntmps61
      go_wp2_with fail
      refine(Tryz.refCmp (g1.ext E0) (g2.ext E0)).mono ?_
      rintro e w1 ⟨rfl,hE⟩
      rw[← HC.out]
      have E1:=E0.trans hE
      replace p0:=(p0.ext hE).cell0
      clear hE E0
      go_wp2
      go_ret
      exact⟨ret_i HR.out,E1⟩
  · cases b1
    · have hb2' : b2 = true := by cases b2; · exact absurd rfl hb
                                  · rfl
      subst hb2'
      have HR:Hid (cmpI x y=1):=Lib.hid (cmpI_gt (by have h1:=of_decide_eq_false hb1.out.symm;have h2:=of_decide_eq_true hb2.out.symm;omega))
      clear hb p0
      go_enter Tryz.func61,Tryz.ntmps61
      go_wp2
      go_ret
      exact⟨ret_i HR.out.symm,E0⟩
    · have hb2' : b2 = false := by cases b2; · rfl
                                   · exact absurd rfl hb
      subst hb2'
      have HR:Hid (cmpI x y = -1):=Lib.hid (cmpI_lt (by have h2:=of_decide_eq_false hb2.out.symm;have h1:=of_decide_eq_true hb1.out.symm;omega))
      clear hb p0
      go_enter Tryz.func61,Tryz.ntmps61
      go_wp2
      go_ret
      exact⟨ret_i HR.out.symm,E0⟩
end Go.Rt
namespace Go.Rt
open Go.RowKit Go.Proofs
theorem sgn_mul {x y:Int} {b1 b2:Bool} (h1:b1=decide (x < 0)) (h2:b2=decide (y < 0)):sgn (b1 != b2) (x.natAbs*y.natAbs)=x*y:=by
 have e1:=sgn_eq h1
 have e2:=sgn_eq h2
 generalize x.natAbs=a at *
 generalize y.natAbs=b at *
 rw[e1,e2]
 unfold sgn
 cases b1 <;> cases b2 <;> simp[Int.neg_mul,Int.mul_neg]
set_option maxRecDepth 100000 in
set_option maxHeartbeats 1000000 in
theorem Tryz.refZMul {v1 v2:Value} {x y:Int} {L1 L2:Nat} {w:World} (h1:Zw w v1 x) (h2:Zw w v2 y) (s1:Sm L1 x.natAbs) (s2:Sm L2 y.natAbs) (hL:L1+L2≤10000000):
  Calls Tryz.prog 65 #[v1,v2] w fun e w'=>∃ v',e=.returned v'∧Zw w' v' (x*y)∧Ext w w':=by
 obtain⟨b1,a1,n1,c1,rfl,hb1,g1⟩:=h1
 obtain⟨b2,a2,n2,c2,rfl,hb2,g2⟩:=h2
 have HB:Hid (sgn (b1 != b2) (x.natAbs*y.natAbs)=x*y):=Lib.hid (sgn_mul hb1.out hb2.out)
 obtain⟨W0,hW0⟩:∃ W0,W0=((w.alloc (.cells #[.bool b1,.slice a1 n1 c1] 43)).alloc (.cells #[.bool b2,.slice a2 n2 c2] 43)).alloc (.cells #[.bool false,.slice none 0 0] 43):=⟨_,rfl⟩
 have E0:Ext w W0:=by rw[hW0];exact((Ext.alloc1 _ _).alloc _).alloc _
 have p1:Bx2 W0 w.heap.size 43 (.bool b1) (.slice a1 n1 c1):=by rw[hW0];exact(Bx2.new w _ _ _).ext ((Ext.alloc1 _ _).alloc _)
 have p2:Bx2 W0 (w.heap.size+1) 43 (.bool b2) (.slice a2 n2 c2):=by rw[hW0];simpa using (Bx2.new (w.alloc (.cells #[.bool b1,.slice a1 n1 c1] 43)) 43 (.bool b2) (.slice a2 n2 c2)).ext (Ext.alloc1 _ (.cells #[.bool false,.slice none 0 0] 43))
 have p3:Bx2 W0 (w.heap.size+1+1) 43 (.bool false) (.slice none 0 0):=by rw[hW0];simpa using Bx2.new ((w.alloc (.cells #[.bool b1,.slice a1 n1 c1] 43)).alloc (.cells #[.bool b2,.slice a2 n2 c2] 43)) 43 (.bool false) (.slice none 0 0)
 have k1:=p1.cell0
 have k2:=p1.cell1
 have k3:=p2.cell0
 have k4:=p2.cell1
 have k5:=p3.froz0
 have k6:=p3.froz1
 replace g1:=g1.ext (E0.drew)
 replace g2:=g2.ext (E0.drew)
 go_enter Tryz.func65,Tryz.ntmps65
 go_wp2_with fail
 rw[← hW0]
 clear hW0 hb1 hb2
 go_region_held3 (fun W=>W.cell? ⟨w.heap.size,0,none⟩=some (.bool b1)∧W.cell? ⟨w.heap.size,1,none⟩=some (.slice a1 n1 c1)∧W.cell? ⟨w.heap.size+1,0,none⟩=some (.bool b2)∧W.cell? ⟨w.heap.size+1,1,none⟩=some (.slice a2 n2 c2)∧W.frozen? ⟨w.heap.size+1+1,0,none⟩=false∧W.frozen? ⟨w.heap.size+1+1,1,none⟩=false)
  (first | exact⟨k1,k2,k3,k4,k5,k6⟩ | exact⟨(q1.off (by omega) _ _).cell0,(q1.off (by omega) _ _).cell1,(q2.off (by omega) _ _).cell0,(q2.off (by omega) _ _).cell1,(q3.set _ _).froz0,(q3.set _ _).froz1⟩ | exact⟨q1.cell0,q1.cell1,q2.cell0,q2.cell1,q3.froz0,q3.froz1⟩)
  (first
   | (go_at_call 48;refine(Tryz.refMul g1 g2 s1 s2 hL).mono ?_;rintro e w1 ⟨vm,rfl,hm,hE,-⟩;have hT:=(Ext.drew1 W0).trans hE;have q1:=p1.ext hT;have q2:=p2.ext hT;have q3:=p3.ext hT)
   | (go_at_call 98;refine(Tryz.refMade hm (b1 != b2)).mono ?_;rintro e w2 ⟨vr,rfl,hz,hE2⟩;rw[HB.out]at hz;have hz':=hz;obtain⟨b3,a3,n3,c3,rfl,-,hn3⟩:=hz;have hT2:=hT.trans hE2;clear q1 q2 q3;have q1:=p1.ext hT2;have q2:=p2.ext hT2;have q3:=p3.ext hT2;have r0:=q3.cell0;have r1:=q3.cell1))
 have hT9:=E0.trans hT2
 clear k1 k2 k3 k4 k5 k6 hE hE2 hT hT2 r0 r1 q1 q2
 go_wp2
 have q:=q3.set (.bool b3) (.slice a3 n3 c3)
 have e0:=q.cell0
 have e1:=q.cell1
 exact bodyPost_ret (v:=.agg #[.bool b3,.slice a3 n3 c3]) (by simp[results,Tryz.results65,go_sem,e0,e1]) rfl ⟨_,rfl,hz'.off q3 (noU2 _ _ _ _) (off_set2 _ _ _ _),hT9.set2 (by omega) _ _⟩
theorem sgn_add_same {x y:Int} {b:Bool} (h1:b=decide (x < 0)) (h2:b=decide (y < 0)):sgn b (x.natAbs+y.natAbs)=x+y:=by
 have e1:=sgn_eq h1
 have e2:=sgn_eq h2
 generalize x.natAbs=a at *
 generalize y.natAbs=c at *
 rw[e1,e2]
 unfold sgn
 cases b <;> simp;omega
theorem sgn_add_ge {x y:Int} {b1 b2:Bool} (h1:b1=decide (x < 0)) (h2:b2=decide (y < 0)) (hne:b1≠b2) (h:y.natAbs≤x.natAbs):sgn b1 (x.natAbs - y.natAbs)=x+y:=by
 have e1:=sgn_eq h1
 have e2:=sgn_eq h2
 generalize x.natAbs=a at *
 generalize y.natAbs=c at *
 rw[e1,e2]
 unfold sgn
 cases b1 <;> cases b2 <;> simp at hne ⊢ <;> omega
set_option maxRecDepth 100000 in
set_option maxHeartbeats 2000000 in
theorem Tryz.refZAdd {v1 v2:Value} {x y:Int} {L:Nat} {w:World} (h1:Zw w v1 x) (h2:Zw w v2 y) (s1:Sm L x.natAbs) (s2:Sm L y.natAbs) (hL:L≤10000000):
  Calls Tryz.prog 64 #[v1,v2] w fun e w'=>∃ v',e=.returned v'∧Zw w' v' (x+y)∧Ext w w':=by
 obtain⟨b1,a1,n1,c1,rfl,hb1,g1⟩:=h1
 obtain⟨b2,a2,n2,c2,rfl,hb2,g2⟩:=h2
 obtain⟨W0,hW0⟩:∃ W0,W0=((w.alloc (.cells #[.bool b1,.slice a1 n1 c1] 43)).alloc (.cells #[.bool b2,.slice a2 n2 c2] 43)).alloc (.cells #[.bool false,.slice none 0 0] 43):=⟨_,rfl⟩
 have E0:Ext w W0:=by rw[hW0];exact((Ext.alloc1 _ _).alloc _).alloc _
 have p1:Bx2 W0 w.heap.size 43 (.bool b1) (.slice a1 n1 c1):=by rw[hW0];exact(Bx2.new w _ _ _).ext ((Ext.alloc1 _ _).alloc _)
 have p2:Bx2 W0 (w.heap.size+1) 43 (.bool b2) (.slice a2 n2 c2):=by rw[hW0];simpa using (Bx2.new (w.alloc (.cells #[.bool b1,.slice a1 n1 c1] 43)) 43 (.bool b2) (.slice a2 n2 c2)).ext (Ext.alloc1 _ (.cells #[.bool false,.slice none 0 0] 43))
 have p3:Bx2 W0 (w.heap.size+1+1) 43 (.bool false) (.slice none 0 0):=by rw[hW0];simpa using Bx2.new ((w.alloc (.cells #[.bool b1,.slice a1 n1 c1] 43)).alloc (.cells #[.bool b2,.slice a2 n2 c2] 43)) 43 (.bool false) (.slice none 0 0)
 have k1:=p1.cell0
 have k2:=p1.cell1
 have k3:=p2.cell0
 have k4:=p2.cell1
 have k5:=p3.froz0
 have k6:=p3.froz1
 by_cases hbb:b1=b2
 ·subst hbb
  have HB:Hid (sgn b1 (x.natAbs+y.natAbs)=x+y):=Lib.hid (sgn_add_same hb1.out hb2.out)
  have hbq:(b1==b1)=true:=by simp
  replace g1:=g1.ext (E0.drew)
  replace g2:=g2.ext (E0.drew)
  go_enter Tryz.func64,Tryz.ntmps64
  go_wp2_with fail
  rw[← hW0]
  clear hW0 hb1 hb2
  go_region_held3 (fun W=>W.cell? ⟨w.heap.size,0,none⟩=some (.bool b1)∧W.cell? ⟨w.heap.size,1,none⟩=some (.slice a1 n1 c1)∧W.cell? ⟨w.heap.size+1,0,none⟩=some (.bool b1)∧W.cell? ⟨w.heap.size+1,1,none⟩=some (.slice a2 n2 c2)∧W.frozen? ⟨w.heap.size+1+1,0,none⟩=false∧W.frozen? ⟨w.heap.size+1+1,1,none⟩=false)
   (first | exact⟨k1,k2,k3,k4,k5,k6⟩ | exact⟨(q1.off (by omega) _ _).cell0,(q1.off (by omega) _ _).cell1,(q2.off (by omega) _ _).cell0,(q2.off (by omega) _ _).cell1,(q3.set _ _).froz0,(q3.set _ _).froz1⟩ | exact⟨q1.cell0,q1.cell1,q2.cell0,q2.cell1,q3.froz0,q3.froz1⟩)
   (first
    | (go_at_call 54;refine(Tryz.refAdd g1 g2 s1 s2 hL).mono ?_;rintro e w1 ⟨vm,rfl,hm,hE,-⟩;have hT:=(Ext.drew1 W0).trans hE;have q1:=p1.ext hT;have q2:=p2.ext hT;have q3:=p3.ext hT)
    | (go_at_call 98;refine(Tryz.refMade hm b1).mono ?_;rintro e w2 ⟨vr,rfl,hz,hE2⟩;rw[HB.out]at hz;have hz':=hz;obtain⟨b3,a3,n3,c3,rfl,-,hn3⟩:=hz;have hT2:=hT.trans hE2;clear q1 q2 q3;have q1:=p1.ext hT2;have q2:=p2.ext hT2;have q3:=p3.ext hT2;have r0:=q3.cell0;have r1:=q3.cell1))
  have hT9:=E0.trans hT2
  clear k1 k2 k3 k4 k5 k6 hE hE2 hT hT2 r0 r1 q1 q2
  go_wp2
  have q:=q3.set (.bool b3) (.slice a3 n3 c3)
  have e0:=q.cell0
  have e1:=q.cell1
  exact bodyPost_ret (v:=.agg #[.bool b3,.slice a3 n3 c3]) (by simp[results,Tryz.results64,go_sem,e0,e1]) rfl ⟨_,rfl,hz'.off q3 (noU2 _ _ _ _) (off_set2 _ _ _ _),hT9.set2 (by omega) _ _⟩
 ·have hbq:(b1==b2)=false:=by simpa using hbb
  replace g1:=g1.ext E0
  replace g2:=g2.ext E0
  by_cases hge:y.natAbs≤x.natAbs
  ·have HB:Hid (sgn b1 (x.natAbs - y.natAbs)=x+y):=Lib.hid (sgn_add_ge hb1.out hb2.out hbb hge)
   have hc0:0≤cmpI (x.natAbs:Nat) (y.natAbs:Nat):=by
    rcases Nat.lt_or_ge y.natAbs x.natAbs with h | h
    ·rw[cmpI_nat_gt h];omega
    ·rw[cmpI_nat_eq (by omega)];omega
   obtain⟨cc,hcc⟩:∃ c,c=cmpI (x.natAbs:Nat) (y.natAbs:Nat):=⟨_,rfl⟩
   rw[← hcc]at hc0
   have HC:=Lib.hid hcc
   clear hcc hbb hge
   go_enter Tryz.func64,Tryz.ntmps64
   go_wp2_with fail
   rw[← hW0]
   clear hW0 hb1 hb2
   refine(Tryz.refCmp g1 g2).mono ?_
   rintro e w1 ⟨rfl,hE⟩
   rw[← HC.out]
   replace p1:=p1.ext hE
   replace p2:=p2.ext hE
   replace p3:=p3.ext hE
   replace g1:=g1.ext hE
   replace g2:=g2.ext hE
   replace E0:=E0.trans hE
   clear k1 k2 k3 k4 k5 k6 hE
   have k1:=p1.cell0
   have k2:=p1.cell1
   have k3:=p2.cell0
   have k4:=p2.cell1
   go_wp2_with fail
   refine(Tryz.refSub g1 g2 s1 s2 hL).mono ?_
   rintro e w2 ⟨vs,rfl,hs,hE,-⟩
   replace p1:=p1.ext hE
   replace p3:=p3.ext hE
   replace E0:=E0.trans hE
   clear k1 k2 k3 k4 hE
   have k1:=p1.cell0
   go_wp2_with fail
   refine(Tryz.refMade hs b1).mono ?_
   rintro e w3 ⟨vr,rfl,hz,hE⟩
   rw[HB.out]at hz
   have hz':=hz
   obtain⟨b3,a3,n3,c3,rfl,-,hn3⟩:=hz
   replace p3:=p3.ext hE
   replace E0:=E0.trans hE
   clear k1 hE
   have k1:=p3.cell0
   have k2:=p3.cell1
   have k3:=p3.froz0
   have k4:=p3.froz1
   go_wp2
   have q:=p3.set (.bool b3) (.slice a3 n3 c3)
   have e0:=q.cell0
   have e1:=q.cell1
   exact bodyPost_ret (v:=.agg #[.bool b3,.slice a3 n3 c3]) (by simp[results,Tryz.results64,go_sem,e0,e1]) rfl ⟨_,rfl,hz'.off p3 (noU2 _ _ _ _) (off_set2 _ _ _ _),E0.set2 (by omega) _ _⟩
  ·have HB:Hid (sgn b2 (y.natAbs - x.natAbs)=x+y):=Lib.hid (by rw[Int.add_comm];exact sgn_add_ge hb2.out hb1.out (fun e=>hbb e.symm) (by omega))
   have hc0:¬ 0≤cmpI (x.natAbs:Nat) (y.natAbs:Nat):=by
    rw[cmpI_nat_lt (by omega)];omega
   obtain⟨cc,hcc⟩:∃ c,c=cmpI (x.natAbs:Nat) (y.natAbs:Nat):=⟨_,rfl⟩
   rw[← hcc]at hc0
   have HC:=Lib.hid hcc
   clear hcc hbb hge
   go_enter Tryz.func64,Tryz.ntmps64
   go_wp2_with fail
   rw[← hW0]
   clear hW0 hb1 hb2
   refine(Tryz.refCmp g1 g2).mono ?_
   rintro e w1 ⟨rfl,hE⟩
   rw[← HC.out]
   replace p1:=p1.ext hE
   replace p2:=p2.ext hE
   replace p3:=p3.ext hE
   replace g1:=g1.ext hE
   replace g2:=g2.ext hE
   replace E0:=E0.trans hE
   clear k1 k2 k3 k4 k5 k6 hE
   have k1:=p1.cell0
   have k2:=p1.cell1
   have k3:=p2.cell0
   have k4:=p2.cell1
   go_wp2_with fail
   refine(Tryz.refSub g2 g1 s2 s1 hL).mono ?_
   rintro e w2 ⟨vs,rfl,hs,hE,-⟩
   replace p2:=p2.ext hE
   replace p3:=p3.ext hE
   replace E0:=E0.trans hE
   clear k1 k2 k3 k4 hE
   have k1:=p2.cell0
   go_wp2_with fail
   refine(Tryz.refMade hs b2).mono ?_
   rintro e w3 ⟨vr,rfl,hz,hE⟩
   rw[HB.out]at hz
   have hz':=hz
   obtain⟨b3,a3,n3,c3,rfl,-,hn3⟩:=hz
   replace p3:=p3.ext hE
   replace E0:=E0.trans hE
   clear k1 hE
   have k1:=p3.cell0
   have k2:=p3.cell1
   have k3:=p3.froz0
   have k4:=p3.froz1
   go_wp2
   have q:=p3.set (.bool b3) (.slice a3 n3 c3)
   have e0:=q.cell0
   have e1:=q.cell1
   exact bodyPost_ret (v:=.agg #[.bool b3,.slice a3 n3 c3]) (by simp[results,Tryz.results64,go_sem,e0,e1]) rfl ⟨_,rfl,hz'.off p3 (noU2 _ _ _ _) (off_set2 _ _ _ _),E0.set2 (by omega) _ _⟩
end Go.Rt
