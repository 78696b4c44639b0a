/-
  A region that draws its order, inside the wide fence (with a round or without): reads and quiet calls first, in whatever order, then a forced row of operations.
  nat.pairs: the iterator over the limbs of two numbers.
  nat.Add: a sum, limb by limb.
  nat.Mul: a product, limb by limb. nat.Bits.
-/
import Derived.Test.YtiebflipijcnfaaGreatGC
import Derived.Test.YtiebflipijcnfaaGreatMul64
import Derived.Laws.EntriesVeiled
namespace Go.Rt
open Go
def Open (F:Fence):Prop:=F.depth=none∧(∀ f,F.fn f)∧∀ (n:Nat) (P:Program) (f:FuncId) (args:Array Value) (w:World) (R:Ending→World→Prop),Calls P f args w R→CallsIn F n P f args w R
theorem open_wide:Open Fence.wide:=⟨rfl,fun _=>trivial,fun _ _ _ _ _ _ h=>callsIn_wide.2 h⟩
section
variable {F:Fence} {n:Nat} {P:Program} {ops:Array Oper} {Q':Exit→Act→World→Prop} {w:World} {md:Region.Mode}
theorem wpIn_of_stillC (hF:Open F) {o:Oper} {a:Act} {K:Act→Prop} {K':Act→World→Prop} (hd:calm o=true) (h:∀ a,K a→K' a w) (hh:o.still P a w K):o.wpIn F n P a w K' Q':=by
  refine⟨fun f _=>hF.2.1 f,?_⟩
  rw[Oper.semAt_plain _ _ _ (fun c hc=>by unfold calm at hd;rw[hc]at hd;cases hd)]
  unfold Oper.still at hh
  generalize (execOp a.eval o).run P w=r at *
  cases r with
  | ok x w'=>
    cases x <;> simp only[Oper.stillUpon]at hh <;> simp only[Oper.uponIn]
    case enter f args=>
      obtain⟨rfl,v,hc,hk⟩:=hh
      exact⟨fun hx=>(by rw[hF.1]at hx;cases hx),hF.2.2 _ _ _ _ _ _ (hc.mono fun e w'' ⟨he,hw⟩=>by subst he;subst hw;exact h _ hk)⟩
    all_goals (obtain⟨rfl,h2⟩:=hh;exact h _ h2)
  | halt x w'=>simp only[Oper.stillUpon]at hh
theorem wpOpIn_of_stOpC (hF:Open F) {i:Nat} {a:Act} {K:Act→Prop} {K':Act→World→Prop} (ht:∀ o,ops[i]? = some o→calm o=true) (h:∀ a,K a→K' a w) (hh:stOp P ops w i K a):wpOpIn F n P ops Q' i K' a w:=by
  unfold stOp at hh
  unfold wpOpIn
  cases ho:ops[i]? with
  | none=>simp only[ho]at hh;exact h _ hh
  | some o=>
    simp only[ho]at hh
    by_cases hw:Region.wanted o (yielded ops a.tmps)
    · simp only[hw,if_true]at hh ⊢;exact wpIn_of_stillC hF (ht o ho) h hh
    · simp only[hw]at hh ⊢;exact⟨fun f _=>hF.2.1 f,h _ hh⟩
theorem anyIn_of_headC (hF:Open F) {m g:Nat} {L:Array Bool→Act→Prop} (ht:∀ i o,i < m→ops[i]? = some o→calm o=true) (hL:∀ listed a,L listed a→wpAnyIn F n P md ops Q' g listed a w):
    ∀ (f:Nat) (listed:Array Bool) (a:Act),wpAnyL P md ops w m L f listed a→wpAnyIn F n P md ops Q' (f+g) listed a w
  | 0,listed,a,h=>by rw[Nat.zero_add];exact hL _ _ h
  | f+1,listed,a,h=>by
    rw[show f+1+g=(f+g)+1 by omega]
    exact⟨fun h0=>absurd h0 h.1,fun i hi=>wpOpIn_of_stOpC hF (fun o ho=>ht i o (h.2 i hi).1 ho) (fun a' h'=>anyIn_of_headC hF ht hL f _ a' h') (h.2 i hi).2⟩
theorem wpIn_region_tailC (hF:Open F) {id:Nat} {a:Act} {l:List Oper} (m:Nat) (hm:P.follows .mixedOrders=true) (hB:Region.lexTailB .any l.toArray m=true) (hT:(l.take m).all calm=true)
    (h:wpStill P l.toArray { w with drawn:=w.drawn+1 } (fun a'=>wpListIn F n P l.toArray Q' (l.drop m) a' { w with drawn:=w.drawn+1 }) (l.take m) a):(Code.region id l.toArray true).wpIn F n P Q' a w:=by
  simp only[Region.lexTailB,Bool.and_eq_true,decide_eq_true_eq]at hB
  obtain⟨⟨⟨⟨hsel,hn⟩,hs⟩,hc⟩,hlex⟩:=hB
  have hn':m < l.length:=by simpa using hn
  have hsz:l.toArray.size=m+(l.drop m).length:=by simp;omega
  have ht:∀ i o,i < m→l.toArray[i]? = some o→calm o=true:=fun i o hi ho=>by
    refine List.all_eq_true.1 hT o ?_
    refine List.mem_of_getElem? (i:=i) ?_
    rw[List.getElem?_take,if_pos hi]
    simpa using ho
  have H:=wpAnyL_lex (P:=P) (w:={ w with drawn:=w.drawn+1 }) (Lq:=fun a'=>wpListIn F n P l.toArray Q' (l.drop m) a' { w with drawn:=w.drawn+1 }) (md:=.any) (g:=l.toArray.size - m) hsel hs hc hn (l.take m) 0 (Array.replicate l.toArray.size false) a
    (fun j hj=>by rw[List.length_take]at hj;simp[show j < m by omega])
    (by rw[List.length_take];omega)
    ⟨by simp,fun j oj _ hl=>(by rw[getD_replicate_false]at hl;cases hl),fun t _ ht=>getD_in (by simpa using ht) (getD_replicate_false _ _)⟩
    (by rw[List.length_take,Nat.min_eq_left (by omega)];exact hlex) h
  refine wpIn_region_any hm ?_
  have hg:l.toArray.size - m=(l.drop m).length:=by omega
  rw[hg]at H
  have:=anyIn_of_headC (F:=F) (n:=n) (Q':=Q') hF (g:=(l.drop m).length) ht (fun listed a' hL=>
    anyIn_of_seq (l.drop m) m listed a' _ (fun j=>by simp[List.getElem?_drop]) hL.1 hL.2) _ _ _ H
  rw[List.length_take,Nat.min_eq_left (by omega),← hsz]at this
  exact this
end
end Go.Rt
namespace Go.Rt
open Go.RowKit Go.Shelf Go.Proofs
attribute [local go_sem] Oper.semAt_some
theorem Tryz.pairsAt {v:Value} {l:List Nat} {w:World} (h:Nt w v l) (i:Nat):
  Calls Tryz.prog 116 #[v,.int .i64 (i:Int)] w fun e w'=>e=.returned (.int .u64 ((lg l i:Nat):Int))∧w'=w:=by
 obtain⟨a,b,o,cap,rfl,hs,hl⟩:=h
 by_cases hlt:i < l.length
 ·obtain rfl:a=some ⟨b,o,none⟩:=hs.addr (by omega)
  have hc:=hs.cell (i:=i) hlt
  clear hs
  go_enter Tryz.func116,Tryz.ntmps116
  go_wp2
  go_ret
  exact⟨rfl,rfl⟩
 ·have H0:Hid (lg l i=0):=Lib.hid (by unfold lg;rw[List.getD_eq_getElem?_getD,List.getElem?_eq_none (by omega)];rfl)
  clear hs
  go_enter Tryz.func116,Tryz.ntmps116
  go_wp2
  go_ret
  exact⟨ret_i (by rw[H0.out];rfl),rfl⟩
def pairVals (xs ys:List Nat) (k:Nat):Array Value:=#[.int .u64 ((lg xs k:Nat):Int),.int .u64 ((lg ys k:Nat):Int)]
def pairCan (at' Ba Bb Bt:Nat) (va vb:Value) (xs ys:List Nat) (_:Nat) (W:World):Prop:=
 W.cell? ⟨Ba,0,none⟩=some va∧W.cell? ⟨Bb,0,none⟩=some vb∧W.cell? ⟨Bt,0,none⟩=some (.func (.func at') #[] #[])∧Nt W va xs∧Nt W vb ys
set_option maxRecDepth 100000 in
set_option maxHeartbeats 1000000 in
theorem Tryz.pairs_iter (Ba Bb Bt:Nat) (va vb:Value) (xs ys:List Nat):
  Iter Tryz.prog 117 #[.pointer (some ⟨Ba,0,none⟩),.pointer (some ⟨Bb,0,none⟩),.pointer (some ⟨Bt,0,none⟩)] (max xs.length ys.length) (pairVals xs ys) (pairCan 116 Ba Bb Bt va vb xs ys):=by
 intro l J Jx W hcan hal hdr hY h0
 obtain⟨c1,c2,c3,n1,n2⟩:=hcan 0 W (Nat.zero_le _) h0
 obtain⟨a1,b1,o1,q1,rfl,s1,-⟩:=n1
 obtain⟨a2,b2,o2,q2,rfl,s2,-⟩:=n2
 have m1:=s1.max
 have m2:=s2.max
 have l1:=s1.le
 have l2:=s2.le
 obtain⟨n,hn⟩:∃ n,n=max xs.length ys.length:=⟨_,rfl⟩
 have hnm:n≤9223372036854775807:=by omega
 have hx:xs.length≤n:=by omega
 have hy:ys.length≤n:=by omega
 rw[← hn]at hcan hY ⊢
 clear s1 s2
 by_cases hc:xs.length < ys.length
 ·obtain rfl:n=ys.length:=by omega
  clear hn
  refine callsIn_of_wp Tryz.func117 rfl trivial ?_ rfl
  simp only[Tryz.ntmps117,List.size_toArray,List.length_cons,List.length_nil,Nat.reduceAdd,Nat.reduceSub,Array.replicate_succ,Array.replicate_zero,List.push_toArray,List.append_toArray,List.nil_append,List.cons_append]
  gi_wp2
  gi_loopw [11,5,14,15,16,17,18,19,20,21,22,23,24] (fun i _ _ _ _ _ _ _ _ _ _ _ _ wr=>∃ k:Nat,k≤ys.length∧i=.int .i64 (k:Int)∧J k wr) (fun i _ _ _ _ _ _ _ _ _ _ _ _ _=>ys.length - (intOf i).toNat)
  case atStart=>exact⟨0,Nat.zero_le _,rfl,h0⟩
  case round=>
   obtain⟨k,hk,rfl,hJ⟩:=hrel
   by_cases hlt:k < ys.length
   ·obtain⟨c1,c2,c3,n1,n2⟩:=hcan k wr hk hJ
    have hy0:=hY k wr.drew hlt (hdr k wr hJ)
    rw[pairVals]at hy0
    obtain⟨x,hx⟩:∃ x,x=lg xs k:=⟨_,rfl⟩
    obtain⟨y,hy⟩:∃ y,y=lg ys k:=⟨_,rfl⟩
    have k1:∀ W,Nt W (.slice a1 xs.length q1) xs→Calls Tryz.prog 116 #[.slice a1 xs.length q1,.int .i64 (k:Int)] W fun e w'=>e=.returned (.int .u64 (x:Int))∧w'=W:=fun W h=>by rw[hx];exact Tryz.pairsAt h k
    have k2:∀ W,Nt W (.slice a2 ys.length q2) ys→Calls Tryz.prog 116 #[.slice a2 ys.length q2,.int .i64 (k:Int)] W fun e w'=>e=.returned (.int .u64 (y:Int))∧w'=W:=fun W h=>by rw[hy];exact Tryz.pairsAt h k
    rw[← hx,← hy]at hy0
    have K1:=Lib.hid k1
    have K2:=Lib.hid k2
    have N1:=Lib.hid n1
    have N2:=Lib.hid n2
    have HY:=Lib.hid hy0
    clear hx hy k1 k2 n1 n2 hy0
    have hkI:(k:Int) < (ys.length:Int):=by omega
    clear hcan hal hdr hY h0
    gi_wp2
    refine wpIn_region_tailC open_wide 9 (by kernel_rfl) (by kernel_rfl) (by kernel_rfl) ?_
    simp only[List.take_succ_cons,List.take_zero,List.drop_succ_cons,List.drop_zero]
    iterate 4 still_step
    refine wpStill_step (fun K hK=>?_)
    go_simp
    refine⟨_,K1.out _ (N1.out.ext (Ext.drew1 _)),hK _ ?_⟩
    clear hK K
    iterate 3 still_step
    refine wpStill_step (fun K hK=>?_)
    go_simp
    refine⟨_,K2.out _ (N2.out.ext (Ext.drew1 _)),hK _ ?_⟩
    clear hK K
    refine wpStill_nil ?_
    obtain⟨fn,tmps,assign,body,hy,hR⟩:=HY.out
    gi_wp2
    refine hR.mono ?_
    rintro e W3 (⟨rfl,hJ3⟩ | ⟨rfl,hJx3⟩)
    ·clear hy hR HY
     gi_wp2
     go_roundw
     case rel=>exact⟨k+1,by omega,by go_num,hJ3⟩
     case measure=>simp[intOf];omega
    ·clear hy hR HY
     gi_wp2
     refine bodyPost_ret (results_none rfl _ _ _) rfl ?_
     exact⟨⟨_,rfl⟩,.inr ⟨k,hlt,hJx3⟩⟩
   ·obtain rfl:k=ys.length:=by omega
    have hkI:¬ ((ys.length:Int) < (ys.length:Int)):=by omega
    clear hcan hal hdr hY h0
    gi_wp2
    go_end0
    exact⟨⟨_,rfl⟩,.inl hJ⟩
 ·obtain rfl:n=xs.length:=by omega
  clear hn
  refine callsIn_of_wp Tryz.func117 rfl trivial ?_ rfl
  simp only[Tryz.ntmps117,List.size_toArray,List.length_cons,List.length_nil,Nat.reduceAdd,Nat.reduceSub,Array.replicate_succ,Array.replicate_zero,List.push_toArray,List.append_toArray,List.nil_append,List.cons_append]
  gi_wp2
  gi_loopw [11,5,14,15,16,17,18,19,20,21,22,23,24] (fun i _ _ _ _ _ _ _ _ _ _ _ _ wr=>∃ k:Nat,k≤xs.length∧i=.int .i64 (k:Int)∧J k wr) (fun i _ _ _ _ _ _ _ _ _ _ _ _ _=>xs.length - (intOf i).toNat)
  case atStart=>exact⟨0,Nat.zero_le _,rfl,h0⟩
  case round=>
   obtain⟨k,hk,rfl,hJ⟩:=hrel
   by_cases hlt:k < xs.length
   ·obtain⟨c1,c2,c3,n1,n2⟩:=hcan k wr hk hJ
    have hy0:=hY k wr.drew hlt (hdr k wr hJ)
    rw[pairVals]at hy0
    obtain⟨x,hx⟩:∃ x,x=lg xs k:=⟨_,rfl⟩
    obtain⟨y,hy⟩:∃ y,y=lg ys k:=⟨_,rfl⟩
    have k1:∀ W,Nt W (.slice a1 xs.length q1) xs→Calls Tryz.prog 116 #[.slice a1 xs.length q1,.int .i64 (k:Int)] W fun e w'=>e=.returned (.int .u64 (x:Int))∧w'=W:=fun W h=>by rw[hx];exact Tryz.pairsAt h k
    have k2:∀ W,Nt W (.slice a2 ys.length q2) ys→Calls Tryz.prog 116 #[.slice a2 ys.length q2,.int .i64 (k:Int)] W fun e w'=>e=.returned (.int .u64 (y:Int))∧w'=W:=fun W h=>by rw[hy];exact Tryz.pairsAt h k
    rw[← hx,← hy]at hy0
    have K1:=Lib.hid k1
    have K2:=Lib.hid k2
    have N1:=Lib.hid n1
    have N2:=Lib.hid n2
    have HY:=Lib.hid hy0
    clear hx hy k1 k2 n1 n2 hy0
    have hkI:(k:Int) < (xs.length:Int):=by omega
    clear hcan hal hdr hY h0
    gi_wp2
    refine wpIn_region_tailC open_wide 9 (by kernel_rfl) (by kernel_rfl) (by kernel_rfl) ?_
    simp only[List.take_succ_cons,List.take_zero,List.drop_succ_cons,List.drop_zero]
    iterate 4 still_step
    refine wpStill_step (fun K hK=>?_)
    go_simp
    refine⟨_,K1.out _ (N1.out.ext (Ext.drew1 _)),hK _ ?_⟩
    clear hK K
    iterate 3 still_step
    refine wpStill_step (fun K hK=>?_)
    go_simp
    refine⟨_,K2.out _ (N2.out.ext (Ext.drew1 _)),hK _ ?_⟩
    clear hK K
    refine wpStill_nil ?_
    obtain⟨fn,tmps,assign,body,hy,hR⟩:=HY.out
    gi_wp2
    refine hR.mono ?_
    rintro e W3 (⟨rfl,hJ3⟩ | ⟨rfl,hJx3⟩)
    ·clear hy hR HY
     gi_wp2
     go_roundw
     case rel=>exact⟨k+1,by omega,by go_num,hJ3⟩
     case measure=>simp[intOf];omega
    ·clear hy hR HY
     gi_wp2
     refine bodyPost_ret (results_none rfl _ _ _) rfl ?_
     exact⟨⟨_,rfl⟩,.inr ⟨k,hlt,hJx3⟩⟩
   ·obtain rfl:k=xs.length:=by omega
    have hkI:¬ ((xs.length:Int) < (xs.length:Int)):=by omega
    clear hcan hal hdr hY h0
    gi_wp2
    go_end0
    exact⟨⟨_,rfl⟩,.inl hJ⟩
end Go.Rt
namespace Go.Rt
open Go.RowKit Go.Shelf Go.Proofs
attribute [local go_sem] Oper.semAt_some
theorem append_one_in {F:Fence} {n:Nat} {P:Program} {t e:TypeId} (ht:P.underlying t=some (.slice e)) (hi:InfoU P e) {w:World} {ops:Array Oper} {rest:List Oper} {o:Oper} {a:Act} {Q:Exit→Act→World→Prop} (hgd:o.guard=none) (s x:Operand)
  (ho:o.op=.call { callee:=.builtin .append,args:=#[s,x],argTypes:=#[t,t] }) (base:Nat) (v:Value) (xs:List Nat) (y:Nat) (Y:Int)
  (hs:a.eval s=v) (hx:a.eval x=.slice (some ⟨w.heap.size,0,none⟩) 1 1) (hown:Own w base e v xs) (hy:Y=(y:Int)) (hlen:xs.length≤1099511627776) (hb:base≤w.heap.size)
  (h:∀ v' w',Own w' base e v' (xs++[y])→(w.alloc (.cells #[.int .u64 Y] e)).grownBy w' v.ownBlock→wpListIn F n P ops Q rest (a.put o.dst v') w'):
  wpListIn F n P ops Q (o :: rest) a (w.alloc (.cells #[.int .u64 Y] e)):=by
 obtain⟨i0,h1,h2,h3,h4⟩:=info_parts hi
 subst hy
 refine wpListIn_append_own _ hgd s x t ho base e i0 (.int .u64 0) 1 8 ht h1 h2 h3 h4 rfl (by decide) v xs.length (xs.map U) hs (World.ownsRow.alloc hown _) ⟨w.heap.size,0,none⟩ 1 1 [.int .u64 (y:Int)] hx rfl ?_ ?_ (by simp[maxLen];omega) (by omega) (by simp;omega) ?_
 ·intro j u hj
  match j,hj with
  | 0,hj=>simp at hj;subst hj;simp[Addr.add]
 ·intro u hu;simp at hu;subst hu;rfl
 ·intro v' w' ho' hg' _
  refine h v' w' ?_ hg'
  have:(xs.map U++[.int .u64 (y:Int)])=(xs++[y]).map U:=by simp[U]
  unfold Own
  rw[← this,List.length_append]
  exact ho'
theorem Tryz.pairs_ok (a1 a2:Option Addr) (n1 c1 n2 c2:Nat) (w:World):Calls Tryz.prog 107 #[.slice a1 n1 c1,.slice a2 n2 c2] w fun e w'=>
  e=.returned (.func (.func 117) #[] #[.pointer (some ⟨w.heap.size,0,none⟩),.pointer (some ⟨w.heap.size+1,0,none⟩),.pointer (some ⟨w.heap.size+1+1,0,none⟩)]) ∧
  ((w.alloc (.cells #[.slice a1 n1 c1] 41)).alloc (.cells #[.slice a2 n2 c2] 41)).alloc (.cells #[.func (.func 116) #[] #[]] 87)=w':=by
 have hmf:∀ (fn:Fn) (first cap:Array Value) (w:World),(Instr.makeFunc fn first cap).run Tryz.prog w=.ok (.func fn first cap) w:=fun _ _ _ _=>rfl
 go_enter Tryz.func107,Tryz.ntmps107
 go_wp2
 go_ret
 exact⟨rfl,rfl⟩
def addI (w:World) (B:Nat) (tN tU tF:TypeId) (at':Nat) (va vb:Value) (xs ys:List Nat) (k:Nat) (W:World):Prop:=
 Ext w W∧Boxed W B tN va∧Boxed W (B+1) tN vb∧Boxed W (B+1+1) tF (.func (.func at') #[] #[]) ∧
 ∃ (vo:Value) (l:List Nat) (c:Nat),Boxed W w.heap.size tN vo∧Boxed W (w.heap.size+1) tU (.int .u64 (c:Int))∧Own W (w.heap.size+1+1) tU vo l ∧
  Hid (Lim B64 l∧l.length=k∧c≤1∧ev B64 l+B64^k*c=ev B64 (xs.take k)+ev B64 (ys.take k))
theorem addI_turns {w:World} {B:Nat} {tN tU tF:TypeId} {at':Nat} {va vb:Value} {xs ys:List Nat} (D:Nat) (hD:w.heap.size≤D) (k:Nat):Turns D (addI w B tN tU tF at' va vb xs ys k):=
 (Turns.ext hD).and ((Turns.box _ _ _ _).and ((Turns.box _ _ _ _).and ((Turns.box _ _ _ _).and (Turns.ex fun _=>Turns.ex fun _=>Turns.ex fun _=>(Turns.box _ _ _ _).and ((Turns.box _ _ _ _).and (Turns.own.and (Turns.pure _ _)))))))
theorem addI_alloc {w:World} {B:Nat} {tN tU tF:TypeId} {at':Nat} {va vb:Value} {xs ys:List Nat} {k:Nat} {W:World} (h:addI w B tN tU tF at' va vb xs ys k W) (o:Obj):addI w B tN tU tF at' va vb xs ys k (W.alloc o):=
 ⟨h.1.alloc o,h.2.1.alloc o,h.2.2.1.alloc o,h.2.2.2.1.alloc o,let ⟨vo,l,c,p1,p2,p3,p4⟩:=h.2.2.2.2;⟨vo,l,c,p1.alloc o,p2.alloc o,p3.alloc o,p4⟩⟩
theorem Own.cells {w:World} {base e:Nat} {v:Value} {xs:List Nat} (h:Own w base e v xs):∀ k,v.ownBlock=.some k→∃ o:Obj,w.heap[k]? = .some o∧o.isCells=true:=by
 intro k hk
 rcases h.2 with ⟨h,_⟩ | ⟨g',cap',cur,h,_,hb',_⟩
 ·rw[h]at hk;cases hk
 ·rw[h]at hk
  injection hk with hk
  exact⟨_,by rw[← hk];exact hb',rfl⟩
set_option maxRecDepth 100000 in
set_option maxHeartbeats 2000000 in
theorem Tryz.natAdd {v1 v2:Value} {N M L:Nat} {w:World} (h1:Nw w v1 N) (h2:Nw w v2 M) (s1:Sm L N) (s2:Sm L M) (hL:L≤10000000):
  Calls Tryz.prog 80 #[v1,v2] w fun e w'=>∃ v',e=.returned v'∧Nw w' v' (N+M)∧Ext w w'∧Fr w v':=by
 obtain⟨xs,hx,hxn,rfl,hxl⟩:=h1.lens s1
 obtain⟨ys,hy,hyn,rfl,hyl⟩:=h2.lens s2
 have hx':=hx
 have hy':=hy
 obtain⟨a1,b1,o1,c1,rfl,hs1,hl1⟩:=hx
 obtain⟨a2,b2,o2,c2,rfl,hs2,hl2⟩:=hy
 obtain⟨n,hn⟩:∃ n,n=max xs.length ys.length:=⟨_,rfl⟩
 have hxn':xs.length≤n:=by omega
 have hyn':ys.length≤n:=by omega
 have hnL:n≤L:=by omega
 have HN:=Lib.hid hn
 obtain⟨va,hva⟩:∃ va,va=Value.slice a1 xs.length c1:=⟨_,rfl⟩
 obtain⟨vb,hvb⟩:∃ vb,vb=Value.slice a2 ys.length c2:=⟨_,rfl⟩
 rw[← hva]at hx'
 rw[← hvb]at hy'
 have HVA:=Lib.hid hva
 have HVB:=Lib.hid hvb
 clear hs1 hs2 hn h1 h2 s1 s2 hxn hyn hva hvb
 refine(callsIn_wide (n:=10)).1 ?_
 refine callsIn_of_wp_marks Tryz.func80 rfl trivial ?_ rfl
 simp only[Tryz.ntmps80,List.size_toArray,List.length_cons,List.length_nil,Nat.reduceAdd,Nat.reduceSub,Array.replicate_succ,Array.replicate_zero,List.push_toArray,List.append_toArray,List.nil_append,List.cons_append]
 refine wpIn_wide.2 ?_
 go_wp2_with fail
 refine(Tryz.pairs_ok _ _ _ _ _ _ _).mono ?_
 rintro e w' ⟨rfl,rfl⟩
 go_wp2_with fail
 refine(wpIn_wide (n:=10)).1 ?_
 rw[← HVA.out,← HVB.out]
 obtain⟨W0,hW0⟩:∃ W0,W0=(((((w.alloc (.cells #[.slice none 0 0] 41)).alloc (.cells #[.int .u64 0] 61)).alloc (.cells #[va] 41)).alloc (.cells #[vb] 41)).alloc (.cells #[.func (.func 116) #[] #[]] 87)):=⟨_,rfl⟩
 have b0:=((((Boxed.new w 41 (.slice none 0 0)).alloc (.cells #[.int .u64 0] 61)).alloc (.cells #[va] 41)).alloc (.cells #[vb] 41)).alloc (.cells #[.func (.func 116) #[] #[]] 87)
 have b1:=(((Boxed.new (w.alloc (.cells #[.slice none 0 0] 41)) 61 (.int .u64 0)).alloc (.cells #[va] 41)).alloc (.cells #[vb] 41)).alloc (.cells #[.func (.func 116) #[] #[]] 87)
 have b2:=((Boxed.new ((w.alloc (.cells #[.slice none 0 0] 41)).alloc (.cells #[.int .u64 0] 61)) 41 va).alloc (.cells #[vb] 41)).alloc (.cells #[.func (.func 116) #[] #[]] 87)
 have b3:=(Boxed.new (((w.alloc (.cells #[.slice none 0 0] 41)).alloc (.cells #[.int .u64 0] 61)).alloc (.cells #[va] 41)) 41 vb).alloc (.cells #[.func (.func 116) #[] #[]] 87)
 have b4:=Boxed.new ((((w.alloc (.cells #[.slice none 0 0] 41)).alloc (.cells #[.int .u64 0] 61)).alloc (.cells #[va] 41)).alloc (.cells #[vb] 41)) 87 (.func (.func 116) #[] #[])
 have E0:Ext w W0:=by rw[hW0];exact((((Ext.alloc1 w _).alloc _).alloc _).alloc _).alloc _
 simp only[World.size_alloc]at b1 b2 b3 b4
 rw[← hW0]at b0 b1 b2 b3 b4 ⊢
 have hsz:W0.heap.size=w.heap.size+1+1+1+1+1:=by rw[hW0];simp
 clear hW0
 have hI0:addI w (w.heap.size+1+1) 41 61 87 116 va vb xs ys 0 W0:=
  ⟨E0,b2,b3,b4,.slice none 0 0,[],0,b0,b1,Own.nil _ _ _,Lib.hid ⟨Lim.nil _,rfl,by omega,by simp⟩⟩
 clear b0 b1 b2 b3 b4 E0
 refine wpIn_range (gf:=117) (lb:=#[.pointer (some ⟨w.heap.size+1+1,0,none⟩),.pointer (some ⟨w.heap.size+1+1+1,0,none⟩),.pointer (some ⟨w.heap.size+1+1+1+1,0,none⟩)]) rfl (enters_of Tryz.func117 (by kernel_rfl) rfl)
  (Tryz.pairs_iter (w.heap.size+1+1) (w.heap.size+1+1+1) (w.heap.size+1+1+1+1) va vb xs ys) (fun _=>rfl)
  (addI w (w.heap.size+1+1) 41 61 87 116 va vb xs ys) shrX (fun k=>addI_turns _ (by omega) k) (fun _ _=>Turns.pure _ _)
  (fun k W o h=>addI_alloc h o) (fun _ _ h=>⟨h.1.drew,h.2⟩) hI0 ?can ?round ?done ?stop
 case can=>
  rintro k W hk ⟨hE,p0,p1,p2,_⟩
  exact⟨p0.cell,p1.cell,p2.cell,hx'.ext hE,hy'.ext hE⟩
 case stop=>
  rintro D c k W hD hk hX
  exact hX.elim
 case round=>
  intro l k W hk _
  simp only[pairVals]
  obtain⟨x,hx⟩:∃ x,x=lg xs k:=⟨_,rfl⟩
  obtain⟨y,hy⟩:∃ y,y=lg ys k:=⟨_,rfl⟩
  rw[← hx,← hy]
  have HX:=Lib.hid hx
  have HY:=Lib.hid hy
  clear hx hy
  simp only[fold2,List.setIfInBounds_toArray,List.set_cons_succ,List.set_cons_zero]
  gi_wp2
  refine roundThen.mk ?_
  rintro W2 ⟨hE,pa,pb,pt,vo,lo,c,p0,p1,po,hH⟩
  obtain⟨e1,e2,e3,e4⟩:=hH.out
  have hx:=HX.out
  have hy:=HY.out
  obtain⟨s,hs⟩:∃ s,s=(x+y+c) % B64:=⟨_,rfl⟩
  obtain⟨d,hd⟩:∃ d,d=(x+y+c) / B64:=⟨_,rfl⟩
  have hadd:∀ W,(callFunc 105 #[.int .u64 (x:Int),.int .u64 (y:Int),.int .u64 (c:Int)]).run Tryz.prog W=.ok (.value (.tuple #[.int .u64 (s:Int),.int .u64 (d:Int)])) W:=fun W=>Tryz.add64 e3 hs hd W
  have hsb:s < B64:=by rw[hs];exact Nat.mod_lt _ B64_pos
  have hst:=add_step (b:=B64) (l:=lo) (x:=xs) (y:=ys) (k:=k) (c:=c) e2 e4
  have hd1:d≤1:=by
   have h1:=lg_lt hl1 k
   have h2:=lg_lt hl2 k
   rw[hd,hx,hy]
   have:(lg xs k+lg ys k+c) / B64 < 2:=by rw[Nat.div_lt_iff_lt_mul B64_pos];omega
   omega
  have HH:Hid (Lim B64 (lo++[s])∧(lo++[s]).length=k+1∧d≤1∧ev B64 (lo++[s])+B64^(k+1)*d=ev B64 (xs.take (k+1))+ev B64 (ys.take (k+1))):=
   Lib.hid ⟨e1.snoc hsb,by simp[e2],hd1,by rw[hs,hd,hx,hy];exact hst⟩
  have hll:lo.length≤1099511627776:=by rw[e2];have:=HN.out;omega
  have hcc:=p1.cell
  have hcf:=p1.frozen
  have hco:=p0.cell
  have hEs:w.heap.size+1+1≤W2.heap.size:=by have:=pb.lt;omega
  clear e1 e2 e3 e4 hs hd hst hx hy hH
  gi_wp2_with (first | (refine⟨trivial,?_⟩;go_simp) | (refine append_one_in Tryz.underlying41 Tryz.infoU rfl _ _ rfl (w.heap.size+1+1) vo lo s _ (by rfl) (by rfl) po (by rfl) hll hEs ?_;intro v' w5 hown5 hgrow5;obtain⟨g5,c5,rfl,-,-,-⟩:=hown5.some (by simp);have p05:=(p0.alloc (.cells #[.int .u64 (s:Int)] 61)).kept hgrow5 (p0.not_row (by decide) po);have hf5:=p05.frozen;have hc5:=p05.cell;have p15:=(p1.alloc (.cells #[.int .u64 (s:Int)] 61)).kept hgrow5 (fun e=>by have:=po.lt _ e.symm;omega);have hf6:=p15.frozen;have hc6:=p15.cell))
  have hl5:(lo++[s]).length=lo.length+1:=by simp
  rw[hl5]at hown5
  have po1:=po.alloc (.cells #[.int .u64 (s:Int)] 61)
  have hgr:∀ j,vo.ownBlock=some j→w.heap.size≤j:=fun j e=>by have:=po.lt j e;omega
  refine⟨?_,?_,?_,?_,?_,.slice (some ⟨g5,0,none⟩) (lo.length+1) c5,lo++[s],d,(p05.set _).other (by omega) _,?_,?_,HH⟩
  ·exact(((KeepsFrom.alloc1 _ _ _).trans (KeepsFrom.grown hgrow5 po1.cells)).trans (KeepsFrom.setCell1 _ _ _ _)).trans (KeepsFrom.setCell1 _ _ _ _)
  ·exact(((hE.alloc _).grown hgrow5 hgr).setCell (p:=⟨w.heap.size,0,none⟩) (Nat.le_refl _) _).setCell (p:=⟨w.heap.size+1,0,none⟩) (by show _≤w.heap.size+1;omega) _
  ·exact(((pa.alloc _).kept hgrow5 (pa.not_row (by decide) po)).other (by omega) _).other (by omega) _
  ·exact(((pb.alloc _).kept hgrow5 (pb.not_row (by decide) po)).other (by omega) _).other (by omega) _
  ·exact(((pt.alloc _).kept hgrow5 (pt.not_row (by decide) po)).other (by omega) _).other (by omega) _
  ·exact(box_off (p:=⟨w.heap.size,0,none⟩) p15 (by show w.heap.size≠_;omega) _).set _
  ·have:=hown5.lt g5 rfl
   exact(hown5.kept (grownBy_setCell' _ w.heap.size _) (.inr (by simp[Value.ownBlock];omega))).kept (grownBy_setCell' _ (w.heap.size+1) _) (.inr (by simp[Value.ownBlock];omega))
 case done=>
  rintro D W hD ⟨hE,-,-,-,vo,lo,c,p0,p1,po,hH⟩ hK
  obtain⟨e1,e2,e3,e4⟩:=hH.out
  rw[← HN.out]at e2 e4
  obtain⟨m,hm⟩:∃ m,m=c:=⟨_,rfl⟩
  have hcb:c < B64:=Nat.lt_of_le_of_lt e3 (by rw[B64_eq];omega)
  have hev:ev B64 (lo++[c])=ev B64 xs+ev B64 ys:=by
   rw[ev_snoc,e2]
   rwa [List.take_of_length_le hxn',List.take_of_length_le hyn']at e4
  have hlim:=e1.snoc hcb
  have hll:lo.length≤1099511627776:=by rw[e2];omega
  have hcc:=p1.cell
  have hco:=p0.cell
  have hEs:w.heap.size+1+1≤W.heap.size:=by have:=p1.lt;omega
  have HEV:=Lib.hid hev
  clear e1 e2 e3 e4 hev hI0 hm hH
  go_wp2_with (at_builtin;go_loud (refine append_one Tryz.underlying41 Tryz.infoU rfl _ _ rfl (w.heap.size+1+1) vo lo c _ (by rfl) (by rfl) po (by rfl) hll hEs ?_);intro v' w5 hown5 hgrow5)
  have hgr:∀ j,vo.ownBlock=some j→w.heap.size≤j:=fun j e=>by have:=po.lt j e;omega
  have E5:=(hE.alloc _).grown hgrow5 hgr
  have hK5:w5.heap[D]? = some (.deferred (some [])):=by
   have h1:(W.alloc (.cells #[.int .u64 (c:Int)] 61)).heap[D]? = some (.deferred (some [])):=(Below.heap_alloc _ _ _ (Array.getElem?_eq_some_iff.1 hK).1).trans hK
   exact(hgrow5.block D (Array.getElem?_eq_some_iff.1 h1).1 (fun e=>by
    obtain⟨o,ho,hc⟩:=(po.alloc (.cells #[.int .u64 (c:Int)] 61)).cells D e.symm
    rw[h1]at ho;cases ho;cases hc)).trans h1
  have hnt:=hown5.nt hlim
  refine(Tryz.natBare hnt).mono ?_
  rintro e w' ⟨v2,rfl,hn2,rfl,hob⟩
  rw[HEV.out]at hn2
  go_wp2
  refine post_mark hK5 (results_tmp rfl _ _ _) ⟨_,rfl,hn2.putObj hK5 rfl,E5.putObj (l:=D) (by omega) (.deferred none),fun k hk=>?_⟩
  have:=hown5.lt k (hob ▸ hk)
  omega
end Go.Rt
namespace Go.Rt
open Go.RowKit Go.Proofs
theorem limb_prod {o x y cc h l l1 c1 l2 c2 n:Nat} (hn:n=o+x*y+cc) (hh:h=x*y / B64) (hl:l=x*y % B64) (h1:l1=(l+o+0) % B64) (d1:c1=(l+o+0) / B64) (h2:l2=(l1+cc+0) % B64) (d2:c2=(l1+cc+0) / B64) (hb:n < B64*B64):
  l2=n % B64∧h+c1+c2=n / B64∧h+c1 < B64∧h+c1+c2 < B64:=by
 have e0:x*y=h*B64+l:=by rw[hh,hl];exact(Nat.div_add_mod' _ _).symm
 have e1:l+o+0=c1*B64+l1:=by rw[d1,h1];exact(Nat.div_add_mod' _ _).symm
 have e2:l1+cc+0=c2*B64+l2:=by rw[d2,h2];exact(Nat.div_add_mod' _ _).symm
 have lt2:l2 < B64:=by rw[h2];exact Nat.mod_lt _ B64_pos
 have en:n=l2+B64*(h+c1+c2):=by
  rw[hn,e0,Nat.mul_add,Nat.mul_add,Nat.mul_comm B64 h,Nat.mul_comm B64 c1,Nat.mul_comm B64 c2];omega
 have hlt:h+c1+c2 < B64:=by
  have:B64*(h+c1+c2) < B64*B64:=by omega
  exact Nat.lt_of_mul_lt_mul_left this
 refine⟨?_,?_,by omega,hlt⟩
 ·rw[en,Nat.add_mul_mod_self_left,Nat.mod_eq_of_lt lt2]
 ·rw[en,Nat.add_mul_div_left _ _ B64_pos,Nat.div_eq_of_lt lt2,Nat.zero_add]
set_option maxRecDepth 100000 in
set_option maxHeartbeats 2000000 in
theorem Tryz.natMul {v1 v2:Value} {N M L1 L2:Nat} {w:World} (h1:Nw w v1 N) (h2:Nw w v2 M) (s1:Sm L1 N) (s2:Sm L2 M) (hL:L1+L2≤10000000):
  Calls Tryz.prog 81 #[v1,v2] w fun e w'=>∃ v',e=.returned v'∧Nw w' v' (N*M)∧Ext w w'∧Fr w v':=by
 obtain⟨x,t1,n1,rfl,l1⟩:=h1.lens s1
 obtain⟨y,t2,n2,rfl,l2⟩:=h2.lens s2
 obtain⟨a1,b1,o1,c1,rfl,hs1,hl1⟩:=t1
 obtain⟨a2,b2,o2,c2,rfl,hs2,hl2⟩:=t2
 have hm1:=hs1.max
 have hle1:=hs1.le
 have hm2:=hs2.max
 have hle2:=hs2.le
 clear h1 h2 n1 n2 s1 s2
 go_enter Tryz.func81,Tryz.ntmps81
 go_wp2_with (at_make;go_loud (refine make_full Tryz.underlying41 Tryz.infoU rfl _ _ rfl w.heap.size (x.length+y.length) _ _ (by rfl) (by rfl) (by omega) (by omega) (by omega) (by omega) ?_);intro w3 hown0 hgrow0)
 have hE3:Ext w w3:=(Ext.refl w).grown hgrow0 (fun k e=>by cases e)
 have hg3:=hown0.head.2
 clear hgrow0
 go_loopw [6,7,8,9,10,11,12,13,22] (fun _ _ _ _ _ _ _ _ i wr=>∃ (k:Nat) (out:List Nat),i=.int .i64 (k:Int)∧k≤x.length∧Own wr w.heap.size 61 (.slice (some ⟨w.heap.size,0,none⟩) (x.length+y.length) (x.length+y.length)) out∧Lim B64 out∧Hid (out.length=x.length+y.length)∧Hid (∀ j,k+y.length≤j→out.getD j 0=0)∧Hid (ev B64 out=ev B64 (x.take k)*ev B64 y)∧Ext w wr) (fun _ _ _ _ _ _ _ _ i _=>x.length - (intOf i).toNat)
 case atStart=>exact⟨0,_,rfl,by omega,hown0,Lim.zeros B64_pos _,Lib.hid (by simp),Lib.hid (fun j _=>by simp[List.getElem?_replicate];split <;> simp),Lib.hid (by rw[ev_zeros];simp),hE3⟩
 case round=>
  obtain⟨i,out,rfl,hi,hown,hlim,hlen,hz,hev,hEr⟩:=hrel
  by_cases hlt:i < x.length
  ·obtain rfl:a1=some ⟨b1,o1,none⟩:=hs1.addr (by omega)
   have bx:lg x i < B64:=hl1.getD B64_pos _
   have hcx:=(hs1.ext hEr).cell hlt
   have hi0:(0:Int)≤(i:Int):=by omega
   have hiI:(i:Int) < (x.length:Int):=by omega
   obtain⟨xi,hxi⟩:∃ t,t=lg x i:=⟨_,rfl⟩
   rw[← hxi]at hcx bx
   have HXI:=Lib.hid hxi
   clear hxi
   go_wp2_with fail
   go_loopw [8,9,10,11,12,13,29] (fun c _ _ _ _ _ q wq=>∃ (k cc:Nat) (ou:List Nat),q=.int .i64 (k:Int)∧c=.int .u64 (cc:Int)∧k≤y.length∧cc < B64∧Own wq w.heap.size 61 (.slice (some ⟨w.heap.size,0,none⟩) (x.length+y.length) (x.length+y.length)) ou∧Lim B64 ou∧Hid (ou.length=x.length+y.length)∧Hid (∀ j,i+y.length≤j→ou.getD j 0=0)∧Hid (ev B64 ou+B64^(i+k)*cc=ev B64 (x.take i)*ev B64 y+B64^i*(x.getD i 0*ev B64 (y.take k)))∧Ext w wq) (fun _ _ _ _ _ _ q _=>y.length - (intOf q).toNat)
   case atStart=>exact⟨0,0,out,rfl,rfl,by omega,B64_pos,hown,hlim,hlen,hz,Lib.hid (by rw[hev.out];simp),hEr⟩
   case round=>
    obtain⟨k,cc,ou,rfl,rfl,hk,hcc,hown2,hlim2,hlen2,hz2,hev2,hEq⟩:=hrel
    by_cases hlk:k < y.length
    ·obtain rfl:a2=some ⟨b2,o2,none⟩:=hs2.addr (by omega)
     have hcy:=(hs2.ext hEq).cell hlk
     have hco:=hown2.cellAt (i:=i+k) (by rw[hlen2.out];omega)
     have hfo:=hown2.frozenAt (i+k)
     have bo:lg ou (i+k) < B64:=hlim2.getD B64_pos _
     have by':lg y k < B64:=hl2.getD B64_pos _
     obtain⟨yk,hyk⟩:∃ t,t=lg y k:=⟨_,rfl⟩
     obtain⟨o,ho⟩:∃ t,t=lg ou (i+k):=⟨_,rfl⟩
     rw[← hyk]at hcy by'
     rw[← ho]at hco bo
     obtain⟨n,hn⟩:∃ n:Nat,n=o+xi*yk+cc:=⟨_,rfl⟩
     have hnB:=mul_lt bo bx by' hcc hn
     obtain⟨h,hh⟩:∃ h,h=xi*yk / B64:=⟨_,rfl⟩
     obtain⟨l,hl⟩:∃ l,l=xi*yk % B64:=⟨_,rfl⟩
     have hmul:∀ W,Calls Tryz.prog 104 #[.int .u64 (xi:Int),.int .u64 (yk:Int)] W fun e w'=>W=w'∧e=.returned (.tuple #[.int .u64 (h:Int),.int .u64 (l:Int)]):=fun W=>Tryz.mul64 bx by' hh hl W
     obtain⟨la,hla⟩:∃ s,s=(l+o+0) % B64:=⟨_,rfl⟩
     obtain⟨ca,hca⟩:∃ d,d=(l+o+0) / B64:=⟨_,rfl⟩
     obtain⟨lb,hlb⟩:∃ s,s=(la+cc+0) % B64:=⟨_,rfl⟩
     obtain⟨cb,hcb⟩:∃ d,d=(la+cc+0) / B64:=⟨_,rfl⟩
     have hadd1:∀ W,(callFunc 105 #[.int .u64 (l:Int),.int .u64 (o:Int),.int .u64 0]).run Tryz.prog W=.ok (.value (.tuple #[.int .u64 (la:Int),.int .u64 (ca:Int)])) W:=fun W=>Tryz.add64 (c:=0) (by omega) hla hca W
     have hadd2:∀ W,(callFunc 105 #[.int .u64 (la:Int),.int .u64 (cc:Int),.int .u64 0]).run Tryz.prog W=.ok (.value (.tuple #[.int .u64 (lb:Int),.int .u64 (cb:Int)])) W:=fun W=>Tryz.add64 (c:=0) (by omega) hlb hcb W
     obtain⟨p1,p2,p3,p4⟩:=limb_prod hn hh hl hla hca hlb hcb hnB.1
     have hw1:IntKind.u64.wrap ((h:Int)+(ca:Int))=((h+ca:Nat):Int):=wadd _ _ p3
     have hw2:IntKind.u64.wrap (((h+ca:Nat):Int)+(cb:Int))=((h+ca+cb:Nat):Int):=wadd _ _ p4
     obtain⟨s1,hs1'⟩:∃ s,s=h+ca:=⟨_,rfl⟩
     obtain⟨s2,hs2'⟩:∃ s,s=h+ca+cb:=⟨_,rfl⟩
     rw[← hs2']at hw2 p2 p4
     rw[← hs1']at hw1 hw2
     have HN:Hid (n=ou.getD (i+k) 0+x.getD i 0*y.getD k 0+cc):=Lib.hid (by rw[hn,ho,HXI.out,hyk];rfl)
     have HP1:=Lib.hid p1
     have HP2:=Lib.hid p2
     have lb64:lb < B64:=by rw[hlb];exact Nat.mod_lt _ B64_pos
     have hk0:(0:Int)≤(k:Int):=by omega
     have hkI:(k:Int) < (y.length:Int):=by omega
     clear hn hh hl hla hca hlb hcb p1 p2 p3 hs1' hs2' hyk ho hnB hs1 hs2 hcx
     go_wp2_with (first | (go_at_call 104;refine(hmul _).mono ?_;rintro e w' ⟨rfl,rfl⟩))
     go_roundw
     case rel=>
      refine⟨k+1,s2,ou.set (i+k) lb,by go_num,rfl,by omega,p4,?_,hlim2.set lb64 _,Lib.hid (by rw[List.length_set];exact hlen2.out),Lib.hid (fun j hj=>?_),Lib.hid ?_,?_⟩
      ·exact Own.stored (xs:=ou) hown2 (i+k) lb rfl
      ·rw[getD_set_ne (by omega)];exact hz2.out j hj
      ·have h:=mul_step (by rw[hlen2.out];omega) hev2.out HN.out
       rw[← HP1.out,← HP2.out]at h
       exact h
      ·exact hEq.setCell (Nat.le_refl _) _
     case measure=>simp[intOf];omega
    ·obtain rfl:k=y.length:=by omega
     have hco:=hown2.cellAt (i:=i+y.length) (by rw[hlen2.out];omega)
     have hfo:=hown2.frozenAt (i+y.length)
     clear hs1 hs2 hcx
     go_wp2
     go_roundw
     case rel=>
      have hl:=hlen2.out
      refine⟨i+1,ou.set (i+y.length) cc,by go_num,by omega,?_,hlim2.set hcc _,Lib.hid (by rw[List.length_set];exact hl),Lib.hid (fun j hj=>?_),Lib.hid ?_,?_⟩
      ·exact Own.stored (xs:=ou) hown2 (i+y.length) cc rfl
      ·rw[getD_set_ne (by omega)];exact hz2.out j (by omega)
      ·exact mul_row (by omega) (hz2.out _ (Nat.le_refl _)) hev2.out
      ·exact hEq.setCell (Nat.le_refl _) _
     case measure=>simp[intOf];omega
  ·obtain rfl:i=x.length:=by omega
   have hfin:ev B64 out=ev B64 x*ev B64 y:=by
    have h:=hev.out
    rwa [List.take_length]at h
   have HF:=Lib.hid hfin
   have hn0:=hown.nt hlim
   have hfr:=hown.fr
   clear hfin hs1 hs2
   go_wp2_with (go_at_call 68;refine(Tryz.natBare hn0).mono ?_;rintro e w' ⟨v',rfl,hn,rfl,hob⟩)
   go_ret
   rw[HF.out]at hn
   exact⟨_,rfl,hn,hEr,fun j hj=>hfr j (hob ▸ hj)⟩
end Go.Rt
