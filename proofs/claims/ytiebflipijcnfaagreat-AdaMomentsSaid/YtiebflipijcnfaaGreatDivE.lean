/-
 div.short: a number by one limb.
-/
import Derived.Test.YtiebflipijcnfaaGreatDiv64
import Derived.Test.YtiebflipijcnfaaGreatGC
import Derived.Test.YtiebflipijcnfaaGreatPhase
namespace Go.Rt
open Go.RowKit Go.Shelf Go.Proofs
attribute [local go_sem] Oper.semAt_some
theorem make_in {F:Fence} {m:Nat} {P:Program} {t e:TypeId} (ht:P.underlying t=some (.slice e)) (hi:InfoU P e) {w:World} {ops:Array Oper} {rest:List Oper} {o:Oper} {a:Act} {Q:Exit→Act→World→Prop} (hgd:o.guard=none) (x c:Operand)
  (ho:o.op=.makeSlice t x c) (base n:Nat) (X C:Int) (hl:a.eval x=.int .i64 X) (hc:a.eval c=.int .i64 C) (hL:X=(n:Int)) (hC:C=(n:Int)) (hn:n≤1099511627776) (hb:base≤w.heap.size)
  (h:∀ w',Own w' base e (.slice (.some ⟨w.heap.size,0,none⟩) n n) (List.replicate n 0)→w.grownBy w' none→wpListIn F m P ops Q rest (a.put o.dst (.slice (.some ⟨w.heap.size,0,none⟩) n n)) w'):
  wpListIn F m P ops Q (o :: rest) a w:=by
 obtain⟨i0,h1,h2,h3,h4⟩:=info_parts hi
 subst hL
 subst hC
 refine wpListIn_plain hgd fun K hK'=>?_
 have hr:=run_make (P:=P) w t e i0 (.int .u64 0) ht h1 h2 .i64 .i64 (n:Int) (n:Int) (by omega) (by omega) (by rw[h4];omega) (by omega)
 simp only[Int.toNat_natCast,h3,Nat.mul_one]at hr
 have ho':Own (w.alloc (.cells (madeCells (Value.int .u64 0).cells n) e)) base e (.slice (.some ⟨w.heap.size,0,none⟩) n n) (List.replicate n 0):=by
  refine⟨by simp,.inr ⟨w.heap.size,n,_,by simp,hb,heap_alloc_new w _,by simp,by simp[maxLen];omega,by rw[size_madeCells,Nat.mul_one],?_⟩⟩
  rw[show (madeCells (Value.int .u64 0).cells n).toList=List.replicate n (U 0) from toList_madeCells_one _ _,List.map_replicate,List.length_replicate,Nat.mul_one,List.take_replicate,Nat.min_eq_left (Nat.le_refl _)]
 refine⟨fun f hf=>(by unfold Oper.about at hf;rw[ho]at hf;cases hf),?_⟩
 rw[Oper.semAt_plain _ _ _ (fun c hc=>by rw[ho]at hc;cases hc)]
 simp[execOp,ho,hl,hc,hr,Result.andThen,Oper.uponIn]
 exact hK' _ _ (h _ ho' (World.grownBy_alloc w _ none))
theorem short_step {Z1 x d:Nat} (hd:0 < d) (hx:x < B64):
  (Z1 % d*B64+x) / d=(Z1*B64+x) / d % B64∧(Z1 % d*B64+x) % d=(Z1*B64+x) % d:=by
 have h1:=Nat.div_add_mod Z1 d
 have hr:Z1 % d < d:=Nat.mod_lt _ hd
 generalize hq:Z1 / d=q at *
 generalize Z1 % d=r at *
 have e:Z1*B64+x=r*B64+x+d*(q*B64):=by rw[← h1,Nat.add_mul,Nat.mul_assoc];omega
 rw[e,Nat.add_mul_div_left _ _ hd,Nat.add_mul_mod_self_left,Nat.add_mul_mod_self_right]
 refine⟨(Nat.mod_eq_of_lt ?_).symm,rfl⟩
 rw[Nat.div_lt_iff_lt_mul hd]
 have:(r+1)*B64≤d*B64:=Nat.mul_le_mul_right _ hr
 rw[Nat.add_mul,Nat.one_mul]at this
 rw[Nat.mul_comm B64 d]
 omega
def shortI (w:World) (B:Nat) (tN tU:TypeId) (vo vx:Value) (xs:List Nat) (d k:Nat) (W:World):Prop:=
 Ext w W∧Boxed W w.heap.size tU (.int .u64 (d:Int))∧Boxed W B tN vo∧Boxed W (B+1+1) tN vx ∧
 ∃ l:List Nat,Boxed W (B+1) tU (.int .u64 ((ev B64 xs / B64^(xs.length - k) % d:Nat):Int))∧Own W w.heap.size tU vo l∧Hid (l.length=xs.length) ∧
  Hid (∀ j,xs.length - k≤j→j < xs.length→l.getD j 0=ev B64 xs / d / B64^j % B64)
theorem shortI_turns {w:World} {B:Nat} {tN tU:TypeId} {vo vx:Value} {xs:List Nat} {d:Nat} (D:Nat) (hBB:w.heap.size≤D) (k:Nat):Turns D (shortI w B tN tU vo vx xs d k):=
 (Turns.ext hBB).and ((Turns.box _ _ _ _).and ((Turns.box _ _ _ _).and ((Turns.box _ _ _ _).and (Turns.ex fun _=>(Turns.box _ _ _ _).and (Turns.own.and (Turns.pure _ _))))))
set_option maxRecDepth 100000 in
set_option maxHeartbeats 2000000 in
theorem Tryz.divShort {v:Value} {N L:Nat} {w:World} (h:Nw w v N) (s:Sm L N) (hL:L≤1000000) {d:Nat} (hd0:0 < d) (hd:d < B64):
  Calls Tryz.prog 73 #[v,.int .u64 (d:Int)] w fun e w'=>∃ v',e=.returned (.tuple #[v',.int .u64 ((N % d:Nat):Int)])∧Nw w' v' (N / d)∧Ext w w'∧Fr w v':=by
 obtain⟨xs,⟨a,b,o,cap,rfl,hs,hl⟩,hn,rfl,l1⟩:=h.lens s
 clear h s hn
 have hmx:=hs.max
 have hle:=hs.le
 have hmx':cap≤9223372036854775807:=hmx
 refine(callsIn_wide (n:=10)).1 ?_
 refine callsIn_of_wp_marks Tryz.func73 rfl trivial ?_ rfl
 simp only[Tryz.ntmps73,List.size_toArray,List.length_cons,List.length_nil,Nat.reduceAdd,Nat.reduceSub,Array.replicate_succ,Array.replicate_zero,List.push_toArray,List.append_toArray,List.nil_append,List.cons_append]
 gi_wp2_with (first
  | (refine make_in Tryz.underlying41 Tryz.infoU rfl _ _ rfl w.heap.size xs.length _ _ (by rfl) (by rfl) (by rfl) (by rfl) (by omega) (by simp) ?_;intro w1 hown0 hgrow0)
  | (refine⟨trivial,?_⟩;gi_at_call 75;refine(callsIn_wide.2 (Tryz.backward_ok _ _ _ _)).mono ?_;rintro e w' ⟨rfl,rfl⟩))
 have hE1:Ext w w1:=((Ext.refl w).alloc _).grown hgrow0 (fun k e=>by cases e)
 have hE1s:=hE1.size
 have b1:Boxed w1 w.heap.size 61 (.int .u64 (d:Int)):=(Boxed.new w 61 (.int .u64 (d:Int))).kept hgrow0 (by simp)
 have hown1:Own w1 w.heap.size 61 (.slice (some ⟨w.heap.size+1,0,none⟩) xs.length xs.length) (List.replicate xs.length 0):=by simpa using hown0
 have hgl:w.heap.size+1 < w1.heap.size:=hown1.head.2
 clear hown0
 obtain⟨vo,hvo⟩:∃ vo,vo=Value.slice (some ⟨w.heap.size+1,0,none⟩) xs.length xs.length:=⟨_,rfl⟩
 obtain⟨vx,hvx⟩:∃ vx,vx=Value.slice a xs.length cap:=⟨_,rfl⟩
 rw[← hvo]at hown1
 have hg1:(w.alloc (.cells #[.int .u64 (d:Int)] 61)).heap.size=w.heap.size+1:=by simp
 try simp only[hg1]
 rw[← hvo,← hvx]
 have hx0:Ext w (((w1.alloc (.cells #[vo] 41)).alloc (.cells #[.int .u64 0] 61)).alloc (.cells #[vx] 41)):=((hE1.alloc _).alloc _).alloc _
 have q0:=((Boxed.new w1 41 vo).alloc (.cells #[.int .u64 0] 61)).alloc (.cells #[vx] 41)
 have q1:=(Boxed.new (w1.alloc (.cells #[vo] 41)) 61 (.int .u64 0)).alloc (.cells #[vx] 41)
 have q2:=Boxed.new ((w1.alloc (.cells #[vo] 41)).alloc (.cells #[.int .u64 0] 61)) 41 vx
 simp only[World.size_alloc]at q1 q2
 have hI0:shortI w w1.heap.size 41 61 vo vx xs d 0 (((w1.alloc (.cells #[vo] 41)).alloc (.cells #[.int .u64 0] 61)).alloc (.cells #[vx] 41)):=by
  refine⟨hx0,((b1.alloc _).alloc _).alloc _,q0,q2,_,?_,((hown1.alloc _).alloc _).alloc _,Lib.hid (by simp),Lib.hid fun j h1 h2=>by omega⟩
  rw[Nat.sub_zero,Nat.div_eq_of_lt (ev_lt hl),Nat.zero_mod]
  exact q1
 refine wpIn_range (gf:=103) (lb:=#[.pointer (some ⟨w1.heap.size+1+1,0,none⟩)]) rfl (enters_of Tryz.func103 (by kernel_rfl) rfl)
  (Tryz.backward_iter (w1.heap.size+1+1) a b o xs.length cap (fun i=>.int .u64 ((lg xs i:Nat):Int)) hle hmx' (fun _=>rfl)) (fun _=>rfl)
  (shortI w w1.heap.size 41 61 vo vx xs d) shrX (fun k=>shortI_turns _ (by simp;omega) k) (fun _ _=>Turns.pure _ _)
  (fun k W o h=>⟨h.1.alloc o,h.2.1.alloc o,h.2.2.1.alloc o,h.2.2.2.1.alloc o,let ⟨l,p1,p2,p3⟩:=h.2.2.2.2;⟨l,p1.alloc o,p2.alloc o,p3⟩⟩) (fun _ _ h=>⟨h.1.drew,h.2⟩)
  hI0 ?can ?round ?done ?stop
 case can=>
  rintro k W hk ⟨hE,_,_,p3,_⟩
  refine⟨by rw[← hvx];exact p3.cell,fun hlt=>?_⟩
  obtain rfl:=hs.addr (by omega)
  exact⟨rfl,(hs.ext hE).cell (by omega)⟩
 case round=>
  intro l k W hk _
  simp only[backVals]
  obtain⟨j,hj⟩:∃ j:Nat,j=xs.length - 1 - k:=⟨_,rfl⟩
  rw[← hj]
  have HJ:=Lib.hid hj;clear hj
  simp only[fold2,List.setIfInBounds_toArray,List.set_cons_succ,List.set_cons_zero]
  gi_wp2
  refine roundThen.mk ?_
  rintro W2 ⟨hE,pd,p0,p3,lo,p2,p5,p6,p7⟩
  have hj:=HJ.out
  have hjn:j < xs.length:=by omega
  subst hvo
  subst hvx
  have hc0:=p0.cell
  have hcd:=pd.cell
  have hc2:=p2.cell
  have hf2:=p2.frozen
  have hfo:=p5.frozenAt j
  have hco:=p5.cellAt (i:=j) (by rw[p6.out];exact hjn)
  have hj0:(0:Int)≤(j:Int):=by omega
  have hjI:(j:Int) < (xs.length:Int):=by omega
  have hxj:=lg_lt hl j
  obtain⟨r,hr⟩:∃ r,r=ev B64 xs / B64^(xs.length - k) % d:=⟨_,rfl⟩
  have hrd:r < d:=by rw[hr];exact Nat.mod_lt _ hd0
  rw[← hr]at hc2 p2
  obtain⟨qv,hqv⟩:∃ qv,qv=(r*B64+lg xs j) / d:=⟨_,rfl⟩
  obtain⟨rv,hrv⟩:∃ rv,rv=(r*B64+lg xs j) % d:=⟨_,rfl⟩
  have hdv:∀ W,Calls Tryz.prog 101 #[.int .u64 (r:Int),.int .u64 ((lg xs j:Nat):Int),.int .u64 (d:Int)] W fun e w'=>(∃ k,w'=W.drewN k)∧e=.returned (.tuple #[.int .u64 (qv:Int),.int .u64 (rv:Int)]):=fun W=>by rw[hqv,hrv];exact Tryz.div64 hrd hxj hd W
  have HR:=Lib.hid hr
  have HQV:=Lib.hid hqv
  have HRV:=Lib.hid hrv
  clear hj q0 q1 q2 hI0 hx0 hown1 hr hqv hrv
  gi_wp2
  refine held_start ((fun W:World=>W.cell? ⟨w1.heap.size,0,none⟩=some (.slice (some ⟨w.heap.size+1,0,none⟩) xs.length xs.length)∧W.frozen? ⟨w1.heap.size+1,0,none⟩=false∧W.cell? ⟨w.heap.size,0,none⟩=some (.int .u64 (d:Int))∧W.frozen? ⟨w.heap.size+1,j,none⟩=false)) 12 (by kernel_rfl) (by kernel_rfl) rfl (by rintro⟨_,_,h⟩;exact h) ?_ (fun hHeld=>?_)
  ·try dsimp only
   exact⟨hc0,hf2,hcd,hfo⟩
  refine held_take 0 rfl (by kernel_rfl) (fun _ _ _ h=>h) hHeld (by rfl) (v:=?_) ?_ ?_
  rotate_left 1
  ·(intro w hSw;(try dsimp only at hSw);go_simp)
   all_goals with_reducible rfl
  try simp only[Act.put,List.setIfInBounds_toArray,List.set_cons_zero,List.set_cons_succ]
  refine held_take 1 rfl (by kernel_rfl) (fun _ _ _ h=>h) hHeld (by rfl) (v:=?_) ?_ ?_
  rotate_left 1
  ·(intro w hSw;(try dsimp only at hSw);go_simp)
   all_goals with_reducible rfl
  try simp only[Act.put,List.setIfInBounds_toArray,List.set_cons_zero,List.set_cons_succ]
  refine held_take 3 rfl (by kernel_rfl) (fun _ _ _ h=>h) hHeld (by rfl) (v:=?_) ?_ ?_
  rotate_left 1
  ·(intro w hSw;(try dsimp only at hSw);go_simp)
   all_goals with_reducible rfl
  try simp only[Act.put,List.setIfInBounds_toArray,List.set_cons_zero,List.set_cons_succ]
  refine held_take 4 rfl (by kernel_rfl) (fun _ _ _ h=>h) hHeld (by rfl) (v:=?_) ?_ ?_
  rotate_left 1
  ·(intro w hSw;(try dsimp only at hSw);go_simp)
   all_goals with_reducible rfl
  try simp only[Act.put,List.setIfInBounds_toArray,List.set_cons_zero,List.set_cons_succ]
  have hHeld1:((fun W:World=>W.cell? ⟨w1.heap.size+1,0,none⟩=some (.int .u64 (r:Int))∧W.cell? ⟨w1.heap.size,0,none⟩=some (.slice (some ⟨w.heap.size+1,0,none⟩) xs.length xs.length)∧W.frozen? ⟨w1.heap.size+1,0,none⟩=false∧W.cell? ⟨w.heap.size,0,none⟩=some (.int .u64 (d:Int))∧W.frozen? ⟨w.heap.size+1,j,none⟩=false)) _:=⟨hc2,hHeld⟩
  refine held_of_phase (S1:=(fun W:World=>W.cell? ⟨w1.heap.size+1,0,none⟩=some (.int .u64 (r:Int))∧W.cell? ⟨w1.heap.size,0,none⟩=some (.slice (some ⟨w.heap.size+1,0,none⟩) xs.length xs.length)∧W.frozen? ⟨w1.heap.size+1,0,none⟩=false∧W.cell? ⟨w.heap.size,0,none⟩=some (.int .u64 (d:Int))∧W.frozen? ⟨w.heap.size+1,j,none⟩=false)) (c:=5) (by exact fun _ h=>h.2) _ _ _ _ ?_
  refine phase_take 2 rfl (by kernel_rfl) (by kernel_rfl) (fun _ _ _ h=>h) hHeld1 (by rfl) (v:=?_) ?_ ?_
  rotate_left 1
  ·(intro w hSw;(try dsimp only at hSw);go_simp)
   all_goals with_reducible rfl
  try simp only[Act.put,List.setIfInBounds_toArray,List.set_cons_zero,List.set_cons_succ]
  refine phase_at rfl (by kernel_rfl) (fun K hK=>?_)
  go_simp
  go_at_call 101;refine(hdv _).mono ?_;rintro e w' ⟨⟨kk,rfl⟩,rfl⟩
  go_wp2_with fail
  refine hK.out _ _ ?_ (fun hHeld=>?_)
  ·try dsimp only
   exact hHeld
  clear hK K
  try simp only[Act.put,List.setIfInBounds_toArray,List.set_cons_zero,List.set_cons_succ]
  refine held_take 6 rfl (by kernel_rfl) (fun _ _ _ h=>h) hHeld (by rfl) (v:=?_) ?_ ?_
  rotate_left 1
  ·(intro w hSw;(try dsimp only at hSw);go_simp)
   all_goals with_reducible rfl
  try simp only[Act.put,List.setIfInBounds_toArray,List.set_cons_zero,List.set_cons_succ]
  refine held_take 7 rfl (by kernel_rfl) (fun _ _ _ h=>h) hHeld (by rfl) (v:=?_) ?_ ?_
  rotate_left 1
  ·(intro w hSw;(try dsimp only at hSw);go_simp)
   all_goals with_reducible rfl
  try simp only[Act.put,List.setIfInBounds_toArray,List.set_cons_zero,List.set_cons_succ]
  refine held_take 8 rfl (by kernel_rfl) (fun _ _ _ h=>h) hHeld (by rfl) (v:=?_) ?_ ?_
  rotate_left 1
  ·(intro w hSw;(try dsimp only at hSw);go_simp)
   all_goals with_reducible rfl
  try simp only[Act.put,List.setIfInBounds_toArray,List.set_cons_zero,List.set_cons_succ]
  refine held_take 9 rfl (by kernel_rfl) (fun _ _ _ h=>h) hHeld (by rfl) (v:=?_) ?_ ?_
  rotate_left 1
  ·(intro w hSw;(try dsimp only at hSw);go_simp)
   all_goals with_reducible rfl
  try simp only[Act.put,List.setIfInBounds_toArray,List.set_cons_zero,List.set_cons_succ]
  refine held_at 10 rfl (by kernel_rfl) (fun K hK=>?_)
  go_simp
  refine hK.out _ _ ?_ (fun hHeld=>?_)
  ·try dsimp only
   exact⟨(box_off (p:=⟨w.heap.size+1,j,none⟩) p0 (by show _≠_;simp;omega) _).cell,(box_off (p:=⟨w.heap.size+1,j,none⟩) p2 (by show _≠_;simp;omega) _).frozen,(box_off (p:=⟨w.heap.size+1,j,none⟩) pd (by show _≠_;simp) _).cell,(p5.stored j _ rfl).frozenAt j⟩
  clear hK K
  try simp only[Act.put]
  refine held_at 11 rfl (by kernel_rfl) (fun K hK=>?_)
  go_simp
  refine hK.out _ _ ?_ (fun hHeld=>?_)
  ·try dsimp only
   exact⟨((box_off (p:=⟨w.heap.size+1,j,none⟩) p0 (by show _≠_;simp;omega) _).other (B':=w1.heap.size+1) (by omega) _).cell,((box_off (p:=⟨w.heap.size+1,j,none⟩) p2 (by show _≠_;simp;omega) _).set _).frozen,((box_off (p:=⟨w.heap.size+1,j,none⟩) pd (by show _≠_;simp) _).other (B':=w1.heap.size+1) (by omega) _).cell,((p5.stored j _ rfl).kept (grownBy_setCell' _ (w1.heap.size+1) _) (.inr (by simp[Value.ownBlock];omega))).frozenAt j⟩
  clear hK K
  try simp only[Act.put]
  refine wpAnyH_done (by kernel_rfl) ?_ _
  gi_wp2
  have hj:=HJ.out
  have hlj:xs.length - k=j+1:=by omega
  have hZ:ev B64 xs / B64^(j+1)*B64+lg xs j=ev B64 xs / B64^j:=by
   have h1:=Nat.div_add_mod (ev B64 xs / B64^j) B64
   rw[Nat.div_div_eq_div_mul,← Nat.pow_succ,← limb_div hl j]at h1
   unfold lg
   rw[Nat.mul_comm]
   exact h1
  obtain⟨u1,u2⟩:=short_step (Z1:=ev B64 xs / B64^(j+1)) hd0 hxj
  have hr:=HR.out
  rw[hlj]at hr
  rw[← hr,hZ]at u1 u2
  have hqv:=HQV.out
  have hrv:=HRV.out
  rw[u1]at hqv
  rw[u2]at hrv
  have p5':=(p5.ext ((Ext.refl W2).drewN (1+kk))).stored j qv rfl
  refine⟨?_,((hE.drewN (1+kk)).setCell (p:=⟨w.heap.size+1,j,none⟩) (by simp) _).setCell (p:=⟨w1.heap.size+1,0,none⟩) (by simp;omega) _,
   (box_off (W:=W2.drewN (1+kk)) (p:=⟨w.heap.size+1,j,none⟩) pd (by show _≠_;simp) _).other (B':=w1.heap.size+1) (by omega) _,
   (box_off (W:=W2.drewN (1+kk)) (p:=⟨w.heap.size+1,j,none⟩) p0 (by show _≠_;simp;omega) _).other (B':=w1.heap.size+1) (by omega) _,
   (box_off (W:=W2.drewN (1+kk)) (p:=⟨w.heap.size+1,j,none⟩) p3 (by show _≠_;simp;omega) _).other (B':=w1.heap.size+1) (by omega) _,
   lo.set j qv,?_,p5'.kept (grownBy_setCell' _ (w1.heap.size+1) _) (.inr (by simp[Value.ownBlock];omega)),Lib.hid ?_,Lib.hid fun i h1 h2=>?_⟩
  ·try simp only[World.size_alloc]
   exact((KeepsFrom.of_ext ((Ext.refl W2).drewN (1+kk)) _).trans (KeepsFrom.setCell1 _ _ _ _)).trans (KeepsFrom.setCell1 _ _ _ _)
  ·rw[show xs.length - (k+1)=j from by omega,← hrv]
   exact(box_off (W:=W2.drewN (1+kk)) (p:=⟨w.heap.size+1,j,none⟩) p2 (by show _≠_;simp;omega) _).set _
  ·rw[List.length_set];exact p6.out
  ·have h6:=p6.out
   by_cases hij:i=j
   ·subst hij
    rw[getD_set_eq (by omega),hqv,Nat.div_div_eq_div_mul,Nat.div_div_eq_div_mul,Nat.mul_comm]
   ·rw[getD_set_ne hij]
    exact p7.out i (by omega) h2
 case done=>
  rintro D W hD ⟨hE,pd,p0,p3,lo,p2,p5,p6,p7⟩ hK
  have hcn:=p0.cell
  have hcr:=p2.cell
  have h7:=p7.out
  have h6:=p6.out
  rw[Nat.sub_self]at p2 hcr h7
  rw[Nat.pow_zero,Nat.div_one]at p2 hcr
  have hlo:Lim B64 lo:=by
   refine lim_of_getD fun i hi=>?_
   rw[h7 i (by omega) (by omega)]
   exact Nat.mod_lt _ B64_pos
  have hev:ev B64 lo=ev B64 xs / d:=by
   refine ev_limbs (fun i hi=>h7 i (by omega) (by omega)) ?_
   rw[h6]
   exact Nat.lt_of_le_of_lt (Nat.div_le_self _ _) (ev_lt hl)
  have hnt2:=p5.nt hlo
  have hfr2:Fr w vo:=p5.fr
  have HEV:=Lib.hid hev
  clear hev h7 h6 hI0 q0 q1 q2
  subst hvo
  subst hvx
  gi_wp2_with fail
  refine wpIn_wide.2 ?_
  go_region_held3 (fun W'=>W'.cell? ⟨w1.heap.size,0,none⟩=some (.slice (some ⟨w.heap.size+1,0,none⟩) xs.length xs.length)∧W'.cell? ⟨w1.heap.size+1,0,none⟩=some (.int .u64 ((ev B64 xs % d:Nat):Int)))
   (first | exact⟨hcn,hcr⟩ | go_keep)
   (first | (go_at_call 67;refine(Tryz.divBare (hnt2.ext (Ext.drew1 _))).mono ?_;rintro e w' ⟨v',rfl,hn3,rfl,hob⟩))
  gi_wp2
  have hE2:=hE.drew.putObj (l:=D) (by simp at hD;omega) (.deferred none)
  refine post_mark hK (results_tmp2 rfl _ _ _) ⟨_,rfl,?_,hE2,?_⟩
  ·rw[← HEV.out]
   exact hn3.putObj hK rfl
  ·intro k hk
   exact hfr2 k (hob.symm.trans hk)
 case stop=>
  rintro D c k W hD hk hX
  exact hX.elim
end Go.Rt
