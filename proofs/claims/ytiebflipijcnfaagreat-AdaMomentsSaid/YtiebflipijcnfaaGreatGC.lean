/-
  div.Shl.
  slices.Clone of limbs.
  Plain mathematics: rows of limbs told limb by limb; division of two limbs by one; a guess at a quotient's figure.
  div.Shr: a range over the limbs from above, which writes them.
-/
import Derived.Test.YtiebflipijcnfaaGreatGB
import Derived.Test.YtiebflipijcnfaaGreatTail
namespace Go.Rt
open Go.RowKit Go.Proofs
theorem Own.take {w:World} {base e g n cap:Nat} {l:List Nat} (h:Own w base e (.slice (.some ⟨g,0,none⟩) n cap) l) (k:Nat) (hk:k≤l.length):
  Own w base e (.slice (.some ⟨g,0,none⟩) k cap) (l.take k):=by
 obtain⟨_,h2⟩:=h
 rcases h2 with ⟨h2,_⟩ | ⟨g',cap',cur,hv,hb,hg,hc,hm,hz,ht⟩
 ·cases h2
 ·cases hv
  have hl:(l.take k).length=k:=by rw[List.length_take];omega
  refine⟨by simp,.inr ⟨g,cap,cur,by rw[hl],hb,hg,by rw[hl];omega,hm,hz,?_⟩⟩
  rw[hl,List.map_take,← ht,List.take_take]
  congr 1;omega
def OwnNum (w0 w:World) (e:Nat) (v:Value) (N:Nat):Prop:=∃ ys,Own w w0.heap.size e v ys∧Lim B64 ys∧Norm ys∧ev B64 ys=N
theorem OwnNum.nil (w0 w:World) (e:Nat):OwnNum w0 w e (.slice none 0 0) 0:=⟨[],Own.nil _ _ _,Lim.nil _,.inl rfl,rfl⟩
theorem OwnNum.nw {w0 w:World} {e:Nat} {v:Value} {N:Nat} (h:OwnNum w0 w e v N):Nw w v N:=let ⟨ys,h1,h2,h3,h4⟩:=h;⟨ys,h1.nt h2,h3,h4⟩
theorem OwnNum.fr {w0 w:World} {e:Nat} {v:Value} {N:Nat} (h:OwnNum w0 w e v N):Fr w0 v:=let ⟨_,h1,_⟩:=h;h1.fr
set_option maxHeartbeats 2000000 in
theorem Tryz.divShlO {v:Value} {N L:Nat} {w:World} (h:Nw w v N) (s:Sm L N) (hL:L≤1000000) (n:Int):
  Calls Tryz.prog 34 #[v,.int .i64 n] w fun e w'=>∃ v',e=.returned (.tuple #[v',.int .i64 (shE n)])∧OwnNum w w' 61 v' (shlV N n)∧Ext w w':=by
 by_cases hr:n < 0∨20000 < n
 ·have H1:Hid (shE n=1):=Lib.hid (if_pos hr)
  have H2:Hid (shlV N n=0):=Lib.hid (if_pos hr)
  rcases hr with hr | hr
  ·go_enter Tryz.func34,Tryz.ntmps34
   go_wp2
   go_ret2
   exact⟨_,by rw[H1.out];rfl,by rw[H2.out];exact OwnNum.nil _ _ _,Ext.refl _⟩
  ·have hr0:¬ n < 0:=by omega
   go_enter Tryz.func34,Tryz.ntmps34
   go_wp2
   go_ret2
   exact⟨_,by rw[H1.out];rfl,by rw[H2.out];exact OwnNum.nil _ _ _,Ext.refl _⟩
 ·have H1:Hid (shE n=0):=Lib.hid (if_neg hr)
  have H2:Hid (shlV N n=N*2^n.toNat):=Lib.hid (if_neg hr)
  have hr0:¬ n < 0:=by omega
  have hr1:¬ 20000 < n:=by omega
  obtain⟨k,rfl⟩:=Int.eq_ofNat_of_zero_le (show 0≤n by omega)
  have hk:k≤20000:=by omega
  have hk0:0≤(k:Int):=by omega
  clear hr
  obtain⟨xs,⟨a,b,o,cap,rfl,hs,hl⟩,hn,rfl,l1⟩:=h.lens s
  clear h s hn
  have hmx:=hs.max
  have hle:=hs.le
  go_enter Tryz.func34,Tryz.ntmps34
  go_wp2_with (at_make;go_loud (refine make_part Tryz.underlying41 Tryz.infoU rfl _ _ rfl w.heap.size (k / 64) (k / 64+xs.length+1) _ _ (by rfl) (by rfl) (by omega) (by omega) (by omega) (by omega) (by omega) ?_);intro w1 hown0 hgrow0)
  have hE1:Ext w w1:=(Ext.refl w).grown hgrow0 (fun k e=>by cases e)
  go_loopw [6,8,10,30] (fun v c _ i wr=>∃ (j cc:Nat) (l:List Nat),i=.int .i64 (j:Int)∧c=.int .u64 (cc:Int)∧j≤xs.length∧cc < 2^(k % 64)∧Own wr w.heap.size 61 v l∧Lim B64 l∧l.length≤k / 64+j∧Hid (l.length=k / 64+j)∧Hid (ev B64 l+B64^(k / 64+j)*cc=ev B64 (xs.take j)*2^k)∧Ext w wr) (fun _ _ _ i _=>xs.length - (intOf i).toNat)
  case atStart=>exact⟨0,0,_,rfl,rfl,by omega,Nat.two_pow_pos _,hown0,Lim.zeros B64_pos _,by simp,Lib.hid (by simp),Lib.hid (by simp[ev_zeros]),hE1⟩
  case round=>
   obtain⟨j,cc,l,rfl,rfl,hj,hcc,hown,hlim,hlj,hll,hev,hEr⟩:=hrel
   have hEs:=hEr.size
   by_cases hlt:j < xs.length
   ·obtain rfl:a=some ⟨b,o,none⟩:=hs.addr (by omega)
    have hc:=(hs.ext hEr).cell hlt
    have hx64:=lg_lt hl j
    have hjI:(j:Int) < (xs.length:Int):=by omega
    clear hs
    obtain⟨f1,f2,f3,f4⟩:=shl_fig (c:=cc) (b:=k % 64) hx64 hcc (by omega)
    have hv:=w_shl_or hcc (show k % 64≤64 by omega) f4
    have HV:=Lib.hid hv
    have HF:=Lib.hid f1
    obtain⟨y,hy⟩:∃ y,y=lg xs j*2^(k % 64) % B64+cc:=⟨_,rfl⟩
    rw[← hy]at f2
    have HY:=Lib.hid hy
    have HC:=Lib.hid hcc
    clear f1 f3 f4 hv hcc hy
    go_wp2_with (at_builtin;go_loud (refine append_one Tryz.underlying41 Tryz.infoU rfl _ _ rfl w.heap.size _ l y _ (by rfl) (by rfl) hown (by rw[HV.out,HY.out]) (by omega) hEs ?_);intro v' w2 hown1 hgrow)
    go_roundw
    case rel=>
     have hy:=HY.out
     obtain⟨f1,_,f3,_⟩:=shl_fig (c:=cc) (b:=k % 64) hx64 HC.out (by omega)
     refine⟨j+1,lg xs j / 2^(64 - k % 64),l++[y],by go_num,congrArg (Value.int .u64) (w_shr _ _),by omega,f3,hown1,hlim.snoc f2,by simp;omega,Lib.hid ?_,Lib.hid ?_,?_⟩
     ·have:=hll.out;simp;omega
     ·exact shl_step hll.out hev.out (by rw[hy];exact HF.out)
     ·exact(hEr.trans (Ext.alloc1 wr _)).grown hgrow (fun j e=>(hown.lt j e).1)
    case measure=>simp[intOf];omega
   ·obtain rfl:j=xs.length:=by omega
    have hcc64:cc < B64:=Nat.lt_of_lt_of_le hcc (by rw[B64_two];exact Nat.pow_le_pow_right (by omega) (by omega))
    have HFI:=Lib.hid (shl_end hll.out hev.out)
    clear hs hcc
    go_wp2_with (at_builtin;go_loud (refine append_one Tryz.underlying41 Tryz.infoU rfl _ _ rfl w.heap.size _ l cc _ (by rfl) (by rfl) hown rfl (by omega) hEs ?_);intro v' w2 hown1 hgrow)
    have hE2:=(hEr.trans (Ext.alloc1 wr (.cells #[.int .u64 (cc:Int)] 61))).grown hgrow (fun j e=>(hown.lt j e).1)
    obtain⟨g2,cap2,rfl,-,-,-⟩:=hown1.some (by simp)
    have hnt:=hown1.nt (hlim.snoc hcc64)
    obtain⟨a2,b2,o2,cap2',hv2,hs2,hl2⟩:=hnt
    cases hv2
    refine(Tryz.divBare_loop _ b2 o2 cap2 _ _ hs2).mono ?_
    rintro e w' ⟨rfl,k2,rfl,hk2,hk0,hz2⟩
    have HO:Hid (OwnNum w w2 61 (.slice (some ⟨g2,0,none⟩) k2 cap2) (ev B64 xs*2^k)):=Lib.hid ⟨_,hown1.take k2 hk2,hl2.take k2,norm_take hk2 hk0,by rw[bare_take hk2 hz2];exact HFI.out⟩
    clear hz2 hs2 hgrow hk0
    go_wp2
    go_ret2
    rw[H1.out,H2.out]
    exact⟨_,rfl,HO.out,hE2⟩
theorem Tryz.divShl {v:Value} {N L:Nat} {w:World} (h:Nw w v N) (s:Sm L N) (hL:L≤1000000) (n:Int):
  Calls Tryz.prog 34 #[v,.int .i64 n] w fun e w'=>∃ v',e=.returned (.tuple #[v',.int .i64 (shE n)])∧Nw w' v' (shlV N n)∧Ext w w'∧Fr w v':=
 (Tryz.divShlO h s hL n).mono fun _ _ ⟨v',h1,h2,h3⟩=>⟨v',h1,h2.nw,h3,h2.fr⟩
end Go.Rt
namespace Go.Rt
open Go.RowKit Go.Proofs
set_option maxHeartbeats 1000000 in
theorem Tryz.clone {v:Value} {xs:List Nat} {w:World} (h:Nt w v xs) (hlen:xs.length≤1000000):
    Calls Tryz.prog 72 #[v] w fun e w'=>∃ v',e=.returned v'∧Own w' w.heap.size 61 v' xs∧Ext w w':=by
  obtain⟨a,b,o,cap,rfl,hs,hl⟩:=h
  rcases hs.1 with rfl | ⟨rfl,h0,rfl⟩
  · have hz:=fun (wx:World)=>Lib.run_eql_slice_nil (P:=Tryz.prog) wx 41 61 (some ⟨b,o,none⟩) xs.length cap 0 0 Tryz.underlying41
    simp only[Option.isNone_some]at hz
    have ho:=Own.lit w [] w.heap.size 61 (Nat.le_refl _) (Nat.zero_le _)
    have hsl:=hs.ext (Ext.alloc1 w (.cells #[] 61))
    clear hs
    go_enter Tryz.func72,Tryz.ntmps72
    go_wp2_with (at_builtin;go_loud (refine append_all Tryz.underlying41 Tryz.infoU rfl _ _ rfl w.heap.size _ [] xs _ b o cap xs.length (by rfl) (by rfl) rfl ho hsl (by simp;omega) (by simp) ?_);intro v' w' ho' hg')
    go_ret
    exact⟨_,rfl,ho',(Ext.alloc1 _ _).grown hg' (fun j e=>by cases e;exact Nat.le_refl _)⟩
  · have hx:xs=[]:=List.eq_nil_of_length_eq_zero h0
    subst hx
    have hz:=fun (wx:World)=>Lib.run_eql_slice_nil (P:=Tryz.prog) wx 41 61 none 0 0 0 0 Tryz.underlying41
    simp only[Option.isNone_none]at hz
    clear hs
    go_enter Tryz.func72,Tryz.ntmps72
    go_wp2
    go_ret
    exact⟨_,rfl,Own.nil _ _ _,Ext.refl _⟩
end Go.Rt
namespace Go.Rt
theorem ev_of_limbs {l:List Nat} {Z:Nat} (h:∀ j,j < l.length→l.getD j 0=Z / B64^j % B64):∀ k,k≤l.length→ev B64 (l.take k)=Z % B64^k
  | 0,_=>by simp[Nat.mod_one]
  | k+1,hk=>by
    rw[ev_take_succ (by omega),ev_of_limbs h k (by omega),h k (by omega),Nat.mod_pow_succ]
theorem ev_limbs {l:List Nat} {Z:Nat} (h:∀ j,j < l.length→l.getD j 0=Z / B64^j % B64) (hz:Z < B64^l.length):ev B64 l=Z:=by
  have:=ev_of_limbs h l.length (Nat.le_refl _)
  rwa [List.take_length,Nat.mod_eq_of_lt hz]at this
theorem ev_drop {xs:List Nat} (hl:Lim B64 xs) (k:Nat) (hk:k≤xs.length):ev B64 (xs.drop k)=ev B64 xs / B64^k:=by
  have e:=ev_split (b:=B64) xs k hk
  have hlt:=ev_lt (hl.take k)
  rw[List.length_take,Nat.min_eq_left hk]at hlt
  rw[e,Nat.add_mul_div_left _ _ (Nat.pow_pos B64_pos),Nat.div_eq_of_lt hlt,Nat.zero_add]
def shrL (ys:List Nat) (b j:Nat):Nat:=(ys.getD j 0+B64*ys.getD (j+1) 0) / 2^b % B64
theorem shrL_eq {ys:List Nat} (hl:Lim B64 ys) {b:Nat} (hb:b < 64) (j:Nat):shrL ys b j=ev B64 ys / 2^b / B64^j % B64:=by
  unfold shrL
  rw[shr_limb hl j b hb,Nat.div_div_eq_div_mul,pow64,← Nat.pow_add,Nat.add_comm]
theorem shrL_fig {ys:List Nat} (hl:Lim B64 ys) {b:Nat} (hb:b < 64) (j:Nat):
    shrL ys b j=ys.getD j 0 / 2^b+ys.getD (j+1) 0*2^(64 - b) % B64∧ys.getD (j+1) 0*2^(64 - b) % B64=(ys.getD (j+1) 0 % 2^b)*2^(64 - b)∧ys.getD j 0 / 2^b < 2^(64 - b):=by
  have hx:=hl.getD B64_pos j
  unfold shrL
  generalize ys.getD j 0=x at *
  generalize ys.getD (j+1) 0=y at *
  have hB:B64=2^b*2^(64 - b):=by rw[← Nat.pow_add,B64_two];congr 1;omega
  have e1:y*2^(64 - b) % B64=(y % 2^b)*2^(64 - b):=by rw[hB,Nat.mul_mod_mul_right]
  have hd:x / 2^b < 2^(64 - b):=Nat.div_lt_of_lt_mul (by rw[← hB];exact hx)
  refine⟨?_,e1,hd⟩
  have e2:(x+B64*y) / 2^b=x / 2^b+y*2^(64 - b):=by
    rw[hB,Nat.mul_assoc,Nat.add_mul_div_left _ _ (Nat.two_pow_pos b),Nat.mul_comm y]
  rw[e2,Nat.add_mod,e1]
  have hm:=Nat.mod_lt y (Nat.two_pow_pos b)
  have h3:(y % 2^b+1)*2^(64 - b)≤2^b*2^(64 - b):=Nat.mul_le_mul_right _ hm
  rw[Nat.add_mul,Nat.one_mul,← hB]at h3
  rw[Nat.mod_eq_of_lt (a:=x / 2^b) (by omega),Nat.mod_eq_of_lt (by omega)]
end Go.Rt
namespace Go.Rt
open Go.RowKit Go.Shelf Go.Proofs
attribute [local go_sem] Oper.semAt_some
theorem w_shr_or {x y b:Nat} (hb:b≤64) (hs:y*2^(64 - b) % B64=(y % 2^b)*2^(64 - b)) (hx:x / 2^b < 2^(64 - b)):
  bits .or .u64 ((x / 2^b:Nat):Int) ((y*2^(64 - b) % B64:Nat):Int)=((x / 2^b+y*2^(64 - b) % B64:Nat):Int):=by
 have h1:y*2^(64 - b) % B64 < B64:=Nat.mod_lt _ B64_pos
 have h2:x / 2^b < B64:=Nat.lt_of_lt_of_le hx (by rw[B64_two];exact Nat.pow_le_pow_right (by omega) (by omega))
 rw[bits_or_u64_nat _ _ (by rw[B64_eq]at h2;exact h2) (by rw[B64_eq]at h1;exact h1),hs]
 have:=Nat.shiftLeft_add_eq_or_of_lt hx (y % 2^b)
 rw[Nat.shiftLeft_eq]at this
 rw[Nat.or_comm,← this,Nat.add_comm]
theorem box_off {W:World} {B:Nat} {t:TypeId} {v:Value} (h:Boxed W B t v) {p:Addr} (hne:p.block≠B) (u:Value):Boxed (W.setCell p u) B t v:=
 (Below.heap_setCell W p u B (Ne.symm hne)).trans h
theorem box_drew {W:World} {B:Nat} {t:TypeId} {v:Value} (h:Boxed W B t v):Boxed W.drew B t v:=h
theorem own_drew {w:World} {base e:Nat} {v:Value} {xs:List Nat} (h:Own w base e v xs):Own w.drew base e v xs:=h.ext (Ext.drew1 w)
theorem lim_of_getD {b:Nat} {xs:List Nat} (h:∀ i,i < xs.length→xs.getD i 0 < b):Lim b xs:=fun x hx=>by
 obtain⟨i,hi,rfl⟩:=List.mem_iff_getElem.1 hx
 have:=h i hi
 rwa [List.getD_eq_getElem?_getD,List.getElem?_eq_getElem hi]at this
theorem Nw.putObj {w:World} {v:Value} {N:Nat} (h:Nw w v N) {D:Nat} {o o':Obj} (hD:w.heap[D]? = some o) (hc:o.isCells=false):Nw (w.putObj D o') v N:=by
 obtain⟨xs,⟨a,b,o,cap,rfl,hs,hl⟩,hn⟩:=h
 exact⟨xs,⟨a,b,o,cap,rfl,⟨hs.1,hs.2.1,hs.2.2.1,fun i hi=>putObj_cell hD hc (hs.2.2.2 i hi)⟩,hl⟩,hn⟩
theorem fold2 (t:Array Value) (p q:Nat) (x y:Value):((#[p,q]:Array Nat).zip #[x,y]).foldl (fun t (p,v)=>t.setIfInBounds p v) t=(t.setIfInBounds p x).setIfInBounds q y:=by
 have:((#[p,q]:Array Nat).zip #[x,y])=#[(p,x),(q,y)]:=by simp
 rw[this];simp
def shrI (w:World) (B0:Nat) (tN tI tU:TypeId) (vo:Value) (b:Nat) (ys:List Nat) (k:Nat) (W:World):Prop:=
 Ext w W∧Boxed W B0 tN vo∧Boxed W (B0+1) tI (.int .i64 (b:Int))∧Boxed W (B0+1+1+1) tN vo ∧
 ∃ l:List Nat,Boxed W (B0+1+1) tU (.int .u64 ((ys.getD (ys.length - k) 0*2^(64 - b) % B64:Nat):Int))∧Own W w.heap.size tU vo l∧Hid (l.length=ys.length) ∧
  Hid (∀ j,l.getD j 0=if j < ys.length - k then ys.getD j 0 else shrL ys b j)
def shrX (_:Code) (_:Nat) (_:World):Prop:=False
theorem shrI_own {w:World} {B0:Nat} {tN tI tU:TypeId} {vo:Value} {b:Nat} {ys:List Nat} (B:Nat) (hBB:w.heap.size≤B) (k:Nat):Turns B (shrI w B0 tN tI tU vo b ys k):=
 (Turns.ext hBB).and ((Turns.box _ _ _ _).and ((Turns.box _ _ _ _).and ((Turns.box _ _ _ _).and (Turns.ex fun _=>(Turns.box _ _ _ _).and (Turns.own.and (Turns.pure _ _))))))
set_option maxRecDepth 100000 in
set_option maxHeartbeats 2000000 in
theorem Tryz.divShr {v:Value} {N L:Nat} {w:World} (h:Nw w v N) (s:Sm L N) (hL:L≤1000000) (n:Int):
  Calls Tryz.prog 78 #[v,.int .i64 n] w fun e w'=>∃ v',e=.returned (.tuple #[v',.int .i64 (shE n)])∧Nw w' v' (shrV N n)∧Ext w w'∧Fr w v':=by
 by_cases hr:n < 0∨20000 < n
 ·have H1:Hid (shE n=1):=Lib.hid (if_pos hr)
  have H2:Hid (shrV N n=0):=Lib.hid (if_pos hr)
  refine(callsIn_wide (n:=10)).1 ?_
  refine callsIn_of_wp_marks Tryz.func78 rfl trivial ?_ rfl
  simp only[Tryz.ntmps78,List.size_toArray,List.length_cons,List.length_nil,Nat.reduceAdd,Nat.reduceSub,Array.replicate_succ,Array.replicate_zero,List.push_toArray,List.append_toArray,List.nil_append,List.cons_append]
  rcases hr with hr | hr
  ·gi_wp2
   exact⟨_,results_tmp2 rfl _ _ _,_,by rw[H1.out];rfl,by rw[H2.out];exact Nw.nil _,Ext.refl _,Fr.nil _⟩
  ·have hr0:¬ n < 0:=by omega
   gi_wp2
   exact⟨_,results_tmp2 rfl _ _ _,_,by rw[H1.out];rfl,by rw[H2.out];exact Nw.nil _,Ext.refl _,Fr.nil _⟩
 ·have H1:Hid (shE n=0):=Lib.hid (if_neg hr)
  have H2:Hid (shrV N n=N / 2^n.toNat):=Lib.hid (if_neg hr)
  have hr0:¬ n < 0:=by omega
  have hr1:¬ 20000 < n:=by omega
  obtain⟨q,rfl⟩:=Int.eq_ofNat_of_zero_le (show 0≤n by omega)
  have hq:q≤20000:=by omega
  have hq0:0≤(q:Int):=by omega
  clear hr
  refine(callsIn_wide (n:=10)).1 ?_
  refine callsIn_of_wp_marks Tryz.func78 rfl trivial ?_ rfl
  simp only[Tryz.ntmps78,List.size_toArray,List.length_cons,List.length_nil,Nat.reduceAdd,Nat.reduceSub,Array.replicate_succ,Array.replicate_zero,List.push_toArray,List.append_toArray,List.nil_append,List.cons_append]
  obtain⟨xs,⟨a,b,o,cap,rfl,hs,hl⟩,hn,rfl,l1⟩:=h.lens s
  clear h s hn
  have hmx:=hs.max
  have hle:=hs.le
  by_cases hlen:xs.length≤q / 64
  ·have hz:ev B64 xs / 2^q=0:=by
    apply Nat.div_eq_of_lt
    refine Nat.lt_of_lt_of_le (ev_lt hl) ?_
    rw[pow64]
    exact Nat.pow_le_pow_right (by omega) (by omega)
   have HZ:Hid (shrV (ev B64 xs) (q:Int)=0):=Lib.hid (by rw[H2.out];exact hz)
   clear hz hs
   gi_wp2
   exact⟨_,results_tmp2 rfl _ _ _,_,by rw[H1.out];rfl,by rw[HZ.out];exact Nw.nil _,Ext.refl _,Fr.nil _⟩
  ·obtain rfl:a=some ⟨b,o,none⟩:=hs.addr (by omega)
   have hnt:Nt w (.slice (some ⟨b,o+q / 64,none⟩) (xs.length - q / 64) (cap - q / 64)) (xs.drop (q / 64)):=by
    refine⟨_,b,o+q / 64,_,by rw[List.length_drop],⟨.inl rfl,by rw[List.length_drop];omega,by simp[maxLen];omega,fun i hi=>?_⟩,hl.drop _⟩
    rw[List.length_drop]at hi
    rw[Nat.add_assoc,hs.cell (by omega)]
    simp[lg,List.getElem?_drop]
   have hyl:(xs.drop (q / 64)).length=xs.length - q / 64:=List.length_drop
   clear hs
   obtain⟨ys,hys⟩:∃ ys,ys=xs.drop (q / 64):=⟨_,rfl⟩
   have hly:Lim B64 ys:=by rw[hys];exact hl.drop _
   have HE:Hid (ev B64 ys=ev B64 xs / B64^(q / 64)):=Lib.hid (by rw[hys];exact ev_drop hl _ (by omega))
   rw[← hys]at hnt hyl
   have hy0:0 < ys.length:=by omega
   have hyL:ys.length≤L:=by omega
   have hyl1:ys.length+q / 64≤xs.length:=by omega
   have hyl2:xs.length≤ys.length+q / 64:=by omega
   clear hys hyl
   gi_wp2_with fail
   refine⟨trivial,?_⟩
   refine(callsIn_wide.2 (Tryz.clone hnt (by omega))).mono ?_
   rintro e w1 ⟨v1,rfl,hown1,hE1⟩
   obtain⟨g,c1,rfl,hg,hgc,hgm⟩:=hown1.some hy0
   have hgm':c1≤9223372036854775807:=hgm
   have hE1s:=hE1.size
   have hgl:g < w1.heap.size:=hown1.head.2
   clear hnt
   gi_wp2_with (refine⟨trivial,?_⟩;gi_at_call 75;refine(callsIn_wide.2 (Tryz.backward_ok _ _ _ _)).mono ?_;rintro e w' ⟨rfl,rfl⟩)
   obtain⟨vo,hvo⟩:∃ vo,vo=Value.slice (some ⟨g,0,none⟩) ys.length c1:=⟨_,rfl⟩
   rw[← hvo]at hown1
   have hby:((q:Int) % 64)=((q % 64:Nat):Int):=rfl
   rw[hby,← hvo]
   have hx0:Ext w ((((w1.alloc (.cells #[vo] 41)).alloc (.cells #[.int .i64 ((q % 64:Nat):Int)] 3)).alloc (.cells #[.int .u64 0] 61)).alloc (.cells #[vo] 41)):=hE1.trans ((((Ext.alloc1 _ _).alloc _).alloc _).alloc _)
   have q0:=(((Boxed.new w1 41 vo).alloc (.cells #[.int .i64 ((q % 64:Nat):Int)] 3)).alloc (.cells #[.int .u64 0] 61)).alloc (.cells #[vo] 41)
   have q1:=((Boxed.new (w1.alloc (.cells #[vo] 41)) 3 (.int .i64 ((q % 64:Nat):Int))).alloc (.cells #[.int .u64 0] 61)).alloc (.cells #[vo] 41)
   have q2:=(Boxed.new ((w1.alloc (.cells #[vo] 41)).alloc (.cells #[.int .i64 ((q % 64:Nat):Int)] 3)) 61 (.int .u64 0)).alloc (.cells #[vo] 41)
   have q3:=Boxed.new (((w1.alloc (.cells #[vo] 41)).alloc (.cells #[.int .i64 ((q % 64:Nat):Int)] 3)).alloc (.cells #[.int .u64 0] 61)) 41 vo
   simp only[World.size_alloc]at q1 q2 q3
   have hz0:ys.getD ys.length 0=0:=by rw[List.getD_eq_getElem?_getD,List.getElem?_eq_none (Nat.le_refl _)];rfl
   have hI0:shrI w w1.heap.size 41 3 61 vo (q % 64) ys 0 ((((w1.alloc (.cells #[vo] 41)).alloc (.cells #[.int .i64 ((q % 64:Nat):Int)] 3)).alloc (.cells #[.int .u64 0] 61)).alloc (.cells #[vo] 41)):=by
    refine⟨hx0,q0,q1,q3,ys,?_,(((hown1.alloc _).alloc _).alloc _).alloc _,Lib.hid rfl,Lib.hid fun j=>?_⟩
    ·rw[Nat.sub_zero,hz0];simpa using q2
    ·rw[Nat.sub_zero]
     split
     ·rfl
     ·rename_i hj
      have e1:ys.getD j 0=0:=by rw[List.getD_eq_getElem?_getD,List.getElem?_eq_none (by omega)];rfl
      have e2:ys.getD (j+1) 0=0:=by rw[List.getD_eq_getElem?_getD,List.getElem?_eq_none (by omega)];rfl
      unfold shrL;rw[e1,e2];simp
   refine wpIn_range (gf:=103) (lb:=#[.pointer (some ⟨w1.heap.size+1+1+1,0,none⟩)]) rfl (enters_of Tryz.func103 (by kernel_rfl) rfl)
    (Tryz.backward_iter (w1.heap.size+1+1+1) (some ⟨g,0,none⟩) g 0 ys.length c1 (fun i=>.int .u64 ((lg ys i:Nat):Int)) hgc hgm' (fun _=>rfl)) (fun _=>rfl)
    (shrI w w1.heap.size 41 3 61 vo (q % 64) ys) shrX (fun k=>shrI_own _ (by simp;omega) k) (fun _ _=>Turns.pure _ _)
    (fun k W o h=>⟨h.1.alloc o,h.2.1.alloc o,h.2.2.1.alloc o,h.2.2.2.1.alloc o,let ⟨l,p1,p2,p3⟩:=h.2.2.2.2;⟨l,p1.alloc o,p2.alloc o,p3⟩⟩) (fun _ _ h=>⟨h.1.drew,h.2⟩)
    hI0 ?can ?round ?done ?stop
   case can=>
    rintro k W hk ⟨_,_,_,p3,l,_,p5,p6,p7⟩
    refine⟨by rw[← hvo];exact p3.cell,fun hlt=>⟨rfl,?_⟩⟩
    rw[hvo]at p5
    rw[Nat.zero_add,p5.cellAt (by rw[p6.out];omega)]
    have:=p7.out (ys.length - 1 - k)
    rw[if_pos (by omega)]at this
    unfold lg
    rw[this]
   case round=>
    intro l k W hk _
    simp only[backVals]
    obtain⟨j,hj⟩:∃ j:Nat,j=ys.length - 1 - k:=⟨_,rfl⟩
    rw[← hj]
    have HJ:=Lib.hid hj;clear hj
    simp only[fold2,List.setIfInBounds_toArray,List.set_cons_succ,List.set_cons_zero]
    gi_wp2
    refine roundThen.mk ?_
    rintro W2 ⟨hE,p0,p1,p3,lo,p2,p5,p6,p7⟩
    have hj:=HJ.out
    have hjn:j < ys.length:=by omega
    have HVO:=Lib.hid hvo
    subst hvo
    have hc6:=p0.cell
    have hc7:=p1.cell
    have hc8:=p2.cell
    have hf8:=p2.frozen
    have hco:=p5.cellAt (i:=j) (by rw[p6.out];exact hjn)
    have hfo:=p5.frozenAt j
    have hj0:(0:Int)≤(j:Int):=by omega
    have hjI:(j:Int) < (ys.length:Int):=by omega
    clear hj q0 q1 q2 q3 hI0 hx0 hown1 hby
    gi_wp2
    have hv:bits .or .u64 (((lg ys j:Nat):Int) / 2^((q:Int) % 64).toNat) (((ys[ys.length - k]?.getD 0:Nat):Int)*2^(64 - q % 64) % ((B64:Nat):Int))=((shrL ys (q % 64) j:Nat):Int):=by
     have hjk:ys.length - k=j+1:=by have:=HJ.out;omega
     obtain⟨h1,h2,h3⟩:=shrL_fig hly (b:=q % 64) (by omega) j
     have e1:((q:Int) % 64).toNat=q % 64:=by omega
     have e2:(((ys.getD (j+1) 0:Nat):Int)*2^(64 - q % 64) % ((B64:Nat):Int))=((ys.getD (j+1) 0*2^(64 - q % 64) % B64:Nat):Int):=by
      rw[Int.natCast_emod,Int.natCast_mul,Int.natCast_pow];rfl
     rw[hjk,← List.getD_eq_getElem?_getD,e1,w_shr,e2,h1]
     exact w_shr_or (by omega) h2 h3
    refine Go.Rt.wpIn_region_tail 8 (by kernel_rfl) (by kernel_rfl) (by kernel_rfl) ?_
    simp only[List.take_succ_cons,List.take_zero,List.drop_succ_cons,List.drop_zero]
    repeat still_step
    refine wpStill_nil ?_
    refine wpListIn_plain rfl fun K hK=>?_
    go_simp
    refine hK _ _ ?_
    clear hK K
    refine wpListIn_nil ?_
    obtain⟨W3,hW3⟩:∃ W3,W3=(W2.setCell ⟨g,j,none⟩ (.int .u64 ((shrL ys (q % 64) j:Nat):Int))).drew:=⟨_,rfl⟩
    have x0:=box_drew (box_off (p:=⟨g,j,none⟩) p0 (by show g≠_;omega) (.int .u64 ((shrL ys (q % 64) j:Nat):Int)))
    have x1:=box_drew (box_off (p:=⟨g,j,none⟩) p1 (by show g≠_;omega) (.int .u64 ((shrL ys (q % 64) j:Nat):Int)))
    have x2:=box_drew (box_off (p:=⟨g,j,none⟩) p2 (by show g≠_;omega) (.int .u64 ((shrL ys (q % 64) j:Nat):Int)))
    have x3:=box_drew (box_off (p:=⟨g,j,none⟩) p3 (by show g≠_;omega) (.int .u64 ((shrL ys (q % 64) j:Nat):Int)))
    have x5:=own_drew (p5.stored j (shrL ys (q % 64) j) rfl)
    have xE:Ext w W3:=by rw[hW3];exact(hE.setCell (p:=⟨g,j,none⟩) hg (.int .u64 ((shrL ys (q % 64) j:Nat):Int))).drew
    have xK:KeepsFrom (w1.heap.size+1+1+1+1) W2 W3:=by rw[hW3];exact(KeepsFrom.setCell1 (w1.heap.size+1+1+1+1) W2 ⟨g,j,none⟩ (.int .u64 ((shrL ys (q % 64) j:Nat):Int))).trans (KeepsFrom.of_ext (Ext.drew1 _) _)
    rw[← hW3]at x0 x1 x2 x3 x5 ⊢
    clear hc6 hc7 hc8 hf8 hco hfo hW3 hv
    have hd7:=x1.cell
    have hd8:=x2.cell
    have hg8:=x2.frozen
    have he64:IntKind.i64.wrap (64 - (q:Int) % 64)=((64 - q % 64:Nat):Int):=by
     rw[IntKind.wrap_i64];omega
    gi_wp2
    have hj:=HJ.out
    refine⟨?_,xE.setCell (by simp;omega) _,x0.other (by omega) _,x1.other (by omega) _,x3.other (by omega) _,lo.set j (shrL ys (q % 64) j),?_,?_,Lib.hid ?_,Lib.hid fun i=>?_⟩
    ·simp only[World.size_alloc]
     exact xK.trans (KeepsFrom.setCell1 _ _ _ _)
    ·have:=x2.set (.int .u64 ((ys.getD j 0*2^(64 - q % 64) % B64:Nat):Int))
     rw[show ys.length - (k+1)=j from by omega,w_shl]
     exact this
    ·exact x5.kept (grownBy_setCell' _ _ _) (.inr (by simp[Value.ownBlock];omega))
    ·rw[List.length_set];exact p6.out
    ·have h7:=p7.out
     have h6:=p6.out
     by_cases hij:i=j
     ·subst hij
      rw[getD_set_eq (by omega),if_neg (by omega)]
     ·rw[getD_set_ne hij,h7 i]
      by_cases hi:i < ys.length - k
      ·rw[if_pos hi,if_pos (by omega)]
      ·rw[if_neg hi,if_neg (by omega)]
   case done=>
    rintro D W hD ⟨hE,p0,p1,p3,lo,p2,p5,p6,p7⟩ hK
    have hcn:=p0.cell
    have h7:=p7.out
    have h6:=p6.out
    have hlo:Lim B64 lo:=by
     refine lim_of_getD fun i hi=>?_
     rw[h7 i,if_neg (by omega)]
     exact Nat.mod_lt _ B64_pos
    have hev:ev B64 lo=ev B64 xs / 2^q:=by
     refine ev_limbs (fun i hi=>?_) ?_
     ·rw[h7 i,if_neg (by omega),shrL_eq hly (by omega),HE.out]
      have:B64^(q / 64)*2^(q % 64)=2^q:=by rw[pow64,← Nat.pow_add];congr 1;omega
      rw[Nat.div_div_eq_div_mul (ev B64 xs),this]
     ·refine Nat.lt_of_le_of_lt ?_ (by rw[h6];exact ev_lt hly)
      rw[HE.out]
      have:B64^(q / 64)*2^(q % 64)=2^q:=by rw[pow64,← Nat.pow_add];congr 1;omega
      rw[← this,← Nat.div_div_eq_div_mul]
      exact Nat.div_le_self _ _
    have hnt2:=p5.nt hlo
    have hfr2:Fr w vo:=p5.fr
    have HEV:=Lib.hid hev
    clear hev h7 h6 hI0 q0 q1 q2 q3
    subst hvo
    gi_wp2_with (refine⟨trivial,?_⟩;gi_at_call 67;refine(callsIn_wide.2 (Tryz.divBare hnt2)).mono ?_;rintro e w' ⟨v',rfl,hn3,rfl,hob⟩)
    rename_i vx heq
    obtain rfl:v'=vx:=by cases heq;rfl
    have hE2:=hE.putObj (l:=D) (by simp at hD;omega) (.deferred none)
    refine post_mark hK (results_tmp2 rfl _ _ _) ⟨_,by rw[H1.out];rfl,?_,hE2,?_⟩
    ·rw[H2.out,Int.toNat_natCast,← HEV.out]
     exact hn3.putObj hK rfl
    ·intro k hk
     exact hfr2 k (hob.symm.trans hk)
   case stop=>
    rintro D c k W hD hk hX
    exact hX.elim
end Go.Rt
