/-
  A region that draws its order, by an invariant: each operation is walked once, whatever the order. 'Apart g': a world that has only grown, but for the blocks g.
  Fractions as structs.
  Plain laws on fractions: how many limbs they have; rounding.
-/
import Derived.Test.YtiebflipijcnfaaGreatGH
namespace Go.Rt
open Go
/-! ### what grows but for some blocks -/
structure Apart (g:List Nat) (w w':World):Prop where
 os:w'.os=w.os
 tape:w'.tape=w.tape
 output:w'.output=w.output
 size:w.heap.size≤w'.heap.size
 block:∀ k,k < w.heap.size→k ∉ g→w'.heap[k]? = w.heap[k]?
theorem Apart.refl (g:List Nat) (w:World):Apart g w w:=⟨rfl,rfl,rfl,Nat.le_refl _,fun _ _ _=>rfl⟩
theorem Apart.trans {g:List Nat} {a b c:World} (h:Apart g a b) (k:Apart g b c):Apart g a c:=
 ⟨k.os.trans h.os,k.tape.trans h.tape,k.output.trans h.output,Nat.le_trans h.size k.size,fun i hi hg=>(k.block i (Nat.lt_of_lt_of_le hi h.size) hg).trans (h.block i hi hg)⟩
theorem Ext.apart {g:List Nat} {a b:World} (h:Ext a b):Apart g a b:=⟨h.os,h.tape,h.output,Ext.size h,fun k hk _=>RowKit.Below.block h k hk⟩
theorem Apart.alloc (g:List Nat) (w:World) (o:Obj):Apart g w (w.alloc o):=(Ext.alloc1 w o).apart
theorem Apart.setCell {g:List Nat} (w:World) {p:Addr} (hp:p.block ∈ g) (v:Value):Apart g w (w.setCell p v):=
 ⟨rfl,rfl,rfl,by simp[World.setCell],fun k _ hk=>RowKit.Below.heap_setCell _ _ _ _ (fun e=>hk (e ▸ hp))⟩
theorem Apart.ext {g:List Nat} {a b c:World} (h:Apart g b c) (k:Ext a b) (hg:∀ i ∈ g,a.heap.size≤i):Ext a c:=
 ⟨h.os.trans k.os,h.tape.trans k.tape,h.output.trans k.output,Nat.le_trans (Ext.size k) h.size,
  fun i hi=>(h.block i (Nat.lt_of_lt_of_le hi (Ext.size k)) (fun hm=>by have:=hg i hm;omega)).trans (RowKit.Below.block k i hi)⟩
theorem Apart.mono {g g':List Nat} {a b:World} (h:Apart g a b) (hg:∀ i ∈ g,i ∈ g'):Apart g' a b:=
 ⟨h.os,h.tape,h.output,h.size,fun i hi hn=>h.block i hi (fun hm=>hn (hg i hm))⟩
theorem Apart.cell {g:List Nat} {a b:World} (h:Apart g a b) {p:Addr} {v:Value} (hp:p.block ∉ g) (hc:a.cell? p=some v):b.cell? p=some v:=
 (World.cell?_of_block (w:=a) (h.block p.block (World.block_lt_of_cell? a p hc) hp)).trans hc
/-! ### the law -/
section
variable {P:Program} {ops:Array Oper} {Q:Exit→Act→World→Prop} {md:Region.Mode}
theorem ready_false {i:Nat} {listed:Array Bool} (h:i ∈ Region.ready md ops listed):∃ hi:i < listed.size,listed[i]=false:=by
 have h1:=(mem_ready.1 h).1
 rcases Nat.lt_or_ge i listed.size with hl | hl
 ·refine⟨hl,?_⟩
  simpa [hl] using h1
 ·simp[Array.getElem?_eq_none hl]at h1
theorem count_list (l:List Bool):∀ (i:Nat) (hi:i < l.length),l[i]=false→(l.set i true).count false+1=l.count false:=by
 induction l with
 | nil=>intro i hi;cases hi
 | cons b l ih=>
  intro i hi h
  cases i with
  | zero=>
   simp only[List.getElem_cons_zero]at h
   subst h
   simp
  | succ i=>
   simp only[List.getElem_cons_succ]at h
   have:=ih i (by simpa using hi) h
   simp only[List.set_cons_succ,List.count_cons]
   omega
theorem any_inv {I:Array Bool→Act→World→Prop}
  (hstep:∀ i listed a w,i ∈ Region.ready md ops listed→I listed a w→wpOp P ops Q i (fun a' w'=>I (listed.setIfInBounds i true) a' w') a w)
  (hend:∀ listed a w,Region.ready md ops listed=[]→I listed a w→Q .normal a w):
  ∀ (fuel:Nat) (listed:Array Bool) (a:Act) (w:World),listed.toList.count false≤fuel→I listed a w→wpAny P md ops Q fuel listed a w
 | 0,listed,a,w,hc,hI=>by
  have hr:Region.ready md ops listed=[]:=by
   rw[List.eq_nil_iff_forall_not_mem]
   intro i hi
   obtain⟨hl,hf⟩:=ready_false hi
   have:=count_list listed.toList i (by simpa using hl) (by simpa using hf)
   omega
  exact⟨hr,hend _ _ _ hr hI⟩
 | fuel+1,listed,a,w,hc,hI=>⟨fun hr=>hend _ _ _ hr hI,fun i hi=>by
   obtain⟨hl,hf⟩:=ready_false hi
   have hcnt:=count_list listed.toList i (by simpa using hl) (by simpa using hf)
   exact wpOp_mono (fun a' w' h'=>any_inv hstep hend fuel _ a' w' (by rw[Array.toList_setIfInBounds];omega) h') (hstep i listed a w hi hI)⟩
def putAll:List Oper→Nat→(Nat→Value)→Act→Act
 | [],_,_,a=>a
 | o :: os,k,vs,a=>putAll os (k+1) vs (a.put o.dst (vs k))
def onceB:List Oper→Bool
 | []=>true
 | o :: os=>(match o.dst with | some d=>os.all (fun o'=>o'.dst != some d) | none=>true) && onceB os
def upd (vs:Nat→Value) (i:Nat) (v:Value):Nat→Value:=fun k=>if k=i then v else vs k
theorem upd_same (vs:Nat→Value) (i:Nat) (v:Value):upd vs i v i=v:=if_pos rfl
theorem upd_other {vs:Nat→Value} {i k:Nat} (h:k≠i) (v:Value):upd vs i v k=vs k:=if_neg h
theorem put_twice (a:Act) (d:Option Tmp) (v u:Value):(a.put d v).put d u=a.put d u:=by
 cases d with
 | none=>rfl
 | some d=>simp[Act.put,Array.setIfInBounds_setIfInBounds]
theorem putAll_put:∀ (l:List Oper) (k:Nat) (vs:Nat→Value) (a:Act) (d:Option Tmp) (v:Value),(∀ t,d=some t→l.all (fun o'=>o'.dst != some t)=true)→(putAll l k vs a).put d v=putAll l k vs (a.put d v)
 | [],_,_,_,_,_,_=>rfl
 | o :: os,k,vs,a,d,v,h=>by
  unfold putAll
  rw[putAll_put os (k+1) vs _ d v (fun t ht=>by have:=h t ht;simp only[List.all_cons,Bool.and_eq_true]at this;exact this.2)]
  rw[Act.put_comm a (vs k) v]
  intro t ht hd
  have:=h t hd
  simp only[List.all_cons,Bool.and_eq_true,bne_iff_ne,ne_eq]at this
  exact this.1 ht
theorem putAll_upd:∀ (l:List Oper) (k:Nat) (vs:Nat→Value) (a:Act) (i:Nat) (o:Oper) (v:Value),onceB l=true→l[i]? = some o→(putAll l k vs a).put o.dst v=putAll l k (upd vs (k+i) v) a
 | [],_,_,_,_,_,_,_,h=>by simp at h
 | o :: os,k,vs,a,i,o',v,h1,h2=>by
  have ext:∀ (l:List Oper) (m:Nat) (vs':Nat→Value) (b:Act),k < m→putAll l m (upd vs' k v) b=putAll l m vs' b:=by
   intro l
   induction l with
   | nil=>intros;rfl
   | cons x xs ih=>
    intro m vs' b hm
    unfold putAll
    rw[upd_other (by omega),ih (m+1) vs' _ (by omega)]
  unfold onceB at h1
  rw[Bool.and_eq_true]at h1
  cases i with
  | zero=>
   simp only[List.getElem?_cons_zero,Option.some.injEq]at h2
   subst h2
   unfold putAll
   rw[putAll_put,put_twice]
   show _=putAll os (k+1) (upd vs k v) (a.put o.dst (upd vs k v k))
   rw[ext _ _ _ _ (Nat.lt_succ_self k),upd_same]
   intro t ht
   have:=h1.1
   rw[ht]at this
   exact this
  | succ i=>
   simp only[List.getElem?_cons_succ]at h2
   unfold putAll
   rw[putAll_upd os (k+1) vs _ i o' v h1.2 h2,upd_other (by omega),show k+1+i=k+(i+1) by omega]
theorem putAll_own (a:Act):∀ (l:List Oper) (k:Nat),onceB l=true→putAll l k (fun i=>((l[i - k]?).bind (·.dst)).elim undef (fun d=>a.tmps.getD d undef)) a=a:=by
 have self:∀ (d:Option Tmp),a.put d (d.elim undef (fun d=>a.tmps.getD d undef))=a:=by
  intro d
  cases d with
  | none=>rfl
  | some d=>
   show ({ a with tmps:=a.tmps.setIfInBounds d (a.tmps.getD d undef) }:Act)=a
   have:a.tmps.setIfInBounds d (a.tmps.getD d undef)=a.tmps:=by
    rcases Nat.lt_or_ge d a.tmps.size with h | h
    ·apply Array.ext (by simp)
     intro i h1 h2
     rw[Array.getElem_setIfInBounds]
     split
     ·rename_i e;subst e;simp
     ·rfl
    ·rw[Array.setIfInBounds_eq_of_size_le h]
   rw[this]
 intro l
 induction l with
 | nil=>intros;rfl
 | cons o os ih=>
  intro k h
  unfold onceB at h
  rw[Bool.and_eq_true]at h
  unfold putAll
  simp only[Nat.sub_self,List.getElem?_cons_zero,Option.bind_some]
  rw[self]
  have e:∀ (m:Nat) (l':List Oper) (b:Act) (f g:Nat→Value),(∀ i,m≤i→f i=g i)→putAll l' m f b=putAll l' m g b:=by
   intro m l'
   induction l' generalizing m with
   | nil=>intros;rfl
   | cons x xs ih2=>
    intro b f g hfg
    unfold putAll
    rw[hfg m (Nat.le_refl _),ih2 (m+1) _ f g (fun i hi=>hfg i (by omega))]
  rw[e (k+1) os a _ (fun i=>((os[i - (k+1)]?).bind (·.dst)).elim undef (fun d=>a.tmps.getD d undef)) ?_]
  ·exact ih (k+1) h.2
  ·intro i hi
   rw[show i - k=(i - (k+1))+1 by omega,List.getElem?_cons_succ]
def downB (md:Region.Mode):List Oper→Nat→Bool
 | [],_=>true
 | o :: os,k=>o.after.all (fun e=>!Region.binds md e || decide (e.on < k)) && downB md os (k+1)
theorem downB_spec:∀ (l:List Oper) (k i:Nat) (o:Oper),downB md l k=true→l[i]? = some o→∀ e ∈ o.after,Region.binds md e=true→e.on < k+i
 | [],_,_,_,_,h=>by simp at h
 | x :: xs,k,0,o,h,h2=>by
  simp only[List.getElem?_cons_zero,Option.some.injEq]at h2
  subst h2
  unfold downB at h
  rw[Bool.and_eq_true]at h
  intro e he hb
  have:=Array.all_eq_true_iff_forall_mem.1 h.1 e he
  rw[hb]at this
  simpa using this
 | x :: xs,k,i+1,o,h,h2=>by
  unfold downB at h
  rw[Bool.and_eq_true]at h
  intro e he hb
  have:=downB_spec xs (k+1) i o h.2 (by simpa using h2) e he hb
  omega
inductive PS
 | one (p:Value→World→Prop)
 | two (j:Nat) (p:Value→Value→World→Prop)
 | three (j k:Nat) (p:Value→Value→Value→World→Prop)
 | own (p:World→Prop)
def PS.holds (q:PS) (i:Nat) (vs:Nat→Value) (w:World):Prop:=
 match q with
 | .one p=>p (vs i) w
 | .two j p=>p (vs j) (vs i) w
 | .three j k p=>p (vs j) (vs k) (vs i) w
 | .own p=>p w
def PS.deps:PS→List Nat
 | .one _=>[]
 | .two j _=>[j]
 | .three j k _=>[j,k]
 | .own _=>[]
theorem PS.upd (q:PS) {i k:Nat} {vs:Nat→Value} {v:Value} {w:World} (h1:i≠k) (h2:k ∉ q.deps):q.holds i (upd vs k v) w=q.holds i vs w:=by
 cases q with
 | one p=>simp only[PS.holds,upd_other h1]
 | two j p=>
  simp only[PS.deps,List.mem_singleton]at h2
  simp only[PS.holds,upd_other h1,upd_other (fun e=>h2 (e ▸ rfl):j≠k)]
 | own p=>rfl
 | three j m p=>
  simp only[PS.deps,List.mem_cons,List.not_mem_nil,or_false,not_or]at h2
  simp only[PS.holds,upd_other h1,upd_other (Ne.symm h2.1),upd_other (Ne.symm h2.2)]
variable {l:List Oper} {a0:Act} {S:World→Prop} {ps:List PS} {A:(Nat→Value)→Act}
def psAt (ps:List PS) (i:Nat):PS:=ps.getD i (.one fun _ _=>True)
def AllPosts:List PS→Nat→(Nat→Value)→World→Prop
 | [],_,_,_=>True
 | p :: ps,k,vs,w=>p.holds k vs w∧AllPosts ps (k+1) vs w
def Pres (ps:List PS):List Nat→(Nat→Value)→World→Prop
 | [],_,_=>True
 | j :: js,vs,w=>(psAt ps j).holds j vs w∧Pres ps js vs w
def Keeps (i:Nat) (w w':World):List PS→Nat→Prop
 | [],_=>True
 | p :: ps,k=>(k≠i→∀ vs,p.holds k vs w→p.holds k vs w')∧Keeps i w w' ps (k+1)
theorem Keeps.at {i:Nat} {w w':World}:∀ (ps:List PS) (k:Nat),Keeps i w w' ps k→∀ j vs,k+j≠i→(psAt ps j).holds (k+j) vs w→(psAt ps j).holds (k+j) vs w'
 | [],_,_,_,_,_,_=>by unfold psAt;simp[PS.holds]
 | p :: ps,k,h,0,vs,hn,hp=>h.1 hn vs hp
 | p :: ps,k,h,j+1,vs,hn,hp=>by
  have:=Keeps.at ps (k+1) h.2 j vs (by omega)
  rw[show k+1+j=k+(j+1) by omega]at this
  exact this hp
def Stays:List PS→Prop
 | []=>True
 | p :: ps=>(∀ k vs w w',Ext w w'→p.holds k vs w→p.holds k vs w')∧Stays ps
theorem Stays.keeps {i:Nat} {w w':World} (hE:Ext w w'):∀ (ps:List PS) (k:Nat),Stays ps→Keeps i w w' ps k
 | [],_,_=>trivial
 | _ :: ps,k,h=>⟨fun _ vs hp=>h.1 k vs w w' hE hp,Stays.keeps hE ps (k+1) h.2⟩
theorem AllPosts.of:∀ (ps:List PS) (k:Nat) (vs:Nat→Value) (w:World),(∀ i,i < ps.length→(psAt ps i).holds (k+i) vs w)→AllPosts ps k vs w
 | [],_,_,_,_=>trivial
 | p :: ps,k,vs,w,h=>⟨by have:=h 0 (by simp);exact this,AllPosts.of ps (k+1) vs w (fun i hi=>by have:=h (i+1) (by simp;omega);rw[show k+1+i=k+(i+1) by omega];exact this)⟩
def waitsB (md:Region.Mode) (o:Oper) (js:List Nat):Bool:=js.all (fun j=>o.after.any (fun e=>Region.binds md e && e.on==j))
theorem waitsB_spec {o:Oper} {js:List Nat} (h:waitsB md o js=true):∀ j ∈ js,∃ e ∈ o.after,Region.binds md e=true∧e.on=j:=by
 intro j hj
 have h1:=List.all_eq_true.1 h j hj
 obtain⟨e,he,hb⟩:=Array.any_eq_true'.1 h1
 simp only[Bool.and_eq_true,beq_iff_eq]at hb
 exact⟨e,he,hb.1,hb.2⟩
def depsB (md:Region.Mode):List Oper→List PS→Bool
 | o :: os,p :: ps=>waitsB md o p.deps && depsB md os ps
 | [],[]=>true
 | _,_=>false
theorem depsB_spec:∀ (l:List Oper) (ps:List PS) (i:Nat) (o:Oper),depsB md l ps=true→l[i]? = some o→∀ j ∈ (psAt ps i).deps,∃ e ∈ o.after,Region.binds md e=true∧e.on=j
 | [],_,_,_,_,h=>by simp at h
 | o :: os,p :: ps,0,o',h,h2=>by
  simp only[List.getElem?_cons_zero,Option.some.injEq]at h2
  subst h2
  unfold depsB at h
  rw[Bool.and_eq_true]at h
  exact waitsB_spec h.1
 | o :: os,p :: ps,i+1,o',h,h2=>by
  unfold depsB at h
  rw[Bool.and_eq_true]at h
  exact depsB_spec os ps i o' h.2 (by simpa using h2)
 | _ :: _,[],_,_,h,_=>by simp[depsB]at h
theorem depsB_len:∀ (l:List Oper) (ps:List PS),depsB md l ps=true→l.length=ps.length
 | [],[],_=>rfl
 | _ :: os,_ :: ps,h=>by
  unfold depsB at h
  rw[Bool.and_eq_true]at h
  simp[depsB_len os ps h.2]
 | [],_ :: _,h=>by simp[depsB]at h
 | _ :: _,[],h=>by simp[depsB]at h
def initAt (a0:Act) (l:List Oper) (j:Nat):Value:=((l[j]?).bind (·.dst)).elim undef (fun d=>a0.tmps.getD d undef)
def Olds (md:Region.Mode) (l:List Oper) (a0:Act) (i:Nat) (vs:Nat→Value):Prop:=∀ j oj,l[j]? = some oj→waitsB md oj [i]=true→vs j=initAt a0 l j
def Owes (P:Program) (md:Region.Mode) (l:List Oper) (Q:Exit→Act→World→Prop) (a0:Act) (S:World→Prop) (ps:List PS) (i:Nat):Prop:=
 ∀ o,l[i]? = some o→∀ (vs:Nat→Value) (w:World),S w→(∀ e ∈ o.after,Region.binds md e=true→(psAt ps e.on).holds e.on vs w)→Olds md l a0 i vs →
  wpOp P l.toArray Q i (fun a' w'=>∃ v,a'=(putAll l 0 vs a0).put o.dst v∧S w'∧Keeps i w w' ps 0∧(psAt ps i).holds i (upd vs i v) w') (putAll l 0 vs a0) w
def OwesAll (P:Program) (md:Region.Mode) (l:List Oper) (Q:Exit→Act→World→Prop) (a0:Act) (S:World→Prop) (ps:List PS):List Oper→Nat→Prop
 | [],_=>True
 | _ :: os,k=>Owes P md l Q a0 S ps k∧OwesAll P md l Q a0 S ps os (k+1)
theorem OwesAll.at:∀ (os:List Oper) (k:Nat),OwesAll P md l Q a0 S ps os k→∀ i,i < os.length→Owes P md l Q a0 S ps (k+i)
 | [],_,_,i,hi=>by simp at hi
 | _ :: _,_,h,0,_=>h.1
 | _ :: os,k,h,i+1,hi=>by have:=OwesAll.at os (k+1) h.2 i (by simpa using hi);rw[show k+(i+1)=k+1+i by omega];exact this
def OwesAt (P:Program) (md:Region.Mode) (l:List Oper) (Q:Exit→Act→World→Prop) (a0:Act) (A:(Nat→Value)→Act) (S:World→Prop) (ps:List PS) (i:Nat):Prop:=
 ∀ o,l[i]? = some o→∀ (vs:Nat→Value) (w:World),S w→(∀ e ∈ o.after,Region.binds md e=true→(psAt ps e.on).holds e.on vs w)→Olds md l a0 i vs →
  wpOp P l.toArray Q i (fun a' w'=>∃ v,a'=(A vs).put o.dst v∧S w'∧Keeps i w w' ps 0∧(psAt ps i).holds i (upd vs i v) w') (A vs) w
def OwesAllAt (P:Program) (md:Region.Mode) (l:List Oper) (Q:Exit→Act→World→Prop) (a0:Act) (A:(Nat→Value)→Act) (S:World→Prop) (ps:List PS):List Oper→Nat→Prop
 | [],_=>True
 | _ :: os,k=>OwesAt P md l Q a0 A S ps k∧OwesAllAt P md l Q a0 A S ps os (k+1)
theorem OwesAllAt.back (hA:∀ vs,putAll l 0 vs a0=A vs):∀ (os:List Oper) (k:Nat),OwesAllAt P md l Q a0 A S ps os k→OwesAll P md l Q a0 S ps os k
 | [],_,_=>trivial
 | _ :: os,k,h=>⟨fun o ho vs w hS hp hx=>by rw[hA];exact h.1 o ho vs w hS hp hx,OwesAllAt.back hA os (k+1) h.2⟩
theorem owes {o:Oper} (k:Nat) (pre:List Nat) (ho:l[k]? = some o) (hpre:waitsB md o pre=true)
  (h:∀ (vs:Nat→Value) (w:World),S w→Pres ps pre vs w→Olds md l a0 k vs→∀ K:Act→World→Prop,(∀ v w',S w'→Keeps k w w' ps 0→(psAt ps k).holds k (upd vs k v) w'→K ((A vs).put o.dst v) w') →
   if Region.wanted o (yielded l.toArray (A vs).tmps)=true then Oper.wp P o (A vs) w K Q else K ((A vs).put o.dst undef) w):OwesAt P md l Q a0 A S ps k:=by
 intro o' ho' vs w hS hp hx
 rw[ho]at ho'
 cases ho'
 have hpres:Pres ps pre vs w:=by
  have hw:=waitsB_spec hpre
  clear h hpre
  induction pre with
  | nil=>trivial
  | cons j js ih=>
   refine⟨?_,ih (fun j' hj'=>hw j' (List.mem_cons_of_mem _ hj'))⟩
   obtain⟨e,he,hb,hon⟩:=hw j (List.mem_cons_self ..)
   have:=hp e he hb
   rw[hon]at this
   exact this
 exact wpOp_step (by simpa using ho) (fun K' hK=>h vs w hS hpres hx K' (fun v w' hS' hk hPo=>hK _ _ ⟨v,rfl,hS',hk,hPo⟩))
theorem region_inv0 {id:Nat} {w:World} (ps:List PS) (S:World→Prop) (hm:P.follows .mixedOrders=true) (honce:onceB l=true) (hdown:downB .any l 0=true) (hdeps:depsB .any l ps=true)
  (hS:S w.drew) (howe:OwesAll P .any l Q a0 S ps l 0)
  (hfin:∀ (vs:Nat→Value) (w':World),S w'→AllPosts ps 0 vs w'→Q .normal (putAll l 0 vs a0) w'):
  (Code.region id l.toArray true).wp P Q a0 w:=by
 refine wp_region_any hm ?_
 refine any_inv (I:=fun listed a w=>listed.size=l.length∧∃ vs,a=putAll l 0 vs a0∧S w∧(∀ i,listed.getD i false=true→(psAt ps i).holds i vs w∧∀ o,l[i]? = some o→∀ e ∈ o.after,Region.binds .any e=true→listed.getD e.on false=true)∧∀ i,listed.getD i false=false→vs i=initAt a0 l i) ?_ ?_ _ _ _ _ (by simp) ⟨by simp,_,(putAll_own a0 l 0 honce).symm,hS,(fun i hi=>by rw[getD_replicate_false]at hi;cases hi),fun i _=>rfl⟩
 ·rintro i listed a w hi ⟨hsz,vs,rfl,hSw,hP,hI⟩
  obtain⟨hif,o,ho,hall⟩:=mem_ready.1 hi
  have hi0:¬ listed.getD i false=true:=by
   obtain⟨h1,h2⟩:=ready_false hi
   simp[h1,h2]
  have ho':l[i]? = some o:=by simpa using ho
  have hil:i < l.length:=(List.getElem?_eq_some_iff.1 ho').1
  have how:=OwesAll.at l 0 howe i hil
  rw[Nat.zero_add]at how
  have holds:Olds .any l a0 i vs:=fun j oj hoj hw=>by
   refine hI j ?_
   obtain⟨e,he,hb,hon⟩:=waitsB_spec hw i (by simp)
   cases hj:listed.getD j false
   ·rfl
   ·have:=(hP j hj).2 oj hoj e he hb
    rw[hon]at this
    exact absurd this hi0
  refine wpOp_mono ?_ (how o ho' vs w hSw (fun e he hb=>(hP _ (hall e he hb)).1) holds)
  rintro a' w' ⟨v,rfl,hS',hK,hPi⟩
  have hset:∀ j,listed.getD j false=true→(listed.setIfInBounds i true).getD j false=true:=fun j hj=>getD_set_true hj
  refine⟨by simpa using hsz,upd vs i v,?_,hS',fun k hk=>?_,fun k hk=>?_⟩
  ·have:=putAll_upd l 0 vs a0 i o v honce ho'
   rw[Nat.zero_add]at this
   exact this
  ·by_cases hki:k=i
   ·subst hki
    refine⟨hPi,fun o2 ho2 e he hb=>?_⟩
    rw[ho']at ho2
    cases ho2
    exact hset _ (hall e he hb)
   ·have hkl:listed.getD k false=true:=by simpa [Array.getElem?_setIfInBounds_ne (Ne.symm hki)] using hk
    obtain⟨h1,h2⟩:=hP k hkl
    refine⟨?_,fun o2 ho2 e he hb=>hset _ (h2 o2 ho2 e he hb)⟩
    rw[PS.upd _ hki (fun hm=>?_)]
    ·have:=Keeps.at ps 0 hK k vs (by omega)
     rw[Nat.zero_add]at this
     exact this h1
    ·rcases Nat.lt_or_ge k l.length with hkl2 | hkl2
     ·obtain⟨e,he,hb,hon⟩:=depsB_spec l ps k l[k] hdeps (by simp[hkl2]) i hm
      have:=h2 l[k] (by simp[hkl2]) e he hb
      rw[hon]at this
      exact hi0 this
     ·have hlen:=depsB_len l ps hdeps
      have:psAt ps k=.one fun _ _=>True:=by unfold psAt;rw[List.getD_eq_getElem?_getD,List.getElem?_eq_none (by omega)];rfl
      rw[this]at hm
      simp[PS.deps]at hm
  ·have hki:k≠i:=by
    intro e
    subst e
    obtain⟨h1,-⟩:=ready_false hi
    simp[h1]at hk
   rw[upd_other hki]
   refine hI k ?_
   simpa [Array.getElem?_setIfInBounds_ne (Ne.symm hki)] using hk
 ·rintro listed a w hr ⟨hsz,vs,rfl,hSw,hP,hI⟩
  have hall:∀ i,i < l.length→listed.getD i false=true:=by
   intro i
   induction i using Nat.strongRecOn with
   | ind i ih=>
    intro hil
    apply Classical.byContradiction
    intro hn
    have hlf:listed.getD i true=false:=by
     have h2:i < listed.size:=by omega
     simp[h2]at hn ⊢
     exact hn
    have hmem:i ∈ Region.ready .any l.toArray listed:=by
     refine mem_ready.2 ⟨hlf,l[i],by simp[hil],?_⟩
     intro e he hb
     have hlt:=downB_spec l 0 i l[i] hdown (by simp[hil]) e he hb
     rw[Nat.zero_add]at hlt
     exact ih e.on hlt (by omega)
    rw[hr]at hmem
    cases hmem
  refine hfin vs w hSw (AllPosts.of ps 0 vs w fun i hi=>?_)
  rw[Nat.zero_add]
  exact(hP i (hall i (by rw[depsB_len l ps hdeps];exact hi))).1
theorem region_inv1 {id:Nat} {w:World} (ps:List PS) (S:World→Prop) (honce:onceB l=true) (hdown:downB .any l 0=true) (hdeps:depsB .any l ps=true)
  (hS:S w) (howe:OwesAll P .any l Q a0 S ps l 0)
  (hfin:∀ (vs:Nat→Value) (w':World),S w'→AllPosts ps 0 vs w'→Q .normal (putAll l 0 vs a0) w'):
  (Code.region id l.toArray false).wp P Q a0 w:=by
 refine wp_region ?_
 have key:∀ (m k:Nat),k+m=l.length→∀ (vs:Nat→Value) (w:World),S w→(∀ i,i < k→(psAt ps i).holds i vs w)→(∀ i,k≤i→vs i=initAt a0 l i)→wpOps P l.toArray Q (List.range' k m) (putAll l 0 vs a0) w:=by
  intro m
  induction m with
  | zero=>
   intro k hk vs w hSw hP hI
   refine hfin vs w hSw (AllPosts.of ps 0 vs w fun i hi=>?_)
   rw[Nat.zero_add]
   exact hP i (by have:=depsB_len l ps hdeps;omega)
  | succ m ih=>
   intro k hk vs w hSw hP hI
   have hkl:k < l.length:=by omega
   rw[List.range'_succ,wpOps_cons]
   have how:=OwesAll.at l 0 howe k hkl
   rw[Nat.zero_add]at how
   have ho:l[k]? = some l[k]:=by simp[hkl]
   have hd:=downB_spec l 0 k l[k] hdown ho
   rw[Nat.zero_add]at hd
   have holds:Olds .any l a0 k vs:=fun j oj hoj hw=>by
    refine hI j ?_
    obtain⟨e,he,hb,hon⟩:=waitsB_spec hw k (by simp)
    have:=downB_spec l 0 j oj hdown hoj e he hb
    omega
   refine wpOp_mono ?_ (how l[k] ho vs w hSw (fun e he hb=>hP _ (hd e he hb)) holds)
   rintro a' w' ⟨v,rfl,hS',hK,hPi⟩
   have e:=putAll_upd l 0 vs a0 k l[k] v honce ho
   rw[Nat.zero_add]at e
   rw[e]
   refine ih (k+1) (by omega) (upd vs k v) w' hS' (fun i hi=>?_) (fun i hi=>by rw[upd_other (by omega)];exact hI i (by omega))
   by_cases hik:i=k
   ·subst hik;exact hPi
   ·have hlt:i < k:=by omega
    rw[PS.upd _ hik (fun hm=>?_)]
    ·have:=Keeps.at ps 0 hK i vs (by omega)
     rw[Nat.zero_add]at this
     exact this (hP i hlt)
    ·obtain⟨e,he,hb,hon⟩:=depsB_spec l ps i l[i] hdeps (by simp[show i < l.length by omega]) k hm
     have:=downB_spec l 0 i l[i] hdown (by simp[show i < l.length by omega]) e he hb
     omega
 have h0:=key l.length 0 (by omega) (fun i=>((l[i - 0]?).bind (·.dst)).elim undef (fun d=>a0.tmps.getD d undef)) w hS (fun i hi=>by omega) (fun i _=>rfl)
 rw[putAll_own a0 l 0 honce]at h0
 rw[List.range_eq_range']
 simpa using h0
theorem region_inv {id:Nat} {w:World} {b:Bool} (ps:List PS) (S:World→Prop) (hm:P.follows .mixedOrders=true) (honce:onceB l=true) (hdown:downB .any l 0=true) (hdeps:depsB .any l ps=true)
  (hA:∀ vs,putAll l 0 vs a0=A vs) (hS:∀ W,Ext w W→S W) (howe:OwesAllAt P .any l Q a0 A S ps l 0)
  (hfin:∀ (vs:Nat→Value) (w':World),S w'→AllPosts ps 0 vs w'→Q .normal (A vs) w'):
  (Code.region id l.toArray b).wp P Q a0 w:=by
 cases b
 ·exact region_inv1 ps S honce hdown hdeps (hS _ (Ext.refl w)) (OwesAllAt.back hA l 0 howe) (fun vs w' h1 h2=>by rw[hA];exact hfin vs w' h1 h2)
 ·exact region_inv0 ps S hm honce hdown hdeps (hS _ (Ext.drew1 w)) (OwesAllAt.back hA l 0 howe) (fun vs w' h1 h2=>by rw[hA];exact hfin vs w' h1 h2)
end
end Go.Rt
namespace Go.Rt
open Go.RowKit Go.Proofs
def Rw (w:World) (v:Value) (x:Rat):Prop:=∃ b a n c a' n' c',v=.agg #[.bool b,.slice a n c,.slice a' n' c']∧Hid (b=decide (x.num < 0))∧Nw w (.slice a n c) x.num.natAbs∧Nw w (.slice a' n' c') x.den
theorem Rw.ext {w w':World} (h:Ext w w') {v:Value} {x:Rat} (s:Rw w v x):Rw w' v x:=
 let ⟨b,a,n,c,a',n',c',h1,hb,h2,h3⟩:=s;⟨b,a,n,c,a',n',c',h1,hb,h2.ext h,h3.ext h⟩
theorem Rw.off {w w':World} {v:Value} {x:Rat} {b:Nat} {t:TypeId} {cs:Array Value} (h:Rw w v x) (hb:w.heap[b]? = some (.cells cs t (0,0))) (hc:NoU cs) (hs:∀ k,k≠b→w'.heap[k]? = w.heap[k]?):Rw w' v x:=
 let ⟨b',a,n,c,a',n',c',h1,h2,h3,h4⟩:=h;⟨b',a,n,c,a',n',c',h1,h2,h3.off hb hc hs,h4.off hb hc hs⟩
theorem mkRat_parts (z:Int) (N:Nat) (h:N≠0):(mkRat z N).num.natAbs=z.natAbs / Nat.gcd z.natAbs N∧(mkRat z N).den=N / Nat.gcd z.natAbs N∧decide ((mkRat z N).num < 0)=decide (z < 0):=by
 have hg:0 < Nat.gcd z.natAbs N:=Nat.gcd_pos_of_pos_right _ (Nat.pos_of_ne_zero h)
 have hd:((Nat.gcd z.natAbs N:Nat):Int)∣z:=Int.ofNat_dvd_left.2 (Nat.gcd_dvd_left _ _)
 have e1:(mkRat z N).num=z / ((Nat.gcd z.natAbs N:Nat):Int):=by rw[Rat.num_mkRat];simp[h,Nat.gcd_comm]
 have e2:(mkRat z N).den=N / Nat.gcd z.natAbs N:=by rw[Rat.den_mkRat];simp[h,Nat.gcd_comm]
 refine⟨?_,e2,?_⟩
 ·rw[e1,Int.natAbs_ediv_of_dvd hd];rfl
 ·rw[e1]
  apply decide_eq_decide.2
  obtain⟨k,hk⟩:=hd
  have hgI:(0:Int) < ((Nat.gcd z.natAbs N:Nat):Int):=by omega
  generalize ((Nat.gcd z.natAbs N:Nat):Int)=g at *
  subst hk
  rw[Int.mul_ediv_cancel_left _ (by omega)]
  constructor
  ·intro hk;exact Int.mul_neg_of_pos_of_neg hgI hk
  ·intro hk
   apply Classical.byContradiction
   intro hk2
   have:=Int.mul_nonneg (Int.le_of_lt hgI) (show 0≤k by omega)
   omega
/-! boxes of three cells -/
def Bx3 (W:World) (b:Nat) (t:TypeId) (x y z:Value):Prop:=W.heap[b]? = some (.cells #[x,y,z] t (0,0))
theorem Bx3.new (W:World) (t:TypeId) (x y z:Value):Bx3 (W.alloc (.cells #[x,y,z] t)) W.heap.size t x y z:=World.alloc_heap_new W _
theorem Bx3.ext {W W':World} {b:Nat} {t:TypeId} {x y z:Value} (h:Bx3 W b t x y z) (hx:Ext W W'):Bx3 W' b t x y z:=(Below.block hx b (Array.getElem?_eq_some_iff.1 h).1).trans h
theorem Bx3.cell0 {W:World} {b:Nat} {t:TypeId} {x y z:Value} (h:Bx3 W b t x y z):W.cell? ⟨b,0,none⟩=some x:=by simp[World.cell?,show W.heap[b]? = _ from h]
theorem Bx3.cell1 {W:World} {b:Nat} {t:TypeId} {x y z:Value} (h:Bx3 W b t x y z):W.cell? ⟨b,1,none⟩=some y:=by simp[World.cell?,show W.heap[b]? = _ from h]
theorem Bx3.cell2 {W:World} {b:Nat} {t:TypeId} {x y z:Value} (h:Bx3 W b t x y z):W.cell? ⟨b,2,none⟩=some z:=by simp[World.cell?,show W.heap[b]? = _ from h]
theorem Bx3.froz0 {W:World} {b:Nat} {t:TypeId} {x y z:Value} (h:Bx3 W b t x y z):W.frozen? ⟨b,0,none⟩=false:=by simp[World.frozen?,show W.heap[b]? = _ from h]
theorem Bx3.froz1 {W:World} {b:Nat} {t:TypeId} {x y z:Value} (h:Bx3 W b t x y z):W.frozen? ⟨b,1,none⟩=false:=by simp[World.frozen?,show W.heap[b]? = _ from h]
theorem Bx3.froz2 {W:World} {b:Nat} {t:TypeId} {x y z:Value} (h:Bx3 W b t x y z):W.frozen? ⟨b,2,none⟩=false:=by simp[World.frozen?,show W.heap[b]? = _ from h]
theorem Bx3.lt {W:World} {b:Nat} {t:TypeId} {x y z:Value} (h:Bx3 W b t x y z):b < W.heap.size:=(Array.getElem?_eq_some_iff.1 h).1
theorem Bx3.set {W:World} {b:Nat} {t:TypeId} {x y z:Value} (h:Bx3 W b t x y z) (x' y' z':Value):Bx3 (((W.setCell ⟨b,0,none⟩ x').setCell ⟨b,1,none⟩ y').setCell ⟨b,2,none⟩ z') b t x' y' z':=by
 obtain⟨hlt,hk⟩:=Array.getElem?_eq_some_iff.1 h
 have e1:(W.setCell ⟨b,0,none⟩ x').heap[b]? = some (.cells #[x',y,z] t (0,0)):=by
  show (W.heap.modify b _)[b]? = _
  rw[Array.getElem?_eq_getElem (by rw[Array.size_modify];exact hlt),Array.getElem_modify_self,hk]
  rfl
 obtain⟨hlt2,hk2⟩:=Array.getElem?_eq_some_iff.1 e1
 have e2:((W.setCell ⟨b,0,none⟩ x').setCell ⟨b,1,none⟩ y').heap[b]? = some (.cells #[x',y',z] t (0,0)):=by
  show ((W.setCell ⟨b,0,none⟩ x').heap.modify b _)[b]? = _
  rw[Array.getElem?_eq_getElem (by rw[Array.size_modify];exact hlt2),Array.getElem_modify_self,hk2]
  rfl
 obtain⟨hlt3,hk3⟩:=Array.getElem?_eq_some_iff.1 e2
 show (((W.setCell ⟨b,0,none⟩ x').setCell ⟨b,1,none⟩ y').heap.modify b _)[b]? = _
 rw[Array.getElem?_eq_getElem (by rw[Array.size_modify];exact hlt3),Array.getElem_modify_self,hk3]
 rfl
theorem Ext.set3 {W W':World} {b:Nat} (h:Ext W W') (hb:W.heap.size≤b) (x y z:Value):Ext W (((W'.setCell ⟨b,0,none⟩ x).setCell ⟨b,1,none⟩ y).setCell ⟨b,2,none⟩ z):=(h.set2 hb x y).setCell (p:=⟨b,2,none⟩) hb z
theorem off_set3 (w:World) (b:Nat) (x y z:Value):∀ k,k≠b→(((w.setCell ⟨b,0,none⟩ x).setCell ⟨b,1,none⟩ y).setCell ⟨b,2,none⟩ z).heap[k]? = w.heap[k]?:=fun k hk=>
 (Below.heap_setCell _ ⟨b,2,none⟩ z k hk).trans (off_set2 w b x y k hk)
set_option maxHeartbeats 400000 in
theorem Tryz.refRMake {v v2:Value} {z:Int} {N L:Nat} {w:World} (h:Zw w v z) (h2:Nw w v2 N) (s1:Sm L z.natAbs) (s2:Sm L N) (hL:L≤300) (hN:N≠0):
  Calls Tryz.prog 63 #[v,v2] w fun e w'=>∃ v',e=.returned (.tuple #[v',.int .i64 0])∧Rw w' v' (mkRat z N)∧Ext w w':=by
 obtain⟨b,a,n,c,rfl,hb,hn⟩:=h
 obtain⟨a2,n2,c2,rfl,hz2,-⟩:=h2.len
 have hn0:0 < n2:=by have:=mt hz2.1 hN;omega
 have hn0I:¬ ((n2:Int)=0):=by omega
 obtain⟨hp1,hp2,hp3⟩:=mkRat_parts z N hN
 have HQ1:=Lib.hid hp1
 have HQ2:=Lib.hid hp2
 have HQ3:Hid (b=decide ((mkRat z N).num < 0)):=Lib.hid (by rw[hp3];exact hb.out)
 have r1:Bx2 (w.alloc (.cells #[.bool b,.slice a n c] 43)) w.heap.size 43 (.bool b) (.slice a n c):=Bx2.new _ _ _ _
 have r2:=Bx3.new (w.alloc (.cells #[.bool b,.slice a n c] 43)) 45 (.bool false) (.slice none 0 0) (.slice none 0 0)
 have E1:=(Ext.alloc1 w (.cells #[.bool b,.slice a n c] 43))
 have E2:=(Ext.alloc1 (w.alloc (.cells #[.bool b,.slice a n c] 43)) (.cells #[.bool false,.slice none 0 0,.slice none 0 0] 45))
 have E0:=E1.trans E2
 replace r1:=r1.ext E2
 simp only[World.size_alloc]at r2
 have hg0:=Nat.gcd_pos_of_pos_right z.natAbs (Nat.pos_of_ne_zero hN)
 have sg:Sm L (Nat.gcd z.natAbs N):=s2.le (Nat.gcd_le_right _ (Nat.pos_of_ne_zero hN))
 have f1:=r1.cell0
 have f2:=r1.cell1
 clear hp1 hp2 hp3 hz2 E1 E2
 go_enter Tryz.func63,Tryz.ntmps63
 go_wp2_with fail
 refine(Tryz.refGcd (hn.ext E0) (h2.ext E0) s1 s2 hL).mono ?_
 rintro e w1 ⟨vg,rfl,hg,hE⟩
 replace r1:=r1.ext hE
 replace r2:=r2.ext hE
 replace E0:=E0.trans hE
 clear f1 f2 hE
 have f1:=r1.cell0
 have f2:=r1.cell1
 go_wp2_with fail
 refine(Tryz.refDivMod (hn.ext E0) hg s1 sg hL).mono ?_
 rintro e w2 ⟨vq,vr,rfl,hq,-,hE,-,-⟩
 replace r1:=r1.ext hE
 replace r2:=r2.ext hE
 replace hg:=hg.ext hE
 replace E0:=E0.trans hE
 clear f1 f2 hE
 have f1:=r1.cell0
 have f2:=r1.cell1
 go_wp2_with fail
 refine(Tryz.refDivMod (h2.ext E0) hg s2 sg hL).mono ?_
 rintro e w3 ⟨vq',vr',rfl,hq',-,hE,-,-⟩
 replace r1:=r1.ext hE
 replace r2:=r2.ext hE
 replace hq:=hq.ext hE
 replace E0:=E0.trans hE
 clear f1 f2 hE
 rw[← HQ1.out]at hq
 rw[← HQ2.out]at hq'
 obtain⟨a3,n3,c3,rfl⟩:=hq.slice
 obtain⟨a4,n4,c4,rfl⟩:=hq'.slice
 have f1:=r1.cell0
 have f2:=r1.cell1
 have f3:=r2.cell0
 have f4:=r2.cell1
 have f5:=r2.cell2
 have f6:=r2.froz0
 have f7:=r2.froz1
 have f8:=r2.froz2
 clear h2 hn hg hn0 s1 s2 sg hg0
 go_wp2
 have q:=r2.set (.bool b) (.slice a3 n3 c3) (.slice a4 n4 c4)
 have e0:=q.cell0
 have e1:=q.cell1
 have e2:=q.cell2
 exact bodyPost_ret (v:=.tuple #[.agg #[.bool b,.slice a3 n3 c3,.slice a4 n4 c4],.int .i64 0]) (by simp[results,Tryz.results63,go_sem,e0,e1,e2]) rfl ⟨_,rfl,⟨b,a3,n3,c3,a4,n4,c4,rfl,HQ3,hq.off r2 (noU3 _ _ _ _ _ _ _) (off_set3 _ _ _ _ _),hq'.off r2 (noU3 _ _ _ _ _ _ _) (off_set3 _ _ _ _ _)⟩,E0.set3 (by omega) _ _ _⟩
set_option maxHeartbeats 400000 in
theorem Tryz.ratMake {v v2:Value} {z:Int} {N L:Nat} {w:World} (h:Zw w v z) (h2:Nw w v2 N) (s1:Sm L z.natAbs) (s2:Sm L N) (hL:L≤300000) (hN:N≠0):
  Calls Tryz.prog 122 #[v,v2] w fun e w'=>∃ v',e=.returned (.tuple #[v',.int .i64 0])∧Rw w' v' (mkRat z N)∧Ext w w':=by
 obtain⟨b,a,n,c,rfl,hb,hn⟩:=h
 obtain⟨a2,n2,c2,rfl,hz2,-⟩:=h2.len
 have hn0:0 < n2:=by have:=mt hz2.1 hN;omega
 have hn0I:¬ ((n2:Int)=0):=by omega
 obtain⟨hp1,hp2,hp3⟩:=mkRat_parts z N hN
 have HQ1:=Lib.hid hp1
 have HQ2:=Lib.hid hp2
 have HQ3:Hid (b=decide ((mkRat z N).num < 0)):=Lib.hid (by rw[hp3];exact hb.out)
 have r1:Bx2 (w.alloc (.cells #[.bool b,.slice a n c] 43)) w.heap.size 43 (.bool b) (.slice a n c):=Bx2.new _ _ _ _
 have r2:=Bx3.new (w.alloc (.cells #[.bool b,.slice a n c] 43)) 45 (.bool false) (.slice none 0 0) (.slice none 0 0)
 have E1:=(Ext.alloc1 w (.cells #[.bool b,.slice a n c] 43))
 have E2:=(Ext.alloc1 (w.alloc (.cells #[.bool b,.slice a n c] 43)) (.cells #[.bool false,.slice none 0 0,.slice none 0 0] 45))
 have E0:=E1.trans E2
 replace r1:=r1.ext E2
 simp only[World.size_alloc]at r2
 have hg0:=Nat.gcd_pos_of_pos_right z.natAbs (Nat.pos_of_ne_zero hN)
 have sg:Sm L (Nat.gcd z.natAbs N):=s2.le (Nat.gcd_le_right _ (Nat.pos_of_ne_zero hN))
 have f1:=r1.cell0
 have f2:=r1.cell1
 clear hp1 hp2 hp3 hz2 E1 E2
 go_enter Tryz.func122,Tryz.ntmps122
 go_wp2_with fail
 refine(Tryz.divGcd (hn.ext E0) (h2.ext E0) s1 s2 hL).mono ?_
 rintro e w1 ⟨vg,rfl,hg,hE⟩
 replace r1:=r1.ext hE
 replace r2:=r2.ext hE
 replace E0:=E0.trans hE
 clear f1 f2 hE
 have f1:=r1.cell0
 have f2:=r1.cell1
 go_wp2_with fail
 refine(Tryz.divDivMod (hn.ext E0) hg s1 hL).mono ?_
 rintro e w2 ⟨vq,vr,rfl,hq,-,hE,-,-⟩
 replace r1:=r1.ext hE
 replace r2:=r2.ext hE
 replace hg:=hg.ext hE
 replace E0:=E0.trans hE
 clear f1 f2 hE
 have f1:=r1.cell0
 have f2:=r1.cell1
 go_wp2_with fail
 refine(Tryz.divDivMod (h2.ext E0) hg s2 hL).mono ?_
 rintro e w3 ⟨vq',vr',rfl,hq',-,hE,-,-⟩
 replace r1:=r1.ext hE
 replace r2:=r2.ext hE
 replace hq:=hq.ext hE
 replace E0:=E0.trans hE
 clear f1 f2 hE
 rw[← HQ1.out]at hq
 rw[← HQ2.out]at hq'
 obtain⟨a3,n3,c3,rfl⟩:=hq.slice
 obtain⟨a4,n4,c4,rfl⟩:=hq'.slice
 have f1:=r1.cell0
 have f2:=r1.cell1
 have f3:=r2.cell0
 have f4:=r2.cell1
 have f5:=r2.cell2
 have f6:=r2.froz0
 have f7:=r2.froz1
 have f8:=r2.froz2
 clear h2 hn hg hn0 s1 s2 sg hg0
 go_wp2
 have q:=r2.set (.bool b) (.slice a3 n3 c3) (.slice a4 n4 c4)
 have e0:=q.cell0
 have e1:=q.cell1
 have e2:=q.cell2
 exact bodyPost_ret (v:=.tuple #[.agg #[.bool b,.slice a3 n3 c3,.slice a4 n4 c4],.int .i64 0]) (by simp[results,Tryz.results122,go_sem,e0,e1,e2]) rfl ⟨_,rfl,⟨b,a3,n3,c3,a4,n4,c4,rfl,HQ3,hq.off r2 (noU3 _ _ _ _ _ _ _) (off_set3 _ _ _ _ _),hq'.off r2 (noU3 _ _ _ _ _ _ _) (off_set3 _ _ _ _ _)⟩,E0.set3 (by omega) _ _ _⟩
end Go.Rt
namespace Go.Rt
def SmR (L:Nat) (x:Rat):Prop:=Sm L x.num.natAbs∧Sm L x.den
theorem SmR.mono {L L':Nat} {x:Rat} (h:SmR L x) (hl:L≤L'):SmR L' x:=⟨h.1.mono hl,h.2.mono hl⟩
theorem SmR.mk {L:Nat} {z:Int} {N:Nat} (h1:Sm L z.natAbs) (h2:Sm L N) (hN:N≠0):SmR L (mkRat z N):=by
 obtain⟨e1,e2,-⟩:=mkRat_parts z N hN
 exact⟨h1.le (by rw[e1];exact Nat.div_le_self _ _),h2.le (by rw[e2];exact Nat.div_le_self _ _)⟩
theorem Sm.addZ {L:Nat} {x y:Int} (h:Sm L x.natAbs) (k:Sm L y.natAbs):Sm (L+1) (x+y).natAbs:=(h.add k).le (by omega)
theorem Rat.add_mk (x y:Rat):mkRat (x.num*(y.den:Int)+y.num*(x.den:Int)) (x.den*y.den)=x+y:=by
 rw[Rat.add_def,Rat.normalize_eq_mkRat]
theorem Rat.mul_mk (x y:Rat):mkRat (x.num*y.num) (x.den*y.den)=x*y:=by
 rw[Rat.mul_def,Rat.normalize_eq_mkRat]
theorem SmR.add {L:Nat} {x y:Rat} (h:SmR L x) (k:SmR L y):SmR (L+L+1) (x+y):=by
 rw[← Rat.add_mk]
 refine SmR.mk (Sm.addZ ?_ ?_) ((h.2.mul k.2).mono (by omega)) (Nat.mul_ne_zero x.den_nz y.den_nz)
 ·rw[Int.natAbs_mul];exact h.1.mul k.2
 ·rw[Int.natAbs_mul];exact k.1.mul h.2
theorem SmR.mul {L:Nat} {x y:Rat} (h:SmR L x) (k:SmR L y):SmR (L+L) (x*y):=by
 rw[← Rat.mul_mk]
 refine SmR.mk ?_ (h.2.mul k.2) (Nat.mul_ne_zero x.den_nz y.den_nz)
 rw[Int.natAbs_mul];exact h.1.mul k.1
theorem SmR.neg {L:Nat} {x:Rat} (h:SmR L x):SmR L (-x):=⟨by rw[Rat.neg_num,Int.natAbs_neg];exact h.1,h.2⟩
theorem SmR.sub {L:Nat} {x y:Rat} (h:SmR L x) (k:SmR L y):SmR (L+L+1) (x - y):=by rw[Rat.sub_eq_add_neg];exact h.add k.neg
theorem SmR.abs {L:Nat} {x:Rat} (h:SmR L x):SmR L x.abs:=by
 unfold Rat.abs
 split
 ·exact h
 ·exact h.neg
theorem SmR.int {n:Int} (h:n.natAbs < 18446744073709551616):SmR 1 (n:Rat):=⟨by rw[Rat.num_intCast];exact Sm.small h,by rw[Rat.den_intCast];exact Sm.small (by omega)⟩
theorem Rat.div_mk (x y:Rat) (hy:y≠0):mkRat (x.num*(if y.num < 0 then -(y.den:Int) else (y.den:Int))) (x.den*y.num.natAbs)=x / y:=by
 have hyn:y.num≠0:=fun e=>hy (Rat.num_eq_zero.1 e)
 rw[Rat.mkRat_eq_div,Rat.natCast_mul]
 have e1:x=(x.num:Rat) / (x.den:Rat):=(Rat.mkRat_self x).symm.trans (Rat.mkRat_eq_div _ _)
 have e2:y=(y.num:Rat) / (y.den:Rat):=(Rat.mkRat_self y).symm.trans (Rat.mkRat_eq_div _ _)
 have hx0:(x.den:Rat)≠0:=by exact_mod_cast x.den_nz
 have hy0:(y.den:Rat)≠0:=by exact_mod_cast y.den_nz
 have hn0:(y.num:Rat)≠0:=by exact_mod_cast hyn
 generalize hX:(x.den:Rat)=X at *
 generalize hY:(y.den:Rat)=Y at *
 by_cases h:y.num < 0
 ·have e3:(y.num.natAbs:Rat) = -(y.num:Rat):=by
   rw[← Rat.intCast_natCast,show ((y.num.natAbs:Nat):Int) = -y.num by omega,Rat.intCast_neg]
  rw[if_pos h,e3,Rat.intCast_mul,Rat.intCast_neg]
  generalize (x.num:Rat)=a at *
  generalize (y.num:Rat)=b at *
  rw[show (((y.den:Nat):Int):Rat)=Y from (Rat.intCast_natCast _).trans hY]
  clear hX hY
  rw[e1,e2]
  grind
 ·have e3:(y.num.natAbs:Rat)=(y.num:Rat):=by
   rw[← Rat.intCast_natCast,show ((y.num.natAbs:Nat):Int)=y.num by omega]
  rw[if_neg h,e3,Rat.intCast_mul]
  generalize (x.num:Rat)=a at *
  generalize (y.num:Rat)=b at *
  rw[show (((y.den:Nat):Int):Rat)=Y from (Rat.intCast_natCast _).trans hY]
  clear hX hY
  rw[e1,e2]
  grind
theorem SmR.div {L:Nat} {x y:Rat} (h:SmR L x) (k:SmR L y) (hy:y≠0):SmR (L+L) (x / y):=by
 have hyn:y.num≠0:=fun e=>hy (Rat.num_eq_zero.1 e)
 rw[← Rat.div_mk x y hy]
 refine SmR.mk ?_ (h.2.mul k.1) (Nat.mul_ne_zero x.den_nz (by omega))
 rw[Int.natAbs_mul]
 refine h.1.mul ?_
 split
 ·rw[Int.natAbs_neg];exact k.2
 ·exact k.2
def nearR (x:Rat):Int:=if 2*(x - x.floor) < 1∨(2*(x - x.floor)=1∧x.floor % 2=0) then x.floor else x.floor+1
def IsNear (x:Rat) (n:Int):Prop:=-1≤2*(x - n)∧2*(x - n)≤1∧(n % 2=0∨(2*(x - n)≠1∧2*(x - n) ≠ -1))
theorem floor_le' (x:Rat):(x.floor:Rat)≤x:=Rat.le_floor_iff.1 (Int.le_refl _)
theorem lt_floor' (x:Rat):x < (x.floor:Rat)+1:=by
 have:=Rat.floor_lt_iff.1 (Int.lt_succ x.floor)
 rw[Rat.intCast_add]at this
 simpa using this
theorem near_is (x:Rat):IsNear x (nearR x):=by
 have h1:=floor_le' x
 have h2:=lt_floor' x
 unfold nearR
 split
 ·rename_i h
  refine⟨by grind,by grind,?_⟩
  rcases h with h | h
  ·right;constructor <;> grind
  ·left;exact h.2
 ·rename_i h
  rw[not_or]at h
  unfold IsNear
  rw[Rat.intCast_add]
  refine⟨by grind,by grind,?_⟩
  by_cases e:x.floor % 2=0
  ·right
   have:¬ 2*(x - x.floor)=1:=fun e2=>h.2 ⟨e2,e⟩
   constructor <;> grind
  ·left;omega
theorem near_unique {x:Rat} {n m:Int} (h:IsNear x n) (k:IsNear x m):n=m:=by
 obtain⟨h1,h2,h3⟩:=h
 obtain⟨k1,k2,k3⟩:=k
 have d1:((n - m:Int):Rat)≤1:=by rw[Rat.intCast_sub];grind
 have d2:((m - n:Int):Rat)≤1:=by rw[Rat.intCast_sub];grind
 have e1:n - m≤1:=by exact_mod_cast d1
 have e2:m - n≤1:=by exact_mod_cast d2
 apply Classical.byContradiction
 intro hne
 have:n=m+1∨m=n+1:=by omega
 rcases this with rfl | rfl
 ·rw[Rat.intCast_add]at *
  have:2*(x - (m:Rat))=1:=by grind
  rcases k3 with k3 | k3
  ·rcases h3 with h3 | h3
   ·omega
   ·exact h3.2 (by grind)
  ·exact k3.1 this
 ·rw[Rat.intCast_add]at *
  have:2*(x - (n:Rat))=1:=by grind
  rcases h3 with h3 | h3
  ·rcases k3 with k3 | k3
   ·omega
   ·exact k3.2 (by grind)
  ·exact h3.1 this
theorem near_eq {x:Rat} {n:Int} (h:IsNear x n):nearR x=n:=near_unique (near_is x) h
theorem near_neg (x:Rat):nearR (-x) = -nearR x:=by
 obtain⟨h1,h2,h3⟩:=near_is x
 refine near_eq ⟨?_,?_,?_⟩
 ·rw[Rat.intCast_neg];grind
 ·rw[Rat.intCast_neg];grind
 ·rw[Rat.intCast_neg]
  rcases h3 with h3 | h3
  ·left;omega
  ·right;constructor <;> grind
theorem near_int (n:Int):nearR (n:Rat)=n:=near_eq ⟨by grind,by grind,by right;constructor <;> grind⟩
theorem near_mono {x y:Rat} (h:x≤y):nearR x≤nearR y:=by
 obtain⟨h1,h2,h3⟩:=near_is x
 obtain⟨k1,k2,k3⟩:=near_is y
 apply Classical.byContradiction
 intro hn
 have d:((nearR x - nearR y:Int):Rat)≤1:=by rw[Rat.intCast_sub];grind
 have e1:nearR x - nearR y≤1:=by exact_mod_cast d
 have e2:nearR x=nearR y+1:=by omega
 rw[e2,Rat.intCast_add]at h1 h2 h3
 have exy:x=y:=by grind
 subst exy
 omega
theorem floor_ratio (z:Int) (Q:Nat) (hQ:0 < Q):((z:Rat) / (Q:Rat)).floor=z / (Q:Int):=by
 have hq:(0:Rat) < (Q:Rat):=by exact_mod_cast hQ
 have key:∀ n:Int,n≤((z:Rat) / (Q:Rat)).floor↔n≤z / (Q:Int):=by
  intro n
  rw[Rat.le_floor_iff,Int.le_ediv_iff_mul_le (by omega)]
  constructor
  ·intro h
   have h2:(n:Rat)*Q≤z:=by
    have:=Rat.mul_le_mul_of_nonneg_right h (Rat.le_of_lt hq)
    rwa [Rat.div_mul_cancel (by grind)]at this
   rw[← Rat.intCast_natCast,← Rat.intCast_mul]at h2
   exact Rat.intCast_le_intCast.1 h2
  ·intro h
   have h2:(n:Rat)*Q≤z:=by
    rw[← Rat.intCast_natCast,← Rat.intCast_mul]
    exact Rat.intCast_le_intCast.2 h
   refine Rat.le_of_mul_le_mul_right (c:=(Q:Rat)) ?_ hq
   rwa [Rat.div_mul_cancel (by grind)]
 have h1:=(key ((z:Rat) / (Q:Rat)).floor).1 (Int.le_refl _)
 have h2:=(key (z / (Q:Int))).2 (Int.le_refl _)
 omega
theorem neg_ediv (N Q:Nat) (hQ:0 < Q):(-(N:Int)) / (Q:Int) = -((N / Q+(if N % Q=0 then 0 else 1):Nat):Int):=by
 have e:=Nat.div_add_mod N Q
 have hr:=Nat.mod_lt N hQ
 generalize N / Q=q at *
 generalize N % Q=r at *
 have hQ':(0:Int) < Q:=by omega
 apply Int.le_antisymm
 ·rw[← Int.lt_add_one_iff,Int.ediv_lt_iff_lt_mul hQ']
  subst e
  split
  ·rename_i h
   subst h
   rw[Int.add_mul,Int.neg_mul]
   simp only[Nat.add_zero,Int.one_mul,Int.natCast_mul]
   rw[Int.mul_comm (q:Int)]
   omega
  ·rename_i h
   rw[Int.add_mul,Int.neg_mul]
   simp only[Int.natCast_add,Int.natCast_mul,Int.one_mul,Int.add_mul,Int.natCast_one]
   rw[Int.mul_comm (q:Int)]
   omega
 ·rw[Int.le_ediv_iff_mul_le hQ']
  subst e
  split
  ·rename_i h
   subst h
   simp only[Nat.add_zero,Int.natCast_mul,Int.neg_mul]
   rw[Int.mul_comm (q:Int)]
   omega
  ·rename_i h
   rw[Int.neg_mul]
   simp only[Int.natCast_add,Int.natCast_mul,Int.one_mul,Int.add_mul,Int.natCast_one]
   rw[Int.mul_comm (q:Int)]
   omega
def nearN (N Q:Nat):Nat:=if Q < 2*(N % Q)∨(2*(N % Q)=Q∧N / Q % 2=1) then N / Q+1 else N / Q
theorem near_ratio (N Q:Nat) (hQ:0 < Q):nearR ((N:Rat) / (Q:Rat))=((nearN N Q:Nat):Int):=by
 have hq:(0:Rat) < (Q:Rat):=by exact_mod_cast hQ
 obtain⟨m,hm⟩:∃ m,m=nearN N Q:=⟨_,rfl⟩
 have e:=Nat.div_add_mod N Q
 have hr:=Nat.mod_lt N hQ
 have key:(-(Q:Int)≤2*((N:Int) - (m:Int)*Q)∧2*((N:Int) - (m:Int)*Q)≤Q)∧(m % 2=0∨(2*((N:Int) - (m:Int)*Q)≠Q∧2*((N:Int) - (m:Int)*Q) ≠ -(Q:Int))):=by
  have e':((N:Nat):Int)=(Q:Int)*((N / Q:Nat):Int)+((N % Q:Nat):Int):=by exact_mod_cast e.symm
  unfold nearN at hm
  split at hm
  ·rename_i h
   rw[hm,e']
   generalize N / Q=q at *
   generalize N % Q=r at *
   have e2:(Q:Int)*(q:Int)+(r:Int) - ((q+1:Nat):Int)*Q=(r:Int) - Q:=by grind
   rw[e2]
   omega
  ·rename_i h
   rw[hm,e']
   generalize N / Q=q at *
   generalize N % Q=r at *
   have e2:(Q:Int)*(q:Int)+(r:Int) - ((q:Nat):Int)*Q=(r:Int):=by grind
   rw[e2]
   omega
 rw[← hm]
 have hy:(N:Rat) / (Q:Rat)*Q=N:=Rat.div_mul_cancel (by grind)
 generalize (N:Rat) / (Q:Rat)=y at *
 obtain⟨⟨k1,k2⟩,k3⟩:=key
 have cast:((2*((N:Int) - (m:Int)*Q):Int):Rat)=2*((N:Rat) - (m:Rat)*Q):=by
  simp only[Rat.intCast_mul,Rat.intCast_sub,Rat.intCast_natCast]
  rfl
 have r1:-(Q:Rat)≤2*((N:Rat) - (m:Rat)*Q):=by
  rw[← cast,← Rat.intCast_natCast,← Rat.intCast_neg]
  exact Rat.intCast_le_intCast.2 k1
 have r2:2*((N:Rat) - (m:Rat)*Q)≤(Q:Rat):=by
  rw[← cast,← Rat.intCast_natCast]
  exact Rat.intCast_le_intCast.2 k2
 refine near_eq ⟨?_,?_,?_⟩
 ·rw[Rat.intCast_natCast]
  refine Rat.le_of_mul_le_mul_right (c:=(Q:Rat)) ?_ hq
  grind
 ·rw[Rat.intCast_natCast]
  refine Rat.le_of_mul_le_mul_right (c:=(Q:Rat)) ?_ hq
  grind
 ·rcases k3 with k3 | ⟨k3,k4⟩
  ·left;omega
  ·right
   rw[Rat.intCast_natCast]
   constructor
   ·intro h
    apply k3
    have:((2*((N:Int) - (m:Int)*Q):Int):Rat)=((Q:Int):Rat):=by rw[cast,Rat.intCast_natCast];grind
    exact Rat.intCast_inj.1 this
   ·intro h
    apply k4
    have:((2*((N:Int) - (m:Int)*Q):Int):Rat)=((-(Q:Int):Int):Rat):=by rw[cast,Rat.intCast_neg,Rat.intCast_natCast];grind
    exact Rat.intCast_inj.1 this
def P2 (K:Nat):Rat:=((2^K:Nat):Rat)
theorem P2_pos (K:Nat):0 < P2 K:=by unfold P2;exact_mod_cast Nat.pow_pos (by omega)
theorem P2_zero:P2 0=1:=by unfold P2;rfl
theorem scaled (x:Rat) (K:Nat):x*P2 K=((x.num*((2^K:Nat):Int):Int):Rat) / (x.den:Rat):=by
 have e1:x=(x.num:Rat) / (x.den:Rat):=(Rat.mkRat_self x).symm.trans (Rat.mkRat_eq_div _ _)
 have hx0:(x.den:Rat)≠0:=by exact_mod_cast x.den_nz
 rw[Rat.intCast_mul,Rat.intCast_natCast]
 unfold P2
 generalize ((2^K:Nat):Rat)=p at *
 generalize hX:(x.den:Rat)=X at *
 generalize hN:(x.num:Rat)=N at *
 rw[e1]
 grind
theorem den_pos (x:Rat):0 < x.den:=Nat.pos_of_ne_zero x.den_nz
theorem floor_pos {x:Rat} (h:¬ x.num < 0) (K:Nat):(x*P2 K).floor=((x.num.natAbs*2^K / x.den:Nat):Int):=by
 rw[scaled,floor_ratio _ _ (den_pos x)]
 rw[Int.natCast_ediv,Int.natCast_mul,show ((x.num.natAbs:Nat):Int)=x.num by omega]
theorem floor_neg {x:Rat} (h:x.num < 0) (K:Nat):(x*P2 K).floor = -((x.num.natAbs*2^K / x.den+(if x.num.natAbs*2^K % x.den=0 then 0 else 1):Nat):Int):=by
 rw[scaled,floor_ratio _ _ (den_pos x),← neg_ediv _ _ (den_pos x),Int.natCast_mul,← Int.neg_mul,show -((x.num.natAbs:Nat):Int)=x.num by omega]
theorem near_sgn (x:Rat) (K:Nat):nearR (x*P2 K)=sgn (decide (x.num < 0)) (nearN (x.num.natAbs*2^K) x.den):=by
 by_cases h:x.num < 0
 ·rw[decide_eq_true h]
  unfold sgn
  rw[if_pos rfl,← near_ratio _ _ (den_pos x),← near_neg,scaled]
  congr 1
  rw[show x.num = -((x.num.natAbs:Nat):Int) by omega,Int.neg_mul,Rat.intCast_neg,← Int.natCast_mul,Rat.intCast_natCast]
  rw[show ((-((x.num.natAbs:Nat):Int)).natAbs)=x.num.natAbs by omega]
  rw[Rat.div_def,Rat.div_def,Rat.neg_mul]
 ·rw[decide_eq_false h]
  unfold sgn
  rw[if_neg (by simp),← near_ratio _ _ (den_pos x),scaled]
  congr 1
  rw[show x.num=((x.num.natAbs:Nat):Int) by omega,← Int.natCast_mul,Rat.intCast_natCast]
  rw[show ((((x.num.natAbs:Nat):Int)).natAbs)=x.num.natAbs by omega]
theorem nearN_le (N Q:Nat):nearN N Q≤N / Q+1:=by unfold nearN;split <;> omega
theorem Sm.scale {L:Nat} {x:Rat} (h:SmR L x) (K:Nat):Sm (L+(K / 64+1)) (x.num.natAbs*2^K):=h.1.mul (Sm.pow2 K)
theorem Sm.succ {L N:Nat} (h:Sm L N) (hL:0 < L):Sm (L+1) (N+1):=h.add ((Sm.small (by omega)).mono hL)
theorem Sm.floor {L:Nat} {x:Rat} (h:SmR L x) (K:Nat):Sm (L+(K / 64+2)) (x*P2 K).floor.natAbs:=by
 have h1:=(Sm.scale h K).succ (by omega)
 refine Sm.le (Sm.mono h1 (by omega)) ?_
 have h2:=Nat.div_le_self (x.num.natAbs*2^K) x.den
 by_cases hn:x.num < 0
 ·rw[floor_neg hn,Int.natAbs_neg,Int.natAbs_natCast];split <;> omega
 ·rw[floor_pos hn,Int.natAbs_natCast];omega
theorem Sm.near {L:Nat} {x:Rat} (h:SmR L x) (K:Nat):Sm (L+(K / 64+2)) (nearR (x*P2 K)).natAbs:=by
 have h1:=(Sm.scale h K).succ (by omega)
 refine Sm.le (Sm.mono h1 (by omega)) ?_
 have h2:=Nat.div_le_self (x.num.natAbs*2^K) x.den
 have h3:=nearN_le (x.num.natAbs*2^K) x.den
 rw[near_sgn,sgn_abs]
 omega
theorem SmR.back {L:Nat} {z:Int} (h:Sm L z.natAbs) (K:Nat):SmR (L+(K / 64+1)) (mkRat z (2^K)):=SmR.mk (h.mono (by omega)) ((Sm.pow2 K).mono (by omega)) (Nat.pos_iff_ne_zero.1 (Nat.pow_pos (by omega)))
theorem back_eq (z:Int) (K:Nat):mkRat z (2^K)=(z:Rat) / P2 K:=Rat.mkRat_eq_div _ _
end Go.Rt
