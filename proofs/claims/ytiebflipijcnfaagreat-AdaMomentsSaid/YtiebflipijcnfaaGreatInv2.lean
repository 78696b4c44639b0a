/-
 A region with two stores into boxes of its own: what holds of all operations' values together is told along.
-/
import Derived.Test.YtiebflipijcnfaaGreatGK
namespace Go.Rt
open Go Go.RowKit Go.Proofs
section
variable {P:Program} {Q:Exit→Act→World→Prop} {md:Region.Mode} {l:List Oper} {a0:Act} {S:(Nat→Value)→World→Prop} {ps:List PS} {A:(Nat→Value)→Act}
def Keep2 (ps:List PS) (i:Nat) (vs:Nat→Value) (w w':World):Prop:=∀ k,k≠i→(psAt ps k).holds k vs w→(psAt ps k).holds k vs w'
def Owes2 (P:Program) (md:Region.Mode) (l:List Oper) (Q:Exit→Act→World→Prop) (a0:Act) (S:(Nat→Value)→World→Prop) (ps:List PS) (i:Nat):Prop:=
 ∀ o,l[i]? = some o→∀ (vs:Nat→Value) (w:World),S vs w→(∀ e ∈ o.after,Region.binds md e=true→(psAt ps e.on).holds e.on vs w)→Olds md l a0 i vs →
  wpOp P l.toArray Q i (fun a' w'=>∃ v,a'=(putAll l 0 vs a0).put o.dst v∧S (upd vs i v) w'∧Keep2 ps i vs w w'∧(psAt ps i).holds i (upd vs i v) w') (putAll l 0 vs a0) w
def OwesAll2 (P:Program) (md:Region.Mode) (l:List Oper) (Q:Exit→Act→World→Prop) (a0:Act) (S:(Nat→Value)→World→Prop) (ps:List PS):List Oper→Nat→Prop
 | [],_=>True
 | _ :: os,k=>Owes2 P md l Q a0 S ps k∧OwesAll2 P md l Q a0 S ps os (k+1)
theorem OwesAll2.at:∀ (os:List Oper) (k:Nat),OwesAll2 P md l Q a0 S ps os k→∀ i,i < os.length→Owes2 P md l Q a0 S ps (k+i)
 | [],_,_,i,hi=>by simp at hi
 | _ :: _,_,h,0,_=>h.1
 | _ :: os,k,h,i+1,hi=>by have:=OwesAll2.at os (k+1) h.2 i (by simpa using hi);rw[show k+(i+1)=k+1+i by omega];exact this
def OwesAt2 (P:Program) (md:Region.Mode) (l:List Oper) (Q:Exit→Act→World→Prop) (a0:Act) (A:(Nat→Value)→Act) (S:(Nat→Value)→World→Prop) (ps:List PS) (i:Nat):Prop:=
 ∀ o,l[i]? = some o→∀ (vs:Nat→Value) (w:World),S vs w→(∀ e ∈ o.after,Region.binds md e=true→(psAt ps e.on).holds e.on vs w)→Olds md l a0 i vs →
  wpOp P l.toArray Q i (fun a' w'=>∃ v,a'=(A vs).put o.dst v∧S (upd vs i v) w'∧Keep2 ps i vs w w'∧(psAt ps i).holds i (upd vs i v) w') (A vs) w
def OwesAllAt2 (P:Program) (md:Region.Mode) (l:List Oper) (Q:Exit→Act→World→Prop) (a0:Act) (A:(Nat→Value)→Act) (S:(Nat→Value)→World→Prop) (ps:List PS):List Oper→Nat→Prop
 | [],_=>True
 | _ :: os,k=>OwesAt2 P md l Q a0 A S ps k∧OwesAllAt2 P md l Q a0 A S ps os (k+1)
theorem OwesAllAt2.back (hA:∀ vs,putAll l 0 vs a0=A vs):∀ (os:List Oper) (k:Nat),OwesAllAt2 P md l Q a0 A S ps os k→OwesAll2 P md l Q a0 S ps os k
 | [],_,_=>trivial
 | _ :: os,k,h=>⟨fun o ho vs w hS hp hx=>by rw[hA];exact h.1 o ho vs w hS hp hx,OwesAllAt2.back hA os (k+1) h.2⟩
theorem owes2 {o:Oper} (k:Nat) (pre:List Nat) (ho:l[k]? = some o) (hpre:waitsB md o pre=true)
  (h:∀ (vs:Nat→Value) (w:World),S vs w→Pres ps pre vs w→Olds md l a0 k vs→∀ K:Act→World→Prop,(∀ v w',S (upd vs k v) w'→Keep2 ps k vs w w'→(psAt ps k).holds k (upd vs k v) w'→K ((A vs).put o.dst v) w') →
   if Region.wanted o (yielded l.toArray (A vs).tmps)=true then Oper.wp P o (A vs) w K Q else K ((A vs).put o.dst undef) w):OwesAt2 P md l Q a0 A S ps k:=by
 intro o' ho' vs w hS hp hx
 rw[ho]at ho'
 cases ho'
 have hpres:Pres ps pre vs w:=by
  have hw:=waitsB_spec hpre
  clear h hpre
  induction pre with
  | nil=>trivial
  | cons j js ih=>
   refine⟨?_,ih (fun j' hj'=>hw j' (List.mem_cons_of_mem _ hj'))⟩
   obtain⟨e,he,hb,hon⟩:=hw j (List.mem_cons_self ..)
   have:=hp e he hb
   rw[hon]at this
   exact this
 exact wpOp_step (by simpa using ho) (fun K' hK=>h vs w hS hpres hx K' (fun v w' hS' hk hPo=>hK _ _ ⟨v,rfl,hS',hk,hPo⟩))
theorem region_two0 {id:Nat} {w:World} (ps:List PS) (S:(Nat→Value)→World→Prop) (hm:P.follows .mixedOrders=true) (honce:onceB l=true) (hdown:downB .any l 0=true) (hdeps:depsB .any l ps=true)
  (hS:S (initAt a0 l) w.drew) (howe:OwesAll2 P .any l Q a0 S ps l 0)
  (hfin:∀ (vs:Nat→Value) (w':World),S vs w'→AllPosts ps 0 vs w'→Q .normal (putAll l 0 vs a0) w'):
  (Code.region id l.toArray true).wp P Q a0 w:=by
 refine wp_region_any hm ?_
 refine any_inv (I:=fun listed a w=>listed.size=l.length∧∃ vs,a=putAll l 0 vs a0∧S vs w∧(∀ i,listed.getD i false=true→(psAt ps i).holds i vs w∧∀ o,l[i]? = some o→∀ e ∈ o.after,Region.binds .any e=true→listed.getD e.on false=true)∧∀ i,listed.getD i false=false→vs i=initAt a0 l i) ?_ ?_ _ _ _ _ (by simp) ⟨by simp,_,(putAll_own a0 l 0 honce).symm,hS,(fun i hi=>by rw[getD_replicate_false]at hi;cases hi),fun i _=>rfl⟩
 ·rintro i listed a w hi ⟨hsz,vs,rfl,hSw,hP,hI⟩
  obtain⟨hif,o,ho,hall⟩:=mem_ready.1 hi
  have hi0:¬ listed.getD i false=true:=by
   obtain⟨h1,h2⟩:=ready_false hi
   simp[h1,h2]
  have ho':l[i]? = some o:=by simpa using ho
  have hil:i < l.length:=(List.getElem?_eq_some_iff.1 ho').1
  have how:=OwesAll2.at l 0 howe i hil
  rw[Nat.zero_add]at how
  have holds:Olds .any l a0 i vs:=fun j oj hoj hw=>by
   refine hI j ?_
   obtain⟨e,he,hb,hon⟩:=waitsB_spec hw i (by simp)
   cases hj:listed.getD j false
   ·rfl
   ·have:=(hP j hj).2 oj hoj e he hb
    rw[hon]at this
    exact absurd this hi0
  refine wpOp_mono ?_ (how o ho' vs w hSw (fun e he hb=>(hP _ (hall e he hb)).1) holds)
  rintro a' w' ⟨v,rfl,hS',hK,hPi⟩
  have hset:∀ j,listed.getD j false=true→(listed.setIfInBounds i true).getD j false=true:=fun j hj=>getD_set_true hj
  refine⟨by simpa using hsz,upd vs i v,?_,hS',fun k hk=>?_,fun k hk=>?_⟩
  ·have:=putAll_upd l 0 vs a0 i o v honce ho'
   rw[Nat.zero_add]at this
   exact this
  ·by_cases hki:k=i
   ·subst hki
    refine⟨hPi,fun o2 ho2 e he hb=>?_⟩
    rw[ho']at ho2
    cases ho2
    exact hset _ (hall e he hb)
   ·have hkl:listed.getD k false=true:=by simpa [Array.getElem?_setIfInBounds_ne (Ne.symm hki)] using hk
    obtain⟨h1,h2⟩:=hP k hkl
    refine⟨?_,fun o2 ho2 e he hb=>hset _ (h2 o2 ho2 e he hb)⟩
    rw[PS.upd _ hki (fun hm=>?_)]
    ·exact hK k (by omega) h1
    ·rcases Nat.lt_or_ge k l.length with hkl2 | hkl2
     ·obtain⟨e,he,hb,hon⟩:=depsB_spec l ps k l[k] hdeps (by simp[hkl2]) i hm
      have:=h2 l[k] (by simp[hkl2]) e he hb
      rw[hon]at this
      exact hi0 this
     ·have hlen:=depsB_len l ps hdeps
      have:psAt ps k=.one fun _ _=>True:=by unfold psAt;rw[List.getD_eq_getElem?_getD,List.getElem?_eq_none (by omega)];rfl
      rw[this]at hm
      simp[PS.deps]at hm
  ·have hki:k≠i:=by
    intro e
    subst e
    obtain⟨h1,-⟩:=ready_false hi
    simp[h1]at hk
   rw[upd_other hki]
   refine hI k ?_
   simpa [Array.getElem?_setIfInBounds_ne (Ne.symm hki)] using hk
 ·rintro listed a w hr ⟨hsz,vs,rfl,hSw,hP,hI⟩
  have hall:∀ i,i < l.length→listed.getD i false=true:=by
   intro i
   induction i using Nat.strongRecOn with
   | ind i ih=>
    intro hil
    apply Classical.byContradiction
    intro hn
    have hlf:listed.getD i true=false:=by
     have h2:i < listed.size:=by omega
     simp[h2]at hn ⊢
     exact hn
    have hmem:i ∈ Region.ready .any l.toArray listed:=by
     refine mem_ready.2 ⟨hlf,l[i],by simp[hil],?_⟩
     intro e he hb
     have hlt:=downB_spec l 0 i l[i] hdown (by simp[hil]) e he hb
     rw[Nat.zero_add]at hlt
     exact ih e.on hlt (by omega)
    rw[hr]at hmem
    cases hmem
  refine hfin vs w hSw (AllPosts.of ps 0 vs w fun i hi=>?_)
  rw[Nat.zero_add]
  exact(hP i (hall i (by rw[depsB_len l ps hdeps];exact hi))).1
theorem region_two1 {id:Nat} {w:World} (ps:List PS) (S:(Nat→Value)→World→Prop) (honce:onceB l=true) (hdown:downB .any l 0=true) (hdeps:depsB .any l ps=true)
  (hS:S (initAt a0 l) w) (howe:OwesAll2 P .any l Q a0 S ps l 0)
  (hfin:∀ (vs:Nat→Value) (w':World),S vs w'→AllPosts ps 0 vs w'→Q .normal (putAll l 0 vs a0) w'):
  (Code.region id l.toArray false).wp P Q a0 w:=by
 refine wp_region ?_
 have key:∀ (m k:Nat),k+m=l.length→∀ (vs:Nat→Value) (w:World),S vs w→(∀ i,i < k→(psAt ps i).holds i vs w)→(∀ i,k≤i→vs i=initAt a0 l i)→wpOps P l.toArray Q (List.range' k m) (putAll l 0 vs a0) w:=by
  intro m
  induction m with
  | zero=>
   intro k hk vs w hSw hP hI
   refine hfin vs w hSw (AllPosts.of ps 0 vs w fun i hi=>?_)
   rw[Nat.zero_add]
   exact hP i (by have:=depsB_len l ps hdeps;omega)
  | succ m ih=>
   intro k hk vs w hSw hP hI
   have hkl:k < l.length:=by omega
   rw[List.range'_succ,wpOps_cons]
   have how:=OwesAll2.at l 0 howe k hkl
   rw[Nat.zero_add]at how
   have ho:l[k]? = some l[k]:=by simp[hkl]
   have hd:=downB_spec l 0 k l[k] hdown ho
   rw[Nat.zero_add]at hd
   have holds:Olds .any l a0 k vs:=fun j oj hoj hw=>by
    refine hI j ?_
    obtain⟨e,he,hb,hon⟩:=waitsB_spec hw k (by simp)
    have:=downB_spec l 0 j oj hdown hoj e he hb
    omega
   refine wpOp_mono ?_ (how l[k] ho vs w hSw (fun e he hb=>hP _ (hd e he hb)) holds)
   rintro a' w' ⟨v,rfl,hS',hK,hPi⟩
   have e:=putAll_upd l 0 vs a0 k l[k] v honce ho
   rw[Nat.zero_add]at e
   rw[e]
   refine ih (k+1) (by omega) (upd vs k v) w' hS' (fun i hi=>?_) (fun i hi=>by rw[upd_other (by omega)];exact hI i (by omega))
   by_cases hik:i=k
   ·subst hik;exact hPi
   ·have hlt:i < k:=by omega
    rw[PS.upd _ hik (fun hm=>?_)]
    ·exact hK i (by omega) (hP i hlt)
    ·obtain⟨e,he,hb,hon⟩:=depsB_spec l ps i l[i] hdeps (by simp[show i < l.length by omega]) k hm
     have:=downB_spec l 0 i l[i] hdown (by simp[show i < l.length by omega]) e he hb
     omega
 have h0:=key l.length 0 (by omega) (fun i=>((l[i - 0]?).bind (·.dst)).elim undef (fun d=>a0.tmps.getD d undef)) w hS (fun i hi=>by omega) (fun i _=>rfl)
 rw[putAll_own a0 l 0 honce]at h0
 rw[List.range_eq_range']
 simpa using h0
theorem region_two {id:Nat} {w:World} {b:Bool} (ps:List PS) (S:(Nat→Value)→World→Prop) (hm:P.follows .mixedOrders=true) (honce:onceB l=true) (hdown:downB .any l 0=true) (hdeps:depsB .any l ps=true)
  (hA:∀ vs,putAll l 0 vs a0=A vs) (hS:∀ W,Ext w W→S (initAt a0 l) W) (howe:OwesAllAt2 P .any l Q a0 A S ps l 0)
  (hfin:∀ (vs:Nat→Value) (w':World),S vs w'→AllPosts ps 0 vs w'→Q .normal (A vs) w'):
  (Code.region id l.toArray b).wp P Q a0 w:=by
 cases b
 ·exact region_two1 ps S honce hdown hdeps (hS _ (Ext.refl w)) (OwesAllAt2.back hA l 0 howe) (fun vs w' h1 h2=>by rw[hA];exact hfin vs w' h1 h2)
 ·exact region_two0 ps S hm honce hdown hdeps (hS _ (Ext.drew1 w)) (OwesAllAt2.back hA l 0 howe) (fun vs w' h1 h2=>by rw[hA];exact hfin vs w' h1 h2)
/-! several new blocks, apart from one another -/
def blk:Value→Option Nat
 | .pointer (some p)=>some p.block
 | .slice (some p) _ _=>some p.block
 | _=>none
def Many (ms:List Nat) (vs:Nat→Value) (w:World):Prop:=
 (∀ m ∈ ms,∀ g,blk (vs m)=some g→g < w.heap.size)∧∀ m ∈ ms,∀ m' ∈ ms,m≠m'→∀ g,blk (vs m)=some g→blk (vs m')≠some g
theorem Many.init {ms:List Nat} {vs:Nat→Value} {w:World} (h:∀ m ∈ ms,vs m=undef):Many ms vs w:=
 ⟨fun m hm g e=>(by rw[h m hm]at e;cases e),fun m hm m' _ _ g e=>(by rw[h m hm]at e;cases e)⟩
theorem Many.other {ms:List Nat} {k:Nat} {vs:Nat→Value} {w w':World} (h:Many ms vs w) (hk:k ∉ ms) (v:Value) (hs:w.heap.size≤w'.heap.size):Many ms (upd vs k v) w':=by
 have e:∀ m ∈ ms,upd vs k v m=vs m:=fun m hm=>upd_other (show m≠k from fun e=>hk (e ▸ hm)) v
 exact⟨fun m hm g hg=>Nat.lt_of_lt_of_le (h.1 m hm g (by rw[← e m hm];exact hg)) hs,fun m hm m' hm' hne g hg=>by
  rw[e m' hm']
  exact h.2 m hm m' hm' hne g (by rw[← e m hm];exact hg)⟩
theorem Many.new {ms:List Nat} {k:Nat} {vs:Nat→Value} {w:World} (h:Many ms vs w) (o:Obj) {v:Value} (hv:blk v=some w.heap.size):Many ms (upd vs k v) (w.alloc o):=by
 have hs:w.heap.size < (w.alloc o).heap.size:=(Array.getElem?_eq_some_iff.1 (heap_last w o)).1
 refine⟨fun m hm g hg=>?_,fun m hm m' hm' hne g hg hg'=>?_⟩
 ·by_cases e:m=k
  ·subst e
   rw[upd_same,hv]at hg
   cases hg
   exact hs
  ·rw[upd_other e]at hg
   exact Nat.lt_trans (h.1 m hm g hg) hs
 ·by_cases e:m=k
  ·subst e
   rw[upd_same,hv]at hg
   cases hg
   rw[upd_other (Ne.symm hne)]at hg'
   exact Nat.lt_irrefl _ (h.1 m' hm' _ hg')
  ·rw[upd_other e]at hg
   by_cases e':m'=k
   ·subst e'
    rw[upd_same,hv]at hg'
    cases hg'
    exact Nat.lt_irrefl _ (h.1 m hm _ hg)
   ·rw[upd_other e']at hg'
    exact h.2 m hm m' hm' hne g hg hg'
inductive Tag
 | any
 | fresh
 | new (m:Nat)
 | old (g:Nat)
 | last
def Tag.ok (B:Nat) (t:Tag) (p:PS):Prop:=
 match t with
 | .any=>match p with | .one q=>Good q | _=>False
 | .fresh=>(∀ k vs w w',Ext w w'→p.holds k vs w→p.holds k vs w')∧∀ k vs w w' g,Wr g w w'→g < B→p.holds k vs w→p.holds k vs w'
 | .new m=>(∀ k vs w w',Ext w w'→p.holds k vs w→p.holds k vs w')∧∀ k vs w w' g,Wr g w w'→(g < B∨blk (vs m)≠some g)→p.holds k vs w→p.holds k vs w'
 | .old g0=>(∀ k vs w w',Ext w w'→p.holds k vs w→p.holds k vs w')∧∀ k vs w w' g,Wr g w w'→g0≠g→p.holds k vs w→p.holds k vs w'
 | .last=>∀ k vs w w',Ext w w'→p.holds k vs w→p.holds k vs w'
theorem Tag.ok.ext {B:Nat} {t:Tag} {p:PS} (h:t.ok B p):∀ k vs w w',Ext w w'→p.holds k vs w→p.holds k vs w':=by
 cases t with
 | any=>
  cases p with
  | one q=>exact fun k vs w w' hE hp=>Good.ext h (vs k) w w' hE hp
  | two j q=>exact absurd h id
  | three j k q=>exact absurd h id
  | own q=>exact absurd h id
 | fresh=>exact h.1
 | new m=>exact h.1
 | old g=>exact h.1
 | last=>exact h
def Tags (B:Nat):List Tag→List PS→Prop
 | [],[]=>True
 | t :: ts,p :: ps=>t.ok B p∧Tags B ts ps
 | _,_=>False
def offB (k m:Nat) (ms:List Nat):List Tag→Nat→Bool
 | [],_=>true
 | t :: ts,i=>(i==k || (match t with | .any=>true | .fresh=>false | .new m'=>m' != m && ms.contains m' | .old _=>true | .last=>false)) && offB k m ms ts (i+1)
def OldOff (k g:Nat):List Tag→Nat→Prop
 | [],_=>True
 | t :: ts,i=>(i=k∨(match t with | .old g'=>g'≠g | .last=>False | _=>True))∧OldOff k g ts (i+1)
theorem Tags.keepE {B k:Nat} {vs:Nat→Value} {w w':World} (hE:Ext w w'):∀ (ts:List Tag) (ps:List PS) (i:Nat),Tags B ts ps→∀ j,i+j≠k→(psAt ps j).holds (i+j) vs w→(psAt ps j).holds (i+j) vs w'
 | [],[],_,_,_,_,_=>by unfold psAt;simp[PS.holds]
 | t :: ts,p :: ps,i,h,0,_,hp=>h.1.ext _ vs w w' hE hp
 | t :: ts,p :: ps,i,h,j+1,hn,hp=>by
  have:=Tags.keepE (k:=k) (vs:=vs) hE ts ps (i+1) h.2 j (by omega)
  rw[show i+1+j=i+(j+1) by omega]at this
  exact this hp
 | [],_ :: _,_,h,_,_,_=>absurd h id
 | _ :: _,[],_,h,_,_,_=>absurd h id
theorem Tags.keepP {B k m g:Nat} {ms:List Nat} {vs:Nat→Value} {w w':World} (hw:Wr g w w') (hv:blk (vs m)=some g) (hB:B≤g) (hm:m ∈ ms) (hM:Many ms vs w):∀ (ts:List Tag) (ps:List PS) (i:Nat),Tags B ts ps→offB k m ms ts i=true→(∀ g0,Tag.old g0 ∈ ts→g0 < B)→∀ j,i+j≠k→(psAt ps j).holds (i+j) vs w→(psAt ps j).holds (i+j) vs w'
 | [],[],_,_,_,_,_,_,_=>by unfold psAt;simp[PS.holds]
 | t :: ts,p :: ps,i,h,hb,ho,0,hn,hp=>by
  unfold offB at hb
  rw[Bool.and_eq_true,Bool.or_eq_true]at hb
  rcases hb.1 with hb | hb
  ·exact absurd (by simpa using hb) hn
  ·have h1:=h.1
   cases t with
   | any=>
    cases p with
    | one q=>exact Good.wr h1 (vs _) w w' g hw hp
    | two j q=>exact absurd h1 id
    | three j k q=>exact absurd h1 id
    | own q=>exact absurd h1 id
   | fresh=>cases hb
   | last=>cases hb
   | new m'=>
    rw[Bool.and_eq_true,List.contains_iff_mem]at hb
    exact h1.2 _ vs w w' g hw (.inr (hM.2 m hm m' hb.2 (fun e=>by rw[e]at hb;simp at hb) g hv)) hp
   | old g0=>exact h1.2 _ vs w w' g hw (by have:=ho g0 (by simp);omega) hp
 | t :: ts,p :: ps,i,h,hb,ho,j+1,hn,hp=>by
  unfold offB at hb
  rw[Bool.and_eq_true]at hb
  have:=Tags.keepP (k:=k) hw hv hB hm hM ts ps (i+1) h.2 hb.2 (fun g0 hg=>ho g0 (List.mem_cons_of_mem _ hg)) j (by omega)
  rw[show i+1+j=i+(j+1) by omega]at this
  exact this hp
 | [],_ :: _,_,h,_,_,_,_,_=>absurd h id
 | _ :: _,[],_,h,_,_,_,_,_=>absurd h id
theorem Tags.keepO {B k g:Nat} {vs:Nat→Value} {w w':World} (hw:Wr g w w') (hB:g < B):∀ (ts:List Tag) (ps:List PS) (i:Nat),Tags B ts ps→OldOff k g ts i→∀ j,i+j≠k→(psAt ps j).holds (i+j) vs w→(psAt ps j).holds (i+j) vs w'
 | [],[],_,_,_,_,_,_=>by unfold psAt;simp[PS.holds]
 | t :: ts,p :: ps,i,h,hb,0,hn,hp=>by
  rcases hb.1 with hb | hb
  ·exact absurd hb hn
  ·have h1:=h.1
   cases t with
   | any=>
    cases p with
    | one q=>exact Good.wr h1 (vs _) w w' g hw hp
    | two j q=>exact absurd h1 id
    | three j k q=>exact absurd h1 id
    | own q=>exact absurd h1 id
   | fresh=>exact h1.2 _ vs w w' g hw hB hp
   | last=>exact absurd hb id
   | new m'=>exact h1.2 _ vs w w' g hw (.inl hB) hp
   | old g0=>exact h1.2 _ vs w w' g hw hb hp
 | t :: ts,p :: ps,i,h,hb,j+1,hn,hp=>by
  have:=Tags.keepO (k:=k) (vs:=vs) hw hB ts ps (i+1) h.2 hb.2 j (by omega)
  rw[show i+1+j=i+(j+1) by omega]at this
  exact this hp
 | [],_ :: _,_,h,_,_,_,_=>absurd h id
 | _ :: _,[],_,h,_,_,_,_=>absurd h id
theorem tag_at2 {B g0 j:Nat} {t:TypeId}:Tag.ok B (.old g0) (PS.two j (fun r _ W=>At2 g0 t r W)):=
 ⟨cert_at2,fun _ _ _ _ _ hw hg ⟨b,a,n,c,h1,h2⟩=>⟨b,a,n,c,h1,h2.wr hw hg⟩⟩
theorem tag_at3 {B g0 j:Nat} {t:TypeId}:Tag.ok B (.old g0) (PS.two j (fun r _ W=>At3 g0 t r W)):=
 ⟨cert_at3,fun _ _ _ _ _ hw hg ⟨b,a,n,c,a',n',c',h1,h2⟩=>⟨b,a,n,c,a',n',c',h1,h2.wr hw hg⟩⟩
end
section
variable {P:Program} {Q:Exit→Act→World→Prop} {md:Region.Mode} {l:List Oper} {a0:Act} {S:World→Prop} {ps:List PS} {A:(Nat→Value)→Act} {B:Nat} {ms:List Nat} {ts:List Tag}
structure Firm2 (B:Nat) (ts:List Tag) (S:World→Prop) (ps:List PS):Prop where
 s:∀ W W',S W→Ext W W'→S W'
 t:Tags B ts ps
 o:∀ g0,Tag.old g0 ∈ ts→g0 < B
abbrev And2 (S:World→Prop) (ms:List Nat):(Nat→Value)→World→Prop:=fun vs W=>S W∧Many ms vs W
theorem owesM {o:Oper} (k:Nat) (pre:List Nat) (hf:Firm2 B ts S ps) (hk:ms.contains k=false) (ho:l[k]? = some o) (hpre:waitsB md o pre=true)
  (h:∀ (vs:Nat→Value) (w:World),S w→Pres ps pre vs w→Olds md l a0 k vs→∀ K:Act→World→Prop,(∀ v w',Ext w w'→(psAt ps k).holds k (upd vs k v) w'→K ((A vs).put o.dst v) w') →
   if Region.wanted o (yielded l.toArray (A vs).tmps)=true then Oper.wp P o (A vs) w K Q else K ((A vs).put o.dst undef) w):OwesAt2 P md l Q a0 A (And2 S ms) ps k:=
 owes2 k pre ho hpre fun vs w hS hp hx K hK=>h vs w hS.1 hp hx K fun v w' hE hpo=>hK v w' ⟨hf.s w w' hS.1 hE,hS.2.other (by simpa using hk) v (Ext.size hE)⟩
  (fun j hj hj2=>by have:=Tags.keepE (k:=k) (vs:=vs) hE ts ps 0 hf.t j (by omega);rw[Nat.zero_add]at this;exact this hj2) hpo
theorem owesN {o:Oper} (k:Nat) (pre:List Nat) (hf:Firm2 B ts S ps) (ho:l[k]? = some o) (hpre:waitsB md o pre=true)
  (h:∀ (vs:Nat→Value) (w:World),S w→Pres ps pre vs w→Olds md l a0 k vs→∀ K:Act→World→Prop,(∀ v ob,blk v=some w.heap.size→(psAt ps k).holds k (upd vs k v) (w.alloc ob)→K ((A vs).put o.dst v) (w.alloc ob)) →
   if Region.wanted o (yielded l.toArray (A vs).tmps)=true then Oper.wp P o (A vs) w K Q else K ((A vs).put o.dst undef) w):OwesAt2 P md l Q a0 A (And2 S ms) ps k:=
 owes2 k pre ho hpre fun vs w hS hp hx K hK=>h vs w hS.1 hp hx K fun v ob hb hpo=>hK _ _ ⟨hf.s w _ hS.1 (Ext.alloc1 w ob),hS.2.new ob hb⟩
  (fun j hj hj2=>by have:=Tags.keepE (k:=k) (vs:=vs) (Ext.alloc1 w ob) ts ps 0 hf.t j (by omega);rw[Nat.zero_add]at this;exact this hj2) hpo
theorem owesP {o:Oper} (k m:Nat) (pre:List Nat) (hf:Firm2 B ts S ps) (hk:ms.contains k=false) (hm:ms.contains m=true) (hoff:offB k m ms ts 0=true) (ho:l[k]? = some o) (hpre:waitsB md o pre=true)
  (h:∀ (vs:Nat→Value) (w:World),S w→Pres ps pre vs w→Olds md l a0 k vs→∀ K:Act→World→Prop,(∀ w' g,vs m=.pointer (some ⟨g,0,none⟩)→B≤g→Wr g w w'→S w'→(psAt ps k).holds k (upd vs k undef) w'→K ((A vs).put o.dst undef) w') →
   if Region.wanted o (yielded l.toArray (A vs).tmps)=true then Oper.wp P o (A vs) w K Q else K ((A vs).put o.dst undef) w):OwesAt2 P md l Q a0 A (And2 S ms) ps k:=
 owes2 k pre ho hpre fun vs w hS hp hx K hK=>h vs w hS.1 hp hx K fun w' g hv hB hw hS' hpo=>hK undef w' ⟨hS',hS.2.other (by simpa using hk) _ hw.apart.size⟩
  (fun j hj hj2=>by have:=Tags.keepP (k:=k) (vs:=vs) hw (by rw[hv];rfl) hB (by simpa using hm) hS.2 ts ps 0 hf.t hoff hf.o j (by omega);rw[Nat.zero_add]at this;exact this hj2) hpo
theorem region_go2 {id:Nat} {w:World} {b:Bool} (ps:List PS) (S:World→Prop) (B:Nat) (ms:List Nat) (ts:List Tag) (hc:Tags B ts ps) (hold:∀ g0,Tag.old g0 ∈ ts→g0 < B) (hSE:∀ W W',S W→Ext W W'→S W') (hS:S w) (hms:∀ m ∈ ms,initAt a0 l m=undef)
  (hm:P.follows .mixedOrders=true) (honce:onceB l=true) (hdown:downB .any l 0=true) (hdeps:depsB .any l ps=true)
  (hA:∀ vs,putAll l 0 vs a0=A vs) (howe:Firm2 B ts S ps→OwesAllAt2 P .any l Q a0 A (And2 S ms) ps l 0)
  (hfin:∀ (vs:Nat→Value) (w':World),S w'→Many ms vs w'→AllPosts ps 0 vs w'→Q .normal (A vs) w'):
  (Code.region id l.toArray b).wp P Q a0 w:=
 region_two ps (And2 S ms) hm honce hdown hdeps hA (fun W hE=>⟨hSE w W hS hE,Many.init hms⟩) (howe ⟨hSE,hc,hold⟩) (fun vs w' h1 h2=>hfin vs w' h1.1 h1.2 h2)
end
end Go.Rt
