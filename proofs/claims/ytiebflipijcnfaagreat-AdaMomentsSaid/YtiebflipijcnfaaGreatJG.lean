/-
  A drawn region whose calls give rows, whose appends let rows grow: chains of operations, the blocks of one chain apart from those of the others.
  A row of integers that grows by whole rows: an append leaves the shorter row as it was.
  A drawn region in which rows grow that were there ahead of it: chains of operations, the blocks of one chain apart from those of the others; what a box holds is told until the store that ends the region.
-/
import Derived.Test.YtiebflipijcnfaaGreatGO
import Derived.Test.YtiebflipijcnfaaGreatGQ
namespace Go.Rt
open Go Go.RowKit Go.Proofs
def blks:Value→Nat→Prop
  | .pointer (some p),g=>p.block=g
  | .slice (some p) _ _,g=>p.block=g
  | .tuple #[.agg #[.slice a n _,.slice b m _,.slice c k _,_],_],g=>(0 < n∧∃ o,a=some ⟨g,o,none⟩)∨(0 < m∧∃ o,b=some ⟨g,o,none⟩)∨(0 < k∧∃ o,c=some ⟨g,o,none⟩)
  | _,_=>False
def Chains (sd:Nat→Nat) (vs:Nat→Value) (w:World):Prop:=
  (∀ m,sd m≠0→∀ g,blks (vs m) g→g < w.heap.size)∧∀ m m',sd m≠0→sd m'≠0→sd m≠sd m'→∀ g,blks (vs m) g→¬ blks (vs m') g
theorem Chains.init {sd:Nat→Nat} {vs:Nat→Value} {w:World} (h:∀ m,sd m≠0→vs m=undef):Chains sd vs w:=
  ⟨fun m hm g hg=>(by rw[h m hm]at hg;exact absurd hg id),fun m m' hm _ _ g hg=>(by rw[h m hm]at hg;exact absurd hg id)⟩
theorem Chains.step {sd:Nat→Nat} {k:Nat} {vs:Nat→Value} {w w':World} {v:Value} (h:Chains sd vs w) (hs:w.heap.size≤w'.heap.size)
    (hv:sd k=0∨∀ g,blks v g→g < w'.heap.size∧(w.heap.size≤g∨∃ m,sd m=sd k∧blks (vs m) g)):Chains sd (upd vs k v) w':=by
  have old:∀ {m},m≠k→upd vs k v m=vs m:=fun hm=>upd_other hm v
  refine⟨fun m hm g hg=>?_,fun m m' hm hm' hne g hg hg'=>?_⟩
  · by_cases e:m=k
    · subst e
      rw[upd_same]at hg
      exact(hv.resolve_left hm g hg).1
    · rw[old e]at hg
      exact Nat.lt_of_lt_of_le (h.1 m hm g hg) hs
  · have far:∀ {q},q≠k→sd q≠0→sd k≠sd q→sd k≠0→blks v g→blks (vs q) g→False:=fun {q} e hq hsq hk hv1 hq1=>by
      rcases(hv.resolve_left hk g hv1).2 with h1 | ⟨x,h1,h2⟩
      · have:=h.1 q hq g hq1;omega
      · exact h.2 x q (by rw[h1];exact hk) hq (by rw[h1];exact hsq) g h2 hq1
    by_cases e:m=k
    · have e':m'≠k:=fun q=>hne (by rw[e,q])
      rw[e,upd_same]at hg
      rw[old e']at hg'
      exact far e' hm' (by rw[← e];exact hne) (by rw[← e];exact hm) hg hg'
    · rw[old e]at hg
      by_cases e':m'=k
      · rw[e',upd_same]at hg'
        exact far e hm (by rw[← e'];exact Ne.symm hne) (by rw[← e'];exact hm') hg' hg
      · rw[old e']at hg'
        exact h.2 m m' hm hm' hne g hg hg'
inductive Tag4
  | any
  | on (m:Nat)
  | last
def Tag4.ok (t:Tag4) (k:Nat) (p:PS):Prop:=
  (∀ vs w w',Ext w w'→p.holds k vs w→p.holds k vs w')∧∀ vs w w' g,Wr g w w'→(match t with | .any=>True | .on m=>¬ blks (vs m) g | .last=>False)→p.holds k vs w→p.holds k vs w'
def Tags4:List Tag4→List PS→Nat→Prop
  | [],[],_=>True
  | t :: ts,p :: ps,k=>t.ok k p∧Tags4 ts ps (k+1)
  | _,_,_=>False
theorem tag4_good {k:Nat} {q:Value→World→Prop} (h:Good q):Tag4.ok .any k (.one q):=⟨fun vs w w' hE hp=>h.ext (vs k) w w' hE hp,fun vs w w' g hw _ hp=>h.wr (vs k) w w' g hw hp⟩
theorem tag4_two {k j:Nat} {q:Value→Value→Prop}:Tag4.ok .any k (.two j fun p v _=>q p v):=⟨fun _ _ _ _ hp=>hp,fun _ _ _ _ _ _ hp=>hp⟩
def off4 (k:Nat) (ex:List Nat) (c:Nat) (sd:Nat→Nat):List Tag4→Nat→Bool
  | [],_=>true
  | t :: ts,i=>(i==k || ex.contains i || (match t with | .any=>true | .on m=>sd m != 0 && sd m != c | .last=>false)) && off4 k ex c sd ts (i+1)
theorem Tags4.keepE {vs:Nat→Value} {w w':World} (hE:Ext w w'):∀ (ts:List Tag4) (ps:List PS) (i:Nat),Tags4 ts ps i→∀ j,(psAt ps j).holds (i+j) vs w→(psAt ps j).holds (i+j) vs w'
  | [],[],_,_,_,_=>by unfold psAt;simp[PS.holds]
  | _ :: _,_ :: _,i,h,0,hp=>h.1.1 vs w w' hE hp
  | _ :: ts,_ :: ps,i,h,j+1,hp=>by
    have:=Tags4.keepE (vs:=vs) hE ts ps (i+1) h.2 j
    rw[show i+1+j=i+(j+1) by omega]at this
    exact this hp
  | [],_ :: _,_,h,_,_=>absurd h id
  | _ :: _,[],_,h,_,_=>absurd h id
section
variable {P:Program} {Q:Exit→Act→World→Prop} {md:Region.Mode} {l:List Oper} {a0:Act} {S:World→Prop} {ps:List PS} {A:(Nat→Value)→Act} {B:Nat} {sd:Nat→Nat} {ts:List Tag4}
def sdOf:List (Nat × Nat)→Nat→Nat
  | [],_=>0
  | x :: r,k=>if k=x.1 then x.2 else sdOf r k
end
end Go.Rt
namespace Go.Rt
open Go Go.RowKit Go.Proofs
theorem noJ_iff {cs:Array Value}:NoU cs↔∀ v ∈ cs.toList,∀ n,v≠.int .u64 n:=by
  constructor
  · intro h v hv
    obtain⟨i,hi,rfl⟩:=List.mem_iff_getElem.1 hv
    exact h i _ (by rw[← Array.getElem?_toList];exact List.getElem?_eq_getElem hi)
  · intro h i v hv
    rw[← Array.getElem?_toList]at hv
    exact h v (List.mem_of_getElem? hv)
theorem noU_zeroI (k:Nat):∀ v ∈ (Builtin.zeroCells (Value.int .i64 0).cells k).toList,∀ n,v≠.int .u64 n:=by
  intro v hv n
  unfold Builtin.zeroCells at hv
  simp only[Array.toList_map,List.mem_map]at hv
  obtain⟨i,-,rfl⟩:=hv
  simp only[Value.cells,List.size_toArray,List.length_singleton,Nat.mod_one]
  intro e
  cases e
def OwnJ (B:Nat) (e:TypeId) (l:List Int) (v:Value) (W:World):Prop:=
  ∃ g cap cur,v=.slice (some ⟨g,0,none⟩) l.length cap∧B≤g∧W.heap[g]? = some (.cells cur e (0,0))∧l.length≤cap∧cap≤maxLen∧cur.size=cap∧NoU cur∧cur.toList.take l.length=l.map (Value.int .i64)
theorem OwnJ.ext {B:Nat} {e:TypeId} {l:List Int} {v:Value} {W W':World} (h:OwnJ B e l v W) (hE:Ext W W'):OwnJ B e l v W':=
  let ⟨g,c,cur,h1,h2,h3,h4⟩:=h;⟨g,c,cur,h1,h2,(Below.block hE g (Array.getElem?_eq_some_iff.1 h3).1).trans h3,h4⟩
theorem OwnJ.wr {B g:Nat} {e:TypeId} {l:List Int} {v:Value} {W W':World} (h:OwnJ B e l v W) (hw:Wr g W W') (hg:¬ blks v g):OwnJ B e l v W':=by
  obtain⟨b,c,cur,rfl,h2,h3,h4⟩:=h
  exact⟨b,c,cur,rfl,h2,(hw.apart.block b (Array.getElem?_eq_some_iff.1 h3).1 (fun q=>hg (by simpa [blks] using q))).trans h3,h4⟩
theorem OwnJ.lt {B g:Nat} {e:TypeId} {l:List Int} {v:Value} {W:World} (h:OwnJ B e l v W) (hg:blks v g):g < W.heap.size:=by
  obtain⟨b,c,cur,rfl,h2,h3,h4⟩:=h
  have e:b=g:=hg
  subst e
  exact(Array.getElem?_eq_some_iff.1 h3).1
theorem OwnJ.iw {B:Nat} {e:TypeId} {l:List Int} {v:Value} {W:World} (h:OwnJ B e l v W) (h64:∀ x ∈ l,I64 x):∃ a c,v=.slice a l.length c∧Iw B W.heap.size W a l.length c l:=by
  obtain⟨g,cap,cur,rfl,hb,hg,hc,hm,hs,hn,ht⟩:=h
  refine⟨_,_,rfl,⟨rfl,⟨g,0,⟨.inl rfl,hc,hm,fun i hi=>?_⟩,fun _=>⟨hb,(Array.getElem?_eq_some_iff.1 hg).1⟩⟩,h64⟩⟩
  have h2:cur.toList[i]? = some (.int .i64 (atL l i)):=by
    have h3:(cur.toList.take l.length)[i]? = some (.int .i64 (atL l i)):=by rw[ht,List.getElem?_map,List.getElem?_eq_getElem hi,atL_eq hi];rfl
    rw[List.getElem?_take,if_pos hi]at h3
    exact h3
  rw[Nat.zero_add]
  simp[World.cell?,hg]
  rw[← Array.getElem?_toList]
  exact h2
def NilJ (B:Nat) (e:TypeId) (v:Value) (W:World):Prop:=∃ g,v=.slice (some ⟨g,0,none⟩) 0 0∧B≤g∧W.heap[g]? = some (.cells #[] e (0,0))
theorem NilJ.own {B:Nat} {e:TypeId} {v:Value} {W:World} (h:NilJ B e v W):OwnJ B e [] v W:=
  let ⟨g,h1,h2,h3⟩:=h;⟨g,0,#[],h1,h2,h3,Nat.le_refl _,Nat.zero_le _,rfl,(fun i v h=>by simp at h),rfl⟩
theorem NilJ.ext {B:Nat} {e:TypeId} {v:Value} {W W':World} (h:NilJ B e v W) (hE:Ext W W'):NilJ B e v W':=
  let ⟨g,h1,h2,h3⟩:=h;⟨g,h1,h2,(Below.block hE g (Array.getElem?_eq_some_iff.1 h3).1).trans h3⟩
theorem NilJ.wr {B k:Nat} {e:TypeId} {v:Value} {W W':World} (h:NilJ B e v W) (hw:Wr k W W'):NilJ B e v W':=by
  obtain⟨g,h1,h2,h3⟩:=h
  by_cases q:g=k
  · subst q
    obtain⟨cs,h4,-,h5⟩:=hw.form _ _ h3
    have:cs=#[]:=Array.eq_empty_of_size_eq_zero h5
    exact⟨g,h1,h2,by rw[h4,this]⟩
  · exact⟨g,h1,h2,(hw.apart.block g (Array.getElem?_eq_some_iff.1 h3).1 (by simpa using q)).trans h3⟩
section
variable {P:Program} {t e:TypeId} (ht:P.underlying t=.some (.slice e)) (hi:InfoI P e)
include ht hi
theorem run_append_j {w:World} (ty:TypeId) (B:Nat) {v:Value} {l l2:List Int} {lo hi' m c:Nat} {a2:Option Addr} (h:OwnJ B e l v w) (hz:Iw lo hi' w a2 m c l2) (hlen:l.length+m≤1099511627776) (hb:B≤w.heap.size):
    ∃ v' w',(Builtin.append_ #[t,t] ty #[v,.slice a2 m c]).run P w=.ok v' w'∧OwnJ B e (l++l2) v' w' ∧
      ((Ext w w'∧∀ g,blks v' g→g < w'.heap.size∧(w.heap.size≤g∨blks v g))∨∃ g,blks v g∧B≤g∧Wr g w w'∧(∀ g',blks v' g'→g'=g)∧OwnJ B e l v w'):=by
  obtain⟨i0,h1,h2,h3,h4⟩:=hi.get
  obtain⟨g,cap,cur,rfl,hbg,hg,hc,hm,hs,hn,htk⟩:=h
  have hlt:=(Array.getElem?_eq_some_iff.1 hg).1
  cases a2 with
  | none=>
    have h0:m=0:=by
      rcases Nat.eq_zero_or_pos m with h0 | h0
      · exact h0
      · obtain⟨b,o,e,-⟩:=hz.some h0
        cases e
    subst h0
    have hl2:l2=[]:=List.length_eq_zero_iff.1 hz.len
    subst hl2
    rw[List.append_nil]
    refine⟨_,w,?_,⟨g,cap,cur,rfl,hbg,hg,hc,hm,hs,hn,htk⟩,.inl ⟨Ext.refl w,fun g' hg'=>⟨?_,.inr hg'⟩⟩⟩
    · simp[Builtin.append_,run_underlying ht,sizeOf,typeInfo,h1,Builtin.lenOf,Builtin.firstCells,loadCells,storeCells,hc]
    · have:g=g':=hg'
      omega
  | some ad=>
    have hnews:∀ j u,(l2.map (Value.int .i64))[j]? = some u→w.cell? (ad.add j)=some u:=by
      intro j u hj
      rw[List.getElem?_map]at hj
      obtain⟨x,hx,rfl⟩:=Option.map_eq_some_iff.1 hj
      obtain⟨hjl,rfl⟩:=List.getElem?_eq_some_iff.1 hx
      have hjn:j < m:=by rw[← hz.len];exact hjl
      obtain⟨b,o,e,-⟩:=hz.some (by omega)
      cases e
      rw[Go.WideShapes.add_plain,hz.cell hjn,atL_eq hjl]
    have hnl:(l2.map (Value.int .i64)).length=m*i0.size:=by rw[List.length_map,hz.len,h3,Nat.mul_one]
    have hone:∀ u ∈ l2.map (Value.int .i64),u.oneCell'=true:=fun u hu=>by obtain⟨x,-,rfl⟩:=List.mem_map.1 hu;rfl
    have hnu:∀ u ∈ l2.map (Value.int .i64),∀ k,u≠.int .u64 k:=fun u hu k q=>by obtain⟨x,-,rfl⟩:=List.mem_map.1 hu;cases q
    have hll:(l++l2).length=l.length+m:=by rw[List.length_append,hz.len]
    by_cases hroom:l.length+m≤cap
    · have hr:=run_append_room (P:=P) w t ty e i0 ht h1 g l.length cap cur hg ad m c _ hnl hnews hone hroom (by rw[hnl,h3,hs];omega)
      rw[h3,Nat.mul_one,htk]at hr
      obtain⟨ct,hct⟩:∃ ct,ct=(l.map (Value.int .i64)++l2.map (Value.int .i64)++cur.toList.drop (l.length+(l2.map (Value.int .i64)).length)).toArray:=⟨_,rfl⟩
      rw[← hct]at hr
      have hnew:=setRow_heap w g cur ct e _ hg
      have hcn:NoU ct:=by
        rw[noJ_iff,hct]
        intro u hu
        rcases List.mem_append.1 hu with hu | hu
        · rcases List.mem_append.1 hu with hu | hu
          · intro k q;obtain⟨x,-,rfl⟩:=List.mem_map.1 hu;cases q
          · exact hnu u hu
        · exact(noJ_iff.1 hn) u (List.mem_of_mem_drop hu)
      have hcs:ct.size=cur.size:=by
        rw[hct]
        have hln:=hz.len
        simp
        omega
      have hw:Wr g w (w.setRow g ct):=⟨⟨rfl,rfl,rfl,by simp,fun k _ hk=>setRow_other w g k ct (by simpa using hk)⟩,⟨cur,e,hg,hn⟩,fun cs t' hc=>by
        rw[hg]at hc
        cases hc
        exact⟨ct,hnew,hcn,hcs⟩⟩
      refine⟨_,_,hr,⟨g,cap,ct,by rw[hll],hbg,hnew,by rw[hll];exact hroom,hm,by rw[hcs,hs],hcn,?_⟩,.inr ⟨g,rfl,hbg,hw,fun g' hg'=>Eq.symm hg',⟨g,cap,ct,rfl,hbg,hnew,hc,hm,by rw[hcs,hs],hcn,?_⟩⟩⟩
      · rw[hct,List.map_append]
        exact List.take_left' (by rw[List.length_append,List.length_map,List.length_map,List.length_append])
      · rw[hct]
        show List.take l.length (_++_++_)=_
        rw[List.append_assoc]
        exact List.take_left' (by rw[List.length_map])
    · have holds:∀ j u,(l.map (Value.int .i64))[j]? = some u→w.cell? ((⟨g,0,none⟩:Addr).add j)=some u:=by
        intro j u hu
        rw[← htk]at hu
        have hj:j < l.length:=by have:=(List.getElem?_eq_some_iff.1 hu).1;rw[List.length_take]at this;omega
        rw[List.getElem?_take,if_pos hj,Array.getElem?_toList]at hu
        rw[Go.WideShapes.add_plain,Nat.zero_add]
        simp[World.cell?,hg,hu]
      have hr:=run_append_grow (P:=P) w t ty e i0 _ ht h1 h2 ⟨g,0,none⟩ l.length cap _ (by rw[List.length_map,h3,Nat.mul_one]) holds ad m c _ hnl hnews (by omega) (by omega) (growslice_fits (by omega) (by rw[h4];omega))
      have hge:=grownCap_ge w (l.length+m) cap e
      have hgm:=grownCap_le_maxLen w (l.length+m) cap e (by unfold maxLen;omega)
      obtain⟨ct,hct⟩:∃ ct,ct=((l.map (Value.int .i64)).toArray++(l2.map (Value.int .i64)).toArray++Builtin.zeroCells (Value.int .i64 0).cells (grownCap w (l.length+m) cap e - (l.length+m))):=⟨_,rfl⟩
      rw[← hct]at hr
      have hnew:(w.drew.alloc (.cells ct e)).heap[w.heap.size]? = some (.cells ct e (0,0)):=heap_alloc_new w.drew _
      have hcn:NoU ct:=by
        rw[noJ_iff,hct,Array.toList_append,Array.toList_append]
        intro u hu
        rcases List.mem_append.1 hu with hu | hu
        · rcases List.mem_append.1 hu with hu | hu
          · intro k q;obtain⟨x,-,rfl⟩:=List.mem_map.1 hu;cases q
          · exact hnu u hu
        · exact noU_zeroI _ u hu
      have hcs:ct.size=grownCap w (l.length+m) cap e:=by
        rw[hct,Array.size_append,Array.size_append,size_zeroCells,List.size_toArray,List.size_toArray,List.length_map,List.length_map,hz.len]
        simp[Value.cells]
        omega
      refine⟨_,_,hr,⟨w.heap.size,_,ct,by rw[hll],hb,hnew,by rw[hll];exact hge,hgm,hcs,hcn,?_⟩,.inl ⟨(Ext.drew1 w).trans (Ext.alloc1 _ _),fun g' hg'=>?_⟩⟩
      · rw[hct,Array.toList_append,Array.toList_append,List.map_append]
        exact List.take_left' (by simp)
      · have hq:w.heap.size=g':=hg'
        have:=(Array.getElem?_eq_some_iff.1 hnew).1
        exact⟨by omega,.inl (by omega)⟩
end
end Go.Rt
namespace Go.Rt
open Go Go.RowKit Go.Proofs
/-! a law for drawn regions that tells which operations are done -/
section
variable {P:Program} {Q:Exit→Act→World→Prop} {md:Region.Mode} {l:List Oper} {a0:Act} {S:(Nat→Prop)→(Nat→Value)→World→Prop} {ps:List PS} {A:(Nat→Value)→Act}
def KeepD (ps:List PS) (i:Nat) (D:Nat→Prop) (vs:Nat→Value) (w w':World):Prop:=∀ k,k≠i→D k→(psAt ps k).holds k vs w→(psAt ps k).holds k vs w'
def Later (md:Region.Mode) (l:List Oper) (D:Nat→Prop) (i:Nat):Prop:=∀ j oj,l[j]? = some oj→waitsB md oj [i]=true→¬ D j
def OwesD (P:Program) (md:Region.Mode) (l:List Oper) (Q:Exit→Act→World→Prop) (a0:Act) (A:(Nat→Value)→Act) (S:(Nat→Prop)→(Nat→Value)→World→Prop) (ps:List PS) (i:Nat):Prop:=
  ∀ o,l[i]? = some o→∀ (D:Nat→Prop) (vs:Nat→Value) (w:World),¬ D i→S D vs w→(∀ e ∈ o.after,Region.binds md e=true→D e.on∧(psAt ps e.on).holds e.on vs w)→Olds md l a0 i vs→Later md l D i→(∀ j,D j→(psAt ps j).holds j vs w∧∀ oj,l[j]? = some oj→∀ e ∈ oj.after,Region.binds md e=true→D e.on) →
    wpOp P l.toArray Q i (fun a' w'=>∃ v,a'=(A vs).put o.dst v∧S (fun j=>D j∨j=i) (upd vs i v) w'∧KeepD ps i D vs w w'∧(psAt ps i).holds i (upd vs i v) w') (A vs) w
def OwesAllD (P:Program) (md:Region.Mode) (l:List Oper) (Q:Exit→Act→World→Prop) (a0:Act) (A:(Nat→Value)→Act) (S:(Nat→Prop)→(Nat→Value)→World→Prop) (ps:List PS):List Oper→Nat→Prop
  | [],_=>True
  | _ :: os,k=>OwesD P md l Q a0 A S ps k∧OwesAllD P md l Q a0 A S ps os (k+1)
theorem OwesAllD.at:∀ (os:List Oper) (k:Nat),OwesAllD P md l Q a0 A S ps os k→∀ i,i < os.length→OwesD P md l Q a0 A S ps (k+i)
  | [],_,_,i,hi=>by simp at hi
  | _ :: _,_,h,0,_=>h.1
  | _ :: os,k,h,i+1,hi=>by have:=OwesAllD.at os (k+1) h.2 i (by simpa using hi);rw[show k+(i+1)=k+1+i by omega];exact this
theorem owesD {o:Oper} (k:Nat) (pre:List Nat) (ho:l[k]? = some o) (hpre:waitsB md o pre=true)
    (h:∀ (D:Nat→Prop) (vs:Nat→Value) (w:World),¬ D k→S D vs w→(∀ j ∈ pre,D j)→Pres ps pre vs w→Olds md l a0 k vs→Later md l D k→∀ K:Act→World→Prop,(∀ v w',S (fun j=>D j∨j=k) (upd vs k v) w'→KeepD ps k D vs w w'→(psAt ps k).holds k (upd vs k v) w'→K ((A vs).put o.dst v) w') →
      if Region.wanted o (yielded l.toArray (A vs).tmps)=true then Oper.wp P o (A vs) w K Q else K ((A vs).put o.dst undef) w):OwesD P md l Q a0 A S ps k:=by
  intro o' ho' D vs w hD hS hp hx hl _
  rw[ho]at ho'
  cases ho'
  have hpres:(∀ j ∈ pre,D j)∧Pres ps pre vs w:=by
    have hw:=waitsB_spec hpre
    clear h hpre
    induction pre with
    | nil=>exact⟨(fun j hj=>by cases hj),trivial⟩
    | cons j js ih=>
      obtain⟨i1,i2⟩:=ih (fun j' hj'=>hw j' (List.mem_cons_of_mem _ hj'))
      obtain⟨e,he,hb,hon⟩:=hw j (List.mem_cons_self ..)
      have:=hp e he hb
      rw[hon]at this
      refine⟨fun q hq=>?_,this.2,i2⟩
      rcases List.mem_cons.1 hq with rfl | hq
      · exact this.1
      · exact i1 q hq
  exact wpOp_step (by simpa using ho) (fun K' hK=>h D vs w hD hS hpres.1 hpres.2 hx hl K' (fun v w' hS' hk hPo=>hK _ _ ⟨v,rfl,hS',hk,hPo⟩))
theorem any_done0 {w:World} (honce:onceB l=true) (hdown:downB .any l 0=true) (hdeps:depsB .any l ps=true) (hA:∀ vs,putAll l 0 vs a0=A vs)
    (hS:S (fun _=>False) (initAt a0 l) w.drew) (hSD:∀ D D' vs w,(∀ i,D i↔D' i)→S D vs w→S D' vs w) (howe:OwesAllD P .any l Q a0 A S ps l 0)
    (hfin:∀ (vs:Nat→Value) (w':World),(∃ D,(∀ i,i < l.length→D i)∧S D vs w')→AllPosts ps 0 vs w'→Q .normal (A vs) w'):
    wpAny P .any l.toArray Q l.toArray.size (Array.replicate l.toArray.size false) a0 w.drew:=by
  refine any_inv (I:=fun listed a w=>listed.size=l.length∧∃ vs,a=putAll l 0 vs a0∧S (fun i=>listed.getD i false=true) vs w∧(∀ i,listed.getD i false=true→(psAt ps i).holds i vs w∧∀ o,l[i]? = some o→∀ e ∈ o.after,Region.binds .any e=true→listed.getD e.on false=true)∧∀ i,listed.getD i false=false→vs i=initAt a0 l i) ?_ ?_ _ _ _ _ (by simp) ⟨by simp,_,(putAll_own a0 l 0 honce).symm,hSD _ _ _ _ (fun i=>by rw[getD_replicate_false];simp) hS,(fun i hi=>by rw[getD_replicate_false]at hi;cases hi),fun i _=>rfl⟩
  · rintro i listed a w hi ⟨hsz,vs,rfl,hSw,hP,hI⟩
    obtain⟨hif,o,ho,hall⟩:=mem_ready.1 hi
    have hi0:¬ listed.getD i false=true:=by
      obtain⟨h1,h2⟩:=ready_false hi
      simp[h1,h2]
    have ho':l[i]? = some o:=by simpa using ho
    have hil:i < l.length:=(List.getElem?_eq_some_iff.1 ho').1
    have how:=OwesAllD.at l 0 howe i hil
    rw[Nat.zero_add]at how
    have hnot:∀ j oj,l[j]? = some oj→waitsB .any oj [i]=true→¬ listed.getD j false=true:=fun j oj hoj hw hj=>by
      obtain⟨e,he,hb,hon⟩:=waitsB_spec hw i (by simp)
      have:=(hP j hj).2 oj hoj e he hb
      rw[hon]at this
      exact absurd this hi0
    have holds:Olds .any l a0 i vs:=fun j oj hoj hw=>hI j (by simpa using hnot j oj hoj hw)
    rw[hA]
    refine wpOp_mono ?_ (how o ho' (fun i=>listed.getD i false=true) vs w hi0 hSw (fun e he hb=>⟨hall e he hb,(hP _ (hall e he hb)).1⟩) holds hnot hP)
    rintro a' w' ⟨v,rfl,hS',hK,hPi⟩
    have hset:∀ j,listed.getD j false=true→(listed.setIfInBounds i true).getD j false=true:=fun j hj=>getD_set_true hj
    have hgi:(listed.setIfInBounds i true).getD i false=true:=by
      have:i < listed.size:=by omega
      simp[this]
    have hgo:∀ k,k≠i→(listed.setIfInBounds i true).getD k false=listed.getD k false:=fun k hk=>by simp[Array.getElem?_setIfInBounds_ne (Ne.symm hk)]
    refine⟨by simpa using hsz,upd vs i v,?_,hSD _ _ _ _ (fun k=>?_) hS',fun k hk=>?_,fun k hk=>?_⟩
    · have:=putAll_upd l 0 vs a0 i o v honce ho'
      rw[Nat.zero_add]at this
      rw[← hA]
      exact this
    · by_cases hki:k=i
      · subst hki;exact⟨fun _=>hgi,fun _=>.inr rfl⟩
      · rw[hgo k hki]
        exact⟨fun h=>h.resolve_right hki,fun h=>.inl h⟩
    · by_cases hki:k=i
      · subst hki
        refine⟨hPi,fun o2 ho2 e he hb=>?_⟩
        rw[ho']at ho2
        cases ho2
        exact hset _ (hall e he hb)
      · have hkl:listed.getD k false=true:=by rw[← hgo k hki];exact hk
        obtain⟨h1,h2⟩:=hP k hkl
        refine⟨?_,fun o2 ho2 e he hb=>hset _ (h2 o2 ho2 e he hb)⟩
        rw[PS.upd _ hki (fun hm=>?_)]
        · exact hK k hki hkl h1
        · rcases Nat.lt_or_ge k l.length with hkl2 | hkl2
          · obtain⟨e,he,hb,hon⟩:=depsB_spec l ps k l[k] hdeps (by simp[hkl2]) i hm
            have:=h2 l[k] (by simp[hkl2]) e he hb
            rw[hon]at this
            exact hi0 this
          · have hlen:=depsB_len l ps hdeps
            have:psAt ps k=.one fun _ _=>True:=by unfold psAt;rw[List.getD_eq_getElem?_getD,List.getElem?_eq_none (by omega)];rfl
            rw[this]at hm
            simp[PS.deps]at hm
    · have hki:k≠i:=by
        intro e
        subst e
        rw[hgi]at hk
        cases hk
      rw[upd_other hki]
      refine hI k ?_
      rw[← hgo k hki]
      exact hk
  · rintro listed a w hr ⟨hsz,vs,rfl,hSw,hP,hI⟩
    have hall:∀ i,i < l.length→listed.getD i false=true:=by
      intro i
      induction i using Nat.strongRecOn with
      | ind i ih=>
        intro hil
        apply Classical.byContradiction
        intro hn
        have hlf:listed.getD i true=false:=by
          have h2:i < listed.size:=by omega
          simp[h2]at hn ⊢
          exact hn
        have hmem:i ∈ Region.ready .any l.toArray listed:=by
          refine mem_ready.2 ⟨hlf,l[i],by simp[hil],?_⟩
          intro e he hb
          have hlt:=downB_spec l 0 i l[i] hdown (by simp[hil]) e he hb
          rw[Nat.zero_add]at hlt
          exact ih e.on hlt (by omega)
        rw[hr]at hmem
        cases hmem
    rw[hA]
    refine hfin vs w ⟨_,hall,hSw⟩ (AllPosts.of ps 0 vs w fun i hi=>?_)
    rw[Nat.zero_add]
    exact(hP i (hall i (by rw[depsB_len l ps hdeps];exact hi))).1
theorem region_done0 {id:Nat} {w:World} (hm:P.follows .mixedOrders=true) (honce:onceB l=true) (hdown:downB .any l 0=true) (hdeps:depsB .any l ps=true) (hA:∀ vs,putAll l 0 vs a0=A vs)
    (hS:S (fun _=>False) (initAt a0 l) w.drew) (hSD:∀ D D' vs w,(∀ i,D i↔D' i)→S D vs w→S D' vs w) (howe:OwesAllD P .any l Q a0 A S ps l 0)
    (hfin:∀ (vs:Nat→Value) (w':World),(∃ D,(∀ i,i < l.length→D i)∧S D vs w')→AllPosts ps 0 vs w'→Q .normal (A vs) w'):
    (Code.region id l.toArray true).wp P Q a0 w:=wp_region_any hm (any_done0 honce hdown hdeps hA hS hSD howe hfin)
theorem region_doneR {id n r:Nat} {w:World} (hc:l.toArray.all calm=true) (hQ:¬ LetsOut Q) (hm:P.follows .mixedOrders=true) (honce:onceB l=true) (hdown:downB .any l 0=true) (hdeps:depsB .any l ps=true) (hA:∀ vs,putAll l 0 vs a0=A vs)
    (hS:S (fun _=>False) (initAt a0 l) w.drew) (hSD:∀ D D' vs w,(∀ i,D i↔D' i)→S D vs w→S D' vs w) (howe:OwesAllD P .any l Q a0 A S ps l 0)
    (hfin:∀ (vs:Nat→Value) (w':World),(∃ D,(∀ i,i < l.length→D i)∧S D vs w')→AllPosts ps 0 vs w'→Q .normal (A vs) w'):
    (Code.region id l.toArray true).wpIn (Fence.wide.inRound r) n P Q a0 w:=wpIn_region_any hm (anyIn_of_any hc hQ _ _ _ _ (any_done0 honce hdown hdeps hA hS hSD howe hfin))
theorem region_done1 {id:Nat} {w:World} (honce:onceB l=true) (hdown:downB .any l 0=true) (hdeps:depsB .any l ps=true) (hA:∀ vs,putAll l 0 vs a0=A vs)
    (hS:S (fun _=>False) (initAt a0 l) w) (hSD:∀ D D' vs w,(∀ i,D i↔D' i)→S D vs w→S D' vs w) (howe:OwesAllD P .any l Q a0 A S ps l 0)
    (hfin:∀ (vs:Nat→Value) (w':World),(∃ D,(∀ i,i < l.length→D i)∧S D vs w')→AllPosts ps 0 vs w'→Q .normal (A vs) w'):
    (Code.region id l.toArray false).wp P Q a0 w:=by
  refine wp_region ?_
  have key:∀ (m k:Nat),k+m=l.length→∀ (vs:Nat→Value) (w:World),S (fun i=>i < k) vs w→(∀ i,i < k→(psAt ps i).holds i vs w)→(∀ i,k≤i→vs i=initAt a0 l i)→wpOps P l.toArray Q (List.range' k m) (putAll l 0 vs a0) w:=by
    intro m
    induction m with
    | zero=>
      intro k hk vs w hSw hP hI
      refine(by rw[hA];exact hfin vs w ⟨_,fun i hi=>(by omega),hSw⟩ (AllPosts.of ps 0 vs w fun i hi=>by
        rw[Nat.zero_add]
        exact hP i (by have:=depsB_len l ps hdeps;omega)):wpOps P l.toArray Q (List.range' k 0) (putAll l 0 vs a0) w)
    | succ m ih=>
      intro k hk vs w hSw hP hI
      have hkl:k < l.length:=by omega
      rw[List.range'_succ,wpOps_cons]
      have how:=OwesAllD.at l 0 howe k hkl
      rw[Nat.zero_add]at how
      have ho:l[k]? = some l[k]:=by simp[hkl]
      have hd:=downB_spec l 0 k l[k] hdown ho
      rw[Nat.zero_add]at hd
      have hnot:∀ j oj,l[j]? = some oj→waitsB .any oj [k]=true→¬ j < k:=fun j oj hoj hw=>by
        obtain⟨e,he,hb,hon⟩:=waitsB_spec hw k (by simp)
        have:=downB_spec l 0 j oj hdown hoj e he hb
        omega
      have holds:Olds .any l a0 k vs:=fun j oj hoj hw=>hI j (by have:=hnot j oj hoj hw;omega)
      rw[hA]
      refine wpOp_mono ?_ (how l[k] ho (fun i=>i < k) vs w (Nat.lt_irrefl _) hSw (fun e he hb=>⟨hd e he hb,hP _ (hd e he hb)⟩) holds hnot (fun j hj=>⟨hP j hj,fun oj hoj e he hb=>by
        have hq:=downB_spec l 0 j oj hdown hoj e he hb
        rw[Nat.zero_add]at hq
        omega⟩))
      rintro a' w' ⟨v,rfl,hS',hK,hPi⟩
      have e:=putAll_upd l 0 vs a0 k l[k] v honce ho
      rw[Nat.zero_add]at e
      rw[← hA,e]
      refine ih (k+1) (by omega) (upd vs k v) w' (hSD _ _ _ _ (fun i=>by omega) hS') (fun i hi=>?_) (fun i hi=>by rw[upd_other (by omega)];exact hI i (by omega))
      by_cases hik:i=k
      · subst hik;exact hPi
      · have hlt:i < k:=by omega
        rw[PS.upd _ hik (fun hm=>?_)]
        · exact hK i hik hlt (hP i hlt)
        · obtain⟨e,he,hb,hon⟩:=depsB_spec l ps i l[i] hdeps (by simp[show i < l.length by omega]) k hm
          have:=downB_spec l 0 i l[i] hdown (by simp[show i < l.length by omega]) e he hb
          omega
  have h0:=key l.length 0 (by omega) (fun i=>((l[i - 0]?).bind (·.dst)).elim undef (fun d=>a0.tmps.getD d undef)) w (hSD _ _ _ _ (fun i=>by simp) hS) (fun i hi=>by omega) (fun i _=>rfl)
  rw[putAll_own a0 l 0 honce]at h0
  rw[List.range_eq_range']
  simpa using h0
theorem region_done {id:Nat} {w:World} {b:Bool} (hm:P.follows .mixedOrders=true) (honce:onceB l=true) (hdown:downB .any l 0=true) (hdeps:depsB .any l ps=true) (hA:∀ vs,putAll l 0 vs a0=A vs)
    (hS:∀ W,Ext w W→S (fun _=>False) (initAt a0 l) W) (hSD:∀ D D' vs w,(∀ i,D i↔D' i)→S D vs w→S D' vs w) (howe:OwesAllD P .any l Q a0 A S ps l 0)
    (hfin:∀ (vs:Nat→Value) (w':World),(∃ D,(∀ i,i < l.length→D i)∧S D vs w')→AllPosts ps 0 vs w'→Q .normal (A vs) w'):
    (Code.region id l.toArray b).wp P Q a0 w:=by
  cases b
  · exact region_done1 honce hdown hdeps hA (hS _ (Ext.refl w)) hSD howe hfin
  · exact region_done0 hm honce hdown hdeps hA (hS _ (Ext.drew1 w)) hSD howe hfin
end
def Grows (B:Nat) (I:Nat→Nat→Prop) (sd:Nat→Nat) (D:Nat→Prop) (vs:Nat→Value) (w:World):Prop:=
  B≤w.heap.size∧(∀ m,D m→sd m≠0→∀ g,blks (vs m) g→g < w.heap.size∧(B≤g∨I (sd m) g))∧∀ m m',D m→D m'→sd m≠0→sd m'≠0→sd m≠sd m'→∀ g,blks (vs m) g→¬ blks (vs m') g
structure Begun (L B:Nat) (I:Nat→Nat→Prop):Prop where
  lo:∀ c g,I c g→L≤g
  hi:∀ c g,I c g→g < B
  one:∀ c c' g,I c g→I c' g→c=c'
  le:L≤B
theorem Grows.init {B:Nat} {I:Nat→Nat→Prop} {sd:Nat→Nat} {vs:Nat→Value} {w:World} (hB:B≤w.heap.size):Grows B I sd (fun _=>False) vs w:=
  ⟨hB,fun _ hm=>absurd hm id,fun _ _ hm=>absurd hm id⟩
theorem Grows.step {L B:Nat} {I:Nat→Nat→Prop} {sd:Nat→Nat} {D:Nat→Prop} {k:Nat} {vs:Nat→Value} {w w':World} {v:Value} (h:Grows B I sd D vs w) (hb:Begun L B I) (hs:w.heap.size≤w'.heap.size)
    (hv:sd k=0∨∀ g,blks v g→g < w'.heap.size∧(w.heap.size≤g∨I (sd k) g∨∃ m,D m∧sd m=sd k∧blks (vs m) g)):Grows B I sd (fun j=>D j∨j=k) (upd vs k v) w':=by
  have old:∀ {m},m≠k→upd vs k v m=vs m:=fun hm=>upd_other hm v
  refine⟨Nat.le_trans h.1 hs,fun m hd hm g hg=>?_,fun m m' hd hd' hm hm' hne g hg hg'=>?_⟩
  · by_cases e:m=k
    · subst e
      rw[upd_same]at hg
      obtain⟨h1,h2⟩:=hv.resolve_left hm g hg
      refine⟨h1,?_⟩
      rcases h2 with h2 | h2 | ⟨x,hx,h2,h3⟩
      · exact .inl (Nat.le_trans h.1 h2)
      · exact .inr h2
      · have:=(h.2.1 x hx (by rw[h2];exact hm) g h3).2
        rwa [h2]at this
    · rw[old e]at hg
      have:=h.2.1 m (hd.resolve_right e) hm g hg
      exact⟨Nat.lt_of_lt_of_le this.1 hs,this.2⟩
  · have far:∀ {q},q≠k→D q→sd q≠0→sd k≠sd q→sd k≠0→blks v g→blks (vs q) g→False:=fun {q} e hd hq hsq hk hv1 hq1=>by
      have h0:=h.2.1 q hd hq g hq1
      rcases(hv.resolve_left hk g hv1).2 with h1 | h1 | ⟨x,hx,h1,h2⟩
      · omega
      · rcases h0.2 with h2 | h2
        · have:=hb.hi _ _ h1;omega
        · exact hsq (hb.one _ _ g h1 h2)
      · exact h.2.2 x q hx hd (by rw[h1];exact hk) hq (by rw[h1];exact hsq) g h2 hq1
    by_cases e:m=k
    · have e':m'≠k:=fun q=>hne (by rw[e,q])
      rw[e,upd_same]at hg
      rw[old e']at hg'
      exact far e' (hd'.resolve_right e') hm' (by rw[← e];exact hne) (by rw[← e];exact hm) hg hg'
    · rw[old e]at hg
      by_cases e':m'=k
      · rw[e',upd_same]at hg'
        exact far e (hd.resolve_right e) hm (by rw[← e'];exact Ne.symm hne) (by rw[← e'];exact hm') hg' hg
      · rw[old e']at hg'
        exact h.2.2 m m' (hd.resolve_right e) (hd'.resolve_right e') hm hm' hne g hg hg'
section
variable {P:Program} {Q:Exit→Act→World→Prop} {md:Region.Mode} {l:List Oper} {a0:Act} {S R:World→Prop} {ps:List PS} {A:(Nat→Value)→Act} {L B ks:Nat} {I:Nat→Nat→Prop} {sd:Nat→Nat} {ts:List Tag4}
structure Firm5 (L B:Nat) (I:Nat→Nat→Prop) (ts:List Tag4) (S R:World→Prop) (ps:List PS):Prop where
  s:∀ W W',S W→Ext W W'→S W'
  r:∀ W W',R W→Ext W W'→R W'
  t:Tags4 ts ps 0
  b:Begun L B I
abbrev And5 (S R:World→Prop) (ks B:Nat) (I:Nat→Nat→Prop) (sd:Nat→Nat):(Nat→Prop)→(Nat→Value)→World→Prop:=fun D vs W=>S W∧(¬ D ks→R W)∧Grows B I sd D vs W
theorem And5.same {D D':Nat→Prop} {vs:Nat→Value} {w:World} (e:∀ i,D i↔D' i) (h:And5 S R ks B I sd D vs w):And5 S R ks B I sd D' vs w:=
  ⟨h.1,fun q=>h.2.1 fun q'=>q ((e ks).1 q'),h.2.2.1,fun m hm=>h.2.2.2.1 m ((e m).2 hm),fun m m' hm hm'=>h.2.2.2.2 m m' ((e m).2 hm) ((e m').2 hm')⟩
theorem keep5 {k:Nat} {D:Nat→Prop} {vs:Nat→Value} {w w':World} (ht:Tags4 ts ps 0) (hE:Ext w w'):KeepD ps k D vs w w':=fun j _ _ hj2=>by
  have:=Tags4.keepE (vs:=vs) hE ts ps 0 ht j
  rw[Nat.zero_add]at this
  exact this hj2
theorem Tags4.keepD {k c g:Nat} {ex:List Nat} {sd:Nat→Nat} {D:Nat→Prop} {vs:Nat→Value} {w w':World} (hw:Wr g w w') (hg:∀ m,D m→sd m≠0→sd m≠c→¬ blks (vs m) g):
    ∀ (ts:List Tag4) (ps:List PS) (i:Nat),Tags4 ts ps i→off4 k ex c sd ts i=true→∀ j,i+j≠k→i+j ∉ ex→(∀ m,(Tag4.on m) ∈ ts→m=i+j→D m)→(∀ j',(ts[j']? = some (Tag4.on (i+j'))∨ts[j']? = some Tag4.any∨ts[j']? = some Tag4.last∨ts[j']? = none))→(psAt ps j).holds (i+j) vs w→(psAt ps j).holds (i+j) vs w'
  | [],[],_,_,_,_,_,_,_,_,_=>by unfold psAt;simp[PS.holds]
  | t :: ts,p :: ps,i,h,hb,0,hn,hx,hd,hs,hp=>by
    unfold off4 at hb
    rw[Bool.and_eq_true,Bool.or_eq_true,Bool.or_eq_true]at hb
    rcases hb.1 with (hb | hb) | hb
    · exact absurd (by simpa using hb) hn
    · exact absurd (by simpa using hb) hx
    · refine h.1.2 vs w w' g hw ?_ hp
      cases t with
      | any=>trivial
      | last=>cases hb
      | on m=>
        rw[Bool.and_eq_true,bne_iff_ne,bne_iff_ne]at hb
        have hm:m=i+0:=by
          rcases hs 0 with h1 | h1 | h1 | h1
          · simp at h1;omega
          · simp at h1
          · simp at h1
          · simp at h1
        exact hg m (hd m (List.mem_cons_self ..) hm) hb.1 hb.2
  | t :: ts,p :: ps,i,h,hb,j+1,hn,hx,hd,hs,hp=>by
    unfold off4 at hb
    rw[Bool.and_eq_true]at hb
    have:=Tags4.keepD hw hg ts ps (i+1) h.2 hb.2 j (by omega) (by rw[show i+1+j=i+(j+1) by omega];exact hx) (fun m hm e=>hd m (List.mem_cons_of_mem _ hm) (by omega)) (fun j'=>by
      have:=hs (j'+1)
      rw[List.getElem?_cons_succ]at this
      rw[show i+1+j'=i+(j'+1) by omega]
      exact this)
    rw[show i+1+j=i+(j+1) by omega]at this
    exact this hp
  | [],_ :: _,_,h,_,_,_,_,_,_,_=>absurd h id
  | _ :: _,[],_,h,_,_,_,_,_,_,_=>absurd h id
def selfB:List Tag4→Nat→Bool
  | [],_=>true
  | .any :: ts,i=>selfB ts (i+1)
  | .last :: ts,i=>selfB ts (i+1)
  | .on m :: ts,i=>m==i && selfB ts (i+1)
theorem selfB_spec:∀ (ts:List Tag4) (i:Nat),selfB ts i=true→∀ j,ts[j]? = some (Tag4.on (i+j))∨ts[j]? = some Tag4.any∨ts[j]? = some Tag4.last∨ts[j]? = none
  | [],_,_,j=>.inr (.inr (.inr (by simp)))
  | .any :: _,_,_,0=>.inr (.inl rfl)
  | .last :: _,_,_,0=>.inr (.inr (.inl rfl))
  | .on m :: _,i,h,0=>by
    unfold selfB at h
    rw[Bool.and_eq_true,beq_iff_eq]at h
    left
    rw[h.1]
    rfl
  | .any :: ts,i,h,j+1=>by
    have:=selfB_spec ts (i+1) h j
    rw[show i+1+j=i+(j+1) by omega]at this
    exact this
  | .last :: ts,i,h,j+1=>by
    have:=selfB_spec ts (i+1) h j
    rw[show i+1+j=i+(j+1) by omega]at this
    exact this
  | .on m :: ts,i,h,j+1=>by
    unfold selfB at h
    rw[Bool.and_eq_true]at h
    have:=selfB_spec ts (i+1) h.2 j
    rw[show i+1+j=i+(j+1) by omega]at this
    exact this
theorem keepW5 {k c g:Nat} {ex:List Nat} {D:Nat→Prop} {vs:Nat→Value} {w w':World} (ht:Tags4 ts ps 0) (hs:selfB ts 0=true) (hoff:off4 k ex c sd ts 0=true) (hw:Wr g w w') (hg:∀ m,D m→sd m≠0→sd m≠c→¬ blks (vs m) g) {j:Nat} (hj:j≠k) (hx:j ∉ ex) (hD:D j) (h:(psAt ps j).holds j vs w):(psAt ps j).holds j vs w':=by
  have:=Tags4.keepD (k:=k) (ex:=ex) (c:=c) (vs:=vs) hw hg ts ps 0 ht hoff j (by omega) (by rw[Nat.zero_add];exact hx) (fun m _ e=>by rw[show m=j by omega];exact hD) (fun j'=>selfB_spec ts 0 hs j')
  rw[Nat.zero_add]at this
  exact this h
theorem owes5E {o:Oper} (k:Nat) (pre:List Nat) (hf:Firm5 L B I ts S R ps) (_hks:(ks==k)=false) (hk:(sd k==0)=true) (ho:l[k]? = some o) (hpre:waitsB md o pre=true)
    (h:∀ (vs:Nat→Value) (w:World),S w→Pres ps pre vs w→Olds md l a0 k vs→∀ K:Act→World→Prop,(∀ v w',Ext w w'→(psAt ps k).holds k (upd vs k v) w'→K ((A vs).put o.dst v) w') →
      if Region.wanted o (yielded l.toArray (A vs).tmps)=true then Oper.wp P o (A vs) w K Q else K ((A vs).put o.dst undef) w):OwesD P md l Q a0 A (And5 S R ks B I sd) ps k:=
  owesD k pre ho hpre fun _ vs w _ hS _ hp hx _ K hK=>h vs w hS.1 hp hx K fun v w' hE hpo=>hK v w' ⟨hf.s w w' hS.1 hE,fun e=>hf.r w w' (hS.2.1 fun q=>e (.inl q)) hE,hS.2.2.step hf.b (Ext.size hE) (.inl (by simpa using hk))⟩ (keep5 hf.t hE) hpo
theorem owes5O {o:Oper} (k:Nat) (pre:List Nat) (hf:Firm5 L B I ts S R ps) (_hks:(ks==k)=false) (ho:l[k]? = some o) (hpre:waitsB md o pre=true)
    (h:∀ (vs:Nat→Value) (w:World),S w→Pres ps pre vs w→Olds md l a0 k vs→∀ K:Act→World→Prop,(∀ v,(∀ g,blks v g→I (sd k) g)→(psAt ps k).holds k (upd vs k v) w→K ((A vs).put o.dst v) w) →
      if Region.wanted o (yielded l.toArray (A vs).tmps)=true then Oper.wp P o (A vs) w K Q else K ((A vs).put o.dst undef) w):OwesD P md l Q a0 A (And5 S R ks B I sd) ps k:=
  owesD k pre ho hpre fun _ vs w _ hS _ hp hx _ K hK=>h vs w hS.1 hp hx K fun v hv hpo=>hK v w ⟨hS.1,fun e=>hS.2.1 fun q=>e (.inl q),hS.2.2.step hf.b (Nat.le_refl _) (.inr fun g hg=>⟨Nat.lt_of_lt_of_le (hf.b.hi _ _ (hv g hg)) hS.2.2.1,.inr (.inl (hv g hg))⟩)⟩ (fun _ _ _ hj=>hj) hpo
theorem owes5R {o oks:Oper} (k:Nat) (pre:List Nat) (hf:Firm5 L B I ts S R ps) (hlk:l[ks]? = some oks) (hwk:waitsB md oks [k]=true) (ho:l[k]? = some o) (hpre:waitsB md o pre=true)
    (h:∀ (vs:Nat→Value) (w:World),S w∧R w→Pres ps pre vs w→Olds md l a0 k vs→∀ K:Act→World→Prop,(∀ v,(sd k=0∨∀ g,blks v g→I (sd k) g)→(psAt ps k).holds k (upd vs k v) w→K ((A vs).put o.dst v) w) →
      if Region.wanted o (yielded l.toArray (A vs).tmps)=true then Oper.wp P o (A vs) w K Q else K ((A vs).put o.dst undef) w):OwesD P md l Q a0 A (And5 S R ks B I sd) ps k:=
  owesD k pre ho hpre fun _ vs w _ hS _ hp hx hl K hK=>h vs w ⟨hS.1,hS.2.1 (hl ks oks hlk hwk)⟩ hp hx K fun v hv hpo=>hK v w ⟨hS.1,fun e=>hS.2.1 fun q=>e (.inl q),hS.2.2.step hf.b (Nat.le_refl _) (hv.imp_right fun hv g hg=>⟨Nat.lt_of_lt_of_le (hf.b.hi _ _ (hv g hg)) hS.2.2.1,.inr (.inl (hv g hg))⟩)⟩ (fun _ _ _ hj=>hj) hpo
theorem owes5N {o:Oper} (k:Nat) (pre:List Nat) (hf:Firm5 L B I ts S R ps) (_hks:(ks==k)=false) (ho:l[k]? = some o) (hpre:waitsB md o pre=true)
    (h:∀ (vs:Nat→Value) (w:World),S w→Pres ps pre vs w→Olds md l a0 k vs→∀ K:Act→World→Prop,(∀ v w',Ext w w'→(∀ g,blks v g→g < w'.heap.size∧w.heap.size≤g)→(psAt ps k).holds k (upd vs k v) w'→K ((A vs).put o.dst v) w') →
      if Region.wanted o (yielded l.toArray (A vs).tmps)=true then Oper.wp P o (A vs) w K Q else K ((A vs).put o.dst undef) w):OwesD P md l Q a0 A (And5 S R ks B I sd) ps k:=
  owesD k pre ho hpre fun _ vs w _ hS _ hp hx _ K hK=>h vs w hS.1 hp hx K fun v w' hE hv hpo=>hK v w' ⟨hf.s w w' hS.1 hE,fun e=>hf.r w w' (hS.2.1 fun q=>e (.inl q)) hE,hS.2.2.step hf.b (Ext.size hE) (.inr fun g hg=>⟨(hv g hg).1,.inl (hv g hg).2⟩)⟩ (keep5 hf.t hE) hpo
def laterB (md:Region.Mode) (l:List Oper) (k:Nat) (lt:List Nat):Bool:=lt.all fun j=>match l[j]? with | some oj=>waitsB md oj [k] | none=>false
theorem laterB_spec {D:Nat→Prop} {k j:Nat} {lt:List Nat} (h:laterB md l k lt=true) (hl:Later md l D k) (hj:j ∈ lt):¬ D j:=by
  have:=List.all_eq_true.1 h j hj
  cases ho:l[j]? with
  | none=>rw[ho]at this;cases this
  | some oj=>rw[ho]at this;exact hl j oj ho this
theorem owes5A {o:Oper} (k m:Nat) (lt pre:List Nat) (hf:Firm5 L B I ts S R ps) (hlt:laterB md l k lt=true) (hmp:pre.contains m=true) (hm:(sd m != 0)=true) (hkm:(sd k==sd m)=true) (hoff:(off4 k (m :: lt) (sd m) sd ts 0 && selfB ts 0)=true) (ho:l[k]? = some o) (hpre:waitsB md o pre=true)
    (h:∀ (vs:Nat→Value) (w:World),S w→Pres ps pre vs w→Olds md l a0 k vs→∀ K:Act→World→Prop,(∀ v w',(Ext w w'∨∃ g,blks (vs m) g∧Wr g w w'∧S w'∧(R w→R w')∧(psAt ps m).holds m vs w')→(∀ g,blks v g→g < w'.heap.size∧(w.heap.size≤g∨blks (vs m) g))→(psAt ps k).holds k (upd vs k v) w'→K ((A vs).put o.dst v) w') →
      if Region.wanted o (yielded l.toArray (A vs).tmps)=true then Oper.wp P o (A vs) w K Q else K ((A vs).put o.dst undef) w):OwesD P md l Q a0 A (And5 S R ks B I sd) ps k:=
  owesD k pre ho hpre fun D vs w _ hS hDp hp hx hl K hK=>h vs w hS.1 hp hx K fun v w' hc hv hpo=>by
    have hm':sd m≠0:=by simpa using hm
    have hkm':sd m=sd k:=by simpa using (Eq.symm (by simpa using hkm:sd k=sd m))
    have hDm:D m:=hDp m (List.contains_iff_mem.1 hmp)
    rw[Bool.and_eq_true]at hoff
    have hR:∀ {R':Prop},(R w→R')→¬ (D ks∨ks=k)→R':=fun f e=>f (hS.2.1 fun q=>e (.inl q))
    have hv':∀ g,blks v g→g < w'.heap.size∧(w.heap.size≤g∨I (sd k) g∨∃ m,D m∧sd m=sd k∧blks (vs m) g):=fun g hg=>⟨(hv g hg).1,(hv g hg).2.imp_right fun h2=>.inr ⟨m,hDm,hkm',h2⟩⟩
    rcases hc with hE | ⟨g,hg,hw,hS',hR',hpm⟩
    · exact hK v w' ⟨hf.s w w' hS.1 hE,hR fun r=>hf.r w w' r hE,hS.2.2.step hf.b (Ext.size hE) (.inr hv')⟩ (keep5 hf.t hE) hpo
    · refine hK v w' ⟨hS',hR hR',hS.2.2.step hf.b hw.apart.size (.inr hv')⟩ (fun j hj hD hj2=>?_) hpo
      by_cases e:j=m
      · rw[e];exact hpm
      · exact keepW5 hf.t hoff.2 hoff.1 hw (fun q hq h1 h2 h3=>hS.2.2.2.2 m q hDm hq hm' h1 (Ne.symm h2) g hg h3) hj (fun q=>by
          rcases List.mem_cons.1 q with q | q
          · exact e q
          · exact laterB_spec hlt hl q hD) hD hj2
theorem owes5S {o:Oper} (g0:Nat) (pre:List Nat) (hf:Firm5 L B I ts S R ps) (hk:(sd ks==0)=true) (hg:g0 < L) (hoff:(off4 ks [] 0 sd ts 0 && selfB ts 0)=true) (ho:l[ks]? = some o) (hpre:waitsB md o pre=true)
    (h:∀ (vs:Nat→Value) (w:World),S w→Pres ps pre vs w→Olds md l a0 ks vs→∀ K:Act→World→Prop,(∀ w',Wr g0 w w'→S w'→(psAt ps ks).holds ks (upd vs ks (.bool true)) w'→K ((A vs).put o.dst (.bool true)) w') →
      if Region.wanted o (yielded l.toArray (A vs).tmps)=true then Oper.wp P o (A vs) w K Q else K ((A vs).put o.dst undef) w):OwesD P md l Q a0 A (And5 S R ks B I sd) ps ks:=
  owesD ks pre ho hpre fun D vs w _ hS _ hp hx _ K hK=>h vs w hS.1 hp hx K fun w' hw hS' hpo=>hK (.bool true) w' ⟨hS',(fun e=>absurd (.inr rfl) e),hS.2.2.step hf.b hw.apart.size (.inl (by simpa using hk))⟩
    (fun j hj hD hj2=>by
      rw[Bool.and_eq_true]at hoff
      exact keepW5 hf.t hoff.2 hoff.1 hw (fun q hq h1 _ h3=>by
        rcases(hS.2.2.2.1 q hq h1 g0 h3).2 with h4 | h4
        · have:=hf.b.le;omega
        · have:=hf.b.lo _ _ h4;omega) hj (by simp) hD hj2) hpo
theorem owes5T {o:Oper} (g0:Nat) (pre:List Nat) (hf:Firm5 L B I ts S R ps) (hk:(sd ks==0)=true) (hg:g0 < L) (hoff:(off4 ks [] 0 sd ts 0 && selfB ts 0)=true) (ho:l[ks]? = some o) (hpre:waitsB md o pre=true)
    (h:∀ (vs:Nat→Value) (w:World),S w∧R w→Pres ps pre vs w→Olds md l a0 ks vs→∀ K:Act→World→Prop,(∀ w',Wr g0 w w'→S w'→(psAt ps ks).holds ks (upd vs ks (.bool true)) w'→K ((A vs).put o.dst (.bool true)) w') →
      if Region.wanted o (yielded l.toArray (A vs).tmps)=true then Oper.wp P o (A vs) w K Q else K ((A vs).put o.dst undef) w):OwesD P md l Q a0 A (And5 S R ks B I sd) ps ks:=
  owesD ks pre ho hpre fun D vs w hD0 hS _ hp hx _ K hK=>h vs w ⟨hS.1,hS.2.1 hD0⟩ hp hx K fun w' hw hS' hpo=>hK (.bool true) w' ⟨hS',(fun e=>absurd (.inr rfl) e),hS.2.2.step hf.b hw.apart.size (.inl (by simpa using hk))⟩
    (fun j hj hD hj2=>by
      rw[Bool.and_eq_true]at hoff
      exact keepW5 hf.t hoff.2 hoff.1 hw (fun q hq h1 _ h3=>by
        rcases(hS.2.2.2.1 q hq h1 g0 h3).2 with h4 | h4
        · have:=hf.b.le;omega
        · have:=hf.b.lo _ _ h4;omega) hj (by simp) hD hj2) hpo
theorem region_go5 {id:Nat} {w:World} {b:Bool} (ps:List PS) (S R:World→Prop) (L:Nat) (I:Nat→Nat→Prop) (ks:Nat) (ms:List (Nat × Nat)) (ts:List Tag4) (hc:Tags4 ts ps 0)
    (hSE:∀ W W',S W→Ext W W'→S W') (hRE:∀ W W',R W→Ext W W'→R W') (hb:Begun L w.heap.size I) (hS:S w) (hR:R w)
    (hm:P.follows .mixedOrders=true) (honce:onceB l=true) (hdown:downB .any l 0=true) (hdeps:depsB .any l ps=true)
    (hA:∀ vs,putAll l 0 vs a0=A vs) (howe:Firm5 L w.heap.size I ts S R ps→OwesAllD P .any l Q a0 A (And5 S R ks w.heap.size I (sdOf ms)) ps l 0)
    (hfin:∀ (vs:Nat→Value) (w':World),S w'→(∃ D,(∀ i,i < l.length→D i)∧Grows w.heap.size I (sdOf ms) D vs w')→AllPosts ps 0 vs w'→Q .normal (A vs) w'):
    (Code.region id l.toArray b).wp P Q a0 w:=
  region_done (ps:=ps) (S:=And5 S R ks w.heap.size I (sdOf ms)) hm honce hdown hdeps hA (fun W hE=>⟨hSE w W hS hE,fun _=>hRE w W hR hE,Grows.init (Ext.size hE)⟩) (fun _ _ _ _ e h=>And5.same e h) (howe ⟨hSE,hRE,hc,hb⟩) (fun vs w' ⟨D,h0,h1⟩ h2=>hfin vs w' h1.1 ⟨D,h0,h1.2.2⟩ h2)
theorem region_in5 {id n r:Nat} {w:World} (hcm:l.toArray.all calm=true) (hQ:¬ LetsOut Q) (ps:List PS) (S R:World→Prop) (L:Nat) (I:Nat→Nat→Prop) (ks:Nat) (ms:List (Nat × Nat)) (ts:List Tag4) (hc:Tags4 ts ps 0)
    (hSE:∀ W W',S W→Ext W W'→S W') (hRE:∀ W W',R W→Ext W W'→R W') (hb:Begun L w.heap.size I) (hS:S w) (hR:R w)
    (hm:P.follows .mixedOrders=true) (honce:onceB l=true) (hdown:downB .any l 0=true) (hdeps:depsB .any l ps=true)
    (hA:∀ vs,putAll l 0 vs a0=A vs) (howe:Firm5 L w.heap.size I ts S R ps→OwesAllD P .any l Q a0 A (And5 S R ks w.heap.size I (sdOf ms)) ps l 0)
    (hfin:∀ (vs:Nat→Value) (w':World),S w'→(∃ D,(∀ i,i < l.length→D i)∧Grows w.heap.size I (sdOf ms) D vs w')→AllPosts ps 0 vs w'→Q .normal (A vs) w'):
    (Code.region id l.toArray true).wpIn (Fence.wide.inRound r) n P Q a0 w:=
  region_doneR (ps:=ps) (S:=And5 S R ks w.heap.size I (sdOf ms)) hcm hQ hm honce hdown hdeps hA ⟨hSE w _ hS (Ext.drew1 w),fun _=>hRE w _ hR (Ext.drew1 w),Grows.init (Nat.le_refl _)⟩ (fun _ _ _ _ e h=>And5.same e h) (howe ⟨hSE,hRE,hc,hb⟩) (fun vs w' ⟨D,h0,h1⟩ h2=>hfin vs w' h1.1 ⟨D,h0,h1.2.2⟩ h2)
end
def RowG (lo hi:Nat) (W:World) (e:TypeId) (v:Value) (l:List Int):Prop:=
  ((v=.slice none 0 0∧l=[])∨(OwnJ lo e l v W∧∀ g,blks v g→g < hi))∧∀ x ∈ l,I64 x
theorem RowG.nil (lo hi:Nat) (W:World) (e:TypeId):RowG lo hi W e (.slice none 0 0) []:=⟨.inl ⟨rfl,rfl⟩,fun x hx=>by cases hx⟩
theorem RowG.ext {lo hi:Nat} {W W':World} {e:TypeId} {v:Value} {l:List Int} (h:RowG lo hi W e v l) (hE:Ext W W'):RowG lo hi W' e v l:=⟨h.1.imp_right fun k=>⟨k.1.ext hE,k.2⟩,h.2⟩
theorem RowG.blk {lo hi g:Nat} {W:World} {e:TypeId} {v:Value} {l:List Int} (h:RowG lo hi W e v l) (hg:blks v g):lo≤g∧g < hi:=by
  rcases h.1 with ⟨rfl,-⟩ | ⟨⟨b,c,cur,rfl,h2,-⟩,k⟩
  · exact absurd hg id
  · have:b=g:=hg
    exact⟨by omega,k g hg⟩
theorem RowG.wr {lo hi g:Nat} {W W':World} {e:TypeId} {v:Value} {l:List Int} (h:RowG lo hi W e v l) (hw:Wr g W W') (hg:¬ blks v g):RowG lo hi W' e v l:=⟨h.1.imp_right fun k=>⟨k.1.wr hw hg,k.2⟩,h.2⟩
theorem RowG.wr2 {lo hi g:Nat} {W W':World} {e:TypeId} {v:Value} {l:List Int} (h:RowG lo hi W e v l) (hw:Wr g W W') (hg:g < lo∨hi≤g):RowG lo hi W' e v l:=h.wr hw fun q=>by have:=h.blk q;omega
theorem RowG.mono {lo hi lo' hi':Nat} {W:World} {e:TypeId} {v:Value} {l:List Int} (h:RowG lo hi W e v l) (h1:lo'≤lo) (h2:hi≤hi'):RowG lo' hi' W e v l:=
  ⟨h.1.imp_right fun k=>⟨let ⟨b,c,cur,e1,e2,e3⟩:=k.1;⟨b,c,cur,e1,Nat.le_trans h1 e2,e3⟩,fun g hg=>Nat.lt_of_lt_of_le (k.2 g hg) h2⟩,h.2⟩
theorem RowG.iw {lo hi:Nat} {W:World} {e:TypeId} {v:Value} {l:List Int} (h:RowG lo hi W e v l):∃ a c,v=.slice a l.length c∧Iw lo hi W a l.length c l:=by
  rcases h.1 with ⟨rfl,rfl⟩ | ⟨ho,hk⟩
  · exact⟨none,0,rfl,Iw.nil _ _ _⟩
  · obtain⟨a,c,e,k⟩:=ho.iw h.2
    subst e
    refine⟨a,c,rfl,k.len,?_,k.in64⟩
    obtain⟨b,o,k1,k2⟩:=k.lies
    refine⟨b,o,k1,fun hn=>⟨(k2 hn).1,?_⟩⟩
    have:=k1.addr hn
    subst this
    exact hk b rfl
theorem RowG.noU {lo hi:Nat} {W:World} {e:TypeId} {v:Value} {l:List Int} (h:RowG lo hi W e v l):∃ a n c,v=.slice a n c:=let ⟨a,c,e,_⟩:=h.iw;⟨a,_,c,e⟩
theorem tagH {k lo:Nat} {e:TypeId} {l:List Int}:Tag4.ok (.on k) k (.one fun v W=>RowG lo W.heap.size W e v l):=⟨fun _ _ _ hE h=>(RowG.ext h hE).mono (Nat.le_refl _) (Ext.size hE),fun _ _ _ _ hw hg h=>(RowG.wr h hw hg).mono (Nat.le_refl _) hw.apart.size⟩
theorem tagQ {k lo hi:Nat} {e:TypeId} {l:List Int} {u:Value}:Tag4.ok (.on k) k (.one fun v W=>v=u∧RowG lo hi W e v l):=⟨fun _ _ _ hE h=>⟨h.1,RowG.ext h.2 hE⟩,fun _ _ _ _ hw hg h=>⟨h.1,RowG.wr h.2 hw hg⟩⟩
def NewG (W:World) (v:Value) (y:Int):Prop:=∃ g,v=.slice (some ⟨g,0,none⟩) 1 1∧g < W.heap.size∧W.cell? ⟨g,0,none⟩=some (.int .i64 y)∧I64 y
theorem tagN {k:Nat} {y:Int}:Tag4.ok (.on k) k (.one fun v W=>NewG W v y):=
  ⟨fun _ _ _ hE ⟨g,h1,h2,h3,h4⟩=>⟨g,h1,Nat.lt_of_lt_of_le h2 hE.size,hE.cell h3,h4⟩,fun _ _ _ k hw hg ⟨g,h1,h2,h3,h4⟩=>⟨g,h1,Nat.lt_of_lt_of_le h2 hw.apart.size,hw.apart.cell (by
    have:g≠k:=fun e=>hg (by rw[h1];exact e)
    simpa using this) h3,h4⟩⟩
theorem NewG.iw {W:World} {v:Value} {y:Int} (h:NewG W v y):∃ g,v=.slice (some ⟨g,0,none⟩) 1 1∧Iw 0 W.heap.size W (some ⟨g,0,none⟩) 1 1 [y]:=by
  obtain⟨g,h1,h2,h3,hy⟩:=h
  refine⟨g,h1,⟨rfl,⟨g,0,⟨.inl rfl,Nat.le_refl _,by decide,fun i hi=>?_⟩,fun _=>⟨Nat.zero_le _,h2⟩⟩,fun x hx=>by simp at hx;subst hx;exact hy⟩⟩
  obtain rfl:i=0:=by omega
  exact h3
def Ione (v:Value) (c g:Nat):Prop:=c=1∧blks v g
def Itwo (v u:Value) (c g:Nat):Prop:=c=1∧blks v g∨c=2∧blks u g
theorem begun_one {L H B:Nat} {W:World} {e:TypeId} {v:Value} {l:List Int} (h:RowG L H W e v l) (hH:H≤B) (hL:L≤B):Begun L B (Ione v):=
  ⟨fun _ g hg=>(h.blk hg.2).1,fun _ g hg=>by have:=(h.blk hg.2).2;omega,fun _ _ _ h1 h2=>by rw[h1.1,h2.1],hL⟩
theorem begun_two {L H B:Nat} {W:World} {e:TypeId} {v u:Value} {l m:List Int} (h:RowG L H W e v l) (k:RowG L H W e u m) (hH:H≤B) (hL:L≤B) (hn:∀ g,blks v g→¬ blks u g):Begun L B (Itwo v u):=
  ⟨fun _ g hg=>hg.elim (fun q=>(h.blk q.2).1) (fun q=>(k.blk q.2).1),fun _ g hg=>hg.elim (fun q=>by have:=(h.blk q.2).2;omega) (fun q=>by have:=(k.blk q.2).2;omega),fun _ _ g h1 h2=>by
    rcases h1 with ⟨rfl,h1⟩ | ⟨rfl,h1⟩
    · rcases h2 with ⟨rfl,-⟩ | ⟨-,h2⟩
      · rfl
      · exact absurd h2 (hn g h1)
    · rcases h2 with ⟨-,h2⟩ | ⟨rfl,-⟩
      · exact absurd h1 (hn g h2)
      · rfl,hL⟩
section
variable {P:Program} {t e:TypeId} (ht:P.underlying t=.some (.slice e)) (hi:InfoI P e)
include ht hi
theorem run_append_g {w:World} (ty:TypeId) (lo h0:Nat) {v:Value} {l:List Int} {y:Int} {a2:Addr} {c:Nat} {lo2 hi2:Nat} (h:RowG lo h0 w e v l) (hz:Iw lo2 hi2 w (some a2) 1 c [y]) (hlen:l.length+1≤1099511627776) (hb:lo≤w.heap.size):
    ∃ v' w',(Builtin.append_ #[t,t] ty #[v,.slice (some a2) 1 c]).run P w=.ok v' w'∧RowG lo w'.heap.size w' e v' (l++[y]) ∧
      (Ext w w'∨∃ g,blks v g∧Wr g w w'∧RowG lo h0 w' e v l)∧∀ g,blks v' g→g < w'.heap.size∧(w.heap.size≤g∨blks v g):=by
  have h64:∀ x ∈ l++[y],I64 x:=fun x hx=>(List.mem_append.1 hx).elim (h.2 x) (hz.in64 x)
  rcases h.1 with ⟨rfl,rfl⟩ | ⟨ho,hk⟩
  · obtain⟨i0,h1,h2,h3,h4⟩:=hi.get
    have hnews:∀ j u,[Value.int .i64 y][j]? = some u→w.cell? (a2.add j)=some u:=by
      intro j u hj
      obtain⟨b,o,e1,-⟩:=hz.some (by omega)
      cases e1
      match j,hj with
      | 0,hj=>simp at hj;subst hj;rw[Go.WideShapes.add_plain,hz.cell (i:=0) (by omega)];rfl
    have hr:=run_append_nil (P:=P) w t ty e i0 _ ht h1 h2 a2 1 c [Value.int .i64 y] (by rw[h3];rfl) hnews (by omega) (by omega) (by rw[h4];omega)
    have hge:=grownCap_ge w 1 0 e
    have hgm:=grownCap_le_maxLen w 1 0 e (by unfold maxLen;omega)
    obtain⟨ct,hct⟩:∃ ct,ct=([Value.int .i64 y].toArray++Builtin.zeroCells (Value.int .i64 0).cells (grownCap w 1 0 e - 1)):=⟨_,rfl⟩
    rw[← hct]at hr
    have hnew:(w.drew.alloc (.cells ct e)).heap[w.heap.size]? = some (.cells ct e (0,0)):=heap_alloc_new w.drew _
    have hlt:=(Array.getElem?_eq_some_iff.1 hnew).1
    have hcn:NoU ct:=by
      rw[noJ_iff,hct,Array.toList_append]
      intro u hu
      rcases List.mem_append.1 hu with hu | hu
      · intro k q;simp at hu;subst hu;cases q
      · exact noU_zeroI _ u hu
    have hcs:ct.size=grownCap w 1 0 e:=by
      rw[hct,Array.size_append,size_zeroCells]
      simp[Value.cells]
      omega
    refine⟨_,_,hr,⟨.inr ⟨⟨w.heap.size,_,ct,rfl,hb,hnew,hge,hgm,hcs,hcn,?_⟩,fun g hg=>?_⟩,h64⟩,.inl ((Ext.drew1 w).trans (Ext.alloc1 _ _)),fun g hg=>?_⟩
    · rw[hct,Array.toList_append]
      rfl
    · have:w.heap.size=g:=hg
      omega
    · have:w.heap.size=g:=hg
      exact⟨by omega,.inl (by omega)⟩
  · obtain⟨v',w',hr,h1,h2⟩:=run_append_j ht hi ty lo ho hz hlen hb
    refine⟨v',w',hr,?_,?_,?_⟩
    · refine⟨.inr ⟨h1,fun g hg=>?_⟩,h64⟩
      obtain⟨b,cp,cur,rfl,-,h5,-⟩:=h1
      have:b=g:=hg
      subst this
      exact(Array.getElem?_eq_some_iff.1 h5).1
    · rcases h2 with ⟨hE,-⟩ | ⟨g,hg,-,hw,-,hl⟩
      · exact .inl hE
      · exact .inr ⟨g,hg,hw,⟨.inr ⟨hl,hk⟩,h.2⟩⟩
    · intro g hg
      rcases h2 with ⟨-,h3⟩ | ⟨g2,hg2,-,hw,h3,hl⟩
      · exact h3 g hg
      · rw[h3 g hg]
        obtain⟨b,cp,cur,rfl,-,h5,-⟩:=hl
        have:b=g2:=hg2
        subst this
        exact⟨(Array.getElem?_eq_some_iff.1 h5).1,.inr hg2⟩
theorem step_append_g {ops:Array Oper} {o:Oper} {a:Act} {K:Act→World→Prop} {Q:Exit→Act→World→Prop} {E:Prop} {w:World} (hwant:Region.wanted o (yielded ops a.tmps)=true) (s x:Operand)
    (ho:o.op=.call { callee:=.builtin .append,args:=#[s,x],argTypes:=#[t,t] }) (lo h0:Nat) {v u:Value} {l:List Int} {y:Int} (hs:a.eval s=v) (hx:a.eval x=u) (h:RowG lo h0 w e v l) (hn:NewG w u y) (hlen:l.length+1≤1099511627776) (hb:lo≤w.heap.size)
    (hK:∀ v' w',(Ext w w'∨∃ g,blks v g∧Wr g w w'∧RowG lo h0 w' e v l)→(∀ g,blks v' g→g < w'.heap.size∧(w.heap.size≤g∨blks v g))→RowG lo w'.heap.size w' e v' (l++[y])→K (a.put o.dst v') w'):
    if Region.wanted o (yielded ops a.tmps)=true then Oper.wp P o a w K Q else E:=by
  rw[if_pos hwant]
  obtain⟨g,rfl,hz⟩:=hn.iw
  obtain⟨v',w',hr,h1,h2,h3⟩:=run_append_g ht hi o.type lo h0 h hz hlen hb
  unfold Oper.wp execOp
  simp only[ho,resolve,invoke,builtin,Sem.run_bind,Sem.run_pure,Result.andThen_ok,List.map_toArray,List.map_cons,List.map_nil,hs,hx,hr]
  exact hK _ _ h2 h3 h1
end
theorem Form.putS {W:World} {g:Nat} {t:TypeId} (h:Form W g t 1) (v:Value) (hv:∀ n,v≠.int .u64 n):
    ∃ x,W.cell? ⟨g,0,none⟩=some x∧W.frozen? ⟨g,0,none⟩=false∧∃ W',W'=W.setCell ⟨g,0,none⟩ v∧Wr g W W'∧BxA W' g t #[v]:=by
  obtain⟨cs,h1,h2,h3⟩:=h
  have hb:BxA W g t cs:=h1
  obtain⟨x,rfl⟩:∃ x,cs=#[x]:=⟨cs[0],by
    apply Array.ext
    · simp[h3]
    · intro i p1 p2
      obtain rfl:i=0:=by omega
      rfl⟩
  have hp:=hb.putN 0 v
  have hn:NoU #[v]:=by
    intro j u hu n
    match j with
    | 0=>simp at hu;subst hu;exact hv n
    | j+1=>simp at hu
  exact⟨x,hb.cell 0 rfl,hb.frozN 0,_,rfl,Wr.putN hb h2 0 v hn,hp⟩
theorem noU_slice (a:Option Addr) (n c:Nat):NoU #[.slice a n c]:=by
  intro j u hu k
  match j with
  | 0=>simp at hu;subst hu;intro e;cases e
  | j+1=>simp at hu
theorem tag4_last {k:Nat} {p:PS} (h:∀ vs w w',Ext w w'→p.holds k vs w→p.holds k vs w'):Tag4.ok .last k p:=⟨h,fun _ _ _ _ _ h=>h.elim⟩
theorem tag_boxL {k j g:Nat} {t:TypeId}:Tag4.ok .last k (.two j fun p _ W=>BxA W g t #[p]):=tag4_last fun _ _ _ hE h=>BxA.ext h hE
end Go.Rt
