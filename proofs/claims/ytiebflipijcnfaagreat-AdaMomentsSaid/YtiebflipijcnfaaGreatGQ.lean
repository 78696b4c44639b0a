/-
  Boxes of many cells that a drawn region makes: an Adam's six, four rows; one cell put anew.
  A region whose last store goes into a box that it read ahead: what the box held stays told until then.
-/
import Derived.Test.YtiebflipijcnfaaGreatIrow
namespace Go.Rt
open Go Go.RowKit Go.Proofs
def NewA (B:Nat) (t:TypeId) (xs:Array Value) (p:Value) (W:World):Prop:=∃ g,p=.pointer (some ⟨g,0,none⟩)∧B≤g∧BxA W g t xs
theorem tag_newA {B i:Nat} {t:TypeId} {xs:Array Value}:Tag.ok B (.new i) (PS.two i (fun p _ W=>NewA B t xs p W)):=
  ⟨fun k vs w w' hE ⟨g',h1,h2,h3⟩=>⟨g',h1,h2,BxA.ext h3 hE⟩,fun k vs w w' g hw hg ⟨g',h1,h2,h3⟩=>⟨g',h1,h2,BxA.wr h3 hw (by
    rcases hg with hg | hg
    · omega
    · exact fun e=>hg (by rw[h1,← e];rfl))⟩⟩
theorem BxA.putN {W:World} {b:Nat} {t:TypeId} {xs:Array Value} (h:BxA W b t xs) (i:Nat) (v:Value):BxA (W.setCell ⟨b,i,none⟩ v) b t (xs.setIfInBounds i v):=by
  unfold BxA at h ⊢
  simp[World.setCell,h,Array.getElem?_modify]
theorem BxA.frozN {W:World} {b:Nat} {t:TypeId} {xs:Array Value} (h:BxA W b t xs) (i:Nat):W.frozen? ⟨b,i,none⟩=false:=by simp[World.frozen?,show W.heap[b]? = _ from h]
theorem Wr.putN {W:World} {g:Nat} {t:TypeId} {xs:Array Value} (h:BxA W g t xs) (hn:NoU xs) (i:Nat) (v:Value) (hv:NoU (xs.setIfInBounds i v)):Wr g W (W.setCell ⟨g,i,none⟩ v):=
  ⟨Apart.setCell (p:=⟨g,i,none⟩) _ (by simp) _,⟨_,t,h,hn⟩,fun cs t' hc=>by
    rw[show W.heap[g]? = _ from h]at hc
    cases hc
    exact⟨_,BxA.putN h i v,hv,by simp⟩⟩
theorem Form.put4 {W:World} {g:Nat} {t:TypeId} (h:Form W g t 4) (v0 v1 v2 v3:Value) (hn:NoU #[v0,v1,v2,v3]):
    ∃ x0 x1 x2 x3,W.cell? ⟨g,0,none⟩=some x0∧W.cell? ⟨g,1,none⟩=some x1∧W.cell? ⟨g,2,none⟩=some x2∧W.cell? ⟨g,3,none⟩=some x3∧(∀ i,W.frozen? ⟨g,i,none⟩=false) ∧
      ∃ W',W'=(((W.setCell ⟨g,0,none⟩ v0).setCell ⟨g,1,none⟩ v1).setCell ⟨g,2,none⟩ v2).setCell ⟨g,3,none⟩ v3∧Wr g W W'∧BxA W' g t #[v0,v1,v2,v3]:=by
  obtain⟨cs,h1,h2,h3⟩:=h
  obtain⟨l⟩:=cs
  match l,h3 with
  | [x0,x1,x2,x3],_=>
    have hb:BxA W g t #[x0,x1,x2,x3]:=h1
    have hq:BxA ((((W.setCell ⟨g,0,none⟩ v0).setCell ⟨g,1,none⟩ v1).setCell ⟨g,2,none⟩ v2).setCell ⟨g,3,none⟩ v3) g t #[v0,v1,v2,v3]:=
      BxA.putN (BxA.putN (BxA.putN (BxA.putN hb 0 v0) 1 v1) 2 v2) 3 v3
    refine⟨x0,x1,x2,x3,BxA.cell hb 0 rfl,BxA.cell hb 1 rfl,BxA.cell hb 2 rfl,BxA.cell hb 3 rfl,BxA.frozN hb,_,rfl,⟨?_,⟨_,t,hb,h2⟩,fun cs t' hc=>?_⟩,hq⟩
    · exact(((Apart.setCell (p:=⟨g,0,none⟩) _ (by simp) _).trans (Apart.setCell (p:=⟨g,1,none⟩) _ (by simp) _)).trans (Apart.setCell (p:=⟨g,2,none⟩) _ (by simp) _)).trans (Apart.setCell (p:=⟨g,3,none⟩) _ (by simp) _)
    · rw[show W.heap[g]? = _ from hb]at hc
      cases hc
      exact⟨_,hq,hn,rfl⟩
end Go.Rt
namespace Go.Rt
open Go Go.RowKit Go.Proofs
structure Rest (R:World→Prop) (g0:Nat):Prop where
  re:∀ W W',R W→Ext W W'→R W'
abbrev And3 (S R:World→Prop) (ms:List Nat) (ks:Nat):(Nat→Value)→World→Prop:=fun vs W=>S W∧Many ms vs W∧(vs ks=undef→R W)
section
variable {P:Program} {Q:Exit→Act→World→Prop} {md:Region.Mode} {l:List Oper} {a0:Act} {S R:World→Prop} {ps:List PS} {A:(Nat→Value)→Act} {B g0 ks:Nat} {ms:List Nat} {ts:List Tag}
theorem owesM3 {o:Oper} (k:Nat) (pre:List Nat) (hf:Firm2 B ts S ps) (hr:Rest R g0) (hks:(ks==k)=false) (hk:ms.contains k=false) (ho:l[k]? = some o) (hpre:waitsB md o pre=true)
    (h:∀ (vs:Nat→Value) (w:World),S w→Pres ps pre vs w→Olds md l a0 k vs→∀ K:Act→World→Prop,(∀ v w',Ext w w'→(psAt ps k).holds k (upd vs k v) w'→K ((A vs).put o.dst v) w') →
      if Region.wanted o (yielded l.toArray (A vs).tmps)=true then Oper.wp P o (A vs) w K Q else K ((A vs).put o.dst undef) w):OwesAt2 P md l Q a0 A (And3 S R ms ks) ps k:=
  owes2 k pre ho hpre fun vs w hS hp hx K hK=>h vs w hS.1 hp hx K fun v w' hE hpo=>hK v w' ⟨hf.s w w' hS.1 hE,hS.2.1.other (by simpa using hk) v (Ext.size hE),fun e=>hr.re w w' (hS.2.2 (by rwa [upd_other (by simpa using hks)]at e)) hE⟩
    (fun j hj hj2=>by have:=Tags.keepE (k:=k) (vs:=vs) hE ts ps 0 hf.t j (by omega);rw[Nat.zero_add]at this;exact this hj2) hpo
theorem owesR3 {o oks:Oper} (k:Nat) (pre:List Nat) (hf:Firm2 B ts S ps) (hr:Rest R g0) (hks:(ks==k)=false) (hlk:l[ks]? = some oks) (hwk:waitsB md oks [k]=true) (hin:initAt a0 l ks=undef) (hk:ms.contains k=false) (ho:l[k]? = some o) (hpre:waitsB md o pre=true)
    (h:∀ (vs:Nat→Value) (w:World),S w∧R w→Pres ps pre vs w→Olds md l a0 k vs→∀ K:Act→World→Prop,(∀ v w',Ext w w'→(psAt ps k).holds k (upd vs k v) w'→K ((A vs).put o.dst v) w') →
      if Region.wanted o (yielded l.toArray (A vs).tmps)=true then Oper.wp P o (A vs) w K Q else K ((A vs).put o.dst undef) w):OwesAt2 P md l Q a0 A (And3 S R ms ks) ps k:=
  owes2 k pre ho hpre fun vs w hS hp hx K hK=>h vs w ⟨hS.1,hS.2.2 ((hx ks oks hlk hwk).trans hin)⟩ hp hx K fun v w' hE hpo=>hK v w' ⟨hf.s w w' hS.1 hE,hS.2.1.other (by simpa using hk) v (Ext.size hE),fun e=>hr.re w w' (hS.2.2 (by rwa [upd_other (by simpa using hks)]at e)) hE⟩
    (fun j hj hj2=>by have:=Tags.keepE (k:=k) (vs:=vs) hE ts ps 0 hf.t j (by omega);rw[Nat.zero_add]at this;exact this hj2) hpo
theorem owesL3 {o:Oper} (g:Nat) (pre:List Nat) (hf:Firm2 B ts S ps) (hk:ms.contains ks=false) (hg:g < B) (hoff:OldOff ks g ts 0) (ho:l[ks]? = some o) (hpre:waitsB md o pre=true)
    (h:∀ (vs:Nat→Value) (w:World),S w→Pres ps pre vs w→Olds md l a0 ks vs→∀ K:Act→World→Prop,(∀ w',Wr g w w'→S w'→(psAt ps ks).holds ks (upd vs ks (.bool true)) w'→K ((A vs).put o.dst (.bool true)) w') →
      if Region.wanted o (yielded l.toArray (A vs).tmps)=true then Oper.wp P o (A vs) w K Q else K ((A vs).put o.dst undef) w):OwesAt2 P md l Q a0 A (And3 S R ms ks) ps ks:=
  owes2 ks pre ho hpre fun vs w hS hp hx K hK=>h vs w hS.1 hp hx K fun w' hw hS' hpo=>hK (.bool true) w' ⟨hS',hS.2.1.other (by simpa using hk) _ hw.apart.size,fun e=>by rw[upd_same]at e;cases e⟩
    (fun j hj hj2=>by have:=Tags.keepO (k:=ks) (vs:=vs) hw hg ts ps 0 hf.t hoff j (by omega);rw[Nat.zero_add]at this;exact this hj2) hpo
theorem region_go3 {id:Nat} {w:World} {b:Bool} (ps:List PS) (S:World→Prop) (B:Nat) (ms:List Nat) (ts:List Tag) (hc:Tags B ts ps) (hold:∀ g0,Tag.old g0 ∈ ts→g0 < B) (hSE:∀ W W',S W→Ext W W'→S W') (hS:S w) (hms:∀ m ∈ ms,initAt a0 l m=undef)
    (ks:Nat) (hr:Rest R g0) (hR:R w)
    (hm:P.follows .mixedOrders=true) (honce:onceB l=true) (hdown:downB .any l 0=true) (hdeps:depsB .any l ps=true)
    (hA:∀ vs,putAll l 0 vs a0=A vs) (howe:Firm2 B ts S ps→OwesAllAt2 P .any l Q a0 A (And3 S R ms ks) ps l 0)
    (hfin:∀ (vs:Nat→Value) (w':World),S w'→Many ms vs w'→AllPosts ps 0 vs w'→Q .normal (A vs) w'):
    (Code.region id l.toArray b).wp P Q a0 w:=
  region_two ps (And3 S R ms ks) hm honce hdown hdeps hA (fun W hE=>⟨hSE w W hS hE,Many.init hms,fun _=>hr.re w W hR hE⟩) (howe ⟨hSE,hc,hold⟩) (fun vs w' h1 h2=>hfin vs w' h1.1 h1.2.1 h2)
end
end Go.Rt
