/-
 The walk of a region's orders with two held conditions: S1 till the operation c has come up, S throughout. Reads that c waits for may be taken first where c, or what comes behind it, writes what they read.
-/
import Derived.Test.YtiebflipijcnfaaGreatTail
namespace Go.Rt
open Go
section
variable {P:Program} {ops:Array Oper} {Q:Exit→Act→World→Prop} {md:Region.Mode} {S S1:World→Prop} {c:Nat}
def wpAnyP (P:Program) (md:Region.Mode) (ops:Array Oper) (Q:Exit→Act→World→Prop) (S S1:World→Prop) (c:Nat):Nat→Array Bool→Act→World→Prop
 | 0,listed,a,w=>Region.ready md ops listed=[]∧Q .normal a w
 | fuel+1,listed,a,w=>
  (Region.ready md ops listed=[]→Q .normal a w) ∧
  ∀ i ∈ Region.ready md ops listed,wpOp P ops Q i (fun a' w'=>if i=c then S w'∧wpAnyH P md ops Q S fuel (listed.setIfInBounds i true) a' w' else S1 w'∧wpAnyP P md ops Q S S1 c fuel (listed.setIfInBounds i true) a' w') a w
theorem held_of_phase (hS:∀ w,S1 w→S w):∀ (fuel:Nat) (listed:Array Bool) (a:Act) (w:World),wpAnyP P md ops Q S S1 c fuel listed a w→wpAnyH P md ops Q S fuel listed a w
 | 0,_,_,_,h=>h
 | fuel+1,_,_,_,h=>⟨h.1,fun i hi=>wpOp_mono (fun a' w' h'=>by
   by_cases hic:i=c
   ·simp only[hic,if_true]at h' ⊢;exact h'
   ·simp only[hic,if_false]at h';exact⟨hS _ h'.1,held_of_phase hS fuel _ a' w' h'.2⟩) (h.2 i hi)⟩
theorem phase_first {i:Nat} {oi oc:Oper} {v:Value} (hi:ops[i]? = some oi) (hc:ops[c]? = some oc) (hcw:∃ e ∈ oc.after,Region.binds md e=true∧e.on=i) (hic:i≠c)
  (hsel:∀ (j:Nat) (o:Oper) cs b,ops[j]? = some o→o.op≠.select cs b) (hQ:∀ c a w,Q (.panic c) (a.put oi.dst v) w→Q (.panic c) a w):
  ∀ (fuel:Nat) (listed:Array Bool) (a:Act) (w:World),
   (∀ j oj,ops[j]? = some oj→j≠i→listed.getD j true=false→(∀ e ∈ oj.after,Region.binds md e=true→e.on≠i)→oi.apart ops oj=true) →
   i ∈ Region.ready md ops listed→YieldsIf P ops S1 oi v a→S1 w →
   wpAnyP P md ops Q S S1 c fuel (listed.setIfInBounds i true) (a.put oi.dst v) w→wpAnyP P md ops Q S S1 c (fuel+1) listed a w:=by
 intro fuel
 have notC:∀ listed,i ∈ Region.ready md ops listed→¬ c ∈ Region.ready md ops listed:=fun listed hr hc'=>by
  obtain⟨e,he,hb,hon⟩:=hcw
  obtain⟨h0,-⟩:=mem_ready.1 hr
  obtain⟨-,o,ho,hall⟩:=mem_ready.1 hc'
  rw[hc]at ho;cases ho
  have h1:=hall e he hb
  rw[hon]at h1
  rcases Nat.lt_or_ge i listed.size with h' | h'
  ·simp[h']at h0 h1;rw[h0]at h1;cases h1
  ·simp[Array.getElem?_eq_none h']at h1
 induction fuel with
 | zero=>
  intro listed a w _ hr hy hS H
  refine⟨fun h=>(by rw[h]at hr;cases hr),fun j hj=>?_⟩
  by_cases hji:j=i
  ·subst hji;exact hy.wpOp hi hS (by simp only[hic,if_false];exact⟨hS,H⟩)
  ·have:=ready_mono hj hji
   rw[H.1]at this
   cases this
 | succ fuel ih=>
  intro listed a w hfree hr hy hS H
  refine⟨fun h=>(by rw[h]at hr;cases hr),fun j hj=>?_⟩
  by_cases hji:j=i
  ·subst hji;exact hy.wpOp hi hS (by simp only[hic,if_false];exact⟨hS,H⟩)
  ·have hjc:j≠c:=fun e=>notC _ hr (e ▸ hj)
   have h1:=H.2 j (ready_mono hj hji)
   simp only[hjc,if_false]at h1 ⊢
   obtain⟨hjun,oj,hoj,hall⟩:=mem_ready.1 hj
   have hnot:∀ e ∈ oj.after,Region.binds md e=true→e.on≠i:=fun e he hb heq=>by
    have h1:=hall e he hb
    have h0:=(mem_ready.1 hr).1
    rw[heq]at h1
    rcases Nat.lt_or_ge i listed.size with h' | h'
    ·simp[h']at h0 h1;rw[h0]at h1;cases h1
    ·simp[Array.getElem?_eq_none h']at h1
   have h2:=wpOp_putIf hoj (hfree j oj hoj hji hjun hnot) (fun cs b=>hsel i oi cs b hi) (fun cs b=>hsel j oj cs b hoj) hQ hy h1
   have hfree':∀ k ok,ops[k]? = some ok→k≠i→(listed.setIfInBounds j true).getD k true=false →
     (∀ e ∈ ok.after,Region.binds md e=true→e.on≠i)→oi.apart ops ok=true:=fun k ok hk hki hun hno=>by
    refine hfree k ok hk hki ?_ hno
    by_cases hjk:j=k
    ·subst hjk;exact hjun
    ·rw[getD_set_ne true hjk]at hun;exact hun
   refine wpOp_mono (fun a' w' h3=>⟨h3.2.1,ih (listed.setIfInBounds j true) a' w' hfree' (ready_mono hr (Ne.symm hji)) h3.1 h3.2.1 ?_⟩) h2
   rw[Array.setIfInBounds_comm _ _ hji]
   exact h3.2.2
def takeB (md:Region.Mode) (ops:Array Oper) (listed:Array Bool) (i:Nat):Bool:=
 Region.noSelect ops && Region.free md ops listed i && (Region.ready md ops listed).contains i
def takeCB (md:Region.Mode) (ops:Array Oper) (c i:Nat):Bool:=
 match ops[c]? with
 | none=>false
 | some oc=>oc.after.any (fun e=>Region.binds md e && e.on==i) && i != c
end
theorem at_of_drop {l:List Oper} {i:Nat} {o:Oper} {r:List Oper} (h:l.drop i=o :: r):l.toArray[i]? = some o:=by
 have:(l.drop i)[0]? = some o:=by rw[h];rfl
 rw[List.getElem?_drop]at this
 simpa using this
section
variable {P:Program} {l:List Oper} {Q:Exit→Act→World→Prop} {md:Region.Mode} {S S1:World→Prop} {c:Nat}
theorem held_start {n r:Nat} {id:Nat} (S:World→Prop) (N:Nat) {a:Act} {w:World} (hm:P.follows .mixedOrders=true) (hc:l.toArray.all calm=true) (hN:l.length=N) (hQ:¬ LetsOut Q) (hS:S w.drew)
  (h:S w.drew→wpAnyH P .any l.toArray Q S N (Array.replicate N false) a w.drew):(Code.region id l.toArray true).wpIn (Fence.wide.inRound r) n P Q a w:=
 wpIn_region_held hm hc hQ hS (fun h1=>by have:=h h1;rw[← hN]at this;simpa using this)
theorem held_take (i:Nat) {oi:Oper} {rest:List Oper} {v:Value} {fuel:Nat} {listed:Array Bool} {a:Act} {w:World} (hi:l.drop i=oi :: rest) (hb:takeB md l.toArray listed i=true)
  (hQ:∀ c a w,Q (.panic c) (a.put oi.dst v) w→Q (.panic c) a w) (hS:S w) (hw:Region.wanted oi (yielded l.toArray a.tmps)=true) (hy:∀ w,S w→(execOp a.eval oi).run P w=.ok (.value v) w)
  (h:wpAnyH P md l.toArray Q S fuel (listed.setIfInBounds i true) (a.put oi.dst v) w):wpAnyH P md l.toArray Q S (fuel+1) listed a w:=by
 unfold takeB at hb
 simp only[Bool.and_eq_true]at hb
 exact wpAnyH_take (at_of_drop hi) hb.1.1 hb.1.2 hb.2 hQ (Or.inl ⟨hw,hy⟩) hS h
theorem phase_take (i:Nat) {oi:Oper} {rest:List Oper} {v:Value} {fuel:Nat} {listed:Array Bool} {a:Act} {w:World} (hi:l.drop i=oi :: rest) (hb:takeB md l.toArray listed i=true) (hcb:takeCB md l.toArray c i=true)
  (hQ:∀ c a w,Q (.panic c) (a.put oi.dst v) w→Q (.panic c) a w) (hS:S1 w) (hw:Region.wanted oi (yielded l.toArray a.tmps)=true) (hy:∀ w,S1 w→(execOp a.eval oi).run P w=.ok (.value v) w)
  (h:wpAnyP P md l.toArray Q S S1 c fuel (listed.setIfInBounds i true) (a.put oi.dst v) w):wpAnyP P md l.toArray Q S S1 c (fuel+1) listed a w:=by
 unfold takeB at hb
 simp only[Bool.and_eq_true]at hb
 unfold takeCB at hcb
 cases hoc:l.toArray[c]? with
 | none=>rw[hoc]at hcb;cases hcb
 | some oc=>
  rw[hoc]at hcb
  simp only[Bool.and_eq_true,Array.any_eq_true',bne_iff_ne,beq_iff_eq,ne_eq]at hcb
  obtain⟨⟨e,he,hb1,hon⟩,hic⟩:=hcb
  exact phase_first (at_of_drop hi) hoc ⟨e,he,hb1,hon⟩ hic (Region.noSelect_spec hb.1.1) hQ fuel listed a w (Region.free_spec (at_of_drop hi) hb.1.2) (by simpa using hb.2) (Or.inl ⟨hw,hy⟩) hS h
theorem phase_at {oc:Oper} {rest:List Oper} {fuel:Nat} {listed:Array Bool} {a:Act} {w:World} (hc:l.drop c=oc :: rest) (hr:Region.ready md l.toArray listed=[c])
  (h:∀ K':Act→World→Prop,Shut (∀ a w,S w→(S w→wpAnyH P md l.toArray Q S fuel (listed.setIfInBounds c true) a w)→K' a w)→if Region.wanted oc (yielded l.toArray a.tmps)=true then Oper.wp P oc a w K' Q else K' (a.put oc.dst undef) w):
  wpAnyP P md l.toArray Q S S1 c (fuel+1) listed a w:=by
 refine⟨fun h0=>(by rw[h0]at hr;cases hr),fun i hi=>?_⟩
 rw[hr]at hi
 obtain rfl:i=c:=by simpa using hi
 simp only[if_true]
 exact wpOp_step (at_of_drop hc) (fun K' hK=>h K' (fun a w hS hW=>hK a w ⟨hS,hW hS⟩))
theorem held_at (i:Nat) {oi:Oper} {rest:List Oper} {fuel:Nat} {listed:Array Bool} {a:Act} {w:World} (hi:l.drop i=oi :: rest) (hr:Region.ready md l.toArray listed=[i])
  (h:∀ K':Act→World→Prop,Shut (∀ a w,S w→(S w→wpAnyH P md l.toArray Q S fuel (listed.setIfInBounds i true) a w)→K' a w)→if Region.wanted oi (yielded l.toArray a.tmps)=true then Oper.wp P oi a w K' Q else K' (a.put oi.dst undef) w):
  wpAnyH P md l.toArray Q S (fuel+1) listed a w:=
 wpAnyH_ready hr (by simp) (AllReadyH.cons (at_of_drop hi) h AllReadyH.nil)
end
end Go.Rt
