/-
  From a law's walk to the given statement: the arguments read afterwards as they read before, since what was there is as it was.
-/
import Derived.Test.YtiebflipijcnfaaGreatRows
import Derived.Test.YtiebflipijcnfaaGreatGA
import Derived.ProofKit
import Derived.OpenShut
import Derived.Carry
import Derived.ChangeSame
namespace Go.Rt
open Go.RowKit Go.WideShapes Go.ChangeShapes
section
variable {H:Type} {enc:TypeId × Value→H} {P:Program}
theorem trodAll_stays (hl:laidOutB P=true) {W W':World} {sp:Nat→Bool}:∀ (ts:List TypeId) (vs:List Value) (ds:List (DataW H)) (ps:List MemPlace),
    ts.all (fun t=>P.readableRec t && decide (t < P.types.size))=true→DataW.TrodAll enc P W 0 (fun _=>true) true ts vs ds ps→Below W.heap.size W W'→(∀ x ∈ ps,x.block < W.heap.size)→(∀ x ∈ ps,sp x.block=true) →
    DataW.TrodAll enc P W' 0 sp true ts vs ds ps
  | [],[],[],_,_,h,_,_,_=>h
  | t :: ts,v :: vs,d :: ds,ps,hr,⟨p,q,h1,h2,e⟩,hb,hlt,hs=>by
    simp only[List.all_cons,Bool.and_eq_true,decide_eq_true_eq]at hr
    subst e
    exact⟨p,q,WideElems.Trod_stays hl hr.1.1 hr.1.2 h1 (fun x hx=>hb.same (hlt x (List.mem_append.2 (.inl hx)))) (fun x hx=>hs x (List.mem_append.2 (.inl hx))),
      trodAll_stays hl ts vs ds q hr.2 h2 hb (fun x hx=>hlt x (List.mem_append.2 (.inr hx))) (fun x hx=>hs x (List.mem_append.2 (.inr hx))),rfl⟩
  | [],[],_ :: _,_,_,h,_,_,_=>h.elim
  | [],_ :: _,_,_,_,h,_,_,_=>h.elim
  | _ :: _,[],_,_,_,h,_,_,_=>h.elim
  | _ :: _,_ :: _,[],_,_,h,_,_,_=>h.elim
theorem law_post {f:Func} {s:ChangeSpec} {tb:TypeId} {W W':World} {args:Array Value} {ds:List (DataW H)} {before:List MemPlace}
    (hl:laidOutB P=true) (hv:s.vars=[]) (hres:f.resultTypes=#[tb]) (hb0:P.underlying tb=some .bool) (hr:f.params.toList.all (fun t=>P.readableRec t && decide (t < P.types.size))=true)
    (hfn:s.fn H ds={ results:=[.lit (.bool true)],args:=ds })
    (hW:DataW.Whole enc P f.params.toList s.vars false W args.toList ds [] before) (hA:DataW.TrodAll enc P W 0 (fun _=>true) true f.params.toList args.toList ds before) (hb:Below W.heap.size W W'):
    s.post enc P f false true false false W args (.bool true) W':=by
  have hlt:∀ p ∈ before,p.block < W.heap.size:=fun p hp=>hW.lt p hp
  have hold:∀ p ∈ before,(fun b=>decide (b < W.heap.size)) p.block=true:=fun p hp=>by simpa using hlt p hp
  have hargs:∀ sp:Nat→Bool,(∀ p ∈ before,sp p.block=true)→DataW.TrodAll enc P W' 0 sp true f.params.toList args.toList ds before:=fun sp hsp=>
    trodAll_stays hl _ _ _ _ hr hA hb hlt hsp
  have hrs:f.resultTypes.toList=[tb]:=by rw[hres]
  have hrl:(Value.bool true).resultList f.resultTypes.size=[.bool true]:=by rw[hres];rfl
  refine⟨ds,[],before,[],before,[],hW,?_,?_,?_,World.keptBut_mono (fun p hp=>⟨hp,?_⟩) (hb.frame (· ∈ before)),fun h=>by cases h⟩
  · rw[List.append_nil,hfn,hrs,hrl]
    exact trodAll_cons_mk (shut_bool hb0 _) trodAll_mk0
  · rw[List.append_nil,hfn]
    exact hargs _ hold
  · rw[List.append_nil,hfn,hv]
    exact rfl
  · exact Or.inr (Or.inl hp)
end
theorem open_nat {H:Type} {enc:TypeId × Value→H} {P:Program} {t e:TypeId} {W:World} {v:Value} {d:DataW H} {ps:List MemPlace} {base:Nat} (ht:P.underlying t=some (.slice e)) (he:P.underlying e=some (.int .u64)) (hc:P.cellsOf e=1)
    (ho:Value.okWide P W .any base t v) (h:DataW.Trod enc P W 0 (fun _=>true) true t v d ps):∃ xs,Nt W v xs:=by
  obtain⟨a0,len,cap,rfl⟩:=okWide_slice ht ho
  obtain⟨fuel,hf⟩:=h
  rcases open_ints ht he hc hf with ⟨hcs,-⟩ | ⟨a,len',cap',zs,hcs,-,hl,hm,hz,-,hcell,hwz⟩
  · simp[Value.cells]at hcs
    obtain⟨rfl,rfl,rfl⟩:=hcs
    exact⟨[],Nt.nil W⟩
  · simp only[if_true]at hz
    have hcs':Value.slice a0 len cap=.slice (some a) len' cap':=by simpa [Value.cells] using hcs
    obtain⟨rfl,rfl,rfl⟩:=Value.slice.inj hcs'
    have hn:∀ i,i < zs.length→0≤zs.getD i 0∧zs.getD i 0 < 18446744073709551616:=fun i hi=>by
      have hmem:zs.getD i 0 ∈ zs:=by rw[List.getD_eq_getElem?_getD,List.getElem?_eq_getElem hi];exact List.getElem_mem hi
      have:=hwz _ hmem
      generalize zs.getD i 0=z at *
      simp[Lit.wf,IntKind.min,IntKind.max,IntKind.signed,IntKind.bits]at this
      omega
    have hsp:a.spot=none:=by
      simp only[Value.okWide,ht,Cell.okWide,Cell.ok]at ho
      exact ho.2.2.2.1
    obtain⟨b,o,sp⟩:=a
    obtain rfl:sp=none:=hsp
    have hx:∀ i,i < len→lg ((zs.take len).map Int.toNat) i=(zs.getD i 0).toNat:=fun i hi=>by
      unfold lg
      rw[List.getD_eq_getElem?_getD,List.getD_eq_getElem?_getD,List.getElem?_map,List.getElem?_take,if_pos hi,List.getElem?_eq_getElem (by omega)]
      rfl
    have hlen:((zs.take len).map Int.toNat).length=len:=by rw[List.length_map,List.length_take];omega
    refine⟨(zs.take len).map Int.toNat,some ⟨b,o,none⟩,b,o,cap,by rw[hlen],⟨.inl rfl,by rw[hlen];exact hl,hm,fun i hi=>?_⟩,fun x hx'=>?_⟩
    · rw[hlen]at hi
      have h1:=hcell i (by omega)
      have h2:=hn i (by omega)
      rw[Go.WideShapes.add_plain]at h1
      rw[h1]
      show some (Value.int IntKind.u64 (zs.getD i 0))=some (Value.int IntKind.u64 ((lg ((zs.take len).map Int.toNat) i:Nat):Int))
      rw[hx i hi,Int.toNat_of_nonneg h2.1]
    · obtain⟨i,hi,rfl⟩:=List.mem_iff_getElem.1 hx'
      rw[hlen]at hi
      have h2:=hn i (by omega)
      have h3:=hx i hi
      rw[lg_eq (by rw[hlen];exact hi)]at h3
      rw[h3,B64_eq]
      omega
end Go.Rt
