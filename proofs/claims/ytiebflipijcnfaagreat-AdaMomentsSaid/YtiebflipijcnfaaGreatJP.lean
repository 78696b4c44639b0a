/-
  What a step of Adafactor is asked of, as it is handed in: an Ada, fraction bits, a step, columns and four rows, taken apart.
  Adafactor in numbers: with weights and gradients the other way round new weights are, too, and moments the same; without a rate weights stay.
-/
import Derived.Test.YtiebflipijcnfaaGreatGP
import Derived.Test.YtiebflipijcnfaaGreatJF
namespace Go.Rt
open Go Go.RowKit Go.Proofs Go.WideShapes Go.ChangeShapes
theorem array10 {α:Type} {cs:Array α} (h:cs.size=10):∃ c0 c1 c2 c3 c4 c5 c6 c7 c8 c9,cs=#[c0,c1,c2,c3,c4,c5,c6,c7,c8,c9]:=by
  obtain⟨l⟩:=cs
  match l,h with
  | [c0,c1,c2,c3,c4,c5,c6,c7,c8,c9],_=>exact⟨c0,c1,c2,c3,c4,c5,c6,c7,c8,c9,rfl⟩
theorem cell_i64J {P:Program} {W:World} {base:Nat} {t:TypeId} {v:Value} (ht:P.underlying t=some (.int .i64)) (h:Cell.okWide P W .any base t v):∃ n:Int,v=.int .i64 n∧I64 n:=by
 have h':Value.okWide P W .any base t v:=by simp only[Value.okWide,ht];exact h
 obtain⟨n,rfl⟩:=okWide_int ht h'
 refine⟨n,rfl,?_⟩
 simp[Cell.okWide,Cell.ok,ht,IntKind.has,IntKind.min,IntKind.max,IntKind.signed,IntKind.bits]at h
 exact⟨by omega,by omega⟩
section
variable {H:Type} {enc:TypeId × Value→H} {P:Program} {W:World} {base:Nat}
theorem trod_struct4 {b0:Nat} {spare:Nat→Bool} {held:Bool} {t:TypeId} {f0 f1 f2 f3:Field} {fuel:Nat} {cs:List Value} {x:DataW H × List MemPlace} (ht:P.underlying t=some (.struct #[f0,f1,f2,f3])) (h:DataW.trod enc P W b0 spare held fuel t cs=some x):
    ∃ y0 y1 y2 y3 n,x.1=.agg [y0.1,y1.1,y2.1,y3.1]∧DataW.trod enc P W b0 spare held n f0.type ((cs.drop f0.offset).take (P.cellsOf f0.type))=some y0∧DataW.trod enc P W b0 spare held n f1.type ((cs.drop f1.offset).take (P.cellsOf f1.type))=some y1 ∧
      DataW.trod enc P W b0 spare held n f2.type ((cs.drop f2.offset).take (P.cellsOf f2.type))=some y2∧DataW.trod enc P W b0 spare held n f3.type ((cs.drop f3.offset).take (P.cellsOf f3.type))=some y3:=by
  obtain⟨xs,n,_,rfl,-,hlen,hf⟩:=DataW.trod_struct ht h
  match xs,hlen with
  | [y0,y1,y2,y3],_=>exact⟨y0,y1,y2,y3,n,by simp,by simpa using hf 0 f0 rfl,by simpa using hf 1 f1 rfl,by simpa using hf 2 f2 rfl,by simpa using hf 3 f3 rfl⟩
theorem weights_part {t u:TypeId} {fs:Array Field} {f:Field} {parts:List (DataW H)} {d:DataW H} {j:Nat} (ht:P.underlying t=some (.struct fs)) (hf:fs[j]? = some f) (hu:f.type=u) (hd:parts[j]? = some d) {M:Nat} (h:∀ x ∈ (DataW.agg parts).weights P t,x≤M):∀ x ∈ d.weights P u,x≤M:=by
  intro x hx
  refine h x ?_
  simp only[DataW.weights,ht]
  exact DataW.weights_mem_each (j:=j) (by simp[hf,hu]) hd x hx
theorem open_rows_cells {t ts e:TypeId} {f0 f1 f2 f3:Field} {n:Nat} {v0 v1 v2 v3:Value} {y:DataW H × List MemPlace} (ht:P.underlying t=some (.struct #[f0,f1,f2,f3])) (d0:f0.type=ts∧f0.offset=0) (d1:f1.type=ts∧f1.offset=1) (d2:f2.type=ts∧f2.offset=2) (d3:f3.type=ts∧f3.offset=3)
    (hs:P.underlying ts=some (.slice e)) (he:P.underlying e=some (.int .i64)) (hc:P.cellsOf e=1) (hcs:P.cellsOf ts=1)
    (o0:Cell.okWide P W .any base ts v0) (o1:Cell.okWide P W .any base ts v1) (o2:Cell.okWide P W .any base ts v2) (o3:Cell.okWide P W .any base ts v3) (h:DataW.trod enc P W 0 (fun _=>true) true n t [v0,v1,v2,v3]=some y):
    ∃ a0 n0 c0 l0 a1 n1 c1 l1 a2 n2 c2 l2 a3 n3 c3 l3,(v0=.slice a0 n0 c0∧v1=.slice a1 n1 c1∧v2=.slice a2 n2 c2∧v3=.slice a3 n3 c3) ∧
      (Iw 0 W.heap.size W a0 n0 c0 l0∧Iw 0 W.heap.size W a1 n1 c1 l1∧Iw 0 W.heap.size W a2 n2 c2 l2∧Iw 0 W.heap.size W a3 n3 c3 l3) ∧
      ∀ M,(∀ x ∈ y.1.weights P t,x≤M)→n0*P.bytesOf e≤M∧n1*P.bytesOf e≤M∧n2*P.bytesOf e≤M∧n3*P.bytesOf e≤M:=by
  obtain⟨y0,y1,y2,y3,m,hy,h0,h1,h2,h3⟩:=trod_struct4 ht h
  rw[d0.1,d0.2,hcs]at h0
  rw[d1.1,d1.2,hcs]at h1
  rw[d2.1,d2.2,hcs]at h2
  rw[d3.1,d3.2,hcs]at h3
  obtain⟨a0,n0,c0,l0,rfl,i0,w0⟩:=open_row_cell hs he hc o0 (by simpa using h0)
  obtain⟨a1,n1,c1,l1,rfl,i1,w1⟩:=open_row_cell hs he hc o1 (by simpa using h1)
  obtain⟨a2,n2,c2,l2,rfl,i2,w2⟩:=open_row_cell hs he hc o2 (by simpa using h2)
  obtain⟨a3,n3,c3,l3,rfl,i3,w3⟩:=open_row_cell hs he hc o3 (by simpa using h3)
  refine⟨_,_,_,_,_,_,_,_,_,_,_,_,_,_,_,_,⟨rfl,rfl,rfl,rfl⟩,⟨i0,i1,i2,i3⟩,fun M hM=>?_⟩
  rw[hy]at hM
  exact⟨w0 M (weights_part (j:=0) ht rfl d0.1 rfl hM),w1 M (weights_part (j:=1) ht rfl d1.1 rfl hM),w2 M (weights_part (j:=2) ht rfl d2.1 rfl hM),w3 M (weights_part (j:=3) ht rfl d3.1 rfl hM)⟩
theorem open_in {t tr ts e ti tn:TypeId} {g0 g1 g2 g3 f0 f1 f2 f3:Field} {v:Value} {d:DataW H} {ps:List MemPlace} (ht:P.underlying t=some (.struct #[g0,g1,g2,g3])) (k3:g3.type=tr∧g3.offset=6) (hcr:P.cellsOf tr=4)
    (hr:P.underlying tr=some (.struct #[f0,f1,f2,f3])) (d0:f0.type=ts∧f0.offset=0) (d1:f1.type=ts∧f1.offset=1) (d2:f2.type=ts∧f2.offset=2) (d3:f3.type=ts∧f3.offset=3)
    (hs:P.underlying ts=some (.slice e)) (he:P.underlying e=some (.int .i64)) (hc:P.cellsOf e=1) (hcs:P.cellsOf ts=1)
    (hi:P.underlying ti=some (.int .i64)) (hn:P.underlying tn=some (.int .i64)) (hct:P.cellsOf t=10) (hts:P.cellTypes P.depth t=some [ti,ti,ti,tn,tn,tn,ts,ts,ts,ts])
    (ho:Value.okWide P W .any base t v) (h:DataW.Trod enc P W 0 (fun _=>true) true t v d ps):
    ∃ (x0 x1 x2 x3 x4 x5:Int) (a0:Option Addr) (n0 c0:Nat) (l0:List Int) (a1:Option Addr) (n1 c1:Nat) (l1:List Int) (a2:Option Addr) (n2 c2:Nat) (l2:List Int) (a3:Option Addr) (n3 c3:Nat) (l3:List Int),
      v=.agg #[.int .i64 x0,.int .i64 x1,.int .i64 x2,.int .i64 x3,.int .i64 x4,.int .i64 x5,.slice a0 n0 c0,.slice a1 n1 c1,.slice a2 n2 c2,.slice a3 n3 c3] ∧
      (I64 x0∧I64 x1∧I64 x2∧I64 x3∧I64 x4∧I64 x5) ∧
      (Iw 0 W.heap.size W a0 n0 c0 l0∧Iw 0 W.heap.size W a1 n1 c1 l1∧Iw 0 W.heap.size W a2 n2 c2 l2∧Iw 0 W.heap.size W a3 n3 c3 l3) ∧
      ∀ M,(∀ x ∈ d.weights P t,x≤M)→n0*P.bytesOf e≤M∧n1*P.bytesOf e≤M∧n2*P.bytesOf e≤M∧n3*P.bytesOf e≤M:=by
  simp only[Value.okWide,ht]at ho
  obtain⟨cs,rfl,hsz,ts',hts',-,hcell⟩:=ho
  rw[hts]at hts'
  cases hts'
  obtain⟨v0,v1,v2,v3,v4,v5,v6,v7,v8,v9,rfl⟩:=array10 (hsz.trans hct)
  obtain⟨u0,hu0,o0⟩:=hcell 0 v0 rfl
  obtain⟨u1,hu1,o1⟩:=hcell 1 v1 rfl
  obtain⟨u2,hu2,o2⟩:=hcell 2 v2 rfl
  obtain⟨u3,hu3,o3⟩:=hcell 3 v3 rfl
  obtain⟨u4,hu4,o4⟩:=hcell 4 v4 rfl
  obtain⟨u5,hu5,o5⟩:=hcell 5 v5 rfl
  obtain⟨u6,hu6,o6⟩:=hcell 6 v6 rfl
  obtain⟨u7,hu7,o7⟩:=hcell 7 v7 rfl
  obtain⟨u8,hu8,o8⟩:=hcell 8 v8 rfl
  obtain⟨u9,hu9,o9⟩:=hcell 9 v9 rfl
  cases hu0
  cases hu1
  cases hu2
  cases hu3
  cases hu4
  cases hu5
  cases hu6
  cases hu7
  cases hu8
  cases hu9
  obtain⟨x0,rfl,q0⟩:=cell_i64J hi o0
  obtain⟨x1,rfl,q1⟩:=cell_i64J hi o1
  obtain⟨x2,rfl,q2⟩:=cell_i64J hi o2
  obtain⟨x3,rfl,q3⟩:=cell_i64J hn o3
  obtain⟨x4,rfl,q4⟩:=cell_i64J hn o4
  obtain⟨x5,rfl,q5⟩:=cell_i64J hn o5
  obtain⟨n,hf⟩:=h
  obtain⟨y0,y1,y2,y3,m,hy,-,-,-,h3⟩:=trod_struct4 ht hf
  rw[k3.1,k3.2,hcr]at h3
  obtain⟨a0,n0,c0,l0,a1,n1,c1,l1,a2,n2,c2,l2,a3,n3,c3,l3,⟨rfl,rfl,rfl,rfl⟩,hI,hw⟩:=open_rows_cells hr d0 d1 d2 d3 hs he hc hcs o6 o7 o8 o9 (by simpa [Value.cells] using h3)
  refine⟨x0,x1,x2,x3,x4,x5,a0,n0,c0,l0,a1,n1,c1,l1,a2,n2,c2,l2,a3,n3,c3,l3,rfl,⟨q0,q1,q2,q3,q4,q5⟩,hI,fun M hM=>hw M ?_⟩
  dsimp only at hy
  rw[hy]at hM
  exact weights_part (j:=3) ht rfl k3.1 rfl hM
end
set_option maxRecDepth 100000 in
theorem Tryz.openIn19 {H:Type} {enc:TypeId × Value→H} {W:World} {base:Nat} {v:Value} {d:DataW H} {ps:List MemPlace} (ho:Value.okWide Go.Proofs.Tryz.prog W .any base 29 v) (h:DataW.Trod enc Go.Proofs.Tryz.prog W 0 (fun _=>true) true 29 v d ps):
    ∃ (x0 x1 x2 x3 x4 x5:Int) (a0:Option Addr) (n0 c0:Nat) (l0:List Int) (a1:Option Addr) (n1 c1:Nat) (l1:List Int) (a2:Option Addr) (n2 c2:Nat) (l2:List Int) (a3:Option Addr) (n3 c3:Nat) (l3:List Int),
      v=.agg #[.int .i64 x0,.int .i64 x1,.int .i64 x2,.int .i64 x3,.int .i64 x4,.int .i64 x5,.slice a0 n0 c0,.slice a1 n1 c1,.slice a2 n2 c2,.slice a3 n3 c3] ∧
      (I64 x0∧I64 x1∧I64 x2∧I64 x3∧I64 x4∧I64 x5) ∧
      (Iw 0 W.heap.size W a0 n0 c0 l0∧Iw 0 W.heap.size W a1 n1 c1 l1∧Iw 0 W.heap.size W a2 n2 c2 l2∧Iw 0 W.heap.size W a3 n3 c3 l3) ∧
      ∀ M,(∀ x ∈ d.weights Go.Proofs.Tryz.prog 29,x≤M)→n0*8≤M∧n1*8≤M∧n2*8≤M∧n3*8≤M:=by
  have h8:Go.Proofs.Tryz.prog.bytesOf 2=8:=by kernel_rfl
  have:=open_in (tr:=27) (ts:=25) (e:=2) (ti:=2) (tn:=3) Go.Proofs.Tryz.underlying29 ⟨rfl,rfl⟩ (by kernel_rfl) Go.Proofs.Tryz.underlying27 ⟨rfl,rfl⟩ ⟨rfl,rfl⟩ ⟨rfl,rfl⟩ ⟨rfl,rfl⟩ Go.Proofs.Tryz.underlying25 Go.Proofs.Tryz.underlying2 (by kernel_rfl) (by kernel_rfl) Go.Proofs.Tryz.underlying2 Go.Proofs.Tryz.underlying3 (by kernel_rfl) (by kernel_rfl) ho h
  rw[h8]at this
  exact this
theorem few_rows {n0 n1 n2 n3:Nat} (h:n0*8≤reachBytes∧n1*8≤reachBytes∧n2*8≤reachBytes∧n3*8≤reachBytes):n0+n1+n2+n3≤9223372036854775807:=by
  have:=reachBytes_lt
  omega
end Go.Rt
namespace Go.Rt
def negL (l:List Int):List Int:=l.map fun x=>-x
theorem negL_at (l:List Int) (i:Nat):atL (negL l) i = -atL l i:=by
  unfold atL negL
  rw[List.getD_eq_getElem?_getD,List.getD_eq_getElem?_getD,List.getElem?_map]
  cases l[i]? with
  | none=>rfl
  | some x=>rfl
theorem mul_negs (K:Nat) (a:Int):mulZ K (-a) (-a)=mulZ K a a:=by
  unfold mulZ
  rw[Int.neg_mul_neg]
section
variable {K:Nat} {A:AdaP} {sh:Int} {cl:Nat} {lw lm lv lg ls:List Int}
theorem sqF_neg:sqF K A (negL lg)=sqF K A lg:=funext fun i=>by
  unfold sqF squareO mulO
  rw[negL_at,mul_negs]
end
end Go.Rt
