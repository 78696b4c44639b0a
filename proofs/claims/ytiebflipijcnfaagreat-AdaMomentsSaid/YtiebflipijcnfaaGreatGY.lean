/-
  A box of any number of cells: what it holds, and that it stays.
  Short words for printed walks: a region's law, told of less; a box's cells together.
  More short words for printed walks: a function's boxes at once; a value that is known; a region whose conditions are told by facts.
-/
import Derived.Test.YtiebflipijcnfaaGreatInv2
namespace Go.Rt
open Go Go.RowKit Go.Proofs
def BxA (W:World) (b:Nat) (t:TypeId) (xs:Array Value):Prop:=W.heap[b]? = some (.cells xs t (0,0))
theorem BxA.new (W:World) (t:TypeId) (xs:Array Value):BxA (W.alloc (.cells xs t)) W.heap.size t xs:=World.alloc_heap_new W _
theorem BxA.ext {W W':World} {b:Nat} {t:TypeId} {xs:Array Value} (h:BxA W b t xs) (hx:Ext W W'):BxA W' b t xs:=(Below.block hx b (Array.getElem?_eq_some_iff.1 h).1).trans h
theorem BxA.cell {W:World} {b:Nat} {t:TypeId} {xs:Array Value} (h:BxA W b t xs) (i:Nat) {v:Value} (hv:xs[i]? = some v):W.cell? ⟨b,i,none⟩=some v:=by simp[World.cell?,show W.heap[b]? = _ from h,hv]
theorem BxA.lt {W:World} {b:Nat} {t:TypeId} {xs:Array Value} (h:BxA W b t xs):b < W.heap.size:=(Array.getElem?_eq_some_iff.1 h).1
theorem BxA.apart {g:List Nat} {W W':World} {b:Nat} {t:TypeId} {xs:Array Value} (h:BxA W b t xs) (hx:Apart g W W') (hb:b ∉ g):BxA W' b t xs:=(hx.block b (Array.getElem?_eq_some_iff.1 h).1 hb).trans h
theorem BxA.wr {W W':World} {g k:Nat} {t:TypeId} {xs:Array Value} (h:BxA W k t xs) (hw:Wr g W W') (hn:k≠g):BxA W' k t xs:=h.apart hw.apart (by simpa using hn)
theorem BxA.c4 {W:World} {b:Nat} {t:TypeId} {x0 x1 x2 x3:Value} (h:BxA W b t #[x0,x1,x2,x3]):W.cell? ⟨b,0,none⟩=some x0∧W.cell? ⟨b,1,none⟩=some x1∧W.cell? ⟨b,2,none⟩=some x2∧W.cell? ⟨b,3,none⟩=some x3:=
  ⟨h.cell 0 rfl,h.cell 1 rfl,h.cell 2 rfl,h.cell 3 rfl⟩
theorem BxA.c6 {W:World} {b:Nat} {t:TypeId} {x0 x1 x2 x3 x4 x5:Value} (h:BxA W b t #[x0,x1,x2,x3,x4,x5]):W.cell? ⟨b,0,none⟩=some x0∧W.cell? ⟨b,1,none⟩=some x1∧W.cell? ⟨b,2,none⟩=some x2∧W.cell? ⟨b,3,none⟩=some x3∧W.cell? ⟨b,4,none⟩=some x4∧W.cell? ⟨b,5,none⟩=some x5:=
  ⟨h.cell 0 rfl,h.cell 1 rfl,h.cell 2 rfl,h.cell 3 rfl,h.cell 4 rfl,h.cell 5 rfl⟩
end Go.Rt
namespace Go.Rt
open Go Go.RowKit Go.Proofs
def Lasts (S:World→Prop):Prop:=∀ W W',S W→Ext W W'→S W'
instance lasts_and {p q:World→Prop} [hp:Nonempty (Lasts p)] [hq:Nonempty (Lasts q)]:Nonempty (Lasts (fun W=>p W∧q W)):=
  ⟨fun W W' h hE=>⟨hp.elim fun k=>k W W' h.1 hE,hq.elim fun k=>k W W' h.2 hE⟩⟩
instance lasts_ext {w:World}:Nonempty (Lasts (fun W=>Ext w W)):=⟨fun _ _ h hE=>Ext.trans h hE⟩
instance lasts_size {n:Nat}:Nonempty (Lasts (fun W=>n≤W.heap.size)):=⟨fun _ _ h hE=>Nat.le_trans h (Ext.size hE)⟩
instance lasts_nw {v:Value} {N:Nat}:Nonempty (Lasts (fun W=>Nw W v N)):=⟨fun _ _ h hE=>h.ext hE⟩
instance lasts_nt {v:Value} {xs:List Nat}:Nonempty (Lasts (fun W=>Nt W v xs)):=⟨fun _ _ h hE=>h.ext hE⟩
instance lasts_zw {v:Value} {z:Int}:Nonempty (Lasts (fun W=>Zw W v z)):=⟨fun _ _ h hE=>h.ext hE⟩
instance lasts_rw {v:Value} {x:Rat}:Nonempty (Lasts (fun W=>Rw W v x)):=⟨fun _ _ h hE=>h.ext hE⟩
instance lasts_bx2 {b:Nat} {t:TypeId} {x y:Value}:Nonempty (Lasts (fun W=>Bx2 W b t x y)):=⟨fun _ _ h hE=>h.ext hE⟩
instance lasts_bx3 {b:Nat} {t:TypeId} {x y z:Value}:Nonempty (Lasts (fun W=>Bx3 W b t x y z)):=⟨fun _ _ h hE=>h.ext hE⟩
instance lasts_bxa {b:Nat} {t:TypeId} {xs:Array Value}:Nonempty (Lasts (fun W=>BxA W b t xs)):=⟨fun _ _ h hE=>BxA.ext h hE⟩
instance lasts_form {b n:Nat} {t:TypeId}:Nonempty (Lasts (fun W=>Form W b t n)):=⟨fun _ _ h hE=>h.ext hE⟩
theorem Bx2.c2 {W:World} {b:Nat} {t:TypeId} {x y:Value} (h:Bx2 W b t x y):W.cell? ⟨b,0,none⟩=some x∧W.cell? ⟨b,1,none⟩=some y:=⟨h.cell0,h.cell1⟩
theorem Bx3.c3 {W:World} {b:Nat} {t:TypeId} {x y z:Value} (h:Bx3 W b t x y z):W.cell? ⟨b,0,none⟩=some x∧W.cell? ⟨b,1,none⟩=some y∧W.cell? ⟨b,2,none⟩=some z:=⟨h.cell0,h.cell1,h.cell2⟩
theorem sA {α:Type} (l:List α) (i:Nat) (a:α):l.toArray.setIfInBounds i a=(l.set i a).toArray:=List.setIfInBounds_toArray l i a
theorem sZ {α:Type} (x:α) (xs:List α) (a:α):(x :: xs).set 0 a=a :: xs:=List.set_cons_zero
theorem sS {α:Type} (x:α) (xs:List α) (n:Nat) (a:α):(x :: xs).set (n+1) a=x :: xs.set n a:=List.set_cons_succ
section
variable {P:Program} {Q:Exit→Act→World→Prop} {md:Region.Mode} {l:List Oper} {a0:Act} {S:World→Prop} {ps:List PS} {A:(Nat→Value)→Act}
theorem oE {o:Oper} (k:Nat) (pre:List Nat) (hf:Firm S ps) (ho:l[k]? = some o)
    (h:∀ (vs:Nat→Value) (w:World),S w→Pres ps pre vs w→Olds md l a0 k vs→∀ K:Act→World→Prop,(∀ v w',Ext w w'→(psAt ps k).holds k (upd vs k v) w'→K ((A vs).put o.dst v) w') →
      if Region.wanted o (yielded l.toArray (A vs).tmps)=true then Oper.wp P o (A vs) w K Q else K ((A vs).put o.dst undef) w) (hpre:waitsB md o pre=true:=by kernel_rfl):OwesAt P md l Q a0 A S ps k:=owesE k pre hf ho hpre h
theorem oW {o:Oper} (k:Nat) (pre:List Nat) (hf:Firm S ps) (ho:l[k]? = some o)
    (h:∀ (vs:Nat→Value) (w:World),S w→Pres ps pre vs w→Olds md l a0 k vs→∀ K:Act→World→Prop,(∀ w' g,Wr g w w'→S w'→(psAt ps k).holds k (upd vs k undef) w'→K ((A vs).put o.dst undef) w') →
      if Region.wanted o (yielded l.toArray (A vs).tmps)=true then Oper.wp P o (A vs) w K Q else K ((A vs).put o.dst undef) w) (hpre:waitsB md o pre=true:=by kernel_rfl) (hon:onlyB k ps 0=true:=by kernel_rfl):OwesAt P md l Q a0 A S ps k:=owesW k pre hf ho hpre hon h
theorem region_gs {id:Nat} {w:World} {b:Bool} (ps:List PS) (S:World→Prop) [hL:Nonempty (Lasts S)] (hc:Certs ps) (hS:S w)
    (hA:∀ vs,putAll l 0 vs a0=A vs) (howe:Firm S ps→OwesAllAt P .any l Q a0 A S ps l 0)
    (hfin:∀ (vs:Nat→Value) (w':World),S w'→AllPosts ps 0 vs w'→Q .normal (A vs) w')
    (hm:P.follows .mixedOrders=true:=by kernel_rfl) (honce:onceB l=true:=by kernel_rfl) (hdown:downB .any l 0=true:=by kernel_rfl) (hdeps:depsB .any l ps=true:=by kernel_rfl):
    (Code.region id l.toArray b).wp P Q a0 w:=
  region_go ps S hc (hL.elim fun k=>k) hS hm honce hdown hdeps hA howe hfin
end
end Go.Rt
namespace Go.Rt
open Go Go.RowKit Go.Proofs
abbrev isV (c:Value):PS:=.one fun v _=>v=c
def Tis (S:World→Prop) (w:World):Prop:=S w
theorem Tis.k {p q:World→Prop} {w:World} (a:Tis p w) (b:Tis q w):Tis (fun W=>p W∧q W) w:=⟨a,b⟩
theorem Ext.s {w W:World} (h:Ext w W):Tis (fun W=>Ext w W) W:=h
theorem BxA.s {W:World} {b:Nat} {t:TypeId} {xs:Array Value} (h:BxA W b t xs):Tis (fun W=>BxA W b t xs) W:=h
theorem Bx2.s {W:World} {b:Nat} {t:TypeId} {x y:Value} (h:Bx2 W b t x y):Tis (fun W=>Bx2 W b t x y) W:=h
theorem Bx3.s {W:World} {b:Nat} {t:TypeId} {x y z:Value} (h:Bx3 W b t x y z):Tis (fun W=>Bx3 W b t x y z) W:=h
theorem Form.s {W:World} {b n:Nat} {t:TypeId} (h:Form W b t n):Tis (fun W=>Form W b t n) W:=h
theorem Nw.s {W:World} {v:Value} {N:Nat} (h:Nw W v N):Tis (fun W=>Nw W v N) W:=h
theorem Nt.s {W:World} {v:Value} {xs:List Nat} (h:Nt W v xs):Tis (fun W=>Nt W v xs) W:=h
theorem Zw.s {W:World} {v:Value} {z:Int} (h:Zw W v z):Tis (fun W=>Zw W v z) W:=h
theorem Rw.s {W:World} {v:Value} {x:Rat} (h:Rw W v x):Tis (fun W=>Rw W v x) W:=h
theorem BxA.b2 {W:World} {b:Nat} {t:TypeId} {x y:Value} (h:BxA W b t #[x,y]):Bx2 W b t x y:=h
theorem BxA.b3 {W:World} {b:Nat} {t:TypeId} {x y z:Value} (h:BxA W b t #[x,y,z]):Bx3 W b t x y z:=h
theorem boxed1 (w:World) (t1:TypeId) (x1:Array Value):∃ W0,W0=w.alloc (.cells x1 t1)∧Ext w W0∧BxA W0 w.heap.size t1 x1:=
  ⟨_,rfl,Ext.alloc1 _ _,BxA.new w t1 x1⟩
theorem boxed2 (w:World) (t1:TypeId) (x1:Array Value) (t2:TypeId) (x2:Array Value):∃ W0,W0=(w.alloc (.cells x1 t1)).alloc (.cells x2 t2)∧Ext w W0∧BxA W0 w.heap.size t1 x1∧BxA W0 (w.heap.size+1) t2 x2:=by
  obtain⟨V,rfl,hE,p1⟩:=boxed1 w t1 x1
  refine⟨_,rfl,hE.alloc _,p1.ext (Ext.alloc1 _ _),?_⟩
  simpa using BxA.new (w.alloc (.cells x1 t1)) t2 x2
theorem boxed3 (w:World) (t1:TypeId) (x1:Array Value) (t2:TypeId) (x2:Array Value) (t3:TypeId) (x3:Array Value):
    ∃ W0,W0=((w.alloc (.cells x1 t1)).alloc (.cells x2 t2)).alloc (.cells x3 t3)∧Ext w W0∧BxA W0 w.heap.size t1 x1∧BxA W0 (w.heap.size+1) t2 x2∧BxA W0 (w.heap.size+1+1) t3 x3:=by
  obtain⟨V,hV,hE,p1,p2⟩:=boxed2 w t1 x1 t2 x2
  have hx:Ext V (V.alloc (.cells x3 t3)):=Ext.alloc1 _ _
  have p3:=BxA.new V t3 x3
  rw[show V.heap.size=w.heap.size+1+1 by rw[hV];simp]at p3
  exact⟨_,by rw[hV],hE.alloc _,p1.ext hx,p2.ext hx,p3⟩
theorem boxed4 (w:World) (t1:TypeId) (x1:Array Value) (t2:TypeId) (x2:Array Value) (t3:TypeId) (x3:Array Value) (t4:TypeId) (x4:Array Value):
    ∃ W0,W0=(((w.alloc (.cells x1 t1)).alloc (.cells x2 t2)).alloc (.cells x3 t3)).alloc (.cells x4 t4)∧Ext w W0∧BxA W0 w.heap.size t1 x1∧BxA W0 (w.heap.size+1) t2 x2∧BxA W0 (w.heap.size+1+1) t3 x3∧BxA W0 (w.heap.size+1+1+1) t4 x4:=by
  obtain⟨V,hV,hE,p1,p2,p3⟩:=boxed3 w t1 x1 t2 x2 t3 x3
  have hx:Ext V (V.alloc (.cells x4 t4)):=Ext.alloc1 _ _
  have p4:=BxA.new V t4 x4
  rw[show V.heap.size=w.heap.size+1+1+1 by rw[hV];simp]at p4
  exact⟨_,by rw[hV],hE.alloc _,p1.ext hx,p2.ext hx,p3.ext hx,p4⟩
theorem boxed5 (w:World) (t1:TypeId) (x1:Array Value) (t2:TypeId) (x2:Array Value) (t3:TypeId) (x3:Array Value) (t4:TypeId) (x4:Array Value) (t5:TypeId) (x5:Array Value):
    ∃ W0,W0=((((w.alloc (.cells x1 t1)).alloc (.cells x2 t2)).alloc (.cells x3 t3)).alloc (.cells x4 t4)).alloc (.cells x5 t5)∧Ext w W0∧BxA W0 w.heap.size t1 x1∧BxA W0 (w.heap.size+1) t2 x2∧BxA W0 (w.heap.size+1+1) t3 x3∧BxA W0 (w.heap.size+1+1+1) t4 x4∧BxA W0 (w.heap.size+1+1+1+1) t5 x5:=by
  obtain⟨V,hV,hE,p1,p2,p3,p4⟩:=boxed4 w t1 x1 t2 x2 t3 x3 t4 x4
  have hx:Ext V (V.alloc (.cells x5 t5)):=Ext.alloc1 _ _
  have p5:=BxA.new V t5 x5
  rw[show V.heap.size=w.heap.size+1+1+1+1 by rw[hV];simp]at p5
  exact⟨_,by rw[hV],hE.alloc _,p1.ext hx,p2.ext hx,p3.ext hx,p4.ext hx,p5⟩
theorem boxed6 (w:World) (t1:TypeId) (x1:Array Value) (t2:TypeId) (x2:Array Value) (t3:TypeId) (x3:Array Value) (t4:TypeId) (x4:Array Value) (t5:TypeId) (x5:Array Value) (t6:TypeId) (x6:Array Value):
    ∃ W0,W0=(((((w.alloc (.cells x1 t1)).alloc (.cells x2 t2)).alloc (.cells x3 t3)).alloc (.cells x4 t4)).alloc (.cells x5 t5)).alloc (.cells x6 t6)∧Ext w W0∧BxA W0 w.heap.size t1 x1∧BxA W0 (w.heap.size+1) t2 x2∧BxA W0 (w.heap.size+1+1) t3 x3∧BxA W0 (w.heap.size+1+1+1) t4 x4∧BxA W0 (w.heap.size+1+1+1+1) t5 x5∧BxA W0 (w.heap.size+1+1+1+1+1) t6 x6:=by
  obtain⟨V,hV,hE,p1,p2,p3,p4,p5⟩:=boxed5 w t1 x1 t2 x2 t3 x3 t4 x4 t5 x5
  have hx:Ext V (V.alloc (.cells x6 t6)):=Ext.alloc1 _ _
  have p6:=BxA.new V t6 x6
  rw[show V.heap.size=w.heap.size+1+1+1+1+1 by rw[hV];simp]at p6
  exact⟨_,by rw[hV],hE.alloc _,p1.ext hx,p2.ext hx,p3.ext hx,p4.ext hx,p5.ext hx,p6⟩
section
variable {P:Program} {Q:Exit→Act→World→Prop} {l:List Oper} {a0:Act} {A:(Nat→Value)→Act}
theorem region_gk {id:Nat} {w:World} {b:Bool} (ps:List PS) (hc:Certs ps) {S:World→Prop} (hS:Tis S w) [hL:Nonempty (Lasts S)]
    (hA:∀ vs,putAll l 0 vs a0=A vs) (howe:Firm (fun W=>S W∧w.heap.size≤W.heap.size) ps→OwesAllAt P .any l Q a0 A (fun W=>S W∧w.heap.size≤W.heap.size) ps l 0)
    (hfin:∀ (vs:Nat→Value) (w':World),S w'∧w.heap.size≤w'.heap.size→AllPosts ps 0 vs w'→Q .normal (A vs) w')
    (hm:P.follows .mixedOrders=true:=by kernel_rfl) (honce:onceB l=true:=by kernel_rfl) (hdown:downB .any l 0=true:=by kernel_rfl) (hdeps:depsB .any l ps=true:=by kernel_rfl):
    (Code.region id l.toArray b).wp P Q a0 w:=
  region_gs ps (fun W=>S W∧w.heap.size≤W.heap.size) hc ⟨hS,Nat.le_refl _⟩ hA howe hfin hm honce hdown hdeps
end
section
variable {P:Program} {Q:Exit→Act→World→Prop} {md:Region.Mode} {l:List Oper} {a0:Act} {S:World→Prop} {ps:List PS} {A:(Nat→Value)→Act}
theorem oP0 {o:Oper} (k:Nat) (pre:List Nat) (hf:Firm S ps) (ho:l[k]? = some o)
    (h:∀ (vs:Nat→Value) (w:World),S w→Pres ps pre vs w→Olds md l a0 k vs→∀ K:Act→World→Prop,(∀ v w',Ext w w'→(psAt ps k).holds k (upd vs k v) w'→K ((A vs).put o.dst v) w') →
      if Region.wanted o (yielded l.toArray (A vs).tmps)=true then Oper.wp P o (A vs) w K Q else K ((A vs).put o.dst undef) w:=by intro vs W hS hp hx KO hKO;simp only[Act.put,sA,sZ,sS]at hKO;go_simp;exact hKO _ W (.refl W) rfl) (hpre:waitsB md o pre=true:=by kernel_rfl):OwesAt P md l Q a0 A S ps k:=owesE k pre hf ho hpre h
theorem oP1 {o:Oper} (k:Nat) (pre:List Nat) (hf:Firm S ps) (ho:l[k]? = some o)
    (h:∀ (vs:Nat→Value) (w:World),S w→Pres ps pre vs w→Olds md l a0 k vs→∀ K:Act→World→Prop,(∀ v w',Ext w w'→(psAt ps k).holds k (upd vs k v) w'→K ((A vs).put o.dst v) w') →
      if Region.wanted o (yielded l.toArray (A vs).tmps)=true then Oper.wp P o (A vs) w K Q else K ((A vs).put o.dst undef) w:=by intro vs W hS hp hx KO hKO;simp only[Act.put,sA,sZ,sS]at hKO;have e0:=isOf hp.1;simp only[e0]at hKO;go_simp;exact hKO _ W (.refl W) rfl) (hpre:waitsB md o pre=true:=by kernel_rfl):OwesAt P md l Q a0 A S ps k:=owesE k pre hf ho hpre h
theorem oP2 {o:Oper} (k:Nat) (pre:List Nat) (hf:Firm S ps) (ho:l[k]? = some o)
    (h:∀ (vs:Nat→Value) (w:World),S w→Pres ps pre vs w→Olds md l a0 k vs→∀ K:Act→World→Prop,(∀ v w',Ext w w'→(psAt ps k).holds k (upd vs k v) w'→K ((A vs).put o.dst v) w') →
      if Region.wanted o (yielded l.toArray (A vs).tmps)=true then Oper.wp P o (A vs) w K Q else K ((A vs).put o.dst undef) w:=by intro vs W hS hp hx KO hKO;simp only[Act.put,sA,sZ,sS]at hKO;have e0:=isOf hp.1;have e1:=isOf hp.2.1;simp only[e0,e1]at hKO;go_simp;exact hKO _ W (.refl W) rfl) (hpre:waitsB md o pre=true:=by kernel_rfl):OwesAt P md l Q a0 A S ps k:=owesE k pre hf ho hpre h
theorem oP3 {o:Oper} (k:Nat) (pre:List Nat) (hf:Firm S ps) (ho:l[k]? = some o)
    (h:∀ (vs:Nat→Value) (w:World),S w→Pres ps pre vs w→Olds md l a0 k vs→∀ K:Act→World→Prop,(∀ v w',Ext w w'→(psAt ps k).holds k (upd vs k v) w'→K ((A vs).put o.dst v) w') →
      if Region.wanted o (yielded l.toArray (A vs).tmps)=true then Oper.wp P o (A vs) w K Q else K ((A vs).put o.dst undef) w:=by intro vs W hS hp hx KO hKO;simp only[Act.put,sA,sZ,sS]at hKO;have e0:=isOf hp.1;have e1:=isOf hp.2.1;have e2:=isOf hp.2.2.1;simp only[e0,e1,e2]at hKO;go_simp;exact hKO _ W (.refl W) rfl) (hpre:waitsB md o pre=true:=by kernel_rfl):OwesAt P md l Q a0 A S ps k:=owesE k pre hf ho hpre h
theorem oP4 {o:Oper} (k:Nat) (pre:List Nat) (hf:Firm S ps) (ho:l[k]? = some o)
    (h:∀ (vs:Nat→Value) (w:World),S w→Pres ps pre vs w→Olds md l a0 k vs→∀ K:Act→World→Prop,(∀ v w',Ext w w'→(psAt ps k).holds k (upd vs k v) w'→K ((A vs).put o.dst v) w') →
      if Region.wanted o (yielded l.toArray (A vs).tmps)=true then Oper.wp P o (A vs) w K Q else K ((A vs).put o.dst undef) w:=by intro vs W hS hp hx KO hKO;simp only[Act.put,sA,sZ,sS]at hKO;have e0:=isOf hp.1;have e1:=isOf hp.2.1;have e2:=isOf hp.2.2.1;have e3:=isOf hp.2.2.2.1;simp only[e0,e1,e2,e3]at hKO;go_simp;exact hKO _ W (.refl W) rfl) (hpre:waitsB md o pre=true:=by kernel_rfl):OwesAt P md l Q a0 A S ps k:=owesE k pre hf ho hpre h
variable {B:Nat} {ts:List Tag} {ms:List Nat}
theorem oM0 {o:Oper} (k:Nat) (pre:List Nat) (hf:Firm2 B ts S ps) (hk:ms.contains k=false) (ho:l[k]? = some o)
    (h:∀ (vs:Nat→Value) (w:World),S w→Pres ps pre vs w→Olds md l a0 k vs→∀ K:Act→World→Prop,(∀ v w',Ext w w'→(psAt ps k).holds k (upd vs k v) w'→K ((A vs).put o.dst v) w') →
      if Region.wanted o (yielded l.toArray (A vs).tmps)=true then Oper.wp P o (A vs) w K Q else K ((A vs).put o.dst undef) w:=by intro vs W hS hp hx KO hKO;simp only[Act.put,sA,sZ,sS]at hKO;go_simp;exact hKO _ W (.refl W) rfl) (hpre:waitsB md o pre=true:=by kernel_rfl):OwesAt2 P md l Q a0 A (And2 S ms) ps k:=owesM k pre hf hk ho hpre h
theorem oM1 {o:Oper} (k:Nat) (pre:List Nat) (hf:Firm2 B ts S ps) (hk:ms.contains k=false) (ho:l[k]? = some o)
    (h:∀ (vs:Nat→Value) (w:World),S w→Pres ps pre vs w→Olds md l a0 k vs→∀ K:Act→World→Prop,(∀ v w',Ext w w'→(psAt ps k).holds k (upd vs k v) w'→K ((A vs).put o.dst v) w') →
      if Region.wanted o (yielded l.toArray (A vs).tmps)=true then Oper.wp P o (A vs) w K Q else K ((A vs).put o.dst undef) w:=by intro vs W hS hp hx KO hKO;simp only[Act.put,sA,sZ,sS]at hKO;have e0:=isOf hp.1;simp only[e0]at hKO;go_simp;exact hKO _ W (.refl W) rfl) (hpre:waitsB md o pre=true:=by kernel_rfl):OwesAt2 P md l Q a0 A (And2 S ms) ps k:=owesM k pre hf hk ho hpre h
theorem oM2 {o:Oper} (k:Nat) (pre:List Nat) (hf:Firm2 B ts S ps) (hk:ms.contains k=false) (ho:l[k]? = some o)
    (h:∀ (vs:Nat→Value) (w:World),S w→Pres ps pre vs w→Olds md l a0 k vs→∀ K:Act→World→Prop,(∀ v w',Ext w w'→(psAt ps k).holds k (upd vs k v) w'→K ((A vs).put o.dst v) w') →
      if Region.wanted o (yielded l.toArray (A vs).tmps)=true then Oper.wp P o (A vs) w K Q else K ((A vs).put o.dst undef) w:=by intro vs W hS hp hx KO hKO;simp only[Act.put,sA,sZ,sS]at hKO;have e0:=isOf hp.1;have e1:=isOf hp.2.1;simp only[e0,e1]at hKO;go_simp;exact hKO _ W (.refl W) rfl) (hpre:waitsB md o pre=true:=by kernel_rfl):OwesAt2 P md l Q a0 A (And2 S ms) ps k:=owesM k pre hf hk ho hpre h
theorem oM3 {o:Oper} (k:Nat) (pre:List Nat) (hf:Firm2 B ts S ps) (hk:ms.contains k=false) (ho:l[k]? = some o)
    (h:∀ (vs:Nat→Value) (w:World),S w→Pres ps pre vs w→Olds md l a0 k vs→∀ K:Act→World→Prop,(∀ v w',Ext w w'→(psAt ps k).holds k (upd vs k v) w'→K ((A vs).put o.dst v) w') →
      if Region.wanted o (yielded l.toArray (A vs).tmps)=true then Oper.wp P o (A vs) w K Q else K ((A vs).put o.dst undef) w:=by intro vs W hS hp hx KO hKO;simp only[Act.put,sA,sZ,sS]at hKO;have e0:=isOf hp.1;have e1:=isOf hp.2.1;have e2:=isOf hp.2.2.1;simp only[e0,e1,e2]at hKO;go_simp;exact hKO _ W (.refl W) rfl) (hpre:waitsB md o pre=true:=by kernel_rfl):OwesAt2 P md l Q a0 A (And2 S ms) ps k:=owesM k pre hf hk ho hpre h
theorem oM4 {o:Oper} (k:Nat) (pre:List Nat) (hf:Firm2 B ts S ps) (hk:ms.contains k=false) (ho:l[k]? = some o)
    (h:∀ (vs:Nat→Value) (w:World),S w→Pres ps pre vs w→Olds md l a0 k vs→∀ K:Act→World→Prop,(∀ v w',Ext w w'→(psAt ps k).holds k (upd vs k v) w'→K ((A vs).put o.dst v) w') →
      if Region.wanted o (yielded l.toArray (A vs).tmps)=true then Oper.wp P o (A vs) w K Q else K ((A vs).put o.dst undef) w:=by intro vs W hS hp hx KO hKO;simp only[Act.put,sA,sZ,sS]at hKO;have e0:=isOf hp.1;have e1:=isOf hp.2.1;have e2:=isOf hp.2.2.1;have e3:=isOf hp.2.2.2.1;simp only[e0,e1,e2,e3]at hKO;go_simp;exact hKO _ W (.refl W) rfl) (hpre:waitsB md o pre=true:=by kernel_rfl):OwesAt2 P md l Q a0 A (And2 S ms) ps k:=owesM k pre hf hk ho hpre h
theorem region_gk2 {id:Nat} {w:World} {b:Bool} (ps:List PS) (B:Nat) (ms:List Nat) (ts:List Tag) (hc:Tags B ts ps) (hold:∀ g0,Tag.old g0 ∈ ts→g0 < B) {S:World→Prop} (hS:Tis S w) [hL:Nonempty (Lasts S)] (hms:∀ m ∈ ms,initAt a0 l m=undef)
    (hA:∀ vs,putAll l 0 vs a0=A vs) (howe:Firm2 B ts (fun W=>S W∧w.heap.size≤W.heap.size) ps→OwesAllAt2 P .any l Q a0 A (And2 (fun W=>S W∧w.heap.size≤W.heap.size) ms) ps l 0)
    (hfin:∀ (vs:Nat→Value) (w':World),S w'∧w.heap.size≤w'.heap.size→Many ms vs w'→AllPosts ps 0 vs w'→Q .normal (A vs) w')
    (hm:P.follows .mixedOrders=true:=by kernel_rfl) (honce:onceB l=true:=by kernel_rfl) (hdown:downB .any l 0=true:=by kernel_rfl) (hdeps:depsB .any l ps=true:=by kernel_rfl):
    (Code.region id l.toArray b).wp P Q a0 w:=
  region_go2 ps (fun W=>S W∧w.heap.size≤W.heap.size) B ms ts hc hold (fun W W' h hE=>⟨hL.elim fun k=>k W W' h.1 hE,Nat.le_trans h.2 (Ext.size hE)⟩) ⟨hS,Nat.le_refl _⟩ hms hm honce hdown hdeps hA howe hfin
end
end Go.Rt
