/-
  Numbers, integers and fractions in a world that has only grown but for some boxes that hold no limbs.
  What the operations of a drawn region leave, by kinds; what stays of it in a world that has only grown, and behind a store into a box that holds no limbs.
-/
import Derived.Test.YtiebflipijcnfaaGreatGI
namespace Go.Rt
open Go.RowKit Go.Proofs
def NoUAt (w:World) (k:Nat):Prop:=∃ cs t,w.heap[k]? = some (.cells cs t (0,0))∧NoU cs
def Boxes (g:List Nat) (w:World):Prop:=∀ k,k ∈ g→NoUAt w k
theorem Boxes.nil (w:World):Boxes [] w:=fun k h=>by cases h
theorem NoUAt.lt {w:World} {k:Nat} (h:NoUAt w k):k < w.heap.size:=let ⟨_,_,h1,_⟩:=h;(Array.getElem?_eq_some_iff.1 h1).1
theorem NoUAt.ext {w w':World} {k:Nat} (h:NoUAt w k) (hE:Ext w w'):NoUAt w' k:=let ⟨cs,t,h1,h2⟩:=h;⟨cs,t,(Below.block hE k (Array.getElem?_eq_some_iff.1 h1).1).trans h1,h2⟩
theorem Boxes.ext {w w':World} {g:List Nat} (h:Boxes g w) (hE:Ext w w'):Boxes g w':=fun k hk=>(h k hk).ext hE
theorem NoUAt.setCell {w:World} {k:Nat} (h:NoUAt w k) (p:Addr) (v:Value) (hv:∀ n,v≠.int .u64 n):NoUAt (w.setCell p v) k:=by
  obtain⟨cs,t,h1,h2⟩:=h
  by_cases hk:p.block=k
  · subst hk
    obtain⟨hlt,hk⟩:=Array.getElem?_eq_some_iff.1 h1
    have hh:(w.setCell p v).heap[p.block]? = some (.cells (if p.spot.isSome then cs else cs.setIfInBounds p.off v) t (0,0)):=by
      show (w.heap.modify p.block _)[p.block]? = _
      rw[Array.getElem?_eq_getElem (by rw[Array.size_modify];exact hlt),Array.getElem_modify_self,hk]
    refine⟨_,t,hh,?_⟩
    intro i u hu n e
    subst e
    by_cases hs:p.spot.isSome=true
    · rw[if_pos hs]at hu
      exact h2 _ _ hu _ rfl
    · rw[if_neg hs]at hu
      by_cases hi:p.off=i
      · subst hi
        rcases Nat.lt_or_ge p.off cs.size with hl | hl
        · rw[Array.getElem?_setIfInBounds_self_of_lt hl]at hu
          exact hv n (by simpa using hu)
        · rw[Array.getElem?_eq_none (by simpa using hl)]at hu
          cases hu
      · rw[Array.getElem?_setIfInBounds_ne hi]at hu
        exact h2 _ _ hu _ rfl
  · exact⟨cs,t,(Below.heap_setCell w p v k (fun e=>hk e.symm)).trans h1,h2⟩
theorem Boxes.setCell {w:World} {g:List Nat} (h:Boxes g w) (p:Addr) (v:Value) (hv:∀ n,v≠.int .u64 n):Boxes g (w.setCell p v):=fun k hk=>(h k hk).setCell p v hv
theorem Bx2.box {W:World} {k:Nat} {t:TypeId} {b:Bool} {a:Option Addr} {n c:Nat} (h:Bx2 W k t (.bool b) (.slice a n c)):NoUAt W k:=⟨_,t,h,noU2 _ _ _ _⟩
theorem Bx3.box {W:World} {k:Nat} {t:TypeId} {b:Bool} {a:Option Addr} {n c:Nat} {a':Option Addr} {n' c':Nat} (h:Bx3 W k t (.bool b) (.slice a n c) (.slice a' n' c')):NoUAt W k:=⟨_,t,h,noU3 _ _ _ _ _ _ _⟩
theorem Sl.apart {g:List Nat} {w w':World} (hS:Boxes g w) (h:Apart g w w') {a:Option Addr} {b o n cap:Nat} {xs:List Nat} (s:Sl w a b o n cap (fun i=>.int .u64 ((lg xs i:Nat):Int))):Sl w' a b o n cap (fun i=>.int .u64 ((lg xs i:Nat):Int)):=by
  refine⟨s.1,s.2.1,s.2.2.1,fun i hi=>?_⟩
  have hcell:=s.cell hi
  refine h.cell ?_ hcell
  intro hm
  obtain⟨cs,t,h1,h2⟩:=hS _ hm
  simp only[World.cell?,h1]at hcell
  exact h2 _ _ (by simpa using hcell) _ rfl
theorem Nt.apart {g:List Nat} {w w':World} (hS:Boxes g w) (h:Apart g w w') {v:Value} {xs:List Nat} (s:Nt w v xs):Nt w' v xs:=
  let ⟨a,b,o,cap,hv,hs,hl⟩:=s
  ⟨a,b,o,cap,hv,hs.apart hS h,hl⟩
theorem Nw.apart {g:List Nat} {w w':World} (hS:Boxes g w) (h:Apart g w w') {v:Value} {N:Nat} (s:Nw w v N):Nw w' v N:=let ⟨xs,h1,h2⟩:=s;⟨xs,h1.apart hS h,h2⟩
theorem Zw.apart {g:List Nat} {w w':World} (hS:Boxes g w) (h:Apart g w w') {v:Value} {z:Int} (s:Zw w v z):Zw w' v z:=let ⟨b,a,n,c,h1,hb,h2⟩:=s;⟨b,a,n,c,h1,hb,h2.apart hS h⟩
theorem Rw.apart {g:List Nat} {w w':World} (hS:Boxes g w) (h:Apart g w w') {v:Value} {x:Rat} (s:Rw w v x):Rw w' v x:=
  let ⟨b,a,n,c,a',n',c',h1,hb,h2,h3⟩:=s;⟨b,a,n,c,a',n',c',h1,hb,h2.apart hS h,h3.apart hS h⟩
theorem Bx2.apart {g:List Nat} {W W':World} {b:Nat} {t:TypeId} {x y:Value} (h:Bx2 W b t x y) (hx:Apart g W W') (hb:b ∉ g):Bx2 W' b t x y:=(hx.block b (Array.getElem?_eq_some_iff.1 h).1 hb).trans h
theorem Bx3.apart {g:List Nat} {W W':World} {b:Nat} {t:TypeId} {x y z:Value} (h:Bx3 W b t x y z) (hx:Apart g W W') (hb:b ∉ g):Bx3 W' b t x y z:=(hx.block b (Array.getElem?_eq_some_iff.1 h).1 hb).trans h
end Go.Rt
namespace Go.Rt
open Go.RowKit Go.Proofs
/-! boxes of one cell -/
def Bx1 (W:World) (b:Nat) (t:TypeId) (x:Value):Prop:=W.heap[b]? = some (.cells #[x] t (0,0))
theorem Bx1.new (W:World) (t:TypeId) (x:Value):Bx1 (W.alloc (.cells #[x] t)) W.heap.size t x:=World.alloc_heap_new W _
theorem Bx1.ext {W W':World} {b:Nat} {t:TypeId} {x:Value} (h:Bx1 W b t x) (hx:Ext W W'):Bx1 W' b t x:=(Below.block hx b (Array.getElem?_eq_some_iff.1 h).1).trans h
theorem Bx1.cell0 {W:World} {b:Nat} {t:TypeId} {x:Value} (h:Bx1 W b t x):W.cell? ⟨b,0,none⟩=some x:=by simp[World.cell?,show W.heap[b]? = _ from h]
theorem Bx1.froz0 {W:World} {b:Nat} {t:TypeId} {x:Value} (h:Bx1 W b t x):W.frozen? ⟨b,0,none⟩=false:=by simp[World.frozen?,show W.heap[b]? = _ from h]
theorem Bx1.lt {W:World} {b:Nat} {t:TypeId} {x:Value} (h:Bx1 W b t x):b < W.heap.size:=(Array.getElem?_eq_some_iff.1 h).1
structure Wr (g:Nat) (w w':World):Prop where
  apart:Apart [g] w w'
  was:NoUAt w g
  form:∀ cs t,w.heap[g]? = some (.cells cs t (0,0))→∃ cs',w'.heap[g]? = some (.cells cs' t (0,0))∧NoU cs'∧cs'.size=cs.size
theorem Wr.boxes {g:Nat} {w w':World} (h:Wr g w w'):Boxes [g] w:=fun k hk=>by
  rw[List.mem_singleton]at hk
  subst hk
  exact h.was
def Form (W:World) (g:Nat) (t:TypeId) (n:Nat):Prop:=∃ cs,W.heap[g]? = some (.cells cs t (0,0))∧NoU cs∧cs.size=n
theorem Form.ext {W W':World} {g:Nat} {t:TypeId} {n:Nat} (h:Form W g t n) (hE:Ext W W'):Form W' g t n:=let ⟨cs,h1,h2⟩:=h;⟨cs,(Below.block hE g (Array.getElem?_eq_some_iff.1 h1).1).trans h1,h2⟩
theorem Form.wr {W W':World} {g g':Nat} {t:TypeId} {n:Nat} (h:Form W g t n) (hw:Wr g' W W'):Form W' g t n:=by
  obtain⟨cs,h1,h2,h3⟩:=h
  by_cases e:g=g'
  · subst e
    obtain⟨cs',k1,k2,k3⟩:=hw.form cs t h1
    exact⟨cs',k1,k2,k3.trans h3⟩
  · exact⟨cs,(hw.apart.block g (Array.getElem?_eq_some_iff.1 h1).1 (by simpa using e)).trans h1,h2,h3⟩
theorem Form.lt {W:World} {g:Nat} {t:TypeId} {n:Nat} (h:Form W g t n):g < W.heap.size:=let ⟨_,h1,_⟩:=h;(Array.getElem?_eq_some_iff.1 h1).1
theorem Form.bx2 {W:World} {g:Nat} {t:TypeId} (h:Form W g t 2):∃ x y,Bx2 W g t x y∧NoU #[x,y]:=by
  obtain⟨cs,h1,h2,h3⟩:=h
  obtain⟨l⟩:=cs
  match l,h3 with
  | [x,y],_=>exact⟨x,y,h1,h2⟩
theorem Form.bx3 {W:World} {g:Nat} {t:TypeId} (h:Form W g t 3):∃ x y z,Bx3 W g t x y z∧NoU #[x,y,z]:=by
  obtain⟨cs,h1,h2,h3⟩:=h
  obtain⟨l⟩:=cs
  match l,h3 with
  | [x,y,z],_=>exact⟨x,y,z,h1,h2⟩
theorem Bx2.form {W:World} {g:Nat} {t:TypeId} {b:Bool} {a:Option Addr} {n c:Nat} (h:Bx2 W g t (.bool b) (.slice a n c)):Form W g t 2:=⟨_,h,noU2 _ _ _ _,rfl⟩
theorem Bx3.form {W:World} {g:Nat} {t:TypeId} {b:Bool} {a:Option Addr} {n c:Nat} {a':Option Addr} {n' c':Nat} (h:Bx3 W g t (.bool b) (.slice a n c) (.slice a' n' c')):Form W g t 3:=⟨_,h,noU3 _ _ _ _ _ _ _,rfl⟩
theorem Wr.set2 {W:World} {g:Nat} {t:TypeId} {x y:Value} (h:Bx2 W g t x y) (hn:NoU #[x,y]) (b:Bool) (a:Option Addr) (n c:Nat):Wr g W ((W.setCell ⟨g,0,none⟩ (.bool b)).setCell ⟨g,1,none⟩ (.slice a n c)):=
  ⟨(Apart.setCell (p:=⟨g,0,none⟩) _ (by simp) _).trans (Apart.setCell (p:=⟨g,1,none⟩) _ (by simp) _),⟨_,t,h,hn⟩,fun cs t' hc=>by
    rw[show W.heap[g]? = _ from h]at hc
    cases hc
    exact⟨_,h.set _ _,noU2 _ _ _ _,rfl⟩⟩
theorem Wr.set3 {W:World} {g:Nat} {t:TypeId} {x y z:Value} (h:Bx3 W g t x y z) (hn:NoU #[x,y,z]) (b:Bool) (a:Option Addr) (n c:Nat) (a':Option Addr) (n' c':Nat):
    Wr g W (((W.setCell ⟨g,0,none⟩ (.bool b)).setCell ⟨g,1,none⟩ (.slice a n c)).setCell ⟨g,2,none⟩ (.slice a' n' c')):=
  ⟨((Apart.setCell (p:=⟨g,0,none⟩) _ (by simp) _).trans (Apart.setCell (p:=⟨g,1,none⟩) _ (by simp) _)).trans (Apart.setCell (p:=⟨g,2,none⟩) _ (by simp) _),⟨_,t,h,hn⟩,fun cs t' hc=>by
    rw[show W.heap[g]? = _ from h]at hc
    cases hc
    exact⟨_,h.set _ _ _,noU3 _ _ _ _ _ _ _,rfl⟩⟩
theorem Bx1.wr {W W':World} {g k:Nat} {t:TypeId} {x:Value} (h:Bx1 W k t x) (hw:Wr g W W') (hn:k≠g):Bx1 W' k t x:=(hw.apart.block k (Array.getElem?_eq_some_iff.1 h).1 (by simpa using hn)).trans h
theorem Bx2.wr {W W':World} {g k:Nat} {t:TypeId} {x y:Value} (h:Bx2 W k t x y) (hw:Wr g W W') (hn:k≠g):Bx2 W' k t x y:=h.apart hw.apart (by simpa using hn)
theorem Bx3.wr {W W':World} {g k:Nat} {t:TypeId} {x y z:Value} (h:Bx3 W k t x y z) (hw:Wr g W W') (hn:k≠g):Bx3 W' k t x y z:=h.apart hw.apart (by simpa using hn)
theorem Ext.wr {w W W':World} {g:Nat} (h:Ext w W) (hw:Wr g W W') (hg:w.heap.size≤g):Ext w W':=hw.apart.ext h (by simpa using hg)
theorem Nw.wr {W W':World} {g:Nat} {v:Value} {N:Nat} (h:Nw W v N) (hw:Wr g W W'):Nw W' v N:=h.apart hw.boxes hw.apart
theorem Nt.wr {W W':World} {g:Nat} {v:Value} {xs:List Nat} (h:Nt W v xs) (hw:Wr g W W'):Nt W' v xs:=h.apart hw.boxes hw.apart
theorem Zw.wr {W W':World} {g:Nat} {v:Value} {z:Int} (h:Zw W v z) (hw:Wr g W W'):Zw W' v z:=h.apart hw.boxes hw.apart
theorem Rw.wr {W W':World} {g:Nat} {v:Value} {x:Rat} (h:Rw W v x) (hw:Wr g W W'):Rw W' v x:=h.apart hw.boxes hw.apart
/-! the parts of a struct that is written out -/
theorem Zw.num {W:World} {b:Bool} {a:Option Addr} {n c:Nat} {z:Int} (h:Zw W (.agg #[.bool b,.slice a n c]) z):Nw W (.slice a n c) z.natAbs:=by
  obtain⟨_,_,_,_,e,_,h1⟩:=h
  cases e
  exact h1
theorem Zw.neg {W:World} {b:Bool} {a:Option Addr} {n c:Nat} {z:Int} (h:Zw W (.agg #[.bool b,.slice a n c]) z):Hid (b=decide (z < 0)):=by
  obtain⟨_,_,_,_,e,h1,_⟩:=h
  cases e
  exact h1
theorem Rw.top {W:World} {b:Bool} {a:Option Addr} {n c:Nat} {a':Option Addr} {n' c':Nat} {x:Rat} (h:Rw W (.agg #[.bool b,.slice a n c,.slice a' n' c']) x):Zw W (.agg #[.bool b,.slice a n c]) x.num:=by
  obtain⟨_,_,_,_,_,_,_,e,h0,h1,_⟩:=h
  cases e
  exact⟨_,_,_,_,rfl,h0,h1⟩
theorem Rw.den {W:World} {b:Bool} {a:Option Addr} {n c:Nat} {a':Option Addr} {n' c':Nat} {x:Rat} (h:Rw W (.agg #[.bool b,.slice a n c,.slice a' n' c']) x):Nw W (.slice a' n' c') x.den:=by
  obtain⟨_,_,_,_,_,_,_,e,_,_,h1⟩:=h
  cases e
  exact h1
/-! kinds of posts -/
structure Good (p:Value→World→Prop):Prop where
  ext:∀ v w w',Ext w w'→p v w→p v w'
  wr:∀ v w w' g,Wr g w w'→p v w→p v w'
theorem Good.is (c:Value):Good (fun v _=>v=c):=⟨fun _ _ _ _ h=>h,fun _ _ _ _ _ h=>h⟩
theorem Good.num (N:Nat):Good (fun v W=>Nw W v N):=⟨fun _ _ _ hE h=>h.ext hE,fun _ _ _ _ hw h=>h.apart hw.boxes hw.apart⟩
theorem Good.zed (z:Int):Good (fun v W=>Zw W v z):=⟨fun _ _ _ hE h=>h.ext hE,fun _ _ _ _ hw h=>h.apart hw.boxes hw.apart⟩
theorem Good.rat (x:Rat):Good (fun v W=>Rw W v x):=⟨fun _ _ _ hE h=>h.ext hE,fun _ _ _ _ hw h=>h.apart hw.boxes hw.apart⟩
theorem Good.tup {p:Value→World→Prop} (h:Good p) (c:Value):Good (fun v W=>∃ v',v=.tuple #[v',c]∧p v' W):=
  ⟨fun _ _ _ hE ⟨v',h1,h2⟩=>⟨v',h1,h.ext _ _ _ hE h2⟩,fun _ _ _ _ hw ⟨v',h1,h2⟩=>⟨v',h1,h.wr _ _ _ _ hw h2⟩⟩
theorem Good.box (B:Nat) (t:TypeId) (n:Nat):Good (fun v W=>∃ g,v=.pointer (some ⟨g,0,none⟩)∧B≤g∧Form W g t n):=
  ⟨fun _ _ _ hE ⟨g,h1,h2,h3⟩=>⟨g,h1,h2,h3.ext hE⟩,fun _ _ _ _ hw ⟨g,h1,h2,h3⟩=>⟨g,h1,h2,h3.wr hw⟩⟩
theorem Good.nt (xs:List Nat):Good (fun v W=>Nt W v xs):=⟨fun _ _ _ hE h=>h.ext hE,fun _ _ _ _ hw h=>h.wr hw⟩
theorem Good.any:Good (fun _ _=>True):=⟨fun _ _ _ _ h=>h,fun _ _ _ _ _ h=>h⟩
def Put2 (B:Nat) (t:TypeId) (p r:Value) (W:World):Prop:=∃ g b a n c,p=.pointer (some ⟨g,0,none⟩)∧r=.agg #[.bool b,.slice a n c]∧B≤g∧Bx2 W g t (.bool b) (.slice a n c)
def Put3 (B:Nat) (t:TypeId) (p r:Value) (W:World):Prop:=∃ g b a n c a' n' c',p=.pointer (some ⟨g,0,none⟩)∧r=.agg #[.bool b,.slice a n c,.slice a' n' c']∧B≤g∧Bx3 W g t (.bool b) (.slice a n c) (.slice a' n' c')
def At2 (g:Nat) (t:TypeId) (r:Value) (W:World):Prop:=∃ b a n c,r=.agg #[.bool b,.slice a n c]∧Bx2 W g t (.bool b) (.slice a n c)
def At3 (g:Nat) (t:TypeId) (r:Value) (W:World):Prop:=∃ b a n c a' n' c',r=.agg #[.bool b,.slice a n c,.slice a' n' c']∧Bx3 W g t (.bool b) (.slice a n c) (.slice a' n' c')
/-! the law, told shortly -/
def Cert:PS→Prop
  | .one p=>Good p
  | p=>∀ k vs w w',Ext w w'→p.holds k vs w→p.holds k vs w'
def Certs:List PS→Prop
  | []=>True
  | p :: ps=>Cert p∧Certs ps
theorem Cert.stays {p:PS} (h:Cert p):∀ k vs w w',Ext w w'→p.holds k vs w→p.holds k vs w':=by
  cases p with
  | one p=>exact fun k vs w w' hE hp=>Good.ext h (vs k) w w' hE hp
  | two j p=>exact h
  | three j k p=>exact h
  | own p=>exact h
theorem Certs.stays:∀ (ps:List PS),Certs ps→Stays ps
  | [],_=>trivial
  | _ :: ps,h=>⟨h.1.stays,Certs.stays ps h.2⟩
def onlyB (i:Nat):List PS→Nat→Bool
  | [],_=>true
  | p :: ps,k=>(k==i || (match p with | .one _=>true | _=>false)) && onlyB i ps (k+1)
theorem Certs.keeps {i g:Nat} {w w':World} (hw:Wr g w w'):∀ (ps:List PS) (k:Nat),Certs ps→onlyB i ps k=true→Keeps i w w' ps k
  | [],_,_,_=>trivial
  | p :: ps,k,h,hb=>by
    unfold onlyB at hb
    rw[Bool.and_eq_true,Bool.or_eq_true]at hb
    refine⟨fun hk vs hp=>?_,Certs.keeps hw ps (k+1) h.2 hb.2⟩
    rcases hb.1 with hb | hb
    · exact absurd (by simpa using hb) hk
    · cases p with
      | one p=>exact Good.wr h.1 (vs k) w w' g hw hp
      | two j p=>cases hb
      | three j k p=>cases hb
      | own p=>cases hb
theorem cert_put2 {B:Nat} {t:TypeId} {i j:Nat}:Cert (PS.three i j (fun p r _ W=>Put2 B t p r W)):=
  fun _ _ _ _ hE ⟨g,b,a,n,c,h1,h2,h3,h4⟩=>⟨g,b,a,n,c,h1,h2,h3,h4.ext hE⟩
theorem cert_put3 {B:Nat} {t:TypeId} {i j:Nat}:Cert (PS.three i j (fun p r _ W=>Put3 B t p r W)):=
  fun _ _ _ _ hE ⟨g,b,a,n,c,a',n',c',h1,h2,h3,h4⟩=>⟨g,b,a,n,c,a',n',c',h1,h2,h3,h4.ext hE⟩
theorem cert_at2 {g:Nat} {t:TypeId} {i:Nat}:Cert (PS.two i (fun r _ W=>At2 g t r W)):=fun _ _ _ _ hE ⟨b,a,n,c,h1,h2⟩=>⟨b,a,n,c,h1,h2.ext hE⟩
theorem cert_at3 {g:Nat} {t:TypeId} {i:Nat}:Cert (PS.two i (fun r _ W=>At3 g t r W)):=fun _ _ _ _ hE ⟨b,a,n,c,a',n',c',h1,h2⟩=>⟨b,a,n,c,a',n',c',h1,h2.ext hE⟩
theorem cert_bx2 {g:Nat} {t:TypeId} {x y:Value}:Cert (PS.own (fun W=>Bx2 W g t x y)):=fun _ _ _ _ hE h=>Bx2.ext h hE
theorem cert_bx3 {g:Nat} {t:TypeId} {x y z:Value}:Cert (PS.own (fun W=>Bx3 W g t x y z)):=fun _ _ _ _ hE h=>Bx3.ext h hE
theorem isOf {c:Value} {k:Nat} {vs:Nat→Value} {W:World} (h:(PS.one fun v _=>v=c).holds k vs W):vs k=c:=h
section
variable {P:Program} {Q:Exit→Act→World→Prop} {md:Region.Mode} {l:List Oper} {a0:Act} {S:World→Prop} {ps:List PS} {A:(Nat→Value)→Act}
def Firm (S:World→Prop) (ps:List PS):Prop:=(∀ W W',S W→Ext W W'→S W')∧Certs ps
theorem owesE {o:Oper} (k:Nat) (pre:List Nat) (hf:Firm S ps) (ho:l[k]? = some o) (hpre:waitsB md o pre=true)
    (h:∀ (vs:Nat→Value) (w:World),S w→Pres ps pre vs w→Olds md l a0 k vs→∀ K:Act→World→Prop,(∀ v w',Ext w w'→(psAt ps k).holds k (upd vs k v) w'→K ((A vs).put o.dst v) w') →
      if Region.wanted o (yielded l.toArray (A vs).tmps)=true then Oper.wp P o (A vs) w K Q else K ((A vs).put o.dst undef) w):OwesAt P md l Q a0 A S ps k:=
  owes k pre ho hpre fun vs w hS hp hx K hK=>h vs w hS hp hx K fun v w' hE hpo=>hK v w' (hf.1 w w' hS hE) (Stays.keeps hE ps 0 (Certs.stays ps hf.2)) hpo
theorem owesW {o:Oper} (k:Nat) (pre:List Nat) (hf:Firm S ps) (ho:l[k]? = some o) (hpre:waitsB md o pre=true) (hon:onlyB k ps 0=true)
    (h:∀ (vs:Nat→Value) (w:World),S w→Pres ps pre vs w→Olds md l a0 k vs→∀ K:Act→World→Prop,(∀ w' g,Wr g w w'→S w'→(psAt ps k).holds k (upd vs k undef) w'→K ((A vs).put o.dst undef) w') →
      if Region.wanted o (yielded l.toArray (A vs).tmps)=true then Oper.wp P o (A vs) w K Q else K ((A vs).put o.dst undef) w):OwesAt P md l Q a0 A S ps k:=
  owes k pre ho hpre fun vs w hS hp hx K hK=>h vs w hS hp hx K fun w' _ hw hS' hpo=>hK undef w' hS' (Certs.keeps hw ps 0 hf.2 hon) hpo
theorem Olds.at {k:Nat} {vs:Nat→Value} (h:Olds md l a0 k vs) (j:Nat) {oj:Oper} (hj:l[j]? = some oj) (hw:waitsB md oj [k]=true) {v:Value} (hv:initAt a0 l j=v):vs j=v:=(h j oj hj hw).trans hv
theorem region_go {id:Nat} {w:World} {b:Bool} (ps:List PS) (S:World→Prop) (hc:Certs ps) (hSE:∀ W W',S W→Ext W W'→S W') (hS:S w)
    (hm:P.follows .mixedOrders=true) (honce:onceB l=true) (hdown:downB .any l 0=true) (hdeps:depsB .any l ps=true)
    (hA:∀ vs,putAll l 0 vs a0=A vs) (howe:Firm S ps→OwesAllAt P .any l Q a0 A S ps l 0)
    (hfin:∀ (vs:Nat→Value) (w':World),S w'→AllPosts ps 0 vs w'→Q .normal (A vs) w'):
    (Code.region id l.toArray b).wp P Q a0 w:=
  region_inv ps S hm honce hdown hdeps hA (fun W hE=>hSE w W hS hE) (howe ⟨hSE,hc⟩) hfin
end
end Go.Rt
