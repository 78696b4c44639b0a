/-
  Rows of integers of 64 bits in memory: read; made by the call itself and written place by place.
-/
import Derived.Test.YtiebflipijcnfaaGreatGY
import Derived.Deep.OwnRows
namespace Go.Rt
open Go Go.RowKit Go.Proofs
def atL (l:List Int) (i:Nat):Int:=l.getD i 0
theorem atL_eq {l:List Int} {i:Nat} (h:i < l.length):atL l i=l[i]:=by
  unfold atL
  rw[List.getD_eq_getElem?_getD,List.getElem?_eq_getElem h]
  rfl
theorem atL_mem {l:List Int} {i:Nat} (h:i < l.length):atL l i ∈ l:=by rw[atL_eq h];exact List.getElem_mem h
def I64 (a:Int):Prop:=-9223372036854775808≤a∧a < 9223372036854775808
structure Iw (lo hi:Nat) (w:World) (a:Option Addr) (n c:Nat) (l:List Int):Prop where
  len:l.length=n
  lies:∃ b o,Sl w a b o n c (fun i=>.int .i64 (atL l i))∧(0 < n→lo≤b∧b < hi)
  in64:∀ x ∈ l,I64 x
theorem Iw.ext {lo hi:Nat} {w w':World} {a:Option Addr} {n c:Nat} {l:List Int} (h:Iw lo hi w a n c l) (hE:Ext w w'):Iw lo hi w' a n c l:=
  ⟨h.len,let ⟨b,o,h1,h2⟩:=h.lies;⟨b,o,h1.ext hE,h2⟩,h.in64⟩
theorem Iw.nil (lo hi:Nat) (w:World):Iw lo hi w none 0 0 []:=⟨rfl,⟨0,0,⟨.inr ⟨rfl,rfl,rfl⟩,Nat.le_refl _,Nat.zero_le _,fun i hi=>by cases hi⟩,fun h=>absurd h (by omega)⟩,fun x hx=>by cases hx⟩
theorem Iw.mono {lo hi lo' hi':Nat} {w:World} {a:Option Addr} {n c:Nat} {l:List Int} (h:Iw lo hi w a n c l) (h1:lo'≤lo) (h2:hi≤hi'):Iw lo' hi' w a n c l:=
  ⟨h.len,let ⟨b,o,k1,k2⟩:=h.lies;⟨b,o,k1,fun e=>⟨Nat.le_trans h1 (k2 e).1,Nat.lt_of_lt_of_le (k2 e).2 h2⟩⟩,h.in64⟩
theorem Iw.cap {lo hi:Nat} {w:World} {a:Option Addr} {n c:Nat} {l:List Int} (h:Iw lo hi w a n c l):n≤c∧c≤9223372036854775807:=let ⟨_,_,k1,_⟩:=h.lies;⟨k1.le,k1.max⟩
theorem Iw.some {lo hi:Nat} {w:World} {a:Option Addr} {n c:Nat} {l:List Int} (h:Iw lo hi w a n c l) (hn:0 < n):∃ b o,a=some ⟨b,o,none⟩∧lo≤b∧b < hi:=by
  obtain⟨b,o,h1,h2⟩:=h.lies
  exact⟨b,o,h1.addr hn,h2 hn⟩
theorem Iw.cell {lo hi:Nat} {w:World} {b o:Nat} {n c:Nat} {l:List Int} (h:Iw lo hi w (Option.some ⟨b,o,none⟩) n c l) {i:Nat} (hi':i < n):w.cell? ⟨b,o+i,none⟩=Option.some (.int .i64 (atL l i)):=by
  obtain⟨b',o',h1,-⟩:=h.lies
  have e:=h1.addr (by omega)
  cases e
  exact h1.cell hi'
theorem Iw.i64 {lo hi:Nat} {w:World} {a:Option Addr} {n c:Nat} {l:List Int} (h:Iw lo hi w a n c l) {i:Nat} (hi':i < n):I64 (atL l i):=h.in64 _ (atL_mem (by rw[h.len];exact hi'))
theorem Iw.wr {lo hi g:Nat} {w w':World} {a:Option Addr} {n c:Nat} {l:List Int} (h:Iw lo hi w a n c l) (hw:Wr g w w') (hg:g < lo∨hi≤g):Iw lo hi w' a n c l:=by
  refine⟨h.len,?_,h.in64⟩
  obtain⟨b,o,h1,h2⟩:=h.lies
  refine⟨b,o,⟨h1.1,h1.2.1,h1.2.2.1,fun i hi'=>?_⟩,h2⟩
  have e:=h2 (by omega)
  exact hw.apart.cell (by simp;omega) (h1.cell hi')
theorem Iw.part {lo hi:Nat} {w:World} {b o:Nat} {n c:Nat} {l:List Int} (h:Iw lo hi w (Option.some ⟨b,o,none⟩) n c l) (hb:lo≤b∧b < hi) (i j:Nat) (hij:i≤j) (hj:j≤n):Iw lo hi w (Option.some ⟨b,o+i,none⟩) (j - i) (c - i) ((l.take j).drop i):=by
  have hl:=h.len
  refine⟨by simp;omega,⟨b,o+i,⟨.inl rfl,by have:=h.cap;omega,by have:=h.cap;unfold maxLen;omega,fun k hk=>?_⟩,fun _=>hb⟩,fun x hx=>h.in64 x (List.mem_of_mem_take (List.mem_of_mem_drop hx))⟩
  have:=h.cell (i:=i+k) (by omega)
  rw[show o+i+k=o+(i+k) by omega,this]
  unfold atL
  simp only[List.getD_eq_getElem?_getD,List.getElem?_drop,List.getElem?_take]
  rw[if_pos (by omega)]
def RowI (W:World) (g:Nat) (t:TypeId) (l:List Int):Prop:=BxA W g t (l.map (Value.int .i64)).toArray
theorem RowI.ext {W W':World} {g:Nat} {t:TypeId} {l:List Int} (h:RowI W g t l) (hE:Ext W W'):RowI W' g t l:=BxA.ext h hE
theorem RowI.wr {W W':World} {g k:Nat} {t:TypeId} {l:List Int} (h:RowI W k t l) (hw:Wr g W W') (hn:k≠g):RowI W' k t l:=BxA.wr h hw hn
theorem RowI.lt {W:World} {g:Nat} {t:TypeId} {l:List Int} (h:RowI W g t l):g < W.heap.size:=BxA.lt h
theorem noU_ints (l:List Int):NoU (l.map (Value.int .i64)).toArray:=fun i v h k e=>by
  simp at h
  obtain⟨x,-,hx⟩:=h
  rw[← hx]at e
  cases e
theorem RowI.cell {W:World} {g:Nat} {t:TypeId} {l:List Int} (h:RowI W g t l) {i:Nat} (hi:i < l.length):W.cell? ⟨g,i,none⟩=some (.int .i64 (atL l i)):=by
  refine BxA.cell h i ?_
  simp[atL_eq hi,List.getElem?_eq_getElem hi]
theorem RowI.froz {W:World} {g:Nat} {t:TypeId} {l:List Int} (h:RowI W g t l) (i:Nat):W.frozen? ⟨g,i,none⟩=false:=by simp[World.frozen?,show W.heap[g]? = _ from h]
theorem RowI.iw {W:World} {g:Nat} {t:TypeId} {l:List Int} {n:Nat} (h:RowI W g t l) (h64:∀ x ∈ l,I64 x) (hn:l.length=n) (hl:n≤9223372036854775807):Iw g (g+1) W (some ⟨g,0,none⟩) n n l:=
  ⟨hn,⟨g,0,⟨.inl rfl,Nat.le_refl _,hl,fun i hi=>by rw[Nat.zero_add];exact h.cell (by omega)⟩,fun _=>⟨Nat.le_refl _,Nat.lt_succ_self _⟩⟩,h64⟩
theorem RowI.set {W:World} {g:Nat} {t:TypeId} {l:List Int} (h:RowI W g t l) (i:Nat) (x:Int):RowI (W.setCell ⟨g,i,none⟩ (.int .i64 x)) g t (l.set i x):=by
  unfold RowI BxA at h ⊢
  simp[World.setCell,h,Array.getElem?_modify,List.map_set]
theorem Wr.row {W:World} {g:Nat} {t:TypeId} {l:List Int} (h:RowI W g t l) (i:Nat) (x:Int):Wr g W (W.setCell ⟨g,i,none⟩ (.int .i64 x)):=
  ⟨Apart.setCell (p:=⟨g,i,none⟩) _ (by simp) _,⟨_,t,h,noU_ints l⟩,fun cs t' hc=>by
    rw[show W.heap[g]? = _ from h]at hc
    cases hc
    exact⟨_,RowI.set h i x,noU_ints _,by simp⟩⟩
def RowBut (W:World) (g:Nat) (t:TypeId) (l:List Int) (i:Nat):Prop:=∃ z,RowI W g t (l.set i z)
theorem RowBut.ext {W W':World} {g i:Nat} {t:TypeId} {l:List Int} (h:RowBut W g t l i) (hE:Ext W W'):RowBut W' g t l i:=let ⟨z,h1⟩:=h;⟨z,h1.ext hE⟩
theorem RowBut.wr {W W':World} {g k i:Nat} {t:TypeId} {l:List Int} (h:RowBut W k t l i) (hw:Wr g W W') (hn:k≠g):RowBut W' k t l i:=let ⟨z,h1⟩:=h;⟨z,h1.wr hw hn⟩
theorem RowBut.lt {W:World} {g i:Nat} {t:TypeId} {l:List Int} (h:RowBut W g t l i):g < W.heap.size:=let ⟨_,h1⟩:=h;h1.lt
theorem RowI.but {W:World} {g:Nat} {t:TypeId} {l:List Int} (h:RowI W g t l) (i:Nat):RowBut W g t l i:=⟨atL l i,by
  have e:l.set i (atL l i)=l:=by
    rcases Nat.lt_or_ge i l.length with hi | hi
    · rw[atL_eq hi];exact List.set_getElem_self hi
    · exact List.set_eq_of_length_le hi
  rw[e]
  exact h⟩
theorem RowBut.put {W:World} {g i:Nat} {t:TypeId} {l:List Int} (h:RowBut W g t l i) (hi:i < l.length) (x:Int):
    (∃ z,W.cell? ⟨g,i,none⟩=some (.int .i64 z))∧W.frozen? ⟨g,i,none⟩=false∧Wr g W (W.setCell ⟨g,i,none⟩ (.int .i64 x))∧RowI (W.setCell ⟨g,i,none⟩ (.int .i64 x)) g t (l.set i x):=by
  obtain⟨z,h1⟩:=h
  refine⟨⟨z,?_⟩,h1.froz i,Wr.row h1 i x,?_⟩
  · have:=h1.cell (i:=i) (by simpa using hi)
    rwa [atL_eq (by simpa using hi),List.getElem_set_self]at this
  · have:=h1.set i x
    rwa [List.set_set]at this
theorem made_zero (n:Nat):madeCells #[Value.int .i64 0] n=((List.replicate n (0:Int)).map (Value.int .i64)).toArray:=by
  apply Array.ext
  · simp[madeCells]
  · intro i h1 h2
    simp[madeCells,Nat.mod_one]
theorem RowI.made (W:World) (n:Nat) (t:TypeId):RowI (W.alloc (.cells (madeCells #[.int .i64 0] n) t)) W.heap.size t (List.replicate n 0):=by
  unfold RowI
  rw[← made_zero]
  exact BxA.new W t _
def Three (B:Nat) (t:TypeId) (n g1 g2 g3:Nat) (W:World):Prop:=
  (B≤g1∧B≤g2∧B≤g3)∧(g1≠g2∧g1≠g3∧g2≠g3)∧RowI W g1 t (List.replicate n 0)∧RowI W g2 t (List.replicate n 0)∧RowI W g3 t (List.replicate n 0)
theorem Three.ext {B n g1 g2 g3:Nat} {t:TypeId} {W W':World} (h:Three B t n g1 g2 g3 W) (hE:Ext W W'):Three B t n g1 g2 g3 W':=⟨h.1,h.2.1,h.2.2.1.ext hE,h.2.2.2.1.ext hE,h.2.2.2.2.ext hE⟩
theorem Three.wr {B n g1 g2 g3 g:Nat} {t:TypeId} {W W':World} (h:Three B t n g1 g2 g3 W) (hw:Wr g W W') (hg:g < B):Three B t n g1 g2 g3 W':=
  ⟨h.1,h.2.1,h.2.2.1.wr hw (by have:=h.1;omega),h.2.2.2.1.wr hw (by have:=h.1;omega),h.2.2.2.2.wr hw (by have:=h.1;omega)⟩
def Three.val (n g1 g2 g3:Nat):Array Value:=#[.slice (some ⟨g1,0,none⟩) n n,.slice (some ⟨g2,0,none⟩) n n,.slice (some ⟨g3,0,none⟩) n n,.slice none 0 0]
theorem noU4 (a1:Option Addr) (n1 c1:Nat) (a2:Option Addr) (n2 c2:Nat) (a3:Option Addr) (n3 c3:Nat) (a4:Option Addr) (n4 c4:Nat):NoU #[.slice a1 n1 c1,.slice a2 n2 c2,.slice a3 n3 c3,.slice a4 n4 c4]:=fun i v h k e=>by
  match i,h with
  | 0,h=>simp at h;subst h;cases e
  | 1,h=>simp at h;subst h;cases e
  | 2,h=>simp at h;subst h;cases e
  | 3,h=>simp at h;subst h;cases e
  | i+4,h=>simp at h
def Form4 (W:World) (g:Nat) (t:TypeId):Prop:=∃ x y z u,BxA W g t #[x,y,z,u]∧NoU #[x,y,z,u]
theorem Form4.put {W:World} {g:Nat} {t:TypeId} (h:Form4 W g t) (a1:Option Addr) (n1 c1:Nat) (a2:Option Addr) (n2 c2:Nat) (a3:Option Addr) (n3 c3:Nat) (a4:Option Addr) (n4 c4:Nat):
    ∃ W',W'=(((W.setCell ⟨g,0,none⟩ (.slice a1 n1 c1)).setCell ⟨g,1,none⟩ (.slice a2 n2 c2)).setCell ⟨g,2,none⟩ (.slice a3 n3 c3)).setCell ⟨g,3,none⟩ (.slice a4 n4 c4)∧Wr g W W'∧BxA W' g t #[.slice a1 n1 c1,.slice a2 n2 c2,.slice a3 n3 c3,.slice a4 n4 c4]:=by
  obtain⟨x,y,z,u,h1,h2⟩:=h
  have hq:BxA ((((W.setCell ⟨g,0,none⟩ (.slice a1 n1 c1)).setCell ⟨g,1,none⟩ (.slice a2 n2 c2)).setCell ⟨g,2,none⟩ (.slice a3 n3 c3)).setCell ⟨g,3,none⟩ (.slice a4 n4 c4)) g t #[.slice a1 n1 c1,.slice a2 n2 c2,.slice a3 n3 c3,.slice a4 n4 c4]:=by
    unfold BxA at h1 ⊢
    simp[World.setCell,h1,Array.getElem?_modify]
  refine⟨_,rfl,⟨(((Apart.setCell (p:=⟨g,0,none⟩) _ (by simp) _).trans (Apart.setCell (p:=⟨g,1,none⟩) _ (by simp) _)).trans (Apart.setCell (p:=⟨g,2,none⟩) _ (by simp) _)).trans (Apart.setCell (p:=⟨g,3,none⟩) _ (by simp) _),⟨_,t,h1,h2⟩,fun cs t' hc=>?_⟩,hq⟩
  rw[show W.heap[g]? = _ from h1]at hc
  cases hc
  exact⟨_,hq,noU4 _ _ _ _ _ _ _ _ _ _ _ _,rfl⟩
theorem Form4.cells {W:World} {g:Nat} {t:TypeId} (h:Form4 W g t):∃ x y z u,W.cell? ⟨g,0,none⟩=some x∧W.cell? ⟨g,1,none⟩=some y∧W.cell? ⟨g,2,none⟩=some z∧W.cell? ⟨g,3,none⟩=some u∧∀ i,W.frozen? ⟨g,i,none⟩=false:=by
  obtain⟨x,y,z,u,h1,-⟩:=h
  exact⟨x,y,z,u,BxA.cell h1 0 rfl,BxA.cell h1 1 rfl,BxA.cell h1 2 rfl,BxA.cell h1 3 rfl,fun i=>by simp[World.frozen?,show W.heap[g]? = _ from h1]⟩
theorem Form4.ext {W W':World} {g:Nat} {t:TypeId} (h:Form4 W g t) (hE:Ext W W'):Form4 W' g t:=let ⟨x,y,z,u,h1,h2⟩:=h;⟨x,y,z,u,BxA.ext h1 hE,h2⟩
theorem Form4.wr {W W':World} {g k:Nat} {t:TypeId} (h:Form4 W k t) (hw:Wr g W W') (hn:k≠g):Form4 W' k t:=let ⟨x,y,z,u,h1,h2⟩:=h;⟨x,y,z,u,BxA.wr h1 hw hn,h2⟩
theorem Form4.of {W:World} {g:Nat} {t:TypeId} {a1:Option Addr} {n1 c1:Nat} {a2:Option Addr} {n2 c2:Nat} {a3:Option Addr} {n3 c3:Nat} {a4:Option Addr} {n4 c4:Nat} (h:BxA W g t #[.slice a1 n1 c1,.slice a2 n2 c2,.slice a3 n3 c3,.slice a4 n4 c4]):Form4 W g t:=
  ⟨_,_,_,_,h,noU4 _ _ _ _ _ _ _ _ _ _ _ _⟩
instance lasts_iw {lo hi:Nat} {a:Option Addr} {n c:Nat} {l:List Int}:Nonempty (Lasts (fun W=>Iw lo hi W a n c l)):=⟨fun _ _ h hE=>h.ext hE⟩
instance lasts_rowi {g:Nat} {t:TypeId} {l:List Int}:Nonempty (Lasts (fun W=>RowI W g t l)):=⟨fun _ _ h hE=>RowI.ext h hE⟩
instance lasts_rowbut {g i:Nat} {t:TypeId} {l:List Int}:Nonempty (Lasts (fun W=>RowBut W g t l i)):=⟨fun _ _ h hE=>RowBut.ext h hE⟩
instance lasts_form4 {g:Nat} {t:TypeId}:Nonempty (Lasts (fun W=>Form4 W g t)):=⟨fun _ _ h hE=>h.ext hE⟩
end Go.Rt
