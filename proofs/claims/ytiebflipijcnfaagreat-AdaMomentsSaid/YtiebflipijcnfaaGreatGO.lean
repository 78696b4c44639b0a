/-
  A row of integers that a call lets grow: what an append leaves of it.
  Clipping in plain numbers; rows of rows in memory.
  A row, appended to a row of the call's own.
-/
import Derived.Test.YtiebflipijcnfaaGreatIrow
import Derived.Test.YtiebflipijcnfaaGreatGX
namespace Go.Rt
open Go Go.RowKit Go.Proofs
def InfoI (P:Program) (e:TypeId):Prop:=(P.info? e).map (fun i=>(i.zero,i.size,i.bytes))=some (some (.int .i64 0),1,8)
theorem Tryz.infoI:InfoI Go.Proofs.Tryz.prog 2:=by unfold InfoI;kernel_rfl
theorem InfoI.get {P:Program} {e:TypeId} (hi:InfoI P e):∃ i,P.info? e=some i∧i.zero=some (.int .i64 0)∧i.size=1∧i.bytes=8:=by
  unfold InfoI at hi
  cases hq:P.info? e with
  | none=>rw[hq]at hi;cases hi
  | some i=>rw[hq]at hi;simp at hi;exact⟨i,rfl,hi.1,hi.2.1,hi.2.2⟩
def OwnI (W:World) (base:Nat) (e:TypeId) (v:Value) (l:List Int):Prop:=W.ownsRow base e 1 v l.length (l.map (Value.int .i64))
theorem OwnI.nil (W:World) (base:Nat) (e:TypeId):OwnI W base e (.slice none 0 0) []:=⟨rfl,.inl ⟨rfl,rfl⟩⟩
theorem OwnI.ext {w w':World} {base:Nat} {e:TypeId} {v:Value} {l:List Int} (h:OwnI w base e v l) (hx:Ext w w'):OwnI w' base e v l:=by
  refine⟨h.1,?_⟩
  rcases h.2 with hn | ⟨g,cap,cur,rfl,hb,hg,rest⟩
  · exact .inl hn
  · exact .inr ⟨g,cap,cur,rfl,hb,(Below.block hx g (Array.getElem?_eq_some_iff.1 hg).1).trans hg,rest⟩
theorem OwnI.wr {w w':World} {base k:Nat} {e:TypeId} {v:Value} {l:List Int} (h:OwnI w base e v l) (hw:Wr k w w') (hk:v.ownBlock≠some k):OwnI w' base e v l:=by
  refine⟨h.1,?_⟩
  rcases h.2 with hn | ⟨g,cap,cur,rfl,hb,hg,rest⟩
  · exact .inl hn
  · exact .inr ⟨g,cap,cur,rfl,hb,(hw.apart.block g (Array.getElem?_eq_some_iff.1 hg).1 (by simpa [Value.ownBlock] using hk)).trans hg,rest⟩
theorem OwnI.iw {W:World} {base H:Nat} {e:TypeId} {v:Value} {l:List Int} (h:OwnI W base e v l) (h64:∀ x ∈ l,I64 x) (hH:∀ g,v.ownBlock=some g→g < H):∃ a c,v=.slice a l.length c∧Iw base H W a l.length c l:=by
  rcases h.2 with ⟨rfl,hn⟩ | ⟨g,cap,cur,rfl,hb,hg,hc,hm,hs,ht⟩
  · rw[hn]
    have:l=[]:=List.length_eq_zero_iff.1 hn
    subst this
    exact⟨none,0,rfl,Iw.nil _ _ _⟩
  · refine⟨_,_,rfl,⟨rfl,⟨g,0,⟨.inl rfl,hc,hm,fun i hi=>?_⟩,fun _=>⟨hb,hH g rfl⟩⟩,h64⟩⟩
    have h2:cur.toList[i]? = some (.int .i64 (atL l i)):=by
      have h3:(cur.toList.take (l.length*1))[i]? = some (.int .i64 (atL l i)):=by rw[ht,List.getElem?_map,List.getElem?_eq_getElem hi,atL_eq hi];rfl
      rw[List.getElem?_take,if_pos (by omega)]at h3
      exact h3
    rw[Nat.zero_add]
    simp[World.cell?,hg]
    rw[← Array.getElem?_toList]
    exact h2
section
variable {P:Program} {t e:TypeId} (ht:P.underlying t=.some (.slice e)) (hi:InfoI P e)
include ht hi
end
end Go.Rt
namespace Go.Rt
open Go Go.RowKit Go.Proofs
def clipV (N m:Nat) (x:Int):Int:=sgn (decide (x < 0)) (x.natAbs*m / N)
def cutB (N m:Nat):Bool:=decide (m=0∨N≤m)
def clipL (N m:Nat) (l:List Int):List Int:=if cutB N m=true then l else l.map (clipV N m)
theorem clipL_len (N m:Nat) (l:List Int):(clipL N m l).length=l.length:=by
  unfold clipL
  split <;> simp
def atR (ls:List (List Int)) (i:Nat):List Int:=ls.getD i []
theorem atR_eq {ls:List (List Int)} {i:Nat} (h:i < ls.length):atR ls i=ls[i]:=by
  unfold atR
  rw[List.getD_eq_getElem?_getD,List.getElem?_eq_getElem h]
  rfl
theorem atR_mem {ls:List (List Int)} {i:Nat} (h:i < ls.length):atR ls i ∈ ls:=by rw[atR_eq h];exact List.getElem_mem h
def Iz (lo hi:Nat) (w:World) (a:Option Addr) (n c:Nat) (l:List Int):Prop:=Iw lo hi w a n c l∨(n=0∧c=0∧l=[])
theorem Iz.ext {lo hi:Nat} {w w':World} {a:Option Addr} {n c:Nat} {l:List Int} (h:Iz lo hi w a n c l) (hE:Ext w w'):Iz lo hi w' a n c l:=h.imp (fun k=>k.ext hE) id
theorem Iz.wr {lo hi g:Nat} {w w':World} {a:Option Addr} {n c:Nat} {l:List Int} (h:Iz lo hi w a n c l) (hw:Wr g w w') (hg:g < lo∨hi≤g):Iz lo hi w' a n c l:=h.imp (fun k=>k.wr hw hg) id
theorem Iz.mono {lo hi lo' hi':Nat} {w:World} {a:Option Addr} {n c:Nat} {l:List Int} (h:Iz lo hi w a n c l) (h1:lo'≤lo) (h2:hi≤hi'):Iz lo' hi' w a n c l:=h.imp (fun k=>k.mono h1 h2) id
theorem Iz.len {lo hi:Nat} {w:World} {a:Option Addr} {n c:Nat} {l:List Int} (h:Iz lo hi w a n c l):l.length=n:=by
  rcases h with h | ⟨rfl,-,rfl⟩
  · exact h.len
  · rfl
theorem Iz.cap {lo hi:Nat} {w:World} {a:Option Addr} {n c:Nat} {l:List Int} (h:Iz lo hi w a n c l):n≤c∧c≤9223372036854775807:=by
  rcases h with h | ⟨rfl,rfl,rfl⟩
  · exact h.cap
  · omega
theorem Iz.iw {lo hi:Nat} {w:World} {a:Option Addr} {n c:Nat} {l:List Int} (h:Iz lo hi w a n c l) (hn:0 < n):Iw lo hi w a n c l:=by
  rcases h with h | ⟨rfl,-,-⟩
  · exact h
  · omega
theorem Iz.in64 {lo hi:Nat} {w:World} {a:Option Addr} {n c:Nat} {l:List Int} (h:Iz lo hi w a n c l):∀ x ∈ l,I64 x:=by
  rcases h with h | ⟨-,-,rfl⟩
  · exact h.in64
  · intro x hx;cases hx
instance lasts_iz {lo hi:Nat} {a:Option Addr} {n c:Nat} {l:List Int}:Nonempty (Lasts (fun W=>Iz lo hi W a n c l)):=⟨fun _ _ h hE=>h.ext hE⟩
structure Mw (lo hi:Nat) (w:World) (a:Option Addr) (n c:Nat) (ls:List (List Int)):Prop where
  len:ls.length=n
  lies:∃ b o V,Sl w a b o n c V∧(0 < n→lo≤b∧b < hi)∧∀ i,i < n→∃ ai ci,V i=.slice ai (atR ls i).length ci∧Iz lo hi w ai (atR ls i).length ci (atR ls i)
theorem Mw.ext {lo hi:Nat} {w w':World} {a:Option Addr} {n c:Nat} {ls:List (List Int)} (h:Mw lo hi w a n c ls) (hE:Ext w w'):Mw lo hi w' a n c ls:=
  ⟨h.len,let ⟨b,o,V,h1,h2,h3⟩:=h.lies;⟨b,o,V,h1.ext hE,h2,fun i hi=>let ⟨ai,ci,e,k⟩:=h3 i hi;⟨ai,ci,e,k.ext hE⟩⟩⟩
theorem Mw.wr {lo hi g:Nat} {w w':World} {a:Option Addr} {n c:Nat} {ls:List (List Int)} (h:Mw lo hi w a n c ls) (hw:Wr g w w') (hg:g < lo∨hi≤g):Mw lo hi w' a n c ls:=by
  refine⟨h.len,?_⟩
  obtain⟨b,o,V,h1,h2,h3⟩:=h.lies
  refine⟨b,o,V,⟨h1.1,h1.2.1,h1.2.2.1,fun i hi'=>?_⟩,h2,fun i hi=>let ⟨ai,ci,e,k⟩:=h3 i hi;⟨ai,ci,e,k.wr hw hg⟩⟩
  have e:=h2 (by omega)
  exact hw.apart.cell (by simp;omega) (h1.cell hi')
theorem Mw.mono {lo hi lo' hi':Nat} {w:World} {a:Option Addr} {n c:Nat} {ls:List (List Int)} (h:Mw lo hi w a n c ls) (h1:lo'≤lo) (h2:hi≤hi'):Mw lo' hi' w a n c ls:=
  ⟨h.len,let ⟨b,o,V,k1,k2,k3⟩:=h.lies;⟨b,o,V,k1,fun e=>⟨Nat.le_trans h1 (k2 e).1,Nat.lt_of_lt_of_le (k2 e).2 h2⟩,fun i hi=>let ⟨ai,ci,e,k⟩:=k3 i hi;⟨ai,ci,e,k.mono h1 h2⟩⟩⟩
theorem Mw.cap {lo hi:Nat} {w:World} {a:Option Addr} {n c:Nat} {ls:List (List Int)} (h:Mw lo hi w a n c ls):n≤c∧c≤9223372036854775807:=let ⟨_,_,_,k1,_⟩:=h.lies;⟨k1.le,k1.max⟩
theorem Mw.some {lo hi:Nat} {w:World} {a:Option Addr} {n c:Nat} {ls:List (List Int)} (h:Mw lo hi w a n c ls) (hn:0 < n):∃ b o,a=some ⟨b,o,none⟩∧lo≤b∧b < hi:=by
  obtain⟨b,o,V,h1,h2,-⟩:=h.lies
  exact⟨b,o,h1.addr hn,h2 hn⟩
theorem Mw.cell {lo hi:Nat} {w:World} {b o:Nat} {n c:Nat} {ls:List (List Int)} (h:Mw lo hi w (Option.some ⟨b,o,none⟩) n c ls) {i:Nat} (hi':i < n):
    ∃ ai ci,w.cell? ⟨b,o+i,none⟩=Option.some (.slice ai (atR ls i).length ci)∧Iz lo hi w ai (atR ls i).length ci (atR ls i):=by
  obtain⟨b',o',V,h1,-,h3⟩:=h.lies
  have e:=h1.addr (by omega)
  cases e
  obtain⟨ai,ci,e,k⟩:=h3 i hi'
  exact⟨ai,ci,by rw[← e];exact h1.cell hi',k⟩
theorem Mw.nil (lo hi:Nat) (w:World):Mw lo hi w none 0 0 []:=⟨rfl,⟨0,0,fun _=>.slice none 0 0,⟨.inr ⟨rfl,rfl,rfl⟩,Nat.le_refl _,Nat.zero_le _,fun i hi=>by cases hi⟩,fun h=>absurd h (by omega),fun i hi=>by cases hi⟩⟩
theorem Mw.i64 {lo hi:Nat} {w:World} {a:Option Addr} {n c:Nat} {ls:List (List Int)} (h:Mw lo hi w a n c ls):∀ x ∈ ls.flatten,I64 x:=by
  intro x hx
  obtain⟨l,hl,hx⟩:=List.mem_flatten.1 hx
  obtain⟨b,o,V,-,-,h3⟩:=h.lies
  obtain⟨i,hi,rfl⟩:=List.getElem_of_mem hl
  obtain⟨ai,ci,-,k⟩:=h3 i (by rw[← h.len];exact hi)
  rw[atR_eq hi]at k
  exact k.in64 x hx
instance lasts_mw {lo hi:Nat} {a:Option Addr} {n c:Nat} {ls:List (List Int)}:Nonempty (Lasts (fun W=>Mw lo hi W a n c ls)):=⟨fun _ _ h hE=>h.ext hE⟩
end Go.Rt
namespace Go.Rt
open Go Go.RowKit Go.Proofs
theorem Iz.none {lo hi:Nat} {w:World} {n c:Nat} {l:List Int} (h:Iz lo hi w none n c l):n=0∧l=[]:=by
  rcases h with h | ⟨rfl,-,rfl⟩
  · have h0:n=0:=by
      rcases Nat.eq_zero_or_pos n with h0 | h0
      · exact h0
      · obtain⟨b,o,e,-⟩:=h.some h0
        cases e
    exact⟨h0,List.length_eq_zero_iff.1 (by rw[h.len];exact h0)⟩
  · exact⟨rfl,rfl⟩
section
variable {P:Program} {t e:TypeId} (ht:P.underlying t=.some (.slice e)) (hi:InfoI P e)
include ht hi
end
end Go.Rt
