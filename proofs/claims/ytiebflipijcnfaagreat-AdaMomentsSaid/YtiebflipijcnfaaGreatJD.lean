/-
  Adafactor: rows of one number; the mean of one number.
  Adafactor: the live question's step.
  Adafactor: the live question's step, with its deferred call.
  Adafactor: a step of one number, a step that is refused; the live question.
-/
import Derived.Test.YtiebflipijcnfaaGreatJC
namespace Go.Rt
open Go Go.RowKit Go.Proofs
def RowY (B:Nat) (W:World) (v:Value) (y:Int):Prop:=∃ g cap,v=.slice (some ⟨g,0,none⟩) 1 cap∧B≤g∧g < W.heap.size∧1≤cap∧cap≤maxLen∧W.cell? ⟨g,0,none⟩=some (.int .i64 y)
theorem RowY.ext {B:Nat} {W W':World} {v:Value} {y:Int} (h:RowY B W v y) (hE:Ext W W'):RowY B W' v y:=
  let ⟨g,c,h1,h2,h3,h4,h5,h6⟩:=h;⟨g,c,h1,h2,Nat.lt_of_lt_of_le h3 hE.size,h4,h5,hE.cell h6⟩
theorem RowY.wr {B k:Nat} {W W':World} {v:Value} {y:Int} (h:RowY B W v y) (hw:Wr k W W') (hk:k < B):RowY B W' v y:=
  let ⟨g,c,h1,h2,h3,h4,h5,h6⟩:=h;⟨g,c,h1,h2,Nat.lt_of_lt_of_le h3 hw.apart.size,h4,h5,hw.apart.cell (by simp;omega) h6⟩
theorem RowY.mono {B B':Nat} {W:World} {v:Value} {y:Int} (h:RowY B W v y) (hB:B'≤B):RowY B' W v y:=
  let ⟨g,c,h1,h2,h3⟩:=h;⟨g,c,h1,Nat.le_trans hB h2,h3⟩
theorem RowY.iw {B:Nat} {W:World} {v:Value} {y:Int} (h:RowY B W v y) (hy:I64 y):∃ g cap,v=.slice (some ⟨g,0,none⟩) 1 cap∧Iw B W.heap.size W (some ⟨g,0,none⟩) 1 cap [y]:=by
  obtain⟨g,c,h1,h2,h3,h4,h5,h6⟩:=h
  refine⟨g,c,h1,⟨rfl,⟨g,0,⟨.inl rfl,h4,h5,fun i hi=>?_⟩,fun _=>⟨h2,h3⟩⟩,fun x hx=>by simp at hx;subst hx;exact hy⟩⟩
  obtain rfl:i=0:=by omega
  exact h6
theorem RowY.own {base:Nat} {W:World} {g cap:Nat} {e:TypeId} {y:Int} (h:OwnI W base e (.slice (some ⟨g,0,none⟩) 1 cap) [y]):RowY base W (.slice (some ⟨g,0,none⟩) 1 cap) y:=by
  rcases h.2 with ⟨h1,-⟩ | ⟨g',cap',cur,h1,hb,hg,hc,hm,hs,ht⟩
  · cases h1
  · cases h1
    have hlt:=(Array.getElem?_eq_some_iff.1 hg).1
    refine⟨g,cap,rfl,hb,hlt,hc,hm,?_⟩
    have h3:(cur.toList.take 1)[0]? = some (.int .i64 y):=by
      have:cur.toList.take (1*1)=[Value.int .i64 y]:=ht
      rw[show (1:Nat)=1*1 from rfl,this]
      rfl
    rw[List.getElem?_take,if_pos (by omega)]at h3
    simp[World.cell?,hg]
    rw[← Array.getElem?_toList]
    exact h3
theorem iw_new {lo:Nat} {x:Int} (W:World) (t:TypeId) (hx:I64 x) (hlo:lo≤W.heap.size):Iw lo (W.heap.size+1) (W.alloc (.cells #[.int .i64 x] t)) (some ⟨W.heap.size,0,none⟩) 1 1 [x]:=by
  have hbx:=BxA.new W t #[.int .i64 x]
  refine⟨rfl,⟨W.heap.size,0,⟨.inl rfl,Nat.le_refl _,by decide,fun i hi=>?_⟩,fun _=>⟨hlo,Nat.lt_succ_self _⟩⟩,fun y hy=>by simp at hy;subst hy;exact hx⟩
  obtain rfl:i=0:=by omega
  exact hbx.cell 0 rfl
theorem mean_oneV {x:Int} (hx:I64 x):meanL [[x]]=[x]:=by
  show [meanV [[x]] 0]=[x]
  unfold meanV
  have h1:colS [[x]] 0=x:=by unfold colS;simp[atL]
  have h2:(mkRat x 1*P2 0)=(x:Rat):=by
    rw[Rat.mkRat_one,show P2 0=1 from by unfold P2;rfl,Rat.mul_one]
  rw[h1]
  show [fitV (nearR (mkRat x 1*P2 0))]=[x]
  rw[h2,near_int,fitV_in (fits_iff.2 hx)]
end Go.Rt
namespace Go.Rt
open Go Go.RowKit Go.Proofs
theorem M1024:mulO 8 512 512=some 1024:=mulO_nat (K:=8) (a:=512) (b:=512) (c:=1024) (by decide) (by omega)
theorem M0:mulO 8 (oneZ 8 - 256) 9=some 0:=by
 rw[show oneZ 8 - 256=((0:Nat):Int) from by decide]
 exact mulO_nat (K:=8) (a:=0) (b:=9) (c:=0) (by decide) (by omega)
theorem M1025:mulO 8 256 1025=some 1025:=mulO_nat (K:=8) (a:=256) (b:=1025) (c:=1025) (by decide) (by omega)
theorem M256:mulO 8 256 256=some 256:=mulO_nat (K:=8) (a:=256) (b:=256) (c:=256) (by decide) (by omega)
theorem M16:mulO 8 16 256=some 16:=mulO_nat (K:=8) (a:=16) (b:=256) (c:=16) (by decide) (by omega)
theorem D256:divO 8 512 512=some 256:=divO_nat (K:=8) (a:=512) (b:=512) (c:=256) (by omega) (by decide) (by omega)
theorem R512:rt (1025*2^8) 2=512:=rt_eq (by decide) ⟨by decide,by decide⟩
theorem R256:rt (256*2^8) 2=256:=rt_eq (by decide) ⟨by decide,by decide⟩
end Go.Rt
namespace Go.Rt
open Go Go.RowKit Go.Proofs
end Go.Rt
namespace Go.Rt
open Go Go.RowKit Go.Proofs
theorem Tryz.adaShare324 (w:World):Calls Tryz.prog 13 #[.int .i64 32,.int .i64 4] w fun e w'=>e=.returned (.tuple #[.int .i64 1,.int .i64 0])∧Ext w w':=by
  have h:=Tryz.adaShare 32 4 w (by omega) (by omega) (by omega)
  rw[show shareN 32 4=1 from rt_eq (by decide) ⟨by decide,by decide⟩]at h
  exact h
set_option maxRecDepth 100000 in
set_option maxHeartbeats 4000000 in
theorem Tryz.adaBelow (p:Int) (w:World):Calls Tryz.prog 15 #[.int .i64 p] w fun e w'=>e=.returned (.bool (decide (p < 0)))∧Ext w w':=by
 go_enter Tryz.func15,Tryz.ntmps15
 go_wp2
 all_goals go_ret
 all_goals exact⟨rfl,Ext.refl _⟩
set_option maxRecDepth 100000 in
set_option maxHeartbeats 4000000 in
theorem Tryz.adaNegAt {lo hi:Nat} {a:Option Addr} {n c:Nat} {l:List Int} {w:World} (h:Iw lo hi w a n c l):
  Calls Tryz.prog 41 #[.slice a n c,.func (.func 15) #[] #[]] w fun e w'=>∃ r:Int,e=.returned (.int .i64 r)∧decide (0≤r)=negB l∧Ext w w':=by
 have hcap:=h.cap
 have hlen:=h.len
 have hn:n≤9223372036854775807:=by omega
 have HL:=Lib.hid hlen
 clear hcap hlen
 go_enter Tryz.func41,Tryz.ntmps41
 go_wp2_with fail
 go_loopw [8] (fun i wr=>∃ k:Nat,i=.int .i64 (k:Int)∧k≤n∧Hid (∀ j,j < k→¬ atL l j < 0)∧Ext w wr) (fun i _=>n - (intOf i).toNat)
 case atStart=>exact⟨0,rfl,by omega,Lib.hid (fun j hj=>absurd hj (by omega)),Ext.refl w⟩
 case round=>
  obtain⟨k,rfl,hk,HA,hX⟩:=hrel
  by_cases hlt:k < n
  ·have hltI:(k:Int) < (n:Int):=by omega
   have h2:=h.ext hX
   obtain⟨b,o,rfl,-,-⟩:=h2.some (by omega)
   have hc:=h2.cell hlt
   have hk63:(k:Int) < 9223372036854775807:=by omega
   clear h h2
   by_cases hneg:atL l k < 0
   ·have HX:Hid (decide (atL l k < 0)=true):=Lib.hid (decide_eq_true hneg)
    have HR:Hid (decide (0≤(k:Int))=negB l):=Lib.hid (by rw[negB_true (by rw[HL.out];exact hlt) hneg];exact decide_eq_true (by omega))
    clear hneg
    go_wp2_with fail
    refine(Tryz.adaBelow _ _).mono ?_
    rintro e W ⟨rfl,hE⟩
    rw[HX.out];go_wp2;go_ret
    exact⟨_,rfl,HR.out,hX.trans hE⟩
   ·have HX:Hid (decide (atL l k < 0)=false):=Lib.hid (decide_eq_false hneg)
    have HN:=Lib.hid hneg
    clear hneg
    go_wp2_with fail
    refine(Tryz.adaBelow _ _).mono ?_
    rintro e W ⟨rfl,hE⟩
    rw[HX.out];go_wp2
    go_roundw
    case rel=>exact⟨k+1,by go_num,by omega,Lib.hid (grow_all (p:=fun j=>¬ atL l j < 0) (fun j hj=>by have:=HA.out j hj;omega) (by have:=HN.out;omega)),hX.trans hE⟩
    case measure=>simp[intOf];omega
  ·have hge:¬ (k:Int) < (n:Int):=by omega
   have HR:Hid (decide (0≤(-1:Int))=negB l):=Lib.hid (by rw[negB_false (fun i hi=>HA.out i (by have:=HL.out;omega))];rfl)
   clear h;go_wp2;go_ret
   exact⟨_,rfl,HR.out,hX⟩
set_option maxRecDepth 100000 in
set_option maxHeartbeats 4000000 in
theorem Tryz.adaNeg {lo hi:Nat} {a:Option Addr} {n c:Nat} {l:List Int} {w:World} (h:Iw lo hi w a n c l):
  Calls Tryz.prog 16 #[.slice a n c,.func (.func 15) #[] #[]] w fun e w'=>e=.returned (.bool (negB l))∧Ext w w':=by
 go_enter Tryz.func16,Tryz.ntmps16
 go_wp2_with fail
 refine(Tryz.adaNegAt h).mono ?_
 rintro e W ⟨r,rfl,hr,hE⟩
 have HR:=Lib.hid hr
 clear hr h;go_wp2
 all_goals go_ret
 all_goals exact⟨by rw[← HR.out];simp_all,hE⟩
end Go.Rt
