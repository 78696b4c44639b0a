/-
  Rows of rows: are there few; the sum of their squares by the document; one behind the other.
  A number, clipped; each of a row; a row's copy; a row, clipped.
  Rows' mean.
  The live question of chapter 16.
  A row of rows that a call lets grow.
-/
import Derived.Test.YtiebflipijcnfaaGreatGO
import Derived.Lib.AppendZerosOnto
import Derived.Test.YtiebflipijcnfaaGreatGQ
import Derived.Test.YtiebflipijcnfaaGreatJM
import Derived.Test.YtiebflipijcnfaaGreatGT
namespace Go.Rt
open Go Go.RowKit Go.Proofs
theorem OwnI.block {W:World} {base:Nat} {e:TypeId} {v:Value} {l:List Int} (h:OwnI W base e v l):∀ g,v.ownBlock=some g→base≤g∧g < W.heap.size:=by
  intro g hg
  rcases h.2 with ⟨rfl,-⟩ | ⟨b,cap,cur,rfl,hb,hk,-⟩
  · cases hg
  · cases hg
    exact⟨hb,(Array.getElem?_eq_some_iff.1 hk).1⟩
theorem Nw.empty (w:World) (t:TypeId):Nw (w.alloc (.cells #[] t)) (.slice (some ⟨w.heap.size,0,none⟩) 0 0) 0:=
  ⟨[],⟨_,w.heap.size,0,0,rfl,⟨.inl rfl,Nat.le_refl _,Nat.zero_le _,fun _ hi=>absurd hi (Nat.not_lt_zero _)⟩,Lim.nil _⟩,.inl rfl,rfl⟩
end Go.Rt
namespace Go.Rt
open Go Go.RowKit Go.Proofs
def HalfB (W:World) (g:Nat) (t:TypeId) (b:Bool):Prop:=∃ a n c,Bx2 W g t (.bool b) (.slice a n c)
theorem HalfB.ext {W W':World} {g:Nat} {t:TypeId} {b:Bool} (h:HalfB W g t b) (hE:Ext W W'):HalfB W' g t b:=let ⟨a,n,c,k⟩:=h;⟨a,n,c,k.ext hE⟩
theorem HalfB.wr {W W':World} {g k:Nat} {t:TypeId} {b:Bool} (h:HalfB W k t b) (hw:Wr g W W') (hn:k≠g):HalfB W' k t b:=let ⟨a,n,c,q⟩:=h;⟨a,n,c,q.wr hw hn⟩
theorem HalfB.lt {W:World} {g:Nat} {t:TypeId} {b:Bool} (h:HalfB W g t b):g < W.heap.size:=let ⟨_,_,_,k⟩:=h;k.lt
theorem noU_zed (b:Bool) (a:Option Addr) (n c:Nat):NoU #[.bool b,.slice a n c]:=fun i v h k q=>by
  match i,h with
  | 0,h=>simp at h;subst h;cases q
  | 1,h=>simp at h;subst h;cases q
  | i+2,h=>simp at h
theorem HalfB.put {W:World} {g:Nat} {t:TypeId} {b:Bool} (h:HalfB W g t b) (a:Option Addr) (n c:Nat):
    ∃ x,W.cell? ⟨g,1,none⟩=some x∧W.frozen? ⟨g,1,none⟩=false∧∃ W',W'=W.setCell ⟨g,1,none⟩ (.slice a n c)∧Wr g W W'∧Bx2 W' g t (.bool b) (.slice a n c):=by
  obtain⟨a0,n0,c0,k⟩:=h
  exact⟨_,k.cell1,BxA.frozN (xs:=#[.bool b,.slice a0 n0 c0]) k 1,_,rfl,Wr.putN (xs:=#[.bool b,.slice a0 n0 c0]) k (noU_zed b a0 n0 c0) 1 (.slice a n c) (noU_zed b a n c),BxA.putN (xs:=#[.bool b,.slice a0 n0 c0]) k 1 (.slice a n c)⟩
theorem OwnI.made (w:World) (t:TypeId):OwnI (w.alloc (.cells #[] t)) w.heap.size t (.slice (some ⟨w.heap.size,0,none⟩) 0 0) []:=
  ⟨rfl,.inr ⟨w.heap.size,0,#[],rfl,Nat.le_refl _,heap_alloc_new w _,Nat.le_refl _,Nat.zero_le _,rfl,rfl⟩⟩
def padL (f:Int→Int) (l:List Int) (k:Nat):List Int:=(l.take k).map f++List.replicate (l.length - k) 0
theorem padL_zero (f:Int→Int) (l:List Int):padL f l 0=List.replicate l.length 0:=by simp[padL]
theorem padL_len (f:Int→Int) {l:List Int} {k:Nat} (h:k≤l.length):(padL f l k).length=l.length:=by simp[padL];omega
theorem padL_all (f:Int→Int) (l:List Int):padL f l l.length=l.map f:=by simp[padL]
theorem padL_set (f:Int→Int) {l:List Int} {k:Nat} (h:k < l.length):(padL f l k).set k (f (atL l k))=padL f l (k+1):=by
  unfold padL
  have h1:((l.take k).map f).length=k:=by simp;omega
  have h2:l.length - k=(l.length - (k+1))+1:=by omega
  rw[List.set_append_right _ _ (by omega),h1,Nat.sub_self,h2,List.replicate_succ,List.set_cons_zero,List.take_succ_eq_append_getElem h,List.map_append,List.append_assoc,← atL_eq h]
  rfl
theorem Tryz.makeR (n:Nat) (hn:n≤1000) (w:World):(Instr.makeSlice 25 (.int .i64 (n:Int)) (.int .i64 (n:Int))).run Tryz.prog w=.ok (.slice (some ⟨w.heap.size,0,none⟩) n n) (w.alloc (.cells (madeCells #[.int .i64 0] n) 2)):=
 run_make_row' _ _ _ 8 Tryz.underlying25 (by kernel_rfl) rfl .i64 .i64 n (by omega) (by omega) w
end Go.Rt
namespace Go.Rt
open Go Go.RowKit Go.Proofs
def colS (ls:List (List Int)) (k:Nat):Int:=(ls.map fun l=>atL l k).sum
theorem colS_take {ls:List (List Int)} {j:Nat} (h:j < ls.length) (k:Nat):colS (ls.take (j+1)) k=colS (ls.take j) k+atL (atR ls j) k:=by
  unfold colS
  rw[List.take_succ_eq_append_getElem h,List.map_append,List.sum_append,← atR_eq h]
  simp
theorem colS_bound {ls:List (List Int)} (h:∀ l ∈ ls,∀ k,I64 (atL l k)) (k:Nat):(colS ls k).natAbs≤ls.length*9223372036854775808:=by
  induction ls with
  | nil=>simp[colS]
  | cons l ls ih=>
    have h1:=ih fun x hx=>h x (List.mem_cons_of_mem _ hx)
    have h2:=h l List.mem_cons_self k
    unfold I64 at h2
    have h3:colS (l :: ls) k=atL l k+colS ls k:=by simp[colS]
    rw[h3,List.length_cons,Nat.succ_mul]
    omega
theorem atL_i64 {l:List Int} (h:∀ x ∈ l,I64 x) (k:Nat):I64 (atL l k):=by
  rcases Nat.lt_or_ge k l.length with h1 | h1
  · exact h _ (atL_mem h1)
  · unfold atL
    rw[List.getD_eq_getElem?_getD,List.getElem?_eq_none h1]
    show I64 0
    unfold I64
    omega
theorem colS_sm {ls:List (List Int)} (h:∀ x ∈ ls.flatten,I64 x) (hl:ls.length≤1000) (k:Nat):Sm 2 (colS ls k).natAbs:=by
  have h1:=colS_bound (ls:=ls) (fun l hl'=>atL_i64 fun x hx=>h x (List.mem_flatten.2 ⟨l,hl',hx⟩)) k
  have h2:ls.length*9223372036854775808≤1000*9223372036854775808:=Nat.mul_le_mul_right _ hl
  unfold Sm
  rw[B64_eq]
  omega
def meanV (ls:List (List Int)) (k:Nat):Int:=fitV (nearR (mkRat (colS ls k) ls.length*P2 0))
def meanL (ls:List (List Int)):List Int:=(List.range (atR ls 0).length).map (meanV ls)
theorem fitV_in64 (z:Int):I64 (fitV z):=by
  unfold fitV fits
  split
  · rename_i h
    simp at h
    exact h
  · unfold I64
    omega
def oddR (ls:List (List Int)):Bool:=ls.any fun l=>decide (l.length≠(atR ls 0).length)
theorem oddR_true {ls:List (List Int)} {i:Nat} (hi:i < ls.length) (h:(atR ls i).length≠(atR ls 0).length):oddR ls=true:=by
  unfold oddR
  rw[List.any_eq_true]
  exact⟨atR ls i,atR_mem hi,decide_eq_true h⟩
theorem oddR_false {ls:List (List Int)} (h:∀ i,i < ls.length→(atR ls i).length=(atR ls 0).length):oddR ls=false:=by
  unfold oddR
  rw[List.any_eq_false]
  intro l hl
  obtain⟨i,hi,rfl⟩:=List.getElem_of_mem hl
  have:=h i hi
  rw[atR_eq hi]at this
  simpa using this
theorem oddR_at {ls:List (List Int)} (h:oddR ls=false) {i:Nat} (hi:i < ls.length):(atR ls i).length=(atR ls 0).length:=by
  unfold oddR at h
  rw[List.any_eq_false]at h
  have:=h _ (atR_mem hi)
  simpa using this
theorem grow_upto {p:Nat→Prop} {k:Nat} (h:∀ j,j < k→p j) (hk:p k):∀ j,j < k+1→p j:=fun j hj=>by
  rcases Nat.lt_or_ge j k with h1 | h1
  · exact h j h1
  · obtain rfl:j=k:=by omega
    exact hk
set_option maxRecDepth 100000 in
set_option maxHeartbeats 4000000 in
theorem Tryz.mean1 {lo hh n c g a2n a2c:Nat} {a a2:Option Addr} {ls:List (List Int)} {w:World} (h:Mw lo hh w a n c ls) (hn:0 < n) (hb:BxA w g 131 #[.slice a n c]):
  Calls Tryz.prog 119 #[.slice a2 a2n a2c,.pointer (some ⟨g,0,none⟩)] w fun e w'=>e=.returned (.bool (decide (a2n≠(atR ls 0).length)))∧Ext w w':=by
 obtain⟨b,o,rfl,-,-⟩:=h.some hn
 obtain⟨ai,ci,hc,-⟩:=h.cell hn
 rw[Nat.add_zero]at hc
 have hk:=hb.cell 0 (v:=.slice (some ⟨b,o,none⟩) n c) rfl
 obtain⟨m,hm⟩:∃ m,m=(atR ls 0).length:=⟨_,rfl⟩
 rw[← hm]at hc ⊢
 have hnI:(0:Int) < (n:Int):=by omega
 clear hm h hb
 by_cases he:a2n=m
 ·subst he
  go_enter Tryz.func119,Tryz.ntmps119
  go_wp2;go_ret
  exact⟨ret_b (by simp),Ext.refl _⟩
 ·have hne:((a2n:Int) != (m:Int))=true:=by simp;omega
  have HD:Hid (decide (a2n≠m)=true):=Lib.hid (decide_eq_true he)
  clear he
  go_enter Tryz.func119,Tryz.ntmps119
  go_wp2;go_ret
  exact⟨ret_b HD.out.symm,Ext.refl _⟩
set_option maxRecDepth 100000 in
set_option maxHeartbeats 4000000 in
theorem Tryz.rowsOddAt {lo hh n c g:Nat} {a:Option Addr} {ls:List (List Int)} {w:World} (h:Mw lo hh w a n c ls) (hb:BxA w g 131 #[.slice a n c]):
  Calls Tryz.prog 125 #[.slice a n c,.func (.func 119) #[] #[.pointer (some ⟨g,0,none⟩)]] w fun e w'=>∃ r:Int,e=.returned (.int .i64 r)∧decide (0≤r)=oddR ls∧Ext w w':=by
 have hcap:=h.cap
 have hn:n≤9223372036854775807:=by omega
 have HL:=Lib.hid h.len
 clear hcap
 go_enter Tryz.func125,Tryz.ntmps125
 go_wp2_with fail
 go_loopw [8] (fun i wr=>∃ k:Nat,i=.int .i64 (k:Int)∧k≤n∧Hid (∀ j,j < k→(atR ls j).length=(atR ls 0).length)∧Ext w wr) (fun i _=>n - (intOf i).toNat)
 case atStart=>exact⟨0,rfl,by omega,Lib.hid (fun j hj=>absurd hj (by omega)),Ext.refl w⟩
 case round=>
  obtain⟨k,rfl,hk,HA,hX⟩:=hrel
  by_cases hlt:k < n
  ·have hltI:(k:Int) < (n:Int):=by omega
   have h2:=h.ext hX
   obtain⟨b,o,rfl,-,-⟩:=h2.some (by omega)
   obtain⟨ai,ci,hc,-⟩:=h2.cell hlt
   have hk63:(k:Int) < 9223372036854775807:=by omega
   have HP:Hid (0 < n):=Lib.hid (by omega)
   clear h
   by_cases hodd:(atR ls k).length=(atR ls 0).length
   ·have HX:Hid (decide ((atR ls k).length≠(atR ls 0).length)=false):=Lib.hid (by simpa using hodd)
    have HN:=Lib.hid hodd
    clear hodd
    go_wp2_with fail
    refine(Tryz.mean1 h2 HP.out (BxA.ext hb hX)).mono ?_
    rintro e W ⟨rfl,hE⟩
    rw[HX.out];go_wp2
    go_roundw
    case rel=>exact⟨k+1,by go_num,by omega,Lib.hid (grow_upto (p:=fun j=>(atR ls j).length=(atR ls 0).length) HA.out HN.out),hX.trans hE⟩
    case measure=>simp[intOf];omega
   ·have HX:Hid (decide ((atR ls k).length≠(atR ls 0).length)=true):=Lib.hid (decide_eq_true hodd)
    have HR:Hid (decide (0≤(k:Int))=oddR ls):=Lib.hid (by rw[oddR_true (by rw[HL.out];exact hlt) hodd];exact decide_eq_true (by omega))
    clear hodd
    go_wp2_with fail
    refine(Tryz.mean1 h2 HP.out (BxA.ext hb hX)).mono ?_
    rintro e W ⟨rfl,hE⟩
    rw[HX.out];go_wp2;go_ret
    exact⟨_,rfl,HR.out,hX.trans hE⟩
  ·have hge:¬ (k:Int) < (n:Int):=by omega
   have HR:Hid (decide (0≤(-1:Int))=oddR ls):=Lib.hid (by rw[oddR_false (fun i hi=>HA.out i (by have:=HL.out;omega))];rfl)
   clear h;go_wp2;go_ret
   exact⟨_,rfl,HR.out,hX⟩
set_option maxRecDepth 100000 in
set_option maxHeartbeats 4000000 in
theorem Tryz.rowsOdd {lo hh n c g:Nat} {a:Option Addr} {ls:List (List Int)} {w:World} (h:Mw lo hh w a n c ls) (hb:BxA w g 131 #[.slice a n c]):
  Calls Tryz.prog 118 #[.slice a n c,.func (.func 119) #[] #[.pointer (some ⟨g,0,none⟩)]] w fun e w'=>e=.returned (.bool (oddR ls))∧Ext w w':=by
 go_enter Tryz.func118,Tryz.ntmps118
 go_wp2_with fail
 refine(Tryz.rowsOddAt h hb).mono ?_
 rintro e W ⟨r,rfl,hr,hE⟩
 have HR:=Lib.hid hr
 clear hr h;go_wp2
 all_goals go_ret
 all_goals exact⟨by rw[← HR.out];simp_all,hE⟩
def idx (m:Nat):List Int:=(List.range m).map fun k:Nat=>(k:Int)
theorem idx_len (m:Nat):(idx m).length=m:=by simp[idx]
theorem idx_at {m k:Nat} (h:k < m):atL (idx m) k=(k:Int):=by
  rw[atL_eq (by rw[idx_len];exact h)]
  simp[idx]
set_option maxRecDepth 100000 in
set_option maxHeartbeats 8000000 in
theorem Tryz.meanYes {lo hh n c:Nat} {a:Option Addr} {ls:List (List Int)} {w:World} (h:Mw lo hh w a n c ls) (hn:0 < n) (hn2:n≤1000) (hm:(atR ls 0).length≤1000) (hhw:hh≤w.heap.size) (ho:oddR ls=false):
 Calls Tryz.prog 109 #[.slice a n c] w fun e w'=>∃ a' c',e=.returned (.tuple #[.slice a' (atR ls 0).length c',.int .i64 0])∧Iw w.heap.size w'.heap.size w' a' (atR ls 0).length c' (meanL ls)∧Ext w w':=by
 obtain⟨m,hm'⟩:∃ m,m=(atR ls 0).length:=⟨_,rfl⟩
 have HM:=Lib.hid hm'
 rw[← hm']at hm ⊢
 have HMM:=Lib.hid hm
 have HNN:=Lib.hid hn2
 have HH:=Lib.hid hhw
 have hwn:IntKind.u64.wrap (n:Int)=(n:Int):=by rw[IntKind.wrap_u64];omega
 have HNB:Hid (n < B64):=Lib.hid (by rw[B64_eq];omega)
 have hm63:m≤9223372036854775807:=by omega
 clear hm' hm hn2 hhw
 have hcap:=h.cap
 obtain⟨b,o,rfl,-,-⟩:=h.some hn
 have hn0:((n:Int)==0)=false:=by simp;omega
 have HO:=Lib.hid ho
 have HP:=Lib.hid hn
 have HL:=Lib.hid h.len
 have HI:=Lib.hid h.i64
 have h0:=h
 have HCP:=Lib.hid hcap
 clear ho hcap hn
 obtain⟨W0,hW0⟩:∃ W0,W0=(w.alloc (.cells #[.slice (some ⟨b,o,none⟩) n c] 131)):=⟨_,rfl⟩
 have E0:Ext w W0:=by rw[hW0];exact(Ext.alloc1 w (.cells #[.slice (some ⟨b,o,none⟩) n c] 131))
 replace h:Mw lo hh W0 (some ⟨b,o,none⟩) n c ls:=h.ext E0
 have p1:BxA W0 w.heap.size 131 #[.slice (some ⟨b,o,none⟩) n c]:=by rw[hW0];exact(BxA.new w 131 #[.slice (some ⟨b,o,none⟩) n c])
 go_enter Tryz.func109,Tryz.ntmps109
 have hmf:∀ (fn:Fn) (first cap:Array Value) (W:World),(Instr.makeFunc fn first cap).run Tryz.prog W=.ok (.func fn first cap) W:=fun _ _ _ _=>rfl
 have kp1_0:=p1.cell 0 (v:=.slice (some ⟨b,o,none⟩) n c) rfl
 go_wp2_with fail
 rw[← hW0]
 clear hW0
 clear kp1_0
 refine(Tryz.rowsOdd h p1).mono ?_
 rintro e Wo ⟨rfl,hE⟩
 rw[HO.out]
 replace E0:=(Ext.trans E0 hE)
 replace h:=(h.ext hE)
 replace p1:=(p1.ext hE)
 clear hE
 have kp1_0:=p1.cell 0 (v:=.slice (some ⟨b,o,none⟩) n c) rfl
 go_wp2_with fail
 clear kp1_0
 refine(Tryz.natOf n _ HNB.out).mono ?_
 rintro e W4 ⟨v4,rfl,h4,hE,-⟩
 replace E0:=(Ext.trans E0 hE)
 replace h:=(h.ext hE)
 replace p1:=(p1.ext hE)
 clear hE
 obtain⟨ai0,ci0,hc0,-⟩:=h.cell HP.out
 rw[Nat.add_zero,← HM.out]at hc0
 have hnP:(0:Int) < (n:Int):=by have:=HP.out;omega
 have hmk:=Tryz.makeR m HMM.out W4
 obtain⟨W6,hW6⟩:∃ W6,W6=W4.alloc (.cells (madeCells #[.int .i64 0] m) 2):=⟨_,rfl⟩
 obtain⟨g,hg⟩:∃ g,g=W4.heap.size:=⟨_,rfl⟩
 have row:RowI W6 g 2 (padL (fun k=>meanV ls k.toNat) (idx m) 0):=by rw[hW6,hg,padL_zero,idx_len];exact RowI.made W4 m 2
 have hE:Ext W4 W6:=by rw[hW6];exact Ext.alloc1 _ _
 have HG:Hid (w.heap.size≤g∧w.heap.size≠g):=Lib.hid (by have h1:=Ext.size E0;have h2:=p1.lt;omega)
 rw[← hW6,← hg]at hmk
 clear hg hW6
 have kp1_0:=p1.cell 0 (v:=.slice (some ⟨b,o,none⟩) n c) rfl
 go_wp2_with fail
 clear kp1_0
 replace E0:=(Ext.trans E0 hE)
 replace h:=(h.ext hE)
 replace p1:=(p1.ext hE)
 replace h4:=(h4.ext hE)
 clear hE hc0 hmk
 have ltg0:=row.lt
 go_loopw [29] (fun i wr=>∃ k:Nat,i=.int .i64 (k:Int)∧k≤m∧RowI wr g 2 (padL (fun k=>meanV ls k.toNat) (idx m) k)∧Nw wr v4 n∧BxA wr w.heap.size 131 #[.slice (some ⟨b,o,none⟩) n c]∧Ext w wr) (fun i _=>m - (intOf i).toNat)
 case atStart=>exact⟨0,rfl,by omega,row,h4,p1,E0⟩
 case round=>
  clear row h4 p1 E0 h ltg0
  obtain⟨k,rfl,hk,row,h4,p1,E0⟩:=hrel
  by_cases hlt:k < m
  ·   have hltI:(k:Int) < (m:Int):=by omega
      have HK:=Lib.hid hlt
      have h:=h0.ext E0
      have ltg:=row.lt
      obtain⟨W7,hW7⟩:∃ W7,W7=wr.alloc (.cells #[.bool false,.slice none 0 0] 43):=⟨_,rfl⟩
      obtain⟨g7,hg7⟩:∃ g7,g7=wr.heap.size:=⟨_,rfl⟩
      have p7:Bx2 W7 g7 43 (.bool false) (.slice none 0 0):=by rw[hW7,hg7];exact Bx2.new _ _ _ _
      have hE:Ext wr W7:=by rw[hW7];exact Ext.alloc1 _ _
      have HG7:Hid (w.heap.size < g7∧g < g7):=Lib.hid (by have h1:=Ext.size E0;have h2:=p1.lt;omega)
      have hs:Zw W7 (.agg #[.bool false,.slice none 0 0]) (colS (ls.take 0) k):=Zw.nought W7
      go_upto_region 11 with (fail)
      rw[← hW7,← hg7]
      replace E0:=(Ext.trans E0 hE)
      replace p1:=(p1.ext hE)
      replace h4:=(h4.ext hE)
      replace row:=(row.ext hE)
      replace h:=(h.ext hE)
      clear hE ltg hg7 hW7
      have kp1_0:=p1.cell 0 (v:=.slice (some ⟨b,o,none⟩) n c) rfl
      go_wp2_with fail
      clear kp1_0
      go_loopw [34] (fun i wq=>∃ (j:Nat) (bs:Bool) (az:Option Addr) (ns cs:Nat),i=.int .i64 (j:Int)∧j≤n∧Bx2 wq g7 43 (.bool bs) (.slice az ns cs)∧Zw wq (.agg #[.bool bs,.slice az ns cs]) (colS (ls.take j) k)∧RowI wq g 2 (padL (fun k=>meanV ls k.toNat) (idx m) k)∧Nw wq v4 n∧BxA wq w.heap.size 131 #[.slice (some ⟨b,o,none⟩) n c]∧Ext w wq) (fun i _=>n - (intOf i).toNat)
      case atStart=>exact⟨0,_,_,_,_,rfl,by omega,p7,hs,row,h4,p1,E0⟩
      case round=>
    clear p7 hs row h4 p1 E0 h
    obtain⟨j,bs,az,ns,cs,rfl,hj,p7,hs,row,h4,p1,E0⟩:=hrel
    by_cases hjt:j < n
    · have hjI:(j:Int) < (n:Int):=by omega
      have h:=h0.ext E0
      obtain⟨ai,ci,hc,hi⟩:=h.cell hjt
      have HJ:Hid (j < ls.length):=Lib.hid (by have:=HL.out;omega)
      have hel:=oddR_at HO.out HJ.out
      rw[← HM.out]at hel
      rw[hel]at hc hi
      have hi2:=hi.iw (by omega)
      obtain⟨bi,oi,rfl,-,-⟩:=hi2.some (by omega)
      have HX:Hid (I64 (atL (atR ls j) k)):=Lib.hid (hi2.i64 HK.out)
      have HST:Hid (colS (ls.take j) k+atL (atR ls j) k=colS (ls.take (j+1)) k):=Lib.hid (colS_take HJ.out k).symm
      have SS:Hid (Sm 3 (colS (ls.take j) k).natAbs):=Lib.hid ((colS_sm (fun x hx=>by obtain⟨l,hl,hx⟩:=List.mem_flatten.1 hx;exact HI.out x (List.mem_flatten.2 ⟨l,List.mem_of_mem_take hl,hx⟩)) (by have:=HL.out;have:=HNN.out;simp;omega) k).mono (by omega))
      have SX:Hid (Sm 3 (atL (atR ls j) k).natAbs):=Lib.hid (by have h1:=HX.out;unfold I64 at h1;unfold Sm;rw[B64_eq];omega)
      have hj63:(j:Int) < 9223372036854775807:=by have:=HCP.out;omega
      have hk63:(k:Int) < 9223372036854775807:=by omega
      have hk64:k < 9223372036854775807:=by omega
      clear hel hi
      clear h
      have kp1_0:=p1.cell 0 (v:=.slice (some ⟨b,o,none⟩) n c) rfl
      have kp7_0:=p7.cell0
      have kp7_1:=p7.cell1
      go_upto_region 14 with (fail)
      clear kp1_0 kp7_0 kp7_1
      clear hc
      have hG7:=HG7.out
      have hH7:=HH.out
      have hr:Rest (fun W=>Bx2 W g7 43 (.bool bs) (.slice az ns cs)) g7:=⟨fun W W1 h hE=>h.ext hE⟩
      have hRR:=p7
      have fop7:=p7.form
      clear p7
      have ltf:=fop7.lt
      have ltp1:=p1.lt
      have szw1:=Ext.size E0
      refine region_go3 [.one fun v _=>v=.agg #[.bool bs,.slice az ns cs],
          .one fun v _=>v=.slice (some ⟨bi,oi,none⟩) m ci,
          .one fun v _=>v=.int .i64 (k:Int),
          .one fun v _=>v=.pointer (some ⟨bi,oi+k,none⟩),
          .one fun v _=>v=.int .i64 (atL (atR ls j) k),
          .one fun v W=>Zw W v (atL (atR ls j) k),
          .one fun v W=>Zw W v (colS (ls.take j) k+atL (atR ls j) k),
          .two 6 (fun r _ W=>At2 g7 43 r W)]
        (fun W=>Ext w W∧BxA W w.heap.size 131 #[.slice (some ⟨b,o,none⟩) n c]∧Nw W v4 n∧RowI W g 2 (padL (fun k=>meanV ls k.toNat) (idx m) k)∧Form W g7 43 2∧Zw W (.agg #[.bool bs,.slice az ns cs]) (colS (ls.take j) k)∧Iw lo hh W (some ⟨bi,oi,none⟩) m ci (atR ls j)∧wr.heap.size≤W.heap.size) wr.heap.size [] [Tag.any,Tag.any,Tag.any,Tag.any,Tag.any,Tag.any,Tag.any,Tag.old (g7)] ⟨Good.is _,Good.is _,Good.is _,Good.is _,Good.is _,Good.zed _,Good.zed _,tag_at2,trivial⟩ (fun g0 hg=>by simp at hg;omega)
        (fun W W1 hS hE=>⟨(Ext.trans hS.1 hE),(hS.2.1.ext hE),(hS.2.2.1.ext hE),(hS.2.2.2.1.ext hE),(hS.2.2.2.2.1.ext hE),(hS.2.2.2.2.2.1.ext hE),(hS.2.2.2.2.2.2.1.ext hE),(Nat.le_trans hS.2.2.2.2.2.2.2 (Ext.size hE))⟩) ⟨E0,p1,h4,row,fop7,hs,hi2,Nat.le_refl _⟩ (fun m hm=>by simp at hm) 7 hr hRR (by kernel_rfl) (by kernel_rfl) (by kernel_rfl) (by kernel_rfl) (A:=?A1) ?hA1 ?howe1 ?hfin1
      case hA1=>
        intro vs
        simp only[putAll,Act.put,List.setIfInBounds_toArray,List.set_cons_zero,List.set_cons_succ,Nat.zero_add,Nat.reduceAdd]
        exact rfl
      case howe1=>
        clear E0 p1 h4 row fop7 hs hi2
        intro hf
        refine⟨owesR3 0 [] hf hr rfl rfl (by kernel_rfl) rfl rfl rfl (by kernel_rfl) ?_,owesM3 1 [] hf hr rfl rfl rfl (by kernel_rfl) ?_,owesM3 2 [] hf hr rfl rfl rfl (by kernel_rfl) ?_,owesM3 3 [1,2] hf hr rfl rfl rfl (by kernel_rfl) ?_,owesM3 4 [3] hf hr rfl rfl rfl (by kernel_rfl) ?_,owesM3 5 [4] hf hr rfl rfl rfl (by kernel_rfl) ?_,owesM3 6 [0,5] hf hr rfl rfl rfl (by kernel_rfl) ?_,owesL3 (g7) [6] hf rfl (by omega) ⟨.inr trivial,.inr trivial,.inr trivial,.inr trivial,.inr trivial,.inr trivial,.inr trivial,.inl rfl,trivial⟩ rfl (by kernel_rfl) ?_,trivial⟩
        all_goals intro vs W hS hp hx KO hKO
        all_goals simp only[Act.put,List.setIfInBounds_toArray,List.set_cons_zero,List.set_cons_succ]at hKO
        · have hb0:Bx2 W g7 43 (.bool bs) (.slice az ns cs):=hS.2
          have fc0:=hb0.cell0
          have fc1:=hb0.cell1
          clear hb0
          go_simp
          exact hKO _ W (Ext.refl W) rfl
        · go_simp
          exact hKO _ W (Ext.refl W) rfl
        · go_simp
          exact hKO _ W (Ext.refl W) rfl
        · have e1:=isOf hp.1
          have e2:=isOf hp.2.1
          simp only[e1,e2]at hKO
          go_simp
          exact hKO _ W (Ext.refl W) rfl
        · have e3:=isOf hp.1
          simp only[e3]at hKO
          have fc:=Iw.cell (hS.2.2.2.2.2.2.1) (i:=k) (by omega)
          go_simp
          exact hKO _ W (Ext.refl W) rfl
        · have e4:=isOf hp.1
          simp only[e4]at hKO
          go_simp
          refine(Tryz.zedOf _ _ HX.out.1 HX.out.2).mono ?_
          rintro e W1 ⟨v,rfl,hv,hE⟩
          exact hKO _ W1 hE hv
        · have e0:=isOf hp.1
          have q5:=hp.2.1
          simp only[e0]at hKO
          go_simp
          refine(Tryz.zedAdd (hS.2.2.2.2.2.1) q5 SS.out SX.out (by omega)).mono ?_
          rintro e W1 ⟨v,rfl,hv,hE⟩
          exact hKO _ W1 hE hv
        · have q6:=hp.1
          have qr:=q6
          obtain⟨b3,a3,n3,c3,er,-,-⟩:=qr
          replace er:vs 6=_:=er
          have hf:=hS.2.2.2.2.1
          obtain⟨x0_0,x0_1,hx2,hno⟩:=hf.bx2
          have r0:=hx2.froz0
          have t0:=hx2.cell0
          have r1:=hx2.froz1
          have t1:=hx2.cell1
          have hw:=Wr.set2 hx2 hno b3 a3 n3 c3
          have hq:=hx2.set (.bool b3) (.slice a3 n3 c3)
          simp only[er]at hKO
          clear hf hx2
          go_simp
          exact hKO _ hw ⟨(Ext.wr hS.1 hw (by omega)),(hS.2.1.wr hw (by omega)),(hS.2.2.1.wr hw),(hS.2.2.2.1.wr hw (by omega)),(hS.2.2.2.2.1.wr hw),(hS.2.2.2.2.2.1.wr hw),(hS.2.2.2.2.2.2.1.wr hw (by omega)),(Nat.le_trans hS.2.2.2.2.2.2.2 hw.apart.size)⟩ ⟨_,_,_,_,er,hq⟩
      intro vs W1 hS hM hp
      clear szw1 E0 p1 h4 row fop7 hs hi2
      obtain⟨E0,p1,h4,row,fop7,hs,hi2,sz1⟩:=hS
      obtain⟨h1_0,h1_1,h1_2,h1_3,h1_4,h1_5,h1_6,h1_7,-⟩:=hp
      have hh:=h1_7
      obtain⟨bs2,as2,ns2,cs2,ers2,p7⟩:=hh
      replace ers2:vs 6=_:=ers2
      clear fop7
      have hzs2:Zw W1 (vs 6) (colS (ls.take j) k+atL (atR ls j) k):=h1_6
      rw[ers2]at hzs2
      replace h1_0:vs 0=.agg #[.bool bs,.slice az ns cs]:=h1_0
      replace h1_1:vs 1=.slice (some ⟨bi,oi,none⟩) m ci:=h1_1
      replace h1_2:vs 2=.int .i64 (k:Int):=h1_2
      replace h1_3:vs 3=.pointer (some ⟨bi,oi+k,none⟩):=h1_3
      replace h1_4:vs 4=.int .i64 (atL (atR ls j) k):=h1_4
      clear hM
      simp only[ers2,h1_0,h1_1,h1_2,h1_3,h1_4]
      replace h1_5:Zw W1 (vs 5) (atL (atR ls j) k):=h1_5
      generalize vs 5=u1_5 at h1_5 ⊢
      replace h1_6:Zw W1 (vs 6) (colS (ls.take j) k+atL (atR ls j) k):=h1_6
      generalize vs 6=u1_6 at h1_6 ⊢
      clear ers2 h1_0 h1_1 h1_2 h1_3 h1_4 h1_7
      clear hr hRR ltf
      clear hG7 hH7
      rw[HST.out]at hzs2
      go_wp2
      go_roundw
      case rel=>exact⟨j+1,_,_,_,_,by go_num,by omega,p7,hzs2,row,h4,p1,E0⟩
      case measure=>simp[intOf];omega
    · have hge:¬ (j:Int) < (n:Int):=by omega
      have HTJ:Hid (ls.take j=ls):=Lib.hid (List.take_of_length_le (by have:=HL.out;omega))
      rw[HTJ.out]at hs
      have SS:Hid (Sm 3 (colS ls k).natAbs∧Sm 3 n∧n≠0):=Lib.hid ⟨(colS_sm HI.out (by have:=HL.out;have:=HNN.out;omega) k).mono (by omega),by have:=HNN.out;unfold Sm;rw[B64_eq];omega,by have:=HP.out;omega⟩
      have kp1_0:=p1.cell 0 (v:=.slice (some ⟨b,o,none⟩) n c) rfl
      have kp7_0:=p7.cell0
      have kp7_1:=p7.cell1
      go_wp2_with fail
      clear kp1_0 kp7_0 kp7_1
      refine(Tryz.ratMake hs h4 SS.out.1 SS.out.2.1 (by omega) SS.out.2.2).mono ?_
      rintro e Wm ⟨vr,rfl,hr,hE⟩
      obtain⟨b9,a9,n9,c9,d9,m9,o9,rfl,q9⟩:∃ b a n c d m o,vr=.agg #[.bool b,.slice a n c,.slice d m o]∧True:=let ⟨b,a,n,c,d,m,o,e,_⟩:=hr;⟨b,a,n,c,d,m,o,e,trivial⟩
      clear q9
      replace E0:=(Ext.trans E0 hE)
      replace p1:=(p1.ext hE)
      replace h4:=(h4.ext hE)
      replace row:=(row.ext hE)
      replace p7:=(p7.ext hE)
      replace hs:=(hs.ext hE)
      clear hE
      clear p7 hs
      have ltp:=p1.lt
      have SR:Hid (SmR 3 (mkRat (colS ls k) n)):=Lib.hid (SmR.mk SS.out.1 SS.out.2.1 SS.out.2.2)
      have HV:Hid (fitV (nearR (mkRat (colS ls k) n*P2 0))=meanV ls k):=Lib.hid (by unfold meanV;rw[HL.out])
      obtain⟨W10,hW10⟩:∃ W10,W10=Wm.alloc (.cells #[.bool b9,.slice a9 n9 c9,.slice d9 m9 o9] 45):=⟨_,rfl⟩
      obtain⟨g10,hg10⟩:∃ g10,g10=Wm.heap.size:=⟨_,rfl⟩
      have p10:Bx3 W10 g10 45 (.bool b9) (.slice a9 n9 c9) (.slice d9 m9 o9):=by rw[hW10,hg10];exact Bx3.new _ _ _ _ _
      have hE:Ext Wm W10:=by rw[hW10];exact Ext.alloc1 _ _
      have kq0:=p10.cell0
      have kq1:=p10.cell1
      have kq2:=p10.cell2
      rw[hW10,hg10]at kq0 kq1 kq2
      have kp1_0:=p1.cell 0 (v:=.slice (some ⟨b,o,none⟩) n c) rfl
      go_wp2_with fail
      rw[← hW10]
      clear kp1_0
      replace E0:=(Ext.trans E0 hE)
      replace p1:=(p1.ext hE)
      replace h4:=(h4.ext hE)
      replace row:=(row.ext hE)
      replace hr:=(hr.ext hE)
      clear hE kq0 kq1 kq2 p10
      refine(Tryz.fixOf hr SR.out (by omega) 0 (by omega) HV.out rfl).mono ?_
      rintro e Wf ⟨rfl,hE⟩
      replace E0:=(Ext.trans E0 hE)
      replace p1:=(p1.ext hE)
      replace h4:=(h4.ext hE)
      replace row:=(row.ext hE)
      replace hr:=(hr.ext hE)
      clear hE hr ltp
      have HKL:Hid (k < (idx m).length∧(padL (fun k=>meanV ls k.toNat) (idx m) k).length=(idx m).length):=Lib.hid ⟨by rw[idx_len];exact HK.out,padL_len _ (by rw[idx_len];exact Nat.le_of_lt HK.out)⟩
      have fz:=row.froz k
      have rc:=row.cell (i:=k) (by rw[HKL.out.2];exact HKL.out.1)
      have hw:=Wr.row row k (meanV ls k)
      have r2:=row.set k (meanV ls k)
      obtain⟨W2,hW2⟩:∃ W2,W2=Wf.setCell ⟨g,k,none⟩ (.int .i64 (meanV ls k)):=⟨_,rfl⟩
      rw[← hW2]at hw r2
      have hst:=padL_set (fun k=>meanV ls k.toNat) HKL.out.1
      rw[idx_at HK.out,show ((k:Int)).toNat=k from rfl]at hst
      rw[hst]at r2
      have E2:Ext w W2:=Ext.wr E0 hw HG.out.1
      replace h4:=h4.wr hw
      replace p1:=BxA.wr p1 hw HG.out.2
      have hk63:(k:Int) < 9223372036854775807:=by omega
      clear hst hw E0 row
      go_wp2
      rw[← hW2]
      go_roundw
      case rel=>exact⟨k+1,by go_num,by omega,r2,h4,p1,E2⟩
      case measure=>simp[intOf];omega
  · have hge:¬ (k:Int) < (m:Int):=by omega
    have HE:Hid (padL (fun k=>meanV ls k.toNat) (idx m) k=meanL ls):=Lib.hid (by
     rw[show k=(idx m).length by rw[idx_len];omega,padL_all]
     unfold idx meanL
     rw[List.map_map,HM.out]
     rfl)
    rw[HE.out]at row
    have hi:Iw w.heap.size wr.heap.size wr (some ⟨g,0,none⟩) m m (meanL ls):=(row.iw (fun x hx=>by obtain⟨y,-,rfl⟩:=List.mem_map.1 hx;exact fitV_in64 _) (by unfold meanL;rw[List.length_map,List.length_range,← HM.out]) (by omega)).mono HG.out.1 row.lt
    clear h0 row p1 h4;go_wp2;go_ret2
    exact⟨_,_,rfl,hi,E0⟩
end Go.Rt
namespace Go.Rt
open Go Go.RowKit Go.Proofs
end Go.Rt
namespace Go.Rt
open Go Go.RowKit Go.Proofs
def InfoM (P:Program) (e:TypeId):Prop:=(P.info? e).map (fun i=>(i.zero,i.size,i.bytes))=some (some (.slice none 0 0),1,24)
theorem Tryz.infoM:InfoM Go.Proofs.Tryz.prog 25:=by unfold InfoM;kernel_rfl
theorem InfoM.get {P:Program} {e:TypeId} (hi:InfoM P e):∃ i,P.info? e=some i∧i.zero=some (.slice none 0 0)∧i.size=1∧i.bytes=24:=by
  unfold InfoM at hi
  cases hq:P.info? e with
  | none=>rw[hq]at hi;cases hi
  | some i=>rw[hq]at hi;simp at hi;exact⟨i,rfl,hi.1,hi.2.1,hi.2.2⟩
def OwnV (W:World) (base:Nat) (e:TypeId) (v:Value) (vs:List Value):Prop:=W.ownsRow base e 1 v vs.length vs
theorem OwnV.ext {w w':World} {base:Nat} {e:TypeId} {v:Value} {l:List Value} (h:OwnV w base e v l) (hx:Ext w w'):OwnV w' base e v l:=by
  refine⟨h.1,?_⟩
  rcases h.2 with hn | ⟨g,cap,cur,rfl,hb,hg,rest⟩
  · exact .inl hn
  · exact .inr ⟨g,cap,cur,rfl,hb,(Below.block hx g (Array.getElem?_eq_some_iff.1 hg).1).trans hg,rest⟩
theorem OwnV.kept {w w':World} {base:Nat} {e:TypeId} {v:Value} {l:List Value} {row:Option Nat} (h:OwnV w base e v l) (hg:w.grownBy w' row) (hn:v.ownBlock=none∨v.ownBlock≠row):OwnV w' base e v l:=World.ownsRow.kept h hg hn
theorem OwnI.kept {w w':World} {base:Nat} {e:TypeId} {v:Value} {l:List Int} {row:Option Nat} (h:OwnI w base e v l) (hg:w.grownBy w' row) (hn:v.ownBlock=none∨v.ownBlock≠row):OwnI w' base e v l:=World.ownsRow.kept h hg hn
theorem OwnV.block {W:World} {base:Nat} {e:TypeId} {v:Value} {l:List Value} (h:OwnV W base e v l):∀ g,v.ownBlock=some g→base≤g∧g < W.heap.size:=by
  intro g hg
  rcases h.2 with ⟨rfl,-⟩ | ⟨b,cap,cur,rfl,hb,hk,-⟩
  · cases hg
  · cases hg
    exact⟨hb,(Array.getElem?_eq_some_iff.1 hk).1⟩
theorem Iz.grown {lo hi:Nat} {w w':World} {a:Option Addr} {n c:Nat} {l:List Int} {row:Option Nat} (h:Iz lo hi w a n c l) (hg:w.grownBy w' row) (hr:∀ g,row=some g→g < lo∨hi≤g):Iz lo hi w' a n c l:=by
  rcases h with h | h
  · refine .inl ⟨h.len,?_,h.in64⟩
    obtain⟨b,o,h1,h2⟩:=h.lies
    refine⟨b,o,⟨h1.1,h1.2.1,h1.2.2.1,fun i hi'=>?_⟩,h2⟩
    have e:=h2 (by omega)
    have hc:=h1.cell hi'
    rw[← hc]
    exact(hg.cell hc (fun e=>by have:=hr b e.symm;omega)).trans hc.symm
  · exact .inr h
theorem OwnV.mw {W:World} {base lo hh:Nat} {e:TypeId} {v:Value} {vs:List Value} {ls:List (List Int)} (h:OwnV W base e v vs) (hl:ls.length=vs.length) (hb:∀ g,v.ownBlock=some g→lo≤g∧g < hh)
    (hv:∀ i,i < vs.length→∃ ai ci,vs[i]? = some (.slice ai (atR ls i).length ci)∧Iz lo hh W ai (atR ls i).length ci (atR ls i)):∃ a c,v=.slice a ls.length c∧Mw lo hh W a ls.length c ls:=by
  rcases h.2 with ⟨rfl,hn⟩ | ⟨g,cap,cur,rfl,hbg,hg,hc,hm,hs,ht⟩
  · obtain rfl:ls=[]:=List.length_eq_zero_iff.1 (by omega)
    exact⟨none,0,rfl,Mw.nil _ _ _⟩
  · rw[← hl]
    refine⟨_,_,rfl,⟨rfl,⟨g,0,fun i=>vs.getD i (.slice none 0 0),⟨.inl rfl,by omega,hm,fun i hi=>?_⟩,fun _=>hb g rfl,fun i hi=>?_⟩⟩⟩
    · obtain⟨ai,ci,hv1,-⟩:=hv i (by omega)
      have h2:cur.toList[i]? = some (.slice ai (atR ls i).length ci):=by
        have h3:(cur.toList.take (vs.length*1))[i]? = some (.slice ai (atR ls i).length ci):=by rw[ht,hv1]
        rw[List.getElem?_take,if_pos (by omega)]at h3
        exact h3
      rw[Nat.zero_add]
      simp[World.cell?,hg]
      rw[← Array.getElem?_toList,h2,hv1]
      rfl
    · obtain⟨ai,ci,hv1,k⟩:=hv i (by omega)
      refine⟨ai,ci,?_,k⟩
      show vs.getD i (.slice none 0 0)=_
      rw[List.getD_eq_getElem?_getD,hv1]
      rfl
section
variable {P:Program} {t e:TypeId} (ht:P.underlying t=.some (.slice e)) (hi:InfoM P e)
include ht hi
theorem append_v {w:World} {ops:Array Oper} {rest:List Oper} {o:Oper} {a:Act} {Q:Exit→Act→World→Prop} (hgd:o.guard=none) (s x:Operand)
    (ho:o.op=.call { callee:=.builtin .append,args:=#[s,x],argTypes:=#[t,t] }) (base:Nat) (v:Value) (vs:List Value) (ay:Option Addr) (ny cy:Nat)
    (hs:a.eval s=v) (hx:a.eval x=.slice (.some ⟨w.heap.size,0,none⟩) 1 1) (hown:OwnV w base e v vs) (hlen:vs.length≤1099511627776) (hb:base≤w.heap.size)
    (h:∀ g cap w',OwnV w' base e (.slice (.some ⟨g,0,none⟩) (vs.length+1) cap) (vs++[.slice ay ny cy])→(w.alloc (.cells #[.slice ay ny cy] e)).grownBy w' v.ownBlock→(v.ownBlock=.some g∨g=w.heap.size+1)→g < w'.heap.size→wpList P ops Q rest (a.put o.dst (.slice (.some ⟨g,0,none⟩) (vs.length+1) cap)) w'):
    wpList P ops Q (o :: rest) a (w.alloc (.cells #[.slice ay ny cy] e)):=by
  obtain⟨i0,h1,h2,h3,h4⟩:=hi.get
  refine wpList_append_lies _ hgd s x t ho base e i0 (.slice none 0 0) 1 24 ht h1 h2 h3 h4 rfl (by decide) v vs.length vs hs (World.ownsRow.alloc hown _) ⟨w.heap.size,0,none⟩ 1 1 [.slice ay ny cy] hx rfl ?_ ?_ (by decide) (by simp[maxLen];omega) (by omega) (by simp;omega) (w.heap.size+1) (by simp) ?_
  · intro j u hj
    match j,hj with
    | 0,hj=>simp at hj;subst hj;simp[Addr.add]
  · intro u hu;simp at hu;subst hu;rfl
  · intro g cap w' ho' hg' hat hlt
    refine h g cap w' ?_ hg' hat hlt
    unfold OwnV
    rw[List.length_append]
    exact ho'
end
end Go.Rt
