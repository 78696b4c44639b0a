/-
  Adafactor: updates by the program.
  Adafactor: the deferred closure; moments of either way; no second moment is below nought.
  Adafactor: a step of rows by the program: made, or refused.
-/
import Derived.Test.YtiebflipijcnfaaGreatAdaK
namespace Go.Rt
open Go Go.RowKit Go.Proofs
theorem RowG.put {lo hi n c g i:Nat} {W:World} {e:TypeId} {l:List Int} (h:RowG lo hi W e (.slice (some ⟨g,0,none⟩) n c) l) (hil:i < l.length) (x:Int) (hx:I64 x):
  W.cell? ⟨g,i,none⟩=some (.int .i64 (atL l i))∧W.frozen? ⟨g,i,none⟩=false∧Wr g W (W.setCell ⟨g,i,none⟩ (.int .i64 x))∧RowG lo hi (W.setCell ⟨g,i,none⟩ (.int .i64 x)) e (.slice (some ⟨g,0,none⟩) n c) (l.set i x):=by
 rcases h.1 with ⟨h1,-⟩ | ⟨⟨g2,cap,cur,e1,h2,h3,h4,h5,h6,h7,h8⟩,hk⟩
 ·cases h1
 ·cases e1
  have hb:BxA W g e cur:=h3
  have hcl:cur.toList[i]? = some (.int .i64 (atL l i)):=by
   have h9:(cur.toList.take l.length)[i]? = some (.int .i64 (atL l i)):=by rw[h8,List.getElem?_map,List.getElem?_eq_getElem hil,atL_eq hil];rfl
   rw[List.getElem?_take,if_pos hil]at h9
   exact h9
  have hn:NoU (cur.setIfInBounds i (.int .i64 x)):=by
   intro j u hu k
   rw[Array.getElem?_setIfInBounds]at hu
   split at hu
   ·split at hu
    ·simp at hu;subst hu;intro q;cases q
    ·cases hu
   ·exact h7 j u hu k
  refine⟨hb.cell i (by rw[← Array.getElem?_toList];exact hcl),hb.frozN i,Wr.putN hb h7 i _ hn,.inr ⟨⟨g,c,cur.setIfInBounds i (.int .i64 x),by rw[List.length_set],h2,hb.putN i _,by rw[List.length_set];exact h4,h5,by simp[h6],hn,?_⟩,fun q hq=>hk q hq⟩,fun y hy=>?_⟩
  ·rw[List.length_set,Array.toList_setIfInBounds,List.take_set,h8,List.map_set]
  ·rcases List.mem_or_eq_of_mem_set hy with hy | rfl
   ·exact h.2 y hy
   ·exact hx
def mixL (n k:Nat) (f g:Nat→Int):List Int:=outL n fun i=>if i < k then f i else g i
theorem mixL_len (n k:Nat) (f g:Nat→Int):(mixL n k f g).length=n:=outL_len _ _
theorem mixL_zero (n:Nat) (f g:Nat→Int):mixL n 0 f g=outL n g:=by unfold mixL;congr 1
theorem outL_congrV {n:Nat} {f g:Nat→Int} (h:∀ i,i < n→f i=g i):outL n f=outL n g:=by
 unfold outL
 exact List.map_congr_left fun i hi=>h i (List.mem_range.1 hi)
theorem mixL_full (n:Nat) (f g:Nat→Int):mixL n n f g=outL n f:=outL_congrV fun _ hi=>if_pos hi
theorem mixL_at {n k i:Nat} {f g:Nat→Int} (hi:i < n) (hk:¬ i < k):atL (mixL n k f g) i=g i:=by
 unfold mixL
 rw[outL_at hi,if_neg hk]
theorem mixL_set {n k:Nat} {f g:Nat→Int} {x:Int} (hx:f k=x):(mixL n k f g).set k x=mixL n (k+1) f g:=by
 apply List.ext_getElem
 ·simp[mixL,outL]
 ·intro i h1 h2
  have hn:i < n:=by simpa [mixL,outL] using h2
  rw[List.getElem_set]
  simp only[mixL,outL,List.getElem_map,List.getElem_range]
  by_cases e:k=i
  ·subst e
   rw[if_pos rfl,if_pos (by omega),hx]
  ·rw[if_neg e]
   by_cases q:i < k
   ·rw[if_pos q,if_pos (by omega)]
   ·rw[if_neg q,if_neg (by omega)]
theorem colS_ones (l:List Int):colS (l.map fun x=>[x]) 0=l.sum:=by
 unfold colS
 rw[List.map_map]
 congr 1
 exact(List.map_congr_left fun x _=>rfl).trans (List.map_id l)
theorem sum_nonneg {l:List Int} (h:∀ x ∈ l,0≤x):0≤l.sum:=by
 induction l with
 | nil=>simp
 | cons x l ih=>
  have h1:=ih fun y hy=>h y (List.mem_cons_of_mem _ hy)
  have h2:=h x List.mem_cons_self
  rw[List.sum_cons]
  omega
theorem meanZ_nonneg {l:List Int} (hl:0 < l.length) (h:∀ x ∈ l,0≤x):0≤meanZ l:=by
 unfold meanZ
 unfold meanV fitV
 split
 ·have hs:=sum_nonneg h
  rw[colS_ones]
  have hm:=mean_mid (S:=l.sum) (n:=(l.map fun x=>[x]).length) (lo:=0) (hi:=l.sum) (by simpa using hl) (by simpa using hs) (by
   have h1:(1:Int)≤((l.map fun x=>[x]).length:Int):=by simp;omega
   have:=Int.mul_le_mul_of_nonneg_right h1 hs
   omega)
  exact hm.1
 ·omega
theorem sqZ_nonneg (K:Nat) (x:Int):0≤mulZ K x x:=by
 refine ratio_nonneg (Nat.pow_pos (by omega)) ?_
 rcases Int.le_total 0 x with hs | hs
 ·exact Int.mul_nonneg hs hs
 ·exact Int.mul_nonneg_of_nonpos_of_nonpos hs hs
section
variable {K:Nat} {A:AdaP} {lg ls:List Int}
theorem up_nil (h:lg.length=0):upB K A lg ls=true:=by
 unfold upB allB
 rw[h]
 rfl
theorem uL_nil (h:lg.length=0):uL K A lg ls=[]:=by
 unfold uL outL
 rw[h]
 rfl
theorem up_no1 {n i:Nat} (hn:lg.length=n) (hi:i < n) (h:xF K lg ls i=none):upB K A lg ls=false:=by
 unfold upB
 rw[allB_no (i:=i) (by omega) h]
 rfl
theorem xL_at {n i:Nat} {x:Int} (hn:lg.length=n) (hi:i < n) (h:xF K lg ls i=some x):atL (xL K lg ls) i=x:=by
 unfold xL
 rw[outL_at (by omega),valF_some h]
theorem up_no2 {n i:Nat} {x:Int} (hn:lg.length=n) (hi:i < n) (h:xF K lg ls i=some x) (h2:mulO K x x=none):upB K A lg ls=false:=by
 unfold upB
 rw[allB_no (f:=yF K (xL K lg ls)) (i:=i) (by omega) (by unfold yF;rw[xL_at hn hi h];exact h2),Bool.and_false,Bool.false_and]
theorem yL_is {n:Nat} {fx fy:Nat→Option Int} (h:fy=fun i=>mulO K (valF fx i) (valF fx i)):yL K (outL n (valF fx))=outL n (valF fy):=by
 unfold yL
 rw[outL_len]
 refine outL_congrV fun i hi=>?_
 unfold valF yF
 rw[outL_at hi,h]
 rfl
theorem yB_is {n:Nat} {fx fy:Nat→Option Int} (h:fy=fun i=>mulO K (valF fx i) (valF fx i)) (ha:∀ j,j < n→fy j≠none):allB n (yF K (outL n (valF fx)))=true:=by
 refine allB_iff.2 fun i hi=>?_
 have:=ha i hi
 unfold yF
 rw[outL_at hi]
 rwa [h]at this
theorem yL_pos {n:Nat} {fx fy:Nat→Option Int} (h:fy=fun i=>mulO K (valF fx i) (valF fx i)):∀ x ∈ outL n (valF fy),0≤x:=by
 intro x hx
 unfold outL at hx
 rw[List.mem_map]at hx
 obtain⟨i,-,rfl⟩:=hx
 unfold valF
 rw[h]
 simp only[mulO]
 cases hz:okZ (mulZ K ((fx i).getD 0) ((fx i).getD 0))with
 | none=>simp[valF,hz]
 | some y=>
  obtain⟨-,rfl⟩:=okZ_some hz
  simp only[valF,hz,Option.getD_some]
  exact sqZ_nonneg K _
theorem up_yes (h1:allB lg.length (xF K lg ls)=true) (h2:allB lg.length (yF K (xL K lg ls))=true) (h3:allB lg.length (uF K A (xL K lg ls))=true):upB K A lg ls=true:=by
 unfold upB
 rw[h1,h2,h3]
 rfl
theorem up_no3 {n i:Nat} (hn:lg.length=n) (hi:i < n) (h:uF K A (xL K lg ls) i=none):upB K A lg ls=false:=by
 unfold upB
 rw[allB_no (f:=uF K A (xL K lg ls)) (i:=i) (by omega) h,Bool.and_false]
theorem uF_yes {n i:Nat} {fx:Nat→Option Int} {H:Int} (hT:topH K (xL K lg ls)=H) (hd:A.d < H) (hx:xL K lg ls=outL n (valF fx)) (hi:i < n):uF K A (xL K lg ls) i=scaleO (valF fx i) A.d H:=by
 unfold uF
 rw[hT,if_pos hd,hx,outL_at hi]
theorem uB_no {n:Nat} {H:Int} (hT:topH K (xL K lg ls)=H) (hd:¬ A.d < H):allB n (uF K A (xL K lg ls))=true:=by
 refine allB_iff.2 fun i hi=>?_
 unfold uF
 rw[hT,if_neg hd]
 simp
theorem uL_no {n:Nat} {fx:Nat→Option Int} {H:Int} (hT:topH K (xL K lg ls)=H) (hd:¬ A.d < H) (hx:xL K lg ls=outL n (valF fx)) (hn:lg.length=n):uL K A lg ls=outL n (valF fx):=by
 unfold uL
 rw[hn]
 refine outL_congrV fun i hi=>?_
 unfold valF uF
 rw[hT,if_neg hd,hx,outL_at hi]
 rfl
end
theorem RowG.some {lo hi:Nat} {W:World} {e:TypeId} {v:Value} {l:List Int} (h:RowG lo hi W e v l) (hl:0 < l.length):∃ g c,v=.slice (Option.some ⟨g,0,none⟩) l.length c∧lo≤g∧g < hi:=by
 rcases h.1 with ⟨-,rfl⟩ | ⟨⟨g,cap,cur,e1,h2,h3⟩,hk⟩
 ·cases hl
 ·exact⟨g,cap,e1,h2,hk g (by rw[e1];rfl)⟩
set_option maxRecDepth 100000 in
set_option maxHeartbeats 16000000 in
theorem Tryz.adaUpdates {ag az:Option Addr} {ng cg cs lo2 hi2:Nat} {lg ls:List Int} (lr ep d sh cl:Int) (K:Nat) (w:World) (hK:K≤40) (hd0:0 < d) (hdi:I64 d) (hn:ng≤40) (hlo:hi2≤w.heap.size) (hs0:∀ i,i < ng→0≤atL ls i)
  (hg:Iw 0 w.heap.size w ag ng cg lg) (hs:Iw lo2 hi2 w az ng cs ls):
  Calls Tryz.prog 44 #[.agg #[.int .i64 lr,.int .i64 ep,.int .i64 d,.int .i64 (K:Int),.int .i64 cl,.int .i64 sh],.slice ag ng cg,.slice az ng cs] w fun e w'=>Ext w w'∧((upB K ⟨lr,ep,d⟩ lg ls=true∧∃ a c,e=.returned (.slice a ng c)∧Iw w.heap.size w'.heap.size w' a ng c (uL K ⟨lr,ep,d⟩ lg ls))∨(upB K ⟨lr,ep,d⟩ lg ls=false∧e=.panicked [{ v:=.iface 113 (.agg #[]),recovered:=false }])):=by
 have HK:=Lib.hid hK
 have HD:=Lib.hid (And.intro hd0 hdi)
 have HC:=Lib.hid hn
 have HLO:=Lib.hid hlo
 have HS0:=Lib.hid hs0
 have HLN:=Lib.hid (And.intro hg.len hs.len)
 clear hK hd0 hdi hn hlo hs0
 obtain⟨fx,hfx⟩:∃ f,f=xF K lg ls:=⟨_,rfl⟩
 have HFX:=Lib.hid hfx
 obtain⟨fy,hfy⟩:∃ f:Nat→Option Int,f=fun i=>mulO K (valF fx i) (valF fx i):=⟨_,rfl⟩
 have HFY:=Lib.hid hfy
 clear hfx hfy
 obtain⟨W0,hW0⟩:∃ W0,W0=(w.alloc (.cells #[.int .i64 lr,.int .i64 ep,.int .i64 d,.int .i64 (K:Int),.int .i64 cl,.int .i64 sh] 54)):=⟨_,rfl⟩
 have E0:Ext w W0:=by rw[hW0];exact(Ext.alloc1 w (.cells #[.int .i64 lr,.int .i64 ep,.int .i64 d,.int .i64 (K:Int),.int .i64 cl,.int .i64 sh] 54))
 replace hg:Iw 0 w.heap.size W0 ag ng cg (lg):=hg.ext E0
 replace hs:Iw lo2 hi2 W0 az ng cs (ls):=hs.ext E0
 have p3:BxA W0 w.heap.size 54 #[.int .i64 lr,.int .i64 ep,.int .i64 d,.int .i64 (K:Int),.int .i64 cl,.int .i64 sh]:=by rw[hW0];exact(BxA.new w 54 #[.int .i64 lr,.int .i64 ep,.int .i64 d,.int .i64 (K:Int),.int .i64 cl,.int .i64 sh])
 go_enter Tryz.func44,Tryz.ntmps44
 rcases Nat.eq_zero_or_pos ng with hng | hng
 ·subst hng
  obtain⟨kp3_0,kp3_1,kp3_2,kp3_3,kp3_4,kp3_5⟩:=p3.c6
  go_wp2
  rw[← hW0]
  clear kp3_0 kp3_1 kp3_2 kp3_3 kp3_4 kp3_5
  exact bodyPost_ret (v:=.slice none 0 0) (by simp[results,Tryz.results44,go_sem]) rfl ⟨E0,.inl ⟨up_nil HLN.out.1,none,0,rfl,by rw[uL_nil HLN.out.1];exact Iw.nil _ _ _⟩⟩
 ·have HNG:=Lib.hid hng
  have hnz:¬ (ng:Int)=0:=by omega
  have hnz2:((ng:Int)==0)=false:=beq_eq_false_iff_ne.2 hnz
  have hnz3:¬ ng=0:=by omega
  obtain⟨L,hL⟩:∃ L,L=W0.heap.size:=⟨_,rfl⟩
  have HL:Hid (w.heap.size < L∧hi2≤L):=Lib.hid (by have:=p3.lt;have:=HLO.out;omega)
  have hsL:L≤W0.heap.size:=Nat.le_of_eq hL
  clear hL
  obtain⟨kp3_0,kp3_1,kp3_2,kp3_3,kp3_4,kp3_5⟩:=p3.c6
  go_wp2_with fail
  rw[← hW0]
  clear hW0 hnz hnz2 hnz3
  clear kp3_0 kp3_1 kp3_2 kp3_3 kp3_4 kp3_5
  go_loopw [7,8,21] (fun u v i wr=>∃ (k:Nat) (vu vq:Value),vu=u∧vq=v∧i=.int .i64 (k:Int)∧k≤ng∧Hid ((∀ j,j < k→fx j≠none)∧∀ j,j < k→fy j≠none)∧Hid (∀ g,blks vu g→¬ blks vq g)∧RowG L wr.heap.size wr 2 vu (outL k (valF fx))∧RowG L wr.heap.size wr 2 vq (outL k (valF fy))∧Ext w wr∧Iw 0 w.heap.size wr ag ng cg (lg)∧Iw lo2 hi2 wr az ng cs (ls)∧BxA wr w.heap.size 54 #[.int .i64 lr,.int .i64 ep,.int .i64 d,.int .i64 (K:Int),.int .i64 cl,.int .i64 sh]∧L≤wr.heap.size) (fun _ _ i _=>ng - (intOf i).toNat)
  case atStart=>exact⟨0,_,_,rfl,rfl,rfl,Nat.zero_le _,Lib.hid ⟨fun j hj=>absurd hj (by omega),fun j hj=>absurd hj (by omega)⟩,Lib.hid (fun g h=>h.elim),RowG.nil _ _ _ _,RowG.nil _ _ _ _,E0,hg,hs,p3,hsL⟩
  case round=>
   clear E0 hg hs p3 hsL
   obtain⟨k,vu,vq,rfl,rfl,rfl,hk,HA,HAP,hu,hq,E0,hg,hs,p3,hsL⟩:=hrel
   by_cases hlt:k < ng
   ·have hltI:(k:Int) < (ng:Int):=by omega
    have hk0:(0:Int)≤(k:Int):=by omega
    have hk63:(k:Int) < 9223372036854775807:=by have:=HC.out;omega
    obtain⟨bg,og,ea,-,-⟩:=hg.some (by omega)
    subst ea
    obtain⟨bs,os,ea,-,-⟩:=hs.some (by omega)
    subst ea
    have kc:=hg.cell hlt
    have HN:=Lib.hid (hg.i64 hlt)
    obtain⟨n,hnn⟩:∃ x,x=atL lg k:=⟨_,rfl⟩
    have HNN:=Lib.hid hnn
    rw[← hnn]at kc HN
    have HLT:=Lib.hid hlt
    obtain⟨A,hA⟩:=Int.eq_ofNat_of_zero_le (HS0.out k hlt)
    have HAA:Hid (A < 9223372036854775808):=Lib.hid (by have:=(hs.i64 hlt).2;omega)
    obtain⟨rr,hrr⟩:∃ r,r=rootW K (A:Int):=⟨_,rfl⟩
    have HRR:Hid (((rt (A*2^K) 2:Nat):Int)=rr):=Lib.hid (by rw[hrr];rfl)
    have hr64:I64 rr:=by rw[hrr];exact rootW_i64 HK.out ⟨by omega,by have:=HAA.out;omega⟩
    obtain⟨bb,hbb⟩:∃ b,max rr 1=b:=⟨_,rfl⟩
    have HBB:Hid (I64 bb∧bb≠0):=Lib.hid (by unfold I64 at hr64 ⊢;omega)
    obtain⟨V,hV⟩:∃ V,fitV (divZ K n bb)=V:=⟨_,rfl⟩
    obtain⟨E,hE⟩:∃ E,fitE (divZ K n bb)=E:=⟨_,rfl⟩
    have HF:Hid (fx k=heldO V E):=Lib.hid (by rw[← hV,← hE,heldO_fit,HFX.out];unfold xF;rw[hA,← hrr,hbb,HNN.out];rfl)
    have HV:=Lib.hid hV
    have HE:=Lib.hid hE
    have HSA:=Lib.hid hA
    clear hV hE hrr hr64 hnn hA hk
    obtain⟨hh,hhe⟩:∃ n,n=wr.heap.size:=⟨_,rfl⟩
    have hhs:hh≤wr.heap.size:=Nat.le_of_eq hhe
    rw[← hhe]at hq hu
    clear hhe
    obtain⟨kp3_0,kp3_1,kp3_2,kp3_3,kp3_4,kp3_5⟩:=p3.c6
    go_upto_region 7 with (fail)
    clear kp3_0 kp3_1 kp3_2 kp3_3 kp3_4 kp3_5
    clear kc
    skip
    have sHL:=HL.out
    have sHC:=HC.out
    have ltp3:=p3.lt
    have lthsL:=hsL
    have lthhs:=hhs
    have szw1:=Ext.size E0
    refine region_go [.one fun v _=>v=.slice (some ⟨bs,os,none⟩) ng cs,
      .one fun v _=>v=.int .i64 (k:Int),
      .one fun v _=>v=.pointer (some ⟨bs,os+k,none⟩),
      .one fun v _=>v=.int .i64 (A:Int),
      .one fun v _=>v=.pointer (some ⟨w.heap.size,3,none⟩),
      .one fun v _=>v=.int .i64 (K:Int),
      .one fun v _=>v=.tuple #[.int .i64 rr,.int .i64 0],
      .one fun v _=>v=.int .i64 rr,
      .one fun v _=>v=.int .i64 0,
      .one fun v _=>v=.int .i64 rr,
      .one fun v _=>v=.int .i64 bb,
      .one fun v _=>v=.int .i64 bb]
     (fun W=>Ext w W∧Iw 0 w.heap.size W (some ⟨bg,og,none⟩) ng cg (lg)∧Iw lo2 hi2 W (some ⟨bs,os,none⟩) ng cs (ls)∧BxA W w.heap.size 54 #[.int .i64 lr,.int .i64 ep,.int .i64 d,.int .i64 (K:Int),.int .i64 cl,.int .i64 sh]∧L≤W.heap.size∧RowG L hh W 2 vu (outL k (valF fx))∧RowG L hh W 2 vq (outL k (valF fy))∧hh≤W.heap.size∧wr.heap.size≤W.heap.size) ⟨Good.is _,Good.is _,Good.is _,Good.is _,Good.is _,Good.is _,Good.is _,Good.is _,Good.is _,Good.is _,Good.is _,Good.is _,trivial⟩
     (fun W W1 hS hE=>⟨(Ext.trans hS.1 hE),(hS.2.1.ext hE),(hS.2.2.1.ext hE),(hS.2.2.2.1.ext hE),(Nat.le_trans hS.2.2.2.2.1 (Ext.size hE)),(hS.2.2.2.2.2.1.ext hE),(hS.2.2.2.2.2.2.1.ext hE),(Nat.le_trans hS.2.2.2.2.2.2.2.1 (Ext.size hE)),(Nat.le_trans hS.2.2.2.2.2.2.2.2 (Ext.size hE))⟩) ⟨E0,hg,hs,p3,hsL,hu,hq,hhs,Nat.le_refl _⟩ (by kernel_rfl) (by kernel_rfl) (by kernel_rfl) (by kernel_rfl) (A:=?A1) ?hA1 ?howe1 ?hfin1
    case hA1=>
     intro vs
     simp only[putAll,Act.put,List.setIfInBounds_toArray,List.set_cons_zero,List.set_cons_succ,Nat.zero_add,Nat.reduceAdd]
     exact rfl
    case howe1=>
     clear E0 hg hs p3 hsL hu hq hhs
     intro hf
     refine⟨owesE 0 [] hf rfl (by kernel_rfl) ?_,owesE 1 [] hf rfl (by kernel_rfl) ?_,owesE 2 [0,1] hf rfl (by kernel_rfl) ?_,owesE 3 [2] hf rfl (by kernel_rfl) ?_,owesE 4 [] hf rfl (by kernel_rfl) ?_,owesE 5 [4] hf rfl (by kernel_rfl) ?_,owesE 6 [3,5] hf rfl (by kernel_rfl) ?_,owesE 7 [6] hf rfl (by kernel_rfl) ?_,owesE 8 [6] hf rfl (by kernel_rfl) ?_,owesE 9 [7,8] hf rfl (by kernel_rfl) ?_,owesE 10 [9] hf rfl (by kernel_rfl) ?_,owesE 11 [10] hf rfl (by kernel_rfl) ?_,trivial⟩
     all_goals intro vs W hS hp hx KO hKO
     all_goals simp only[Act.put,List.setIfInBounds_toArray,List.set_cons_zero,List.set_cons_succ]at hKO
     ·go_simp
      exact hKO _ W (Ext.refl W) rfl
     ·go_simp
      exact hKO _ W (Ext.refl W) rfl
     ·have e0:=isOf hp.1
      have e1:=isOf hp.2.1
      simp only[e0,e1]at hKO
      go_simp
      exact hKO _ W (Ext.refl W) rfl
     ·have e2:=isOf hp.1
      simp only[e2]at hKO
      have fc:=Iw.cell (hS.2.2.1) (i:=k) (by omega)
      rw[HSA.out]at fc
      go_simp
      exact hKO _ W (Ext.refl W) rfl
     ·go_simp
      exact hKO _ W (Ext.refl W) rfl
     ·have e4:=isOf hp.1
      simp only[e4]at hKO
      have fc3:=BxA.cell (hS.2.2.2.1) 3 (v:=.int .i64 (K:Int)) rfl
      go_simp
      exact hKO _ W (Ext.refl W) rfl
     ·have e3:=isOf hp.1
      have e5:=isOf hp.2.1
      simp only[e3,e5]at hKO
      go_simp
      refine(Tryz.fixSqrt A K _ HAA.out HK.out).mono ?_
      rintro e W1 ⟨rfl,hE⟩
      rw[HRR.out]
      exact hKO _ W1 hE rfl
     ·have e6:=isOf hp.1
      simp only[e6]at hKO
      go_simp
      exact hKO _ W (Ext.refl W) rfl
     ·have e6:=isOf hp.1
      simp only[e6]at hKO
      go_simp
      exact hKO _ W (Ext.refl W) rfl
     ·have e7:=isOf hp.1
      have e8:=isOf hp.2.1
      simp only[e7,e8]at hKO
      go_simp
      refine(Tryz.adaHeld rr _).mono ?_
      rintro e W1 ⟨rfl,hE⟩
      exact hKO _ W1 hE rfl
     ·have e9:=isOf hp.1
      simp only[e9]at hKO
      go_simp
      exact hKO _ W (Ext.refl W) rfl
     ·have e10:=isOf hp.1
      simp only[e10]at hKO
      go_simp
      exact hKO _ W (Ext.refl W) rfl
    intro vs W1 hS hp
    clear lthsL lthhs szw1 E0 hg hs p3 hsL hu hq hhs
    obtain⟨E0,hg,hs,p3,hsL,hu,hq,hhs,sz1⟩:=hS
    obtain⟨h1_0,h1_1,h1_2,h1_3,h1_4,h1_5,h1_6,h1_7,h1_8,h1_9,h1_10,h1_11,-⟩:=hp
    replace h1_0:vs 0=.slice (some ⟨bs,os,none⟩) ng cs:=h1_0
    replace h1_1:vs 1=.int .i64 (k:Int):=h1_1
    replace h1_2:vs 2=.pointer (some ⟨bs,os+k,none⟩):=h1_2
    replace h1_3:vs 3=.int .i64 (A:Int):=h1_3
    replace h1_4:vs 4=.pointer (some ⟨w.heap.size,3,none⟩):=h1_4
    replace h1_5:vs 5=.int .i64 (K:Int):=h1_5
    replace h1_6:vs 6=.tuple #[.int .i64 rr,.int .i64 0]:=h1_6
    replace h1_7:vs 7=.int .i64 rr:=h1_7
    replace h1_8:vs 8=.int .i64 0:=h1_8
    replace h1_9:vs 9=.int .i64 rr:=h1_9
    replace h1_10:vs 10=.int .i64 bb:=h1_10
    replace h1_11:vs 11=.int .i64 bb:=h1_11
    simp only[h1_0,h1_1,h1_2,h1_3,h1_4,h1_5,h1_6,h1_7,h1_8,h1_9,h1_10,h1_11]
    clear h1_0 h1_1 h1_2 h1_3 h1_4 h1_5 h1_6 h1_7 h1_8 h1_9 h1_10 h1_11
    clear sHL sHC
    clear hbb
    obtain⟨x,Hx⟩:∃ u_,u_=(heldO V E).getD 0:=⟨_,rfl⟩
    replace Hx:=Lib.hid Hx
    obtain⟨kp3_0,kp3_1,kp3_2,kp3_3,kp3_4,kp3_5⟩:=p3.c6
    go_wp2_with fail
    clear kp3_0 kp3_1 kp3_2 kp3_3 kp3_4 kp3_5
    refine(Tryz.fixDivV n bb K HK.out _ HN.out.1 HN.out.2 HBB.out.1.1 HBB.out.1.2 HBB.out.2 HV.out HE.out).mono ?_
    rintro e V1 ⟨rfl,hE⟩
    replace E0:=(Ext.trans E0 hE)
    replace hg:=(hg.ext hE)
    replace hs:=(hs.ext hE)
    replace p3:=(p3.ext hE)
    replace hsL:=(Nat.le_trans hsL (Ext.size hE))
    replace hu:=(hu.ext hE)
    replace hq:=(hq.ext hE)
    replace hhs:=(Nat.le_trans hhs (Ext.size hE))
    clear hE
    obtain⟨kp3_0,kp3_1,kp3_2,kp3_3,kp3_4,kp3_5⟩:=p3.c6
    go_wp2_with fail
    clear kp3_0 kp3_1 kp3_2 kp3_3 kp3_4 kp3_5
    cases g:heldO V E
    ·have HNO:Hid (fx k=none):=Lib.hid (HF.out.trans g)
     refine(Tryz.adaHeldN V E g _).mono ?_
     rintro e V2 ⟨rfl,hE⟩
     exact⟨rfl,E0.trans hE,.inr ⟨up_no1 HLN.out.1 HLT.out (HFX.out ▸ HNO.out),rfl⟩⟩
    ·rename_i x0
     obtain rfl:x=x0:=by rw[Hx.out,g];rfl
     have GX:=Lib.hid g
     have HXI:Hid (I64 x):=Lib.hid (by rw[← HV.out,← HE.out,heldO_fit]at g;exact okZ_i64 g)
     have HFXk:Hid (fx k=some x):=Lib.hid (HF.out.trans g)
     refine(Tryz.adaHeldS V E g _).mono ?_
     rintro e V2 ⟨rfl,hE⟩
     clear g
     replace E0:=(Ext.trans E0 hE)
     replace hg:=(hg.ext hE)
     replace hs:=(hs.ext hE)
     replace p3:=(p3.ext hE)
     replace hsL:=(Nat.le_trans hsL (Ext.size hE))
     replace hu:=(hu.ext hE)
     replace hq:=(hq.ext hE)
     replace hhs:=(Nat.le_trans hhs (Ext.size hE))
     clear hE
     obtain⟨z2,Hz2⟩:∃ u_,u_=(mulO K x x).getD 0:=⟨_,rfl⟩
     replace Hz2:=Lib.hid Hz2
     have HFYk:Hid (fy k=mulO K x x):=Lib.hid (by rw[HFY.out];simp only[valF_some HFXk.out])
     obtain⟨kp3_0,kp3_1,kp3_2,kp3_3,kp3_4,kp3_5⟩:=p3.c6
     go_upto_region 9 with (fail)
     clear kp3_0 kp3_1 kp3_2 kp3_3 kp3_4 kp3_5
     have sHL:=HL.out
     have sHC:=HC.out
     have lthsL:=hsL
     have lthhs:=hhs
     have szw2:=Ext.size E0
     refine region_go5 [.one fun v W=>v=vu∧RowG L hh W 2 v (outL k (valF fx)),
       .one fun v _=>v=.int .i64 x,
       .one fun v W=>NewG W v x,
       .one fun v W=>RowG L W.heap.size W 2 v (outL k (valF fx)++[x]),
       .one fun v W=>v=vq∧RowG L hh W 2 v (outL k (valF fy)),
       .one fun v _=>v=.agg #[.int .i64 lr,.int .i64 ep,.int .i64 d,.int .i64 (K:Int),.int .i64 cl,.int .i64 sh],
       .one fun v _=>v=.int .i64 x,
       .one fun v _=>v=.int .i64 x,
       .one fun v _=>v=.int .i64 z2∧mulO K x x=some z2,
       .one fun v W=>NewG W v z2,
       .one fun v W=>RowG L W.heap.size W 2 v (outL k (valF fy)++[z2]),
       .two 3 fun p v _=>v=p,
       .two 10 fun p v _=>v=p]
      (fun W=>Ext w W∧Iw 0 w.heap.size W (some ⟨bg,og,none⟩) ng cg (lg)∧Iw lo2 hi2 W (some ⟨bs,os,none⟩) ng cs (ls)∧BxA W w.heap.size 54 #[.int .i64 lr,.int .i64 ep,.int .i64 d,.int .i64 (K:Int),.int .i64 cl,.int .i64 sh]∧L≤W.heap.size∧RowG L hh W 2 vu (outL k (valF fx))∧RowG L hh W 2 vq (outL k (valF fy))∧hh≤W.heap.size∧V2.heap.size≤W.heap.size) (fun _=>True) L (Itwo vu vq) 9999 [(0,1),(3,1),(2,3),(4,2),(10,2),(9,4)] [Tag4.on 0,Tag4.any,Tag4.on 2,Tag4.on 3,Tag4.on 4,Tag4.any,Tag4.any,Tag4.any,Tag4.any,Tag4.on 9,Tag4.on 10,Tag4.any,Tag4.any] ⟨tagQ,tag4_good (Good.is _),tagN,tagH,tagQ,tag4_good (Good.is _),tag4_good (Good.is _),tag4_good (Good.is _),tag4_good (Good.may _ _),tagN,tagH,tag4_two,tag4_two,trivial⟩
      (fun W W1 hS hE=>⟨(Ext.trans hS.1 hE),(hS.2.1.ext hE),(hS.2.2.1.ext hE),(hS.2.2.2.1.ext hE),(Nat.le_trans hS.2.2.2.2.1 (Ext.size hE)),(hS.2.2.2.2.2.1.ext hE),(hS.2.2.2.2.2.2.1.ext hE),(Nat.le_trans hS.2.2.2.2.2.2.2.1 (Ext.size hE)),(Nat.le_trans hS.2.2.2.2.2.2.2.2 (Ext.size hE))⟩) (fun _ _ h _=>h) (begun_two hu hq (by omega) (by omega) HAP.out) ⟨E0,hg,hs,p3,hsL,hu,hq,hhs,Nat.le_refl _⟩ trivial (by kernel_rfl) (by kernel_rfl) (by kernel_rfl) (by kernel_rfl) (A:=?A2) ?hA2 ?howe2 ?hfin2
     case hA2=>
      intro vs
      simp only[putAll,Act.put,List.setIfInBounds_toArray,List.set_cons_zero,List.set_cons_succ,Nat.zero_add,Nat.reduceAdd]
      exact rfl
     case howe2=>
      clear E0 hg hs p3 hsL hu hq hhs
      intro hf
      refine⟨owes5O 0 [] hf rfl rfl (by kernel_rfl) ?_,owes5E 1 [] hf rfl rfl rfl (by kernel_rfl) ?_,owes5N 2 [1] hf rfl rfl (by kernel_rfl) ?_,owes5A 3 0 [] [0,2] hf rfl rfl rfl rfl (by kernel_rfl) rfl (by kernel_rfl) ?_,owes5O 4 [] hf rfl rfl (by kernel_rfl) ?_,owes5E 5 [] hf rfl rfl rfl (by kernel_rfl) ?_,owes5E 6 [] hf rfl rfl rfl (by kernel_rfl) ?_,owes5E 7 [] hf rfl rfl rfl (by kernel_rfl) ?_,owes5E 8 [5,6,7] hf rfl rfl rfl (by kernel_rfl) ?_,owes5N 9 [8] hf rfl rfl (by kernel_rfl) ?_,owes5A 10 4 [] [4,9] hf rfl rfl rfl rfl (by kernel_rfl) rfl (by kernel_rfl) ?_,owes5E 11 [3] hf rfl rfl rfl (by kernel_rfl) ?_,owes5E 12 [10] hf rfl rfl rfl (by kernel_rfl) ?_,trivial⟩
      all_goals intro vs W hS hp hx KO hKO
      all_goals simp only[Act.put,List.setIfInBounds_toArray,List.set_cons_zero,List.set_cons_succ]at hKO
      ·have eo:vs 11=vu:=hx.at 11 rfl (by kernel_rfl) rfl
       simp only[eo]at hKO
       go_simp
       exact hKO _ (fun g hg=>.inl ⟨rfl,hg⟩) ⟨rfl,hS.2.2.2.2.2.1⟩
      ·go_simp
       exact hKO _ W (Ext.refl W) rfl
      ·have e1:=isOf hp.1
       simp only[e1]at hKO
       have hE:=Ext.alloc1 W (.cells #[.int .i64 x] 2)
       have hbx:=BxA.new W 2 #[.int .i64 x]
       have hlt:=hbx.lt
       go_simp
       exact hKO _ _ hE (fun g hg=>by have hq:W.heap.size=g:=hg;exact⟨by omega,by omega⟩) ⟨_,rfl,hlt,hbx.cell 0 rfl,HXI.out⟩
      ·have q0:=hp.1
       have q2:=hp.2.1
       obtain⟨ev,hr⟩:=q0
       replace ev:vs 0=vu:=ev
       have hsz:=hS.2.2.2.2.2.2.2.2
       refine step_append_g Tryz.underlying25 Tryz.infoI rfl _ _ rfl L hh (v:=vs 0) (u:=vs 2) rfl rfl hr q2 (by have:=sHC;have:=HLT.out;rw[outL_len];omega) (by omega) ?_
       intro v w1 hc hv hr2
       refine hKO v w1 (hc.imp_right ?_) hv hr2
       rintro⟨g,hg,hw,hr3⟩
       have hb:=hr.blk hg
       exact⟨g,hg,hw,⟨(Ext.wr hS.1 hw (by omega)),(hS.2.1.wr hw (by omega)),(hS.2.2.1.wr hw (by omega)),(hS.2.2.2.1.wr hw (by omega)),(Nat.le_trans hS.2.2.2.2.1 hw.apart.size),(ev ▸ hr3),(RowG.wr hS.2.2.2.2.2.2.1 hw (HAP.out g (ev ▸ hg))),(Nat.le_trans hS.2.2.2.2.2.2.2.1 hw.apart.size),(Nat.le_trans hS.2.2.2.2.2.2.2.2 hw.apart.size)⟩,fun h=>h,⟨ev,hr3⟩⟩
      ·have eo:vs 12=vq:=hx.at 12 rfl (by kernel_rfl) rfl
       simp only[eo]at hKO
       go_simp
       exact hKO _ (fun g hg=>.inr ⟨rfl,hg⟩) ⟨rfl,hS.2.2.2.2.2.2.1⟩
      ·have fc0:=BxA.cell (hS.2.2.2.1) 0 (v:=.int .i64 lr) rfl
       have fc1:=BxA.cell (hS.2.2.2.1) 1 (v:=.int .i64 ep) rfl
       have fc2:=BxA.cell (hS.2.2.2.1) 2 (v:=.int .i64 d) rfl
       have fc3:=BxA.cell (hS.2.2.2.1) 3 (v:=.int .i64 (K:Int)) rfl
       have fc4:=BxA.cell (hS.2.2.2.1) 4 (v:=.int .i64 cl) rfl
       have fc5:=BxA.cell (hS.2.2.2.1) 5 (v:=.int .i64 sh) rfl
       go_simp
       exact hKO _ W (Ext.refl W) rfl
      ·go_simp
       exact hKO _ W (Ext.refl W) rfl
      ·go_simp
       exact hKO _ W (Ext.refl W) rfl
      ·have e5:=isOf hp.1
       have e6:=isOf hp.2.1
       have e7:=isOf hp.2.2.1
       simp only[e5,e6,e7]at hKO
       go_simp
       cases g:mulO K x x
       ·have HNO:Hid (mulO K x x=none):=Lib.hid g
        refine(Tryz.adaMulN (a:=x) (b:=x) lr ep d cl sh K HK.out HXI.out HXI.out g _).mono ?_
        rintro e W1 ⟨⟨c,hc,rfl⟩,hE⟩
        exact⟨rfl,Ext.trans hS.1 hE,.inr ⟨up_no2 HLN.out.1 HLT.out (HFX.out ▸ HFXk.out) HNO.out,rfl⟩⟩
       ·have g2:mulO K x x=some z2:=by rw[Hz2.out,g];rfl
        refine(Tryz.adaMulS (a:=x) (b:=x) lr ep d cl sh K HK.out HXI.out HXI.out g2 _).mono ?_
        rintro e W1 ⟨rfl,hE⟩
        exact hKO _ W1 hE ⟨rfl,g2⟩
      ·have e8:vs 8=.int .i64 z2:=(hp.1).1
       have Gz2:Hid (mulO K x x=some z2):=Lib.hid (hp.1).2
       simp only[e8]at hKO
       have hE:=Ext.alloc1 W (.cells #[.int .i64 z2] 2)
       have hbx:=BxA.new W 2 #[.int .i64 z2]
       have hlt:=hbx.lt
       go_simp
       exact hKO _ _ hE (fun g hg=>by have hq:W.heap.size=g:=hg;exact⟨by omega,by omega⟩) ⟨_,rfl,hlt,hbx.cell 0 rfl,(okZ_i64 Gz2.out)⟩
      ·have q4:=hp.1
       have q9:=hp.2.1
       obtain⟨ev,hr⟩:=q4
       replace ev:vs 4=vq:=ev
       have hsz:=hS.2.2.2.2.2.2.2.2
       refine step_append_g Tryz.underlying25 Tryz.infoI rfl _ _ rfl L hh (v:=vs 4) (u:=vs 9) rfl rfl hr q9 (by have:=sHC;have:=HLT.out;rw[outL_len];omega) (by omega) ?_
       intro v w1 hc hv hr2
       refine hKO v w1 (hc.imp_right ?_) hv hr2
       rintro⟨g,hg,hw,hr3⟩
       have hb:=hr.blk hg
       exact⟨g,hg,hw,⟨(Ext.wr hS.1 hw (by omega)),(hS.2.1.wr hw (by omega)),(hS.2.2.1.wr hw (by omega)),(hS.2.2.2.1.wr hw (by omega)),(Nat.le_trans hS.2.2.2.2.1 hw.apart.size),(RowG.wr hS.2.2.2.2.2.1 hw (fun q=>HAP.out g q (ev ▸ hg))),(ev ▸ hr3),(Nat.le_trans hS.2.2.2.2.2.2.2.1 hw.apart.size),(Nat.le_trans hS.2.2.2.2.2.2.2.2 hw.apart.size)⟩,fun h=>h,⟨ev,hr3⟩⟩
      ·have q3:=hp.1
       go_simp
       exact hKO _ W (Ext.refl W) rfl
      ·have q10:=hp.1
       go_simp
       exact hKO _ W (Ext.refl W) rfl
     intro vs W2 hS hG hp
     clear lthsL lthhs szw2 E0 hg hs p3 hsL hu hq hhs
     obtain⟨E0,hg,hs,p3,hsL,hu,hq,hhs,sz2⟩:=hS
     obtain⟨h2_0,h2_1,h2_2,h2_3,h2_4,h2_5,h2_6,h2_7,h2_8,h2_9,h2_10,h2_11,h2_12,-⟩:=hp
     skip
     skip
     have hgr2_0:RowG L W2.heap.size W2 2 (vs 3) (outL k (valF fx)++[x]):=h2_3
     have ev2_0:vs 11=vs 3:=h2_11
     simp only[ev2_0]
     skip
     skip
     have hgr2_1:RowG L W2.heap.size W2 2 (vs 10) (outL k (valF fy)++[z2]):=h2_10
     have ev2_1:vs 12=vs 10:=h2_12
     simp only[ev2_1]
     replace h2_1:vs 1=.int .i64 x:=h2_1
     replace h2_5:vs 5=.agg #[.int .i64 lr,.int .i64 ep,.int .i64 d,.int .i64 (K:Int),.int .i64 cl,.int .i64 sh]:=h2_5
     replace h2_6:vs 6=.int .i64 x:=h2_6
     replace h2_7:vs 7=.int .i64 x:=h2_7
     obtain⟨h2_8,Gz2⟩:=h2_8
     replace Gz2:=Lib.hid Gz2
     replace h2_8:vs 8=.int .i64 z2:=h2_8
     simp only[h2_1,h2_5,h2_6,h2_7,h2_8]
     clear h2_1 h2_5 h2_6 h2_7 h2_8 h2_0 h2_2 h2_3 h2_4 h2_9 h2_10 h2_11 h2_12
     clear sHL sHC
     obtain⟨DD,hDD,-,-,hGG⟩:=hG
     have hap:=hGG 3 10 (hDD 3 (by decide)) (hDD 10 (by decide)) (by decide) (by decide) (by decide)
     have HFY2:Hid (fy k=some z2):=Lib.hid (HFYk.out.trans Gz2.out)
     obtain⟨kp3_0,kp3_1,kp3_2,kp3_3,kp3_4,kp3_5⟩:=p3.c6
     go_wp2
     clear kp3_0 kp3_1 kp3_2 kp3_3 kp3_4 kp3_5
     go_roundw
     case rel=>exact⟨k+1,_,_,rfl,rfl,by go_num,HLT.out,Lib.hid ⟨grow_some' HA.out.1 HFXk.out,grow_some' HA.out.2 HFY2.out⟩,Lib.hid hap,by rw[outL_snoc',valF_some HFXk.out];exact hgr2_0,by rw[outL_snoc',valF_some HFY2.out];exact hgr2_1,E0,hg,hs,p3,hsL⟩
     case measure=>simp[intOf];have:=HLT.out;omega
   ·have ek:ng=k:=by omega
    subst ek
    clear hlt hk
    have HBX:Hid (allB lg.length (xF K lg ls)=true):=Lib.hid (by rw[← HFX.out,HLN.out.1];exact allB_iff.2 HA.out.1)
    have HXL:Hid (xL K lg ls=outL ng (valF fx)):=Lib.hid (by unfold xL;rw[HLN.out.1,HFX.out])
    have HYL:Hid (yL K (xL K lg ls)=outL ng (valF fy)):=Lib.hid (by rw[HXL.out];exact yL_is HFY.out)
    have HBY:Hid (allB lg.length (yF K (xL K lg ls))=true):=Lib.hid (by rw[HXL.out,HLN.out.1];exact yB_is HFY.out HA.out.2)
    clear hg hs HA HAP
    obtain⟨AA,hAA⟩:=Int.eq_ofNat_of_zero_le (show 0≤meanZ (outL ng (valF fy)) from meanZ_nonneg (by rw[outL_len];exact HNG.out) (yL_pos HFY.out))
    have HAA:Hid (AA < 9223372036854775808):=Lib.hid (by have:=(meanZ_i64 (outL ng (valF fy))).2;omega)
    have HMA:=Lib.hid hAA
    obtain⟨hN,hhN⟩:∃ n,n=rt (AA*2^K) 2:=⟨_,rfl⟩
    have HRR:Hid (rt (AA*2^K) 2=hN):=Lib.hid hhN.symm
    have HTH:Hid (topH K (xL K lg ls)=(hN:Int)):=Lib.hid (by unfold topH;rw[HYL.out,hAA,hhN];rfl)
    have HN64:Hid (hN < 9223372036854775808):=Lib.hid (by have h:=(rootW_i64 HK.out (meanZ_i64 (outL ng (valF fy)))).2;rw[hAA]at h;unfold rootW at h;rw[hhN];have e:((AA:Int)).toNat=AA:=rfl;rw[e]at h;omega)
    clear hAA hhN
    have hq2:=hq.iw
    rw[outL_len]at hq2
    obtain⟨aqq,cqq,rfl,hiqq⟩:=hq2
    obtain⟨lqq,hlqq⟩:∃ l,l=outL ng (valF fy):=⟨_,rfl⟩
    rw[← hlqq]at hiqq
    have HLqq:=Lib.hid hlqq
    obtain⟨hhqq,hhe⟩:∃ n,n=wr.heap.size:=⟨_,rfl⟩
    have hhsqq:hhqq≤wr.heap.size:=Nat.le_of_eq hhe
    rw[← hhe]at hiqq
    clear hhe hq hlqq
    rw[HLqq.out]at hiqq
    have hu2:=hu.some (by rw[outL_len];exact HNG.out)
    rw[outL_len]at hu2
    obtain⟨gu,cu,rfl,hgu⟩:=hu2
    obtain⟨hh,hhe⟩:∃ n,n=wr.heap.size:=⟨_,rfl⟩
    have hhs:hh≤wr.heap.size:=Nat.le_of_eq hhe
    rw[← hhe]at hu hgu
    have HGU:=Lib.hid hgu
    clear hhe hgu
    obtain⟨kp3_0,kp3_1,kp3_2,kp3_3,kp3_4,kp3_5⟩:=p3.c6
    go_upto_region 11 with (fail)
    clear kp3_0 kp3_1 kp3_2 kp3_3 kp3_4 kp3_5
    have sHL:=HL.out
    have sHC:=HC.out
    have ltp3:=p3.lt
    have lthsL:=hsL
    have lthhsqq:=hhsqq
    have lthhs:=hhs
    have szw3:=Ext.size E0
    refine region_go [.one fun v _=>v=.slice aqq ng cqq,
      .one fun v _=>v=.int .i64 (AA:Int),
      .one fun v _=>v=.pointer (some ⟨w.heap.size,3,none⟩),
      .one fun v _=>v=.int .i64 (K:Int),
      .one fun v _=>v=.tuple #[.int .i64 (hN:Int),.int .i64 0],
      .one fun v _=>v=.int .i64 (hN:Int),
      .one fun v _=>v=.int .i64 0,
      .one fun v _=>v=.int .i64 (hN:Int),
      .one fun v _=>v=.int .i64 (hN:Int)]
     (fun W=>Ext w W∧BxA W w.heap.size 54 #[.int .i64 lr,.int .i64 ep,.int .i64 d,.int .i64 (K:Int),.int .i64 cl,.int .i64 sh]∧L≤W.heap.size∧Iw L hhqq W aqq ng cqq (outL ng (valF fy))∧hhqq≤W.heap.size∧RowG L hh W 2 (.slice (some ⟨gu,0,none⟩) ng cu) (outL ng (valF fx))∧hh≤W.heap.size∧wr.heap.size≤W.heap.size) ⟨Good.is _,Good.is _,Good.is _,Good.is _,Good.is _,Good.is _,Good.is _,Good.is _,Good.is _,trivial⟩
     (fun W W1 hS hE=>⟨(Ext.trans hS.1 hE),(hS.2.1.ext hE),(Nat.le_trans hS.2.2.1 (Ext.size hE)),(hS.2.2.2.1.ext hE),(Nat.le_trans hS.2.2.2.2.1 (Ext.size hE)),(hS.2.2.2.2.2.1.ext hE),(Nat.le_trans hS.2.2.2.2.2.2.1 (Ext.size hE)),(Nat.le_trans hS.2.2.2.2.2.2.2 (Ext.size hE))⟩) ⟨E0,p3,hsL,hiqq,hhsqq,hu,hhs,Nat.le_refl _⟩ (by kernel_rfl) (by kernel_rfl) (by kernel_rfl) (by kernel_rfl) (A:=?A3) ?hA3 ?howe3 ?hfin3
    case hA3=>
     intro vs
     simp only[putAll,Act.put,List.setIfInBounds_toArray,List.set_cons_zero,List.set_cons_succ,Nat.zero_add,Nat.reduceAdd]
     exact rfl
    case howe3=>
     clear E0 p3 hsL hiqq hhsqq hu hhs
     intro hf
     refine⟨owesE 0 [] hf rfl (by kernel_rfl) ?_,owesE 1 [0] hf rfl (by kernel_rfl) ?_,owesE 2 [] hf rfl (by kernel_rfl) ?_,owesE 3 [2] hf rfl (by kernel_rfl) ?_,owesE 4 [1,3] hf rfl (by kernel_rfl) ?_,owesE 5 [4] hf rfl (by kernel_rfl) ?_,owesE 6 [4] hf rfl (by kernel_rfl) ?_,owesE 7 [5,6] hf rfl (by kernel_rfl) ?_,owesE 8 [7] hf rfl (by kernel_rfl) ?_,trivial⟩
     all_goals intro vs W hS hp hx KO hKO
     all_goals simp only[Act.put,List.setIfInBounds_toArray,List.set_cons_zero,List.set_cons_succ]at hKO
     ·go_simp
      exact hKO _ W (Ext.refl W) rfl
     ·have e0:=isOf hp.1
      simp only[e0]at hKO
      go_simp
      refine(Tryz.adaMeanG hS.2.2.2.1 HNG.out (by have:=HC.out;omega)).mono ?_
      rintro e W1 ⟨rfl,hE⟩
      rw[HMA.out]
      exact hKO _ W1 hE rfl
     ·go_simp
      exact hKO _ W (Ext.refl W) rfl
     ·have e2:=isOf hp.1
      simp only[e2]at hKO
      have fc3:=BxA.cell (hS.2.1) 3 (v:=.int .i64 (K:Int)) rfl
      go_simp
      exact hKO _ W (Ext.refl W) rfl
     ·have e1:=isOf hp.1
      have e3:=isOf hp.2.1
      simp only[e1,e3]at hKO
      go_simp
      refine(Tryz.fixSqrt AA K _ HAA.out HK.out).mono ?_
      rintro e W1 ⟨rfl,hE⟩
      rw[HRR.out]
      exact hKO _ W1 hE rfl
     ·have e4:=isOf hp.1
      simp only[e4]at hKO
      go_simp
      exact hKO _ W (Ext.refl W) rfl
     ·have e4:=isOf hp.1
      simp only[e4]at hKO
      go_simp
      exact hKO _ W (Ext.refl W) rfl
     ·have e5:=isOf hp.1
      have e6:=isOf hp.2.1
      simp only[e5,e6]at hKO
      go_simp
      refine(Tryz.adaHeld (hN:Int) _).mono ?_
      rintro e W1 ⟨rfl,hE⟩
      exact hKO _ W1 hE rfl
     ·have e7:=isOf hp.1
      simp only[e7]at hKO
      go_simp
      exact hKO _ W (Ext.refl W) rfl
    intro vs W3 hS hp
    clear lthsL lthhsqq lthhs szw3 E0 p3 hsL hiqq hhsqq hu hhs
    obtain⟨E0,p3,hsL,hiqq,hhsqq,hu,hhs,sz3⟩:=hS
    obtain⟨h3_0,h3_1,h3_2,h3_3,h3_4,h3_5,h3_6,h3_7,h3_8,-⟩:=hp
    replace h3_0:vs 0=.slice aqq ng cqq:=h3_0
    replace h3_1:vs 1=.int .i64 (AA:Int):=h3_1
    replace h3_2:vs 2=.pointer (some ⟨w.heap.size,3,none⟩):=h3_2
    replace h3_3:vs 3=.int .i64 (K:Int):=h3_3
    replace h3_4:vs 4=.tuple #[.int .i64 (hN:Int),.int .i64 0]:=h3_4
    replace h3_5:vs 5=.int .i64 (hN:Int):=h3_5
    replace h3_6:vs 6=.int .i64 0:=h3_6
    replace h3_7:vs 7=.int .i64 (hN:Int):=h3_7
    replace h3_8:vs 8=.int .i64 (hN:Int):=h3_8
    simp only[h3_0,h3_1,h3_2,h3_3,h3_4,h3_5,h3_6,h3_7,h3_8]
    clear h3_0 h3_1 h3_2 h3_3 h3_4 h3_5 h3_6 h3_7 h3_8
    clear sHL sHC
    clear hiqq
    by_cases hdh:d < (hN:Int)
    ·have HDH:=Lib.hid hdh
     obtain⟨fu,hfu⟩:∃ f,f=uF K ⟨lr,ep,d⟩ (xL K lg ls):=⟨_,rfl⟩
     have HFU:=Lib.hid hfu
     have HFV:Hid (∀ i,i < ng→fu i=scaleO (valF fx i) d (hN:Int)):=Lib.hid (fun i hi=>by rw[hfu];exact uF_yes HTH.out hdh HXL.out hi)
     clear hfu
     have hgt:(hN:Int) > d:=hdh
     obtain⟨kp3_0,kp3_1,kp3_2,kp3_3,kp3_4,kp3_5⟩:=p3.c6
     go_wp2_with fail
     clear kp3_0 kp3_1 kp3_2 kp3_3 kp3_4 kp3_5
     clear hdh hgt
     go_loopw [72] (fun i wr=>∃ k:Nat,i=.int .i64 (k:Int)∧k≤ng∧Hid (∀ j,j < k→fu j≠none)∧RowG L hh wr 2 (.slice (some ⟨gu,0,none⟩) ng cu) (mixL ng k (valF fu) (valF fx))∧hh≤wr.heap.size∧Ext w wr∧BxA wr w.heap.size 54 #[.int .i64 lr,.int .i64 ep,.int .i64 d,.int .i64 (K:Int),.int .i64 cl,.int .i64 sh]) (fun i _=>ng - (intOf i).toNat)
     case atStart=>exact⟨0,rfl,Nat.zero_le _,Lib.hid (fun j hj=>absurd hj (by omega)),by rw[mixL_zero];exact hu,hhs,E0,p3⟩
     case round=>
      clear hu hhs E0 p3
      obtain⟨k,rfl,hk,HA,hu,hhs,E0,p3⟩:=hrel
      by_cases hlt:k < ng
      ·have hltI:(k:Int) < (ng:Int):=by omega
       have hk0:(0:Int)≤(k:Int):=by omega
       have hk63:(k:Int) < 9223372036854775807:=by have:=HC.out;omega
       have HLT:=Lib.hid hlt
       have kc:=(hu.put (i:=k) (by rw[mixL_len];exact hlt) 0 (by unfold I64;omega)).1
       rw[mixL_at hlt (Nat.lt_irrefl k)]at kc
       obtain⟨x,hx⟩:∃ x,x=valF fx k:=⟨_,rfl⟩
       have HX:Hid (I64 x):=Lib.hid (by rw[hx];exact valF_i64 (f:=fx) (fun i y h=>by rw[HFX.out]at h;exact okZ_i64 h) k)
       rw[← hx]at kc
       obtain⟨V,hV⟩:∃ V,fitV (ratioV (x*d) hN)=V:=⟨_,rfl⟩
       obtain⟨E,hE⟩:∃ E,fitE (ratioV (x*d) hN)=E:=⟨_,rfl⟩
       have HF:Hid (fu k=heldO V E):=Lib.hid (by rw[← hV,← hE,heldO_fit,HFV.out k hlt,← hx];rfl)
       have HV:=Lib.hid hV
       have HE:=Lib.hid hE
       clear hV hE hx hk
       have HNP:Hid (0 < hN):=Lib.hid (by have h1:=HDH.out;have h2:=HD.out.1;omega)
       obtain⟨kp3_0,kp3_1,kp3_2,kp3_3,kp3_4,kp3_5⟩:=p3.c6
       go_wp2_with fail
       clear kp3_0 kp3_1 kp3_2 kp3_3 kp3_4 kp3_5
       clear kc
       refine(Tryz.fixScaleV x d hN _ HX.out.1 HX.out.2 HD.out.2.1 HD.out.2.2 HNP.out HN64.out HV.out HE.out).mono ?_
       rintro e V1 ⟨rfl,hE⟩
       replace E0:=(Ext.trans E0 hE)
       replace p3:=(p3.ext hE)
       replace hu:=(hu.ext hE)
       replace hhs:=(Nat.le_trans hhs (Ext.size hE))
       clear hE
       obtain⟨kp3_0,kp3_1,kp3_2,kp3_3,kp3_4,kp3_5⟩:=p3.c6
       go_wp2_with fail
       clear kp3_0 kp3_1 kp3_2 kp3_3 kp3_4 kp3_5
       cases g:heldO V E
       ·have HNO:Hid (fu k=none):=Lib.hid (HF.out.trans g)
        refine(Tryz.adaHeldN V E g _).mono ?_
        rintro e V2 ⟨rfl,hE⟩
        exact⟨rfl,E0.trans hE,.inr ⟨up_no3 HLN.out.1 HLT.out (HFU.out ▸ HNO.out),rfl⟩⟩
       ·rename_i z
        have HZ:Hid (I64 z):=Lib.hid (by rw[← HV.out,← HE.out,heldO_fit]at g;exact okZ_i64 g)
        have HFUk:Hid (fu k=some z):=Lib.hid (HF.out.trans g)
        refine(Tryz.adaHeldS V E g _).mono ?_
        rintro e V2 ⟨rfl,hE⟩
        clear g
        replace E0:=(Ext.trans E0 hE)
        replace p3:=(p3.ext hE)
        replace hu:=(hu.ext hE)
        replace hhs:=(Nat.le_trans hhs (Ext.size hE))
        clear hE
        obtain⟨kc,kz,hw,hu2⟩:=hu.put (i:=k) (by rw[mixL_len];exact HLT.out) z HZ.out
        rw[mixL_set (valF_some HFUk.out)]at hu2
        have hgL:=HGU.out
        have hLL:=HL.out
        obtain⟨kp3_0,kp3_1,kp3_2,kp3_3,kp3_4,kp3_5⟩:=p3.c6
        go_wp2
        clear kp3_0 kp3_1 kp3_2 kp3_3 kp3_4 kp3_5
        go_roundw
        case rel=>exact⟨k+1,by go_num,HLT.out,Lib.hid (grow_some' HA.out HFUk.out),hu2,Nat.le_trans hhs hw.apart.size,Ext.wr E0 hw (by omega),p3.wr hw (by omega)⟩
        case measure=>simp[intOf];have:=HLT.out;omega
      ·have ek:ng=k:=by omega
       subst ek
       clear hlt hk
       rw[mixL_full]at hu
       have hi2:=hu.iw
       rw[outL_len]at hi2
       obtain⟨a2,c2,e2,hi⟩:=hi2
       cases e2
       have hLL:=HL.out
       obtain⟨kp3_0,kp3_1,kp3_2,kp3_3,kp3_4,kp3_5⟩:=p3.c6
       go_wp2
       clear kp3_0 kp3_1 kp3_2 kp3_3 kp3_4 kp3_5
       refine bodyPost_ret (v:=.slice (some ⟨gu,0,none⟩) ng cu) (by simp[results,Tryz.results44,go_sem]) rfl ⟨E0,.inl ⟨up_yes HBX.out HBY.out (by rw[HLN.out.1,← HFU.out];exact allB_iff.2 HA.out),_,_,rfl,?_⟩⟩
       have e:uL K ⟨lr,ep,d⟩ lg ls=outL ng (valF fu):=by unfold uL;rw[HLN.out.1,HFU.out]
       rw[e]
       exact hi.mono (by omega) hhs
    ·have HNDH:=Lib.hid hdh
     have hgt:¬ (hN:Int) > d:=by omega
     have hi2:=hu.iw
     rw[outL_len]at hi2
     obtain⟨a2,c2,e2,hi⟩:=hi2
     cases e2
     have hLL:=HL.out
     obtain⟨kp3_0,kp3_1,kp3_2,kp3_3,kp3_4,kp3_5⟩:=p3.c6
     go_wp2
     clear kp3_0 kp3_1 kp3_2 kp3_3 kp3_4 kp3_5
     refine bodyPost_ret (v:=.slice (some ⟨gu,0,none⟩) ng cu) (by simp[results,Tryz.results44,go_sem]) rfl ⟨E0,.inl ⟨up_yes HBX.out HBY.out (uB_no HTH.out (Int.not_lt.2 HNDH.out)),_,_,rfl,?_⟩⟩
     rw[uL_no HTH.out (Int.not_lt.2 HNDH.out) HXL.out HLN.out.1]
     exact hi.mono (by omega) hhs
end Go.Rt
namespace Go.Rt
open Go Go.RowKit Go.Proofs
set_option maxRecDepth 100000 in
set_option maxHeartbeats 4000000 in
theorem Tryz.adaIdleG (p q:Addr) (w:World):
  CallsD Tryz.prog 42 #[.pointer (some p),.pointer (some q)] .returning w fun e u' w'=>e=.returned (.tuple #[])∧u'=.returning∧w'=w:=by
 refine callsD_of_wpS Tryz.func42 rfl fun c₀ cs hu=>?_
 apply wpS_seq
 apply wpS_region
 simp[wpOpsS,go_sem,recoverD,hu,Tryz.ntmps42,Exit.thenS]
 refine wpS_of_wp ?_
 have HU:=Lib.hid hu
 clear hu;go_wp2
 exact⟨rfl,.returning,by rw[← HU.out],.tuple #[],by simp[results,Tryz.results42,go_sem],rfl,rfl,rfl⟩
set_option maxRecDepth 100000 in
set_option maxHeartbeats 4000000 in
theorem Tryz.adaCatch {g8 g9:Nat} (hne:g8≠g9) {y:Int} {w:World} (h8:Form4 w g8 27) (h9:BxA w g9 32 #[.int .i64 y]):
  CallsD Tryz.prog 42 #[.pointer (some ⟨g8,0,none⟩),.pointer (some ⟨g9,0,none⟩)] (.panicking [{ v:=.iface 113 (.agg #[]),recovered:=false }]) w fun e u' w'=>
   e=.returned (.tuple #[])∧u'=.panicking [{ v:=.iface 113 (.agg #[]),recovered:=true }]∧Apart [g8,g9] w w'∧BxA w' g8 27 #[.slice none 0 0,.slice none 0 0,.slice none 0 0,.slice none 0 0]∧BxA w' g9 32 #[.int .i64 2]:=by
 obtain⟨x0,x1,x2,x3,k0,k1,k2,k3,hz⟩:=h8.cells
 have z0:=hz 0
 have z1:=hz 1
 have z2:=hz 2
 have z3:=hz 3
 have k9:=h9.cell 0 (v:=.int .i64 y) rfl
 have z9:w.frozen? ⟨g9,0,none⟩=false:=by simp[World.frozen?,show w.heap[g9]? = _ from h9]
 refine callsD_of_wpS Tryz.func42 rfl fun c₀ cs hu=>?_
 apply wpS_seq
 apply wpS_region
 simp[wpOpsS,go_sem,recoverD,hu,Tryz.ntmps42,Exit.thenS]
 refine wpS_of_wp ?_
 have HU:=Lib.hid hu
 have H8:=Lib.hid h8
 have H9:=Lib.hid h9
 clear hu h8 h9 hz
 go_wp2
 obtain⟨W2,hW2,hw,hq⟩:=H8.out.put none 0 0 none 0 0 none 0 0 none 0 0
 rw[← hW2]
 have h9':RowI W2 g9 32 [y]:=BxA.wr H9.out hw (Ne.symm hne)
 have hw2:=Wr.row h9' 0 2
 have hq2:=h9'.set 0 2
 exact⟨rfl,_,rfl,.tuple #[],by simp[results,Tryz.results42,go_sem],rfl,rfl,(hw.apart.mono (by simp)).trans (Apart.setCell (p:=⟨g9,0,none⟩) _ (by simp) _),hq.wr hw2 hne,hq2⟩
theorem sq_posV {K:Nat} {A:AdaP} {lg:List Int} (he:0 < A.ep) (i:Nat):0≤valF (sqF K A lg) i:=by
 unfold valF sqF squareO
 cases h1:mulO K (atL lg i) (atL lg i)with
 | none=>simp
 | some x=>
  obtain⟨-,rfl⟩:=okZ_some h1
  have:=sqZ_nonneg K (atL lg i)
  rw[Option.bind_some]
  cases h2:addO (mulZ K (atL lg i) (atL lg i)) A.ep with
  | none=>simp
  | some y=>
   obtain⟨-,rfl⟩:=okZ_some h2
   simp only[Option.getD_some]
   omega
theorem blend_pos {K:Nat} {sh old q:Int} (h0:0≤sh) (h1:sh≤oneZ K) (ho:0≤old) (hq:0≤q):0≤(blendO K sh old q).getD 0:=by
 cases h:blendO K sh old q with
 | none=>simp
 | some y=>
  unfold blendO at h
  simp only[Option.bind_eq_some_iff]at h
  obtain⟨x,hx,z,hz,h⟩:=h
  obtain⟨-,rfl⟩:=okZ_some hx
  obtain⟨-,rfl⟩:=okZ_some hz
  obtain⟨-,rfl⟩:=okZ_some h
  have:=mulZ_nonneg (K:=K) (show 0≤oneZ K - sh by omega) ho
  have:=mulZ_nonneg (K:=K) h0 hq
  simp only[Option.getD_some]
  omega
theorem atL_pos {n:Nat} {f:Nat→Int} (h:∀ i,0≤f i) (i:Nat):0≤atL (outL n f) i:=by
 rcases Nat.lt_or_ge i n with q | q
 ·rw[outL_at q];exact h i
 ·unfold atL;rw[List.getD_eq_getElem?_getD,List.getElem?_eq_none (by rw[outL_len];exact q)];simp
theorem outL_pos {n:Nat} {f:Nat→Int} (h:∀ i,0≤f i):∀ x ∈ outL n f,0≤x:=by
 intro x hx
 unfold outL at hx
 rw[List.mem_map]at hx
 obtain⟨i,-,rfl⟩:=hx
 exact h i
theorem meanZ_pos {l:List Int} (h:∀ x ∈ l,0≤x):0≤meanZ l:=by
 rcases Nat.eq_zero_or_pos l.length with q | q
 ·obtain rfl:=List.length_eq_zero_iff.1 q
  have e:mkRat (colS ([]:List (List Int)) 0) ([]:List (List Int)).length*P2 0=((0:Int):Rat):=by
   unfold colS
   simp
  unfold meanZ meanV
  rw[List.map_nil,e,near_int]
  decide
 ·exact meanZ_nonneg q h
theorem negB_pos {l:List Int} (h:negB l=false) (i:Nat):0≤atL l i:=by
 rcases Nat.lt_or_ge i l.length with q | q
 ·exact negB_at h q
 ·unfold atL;rw[List.getD_eq_getElem?_getD,List.getElem?_eq_none q];simp
theorem scale_pos {a n:Int} {d:Int} (h1:0≤a) (h2:0≤n) (hd:0 < d):0≤(scaleO a n d).getD 0:=by
 unfold scaleO
 cases h:okZ (ratioV (a*n) d.toNat)with
 | none=>simp
 | some y=>
  obtain⟨-,rfl⟩:=okZ_some h
  simp only[Option.getD_some]
  exact ratio_nonneg (by omega) (Int.mul_nonneg h1 h2)
theorem sL_pos {K:Nat} {A:AdaP} {sh:Int} {cl:Nat} {lm lv lg:List Int} (he:0 < A.ep) (h0:0≤sh) (h1:sh≤oneZ K) (hm:negB lm=false) (hv:negB lv=false) (i:Nat):0≤atL (sL K sh cl lm lv (qL K A lg)) i:=by
 have hq:∀ i,0≤atL (qL K A lg) i:=fun i=>atL_pos (fun i=>sq_posV he i) i
 have hM:∀ i,0≤valF (mF K sh cl lm (qL K A lg)) i:=fun i=>blend_pos h0 h1 (negB_pos hm _) (meanZ_pos (outL_pos fun j=>hq _))
 have hV:∀ i,0≤valF (vF K sh cl lv (qL K A lg)) i:=fun i=>blend_pos h0 h1 (negB_pos hv _) (meanZ_pos (outL_pos fun j=>hq _))
 have hP:∀ i,0≤valF (pF K sh lv (qL K A lg)) i:=fun i=>blend_pos h0 h1 (negB_pos hv _) (hq _)
 have e0:∀ i,atL ([]:List Int) i=0:=fun i=>by simp[atL]
 have hm2:∀ i,0≤atL (mL K sh cl lm (qL K A lg)) i:=fun i=>by
  unfold mL
  split
  ·exact atL_pos hM i
  ·rw[e0];omega
 have hv2:∀ i,0≤atL (vL K sh cl lv (qL K A lg)) i:=fun i=>by
  unfold vL
  split
  ·exact atL_pos hV i
  ·exact atL_pos hP i
 unfold sL
 split
 ·exact atL_pos (fun i=>scale_pos (hm2 _) (hv2 _) (by omega)) i
 ·exact atL_pos hP i
set_option maxRecDepth 100000 in
set_option maxHeartbeats 4000000 in
theorem Tryz.adaMoments {am av ag aw:Option Addr} {nm cm nv cv ng cg nw cw:Nat} {lm lv lg:List Int} (lr ep d sh:Int) (K cl:Nat) (w:World) (hK:K≤40) (h0:0≤sh) (h1:sh≤oneZ K) (he:I64 ep) (hc1:1≤cl) (hn:ng≤40) (hdv:ng % cl=0) (hsh:if facB ng cl=true then nm=ng / cl∧nv=cl else nm=0∧nv=ng)
  (hm:Iw 0 w.heap.size w am nm cm lm) (hv:Iw 0 w.heap.size w av nv cv lv) (hg:Iw 0 w.heap.size w ag ng cg lg):
  Calls Tryz.prog 43 #[.agg #[.int .i64 lr,.int .i64 ep,.int .i64 d,.int .i64 (K:Int),.int .i64 (cl:Int),.int .i64 sh],.agg #[.slice aw nw cw,.slice am nm cm,.slice av nv cv,.slice ag ng cg]] w fun e w'=>Ext w w'∧(((allB lg.length (sqF K ⟨lr,ep,d⟩ lg) && momB K sh cl lm lv (qL K ⟨lr,ep,d⟩ lg))=true∧∃ a1 n1 c1 a2 c2 a3 c3,e=.returned (.tuple #[.slice a1 n1 c1,.slice a2 nv c2,.slice a3 ng c3])∧Iw w.heap.size w'.heap.size w' a1 n1 c1 (mL K sh cl lm (qL K ⟨lr,ep,d⟩ lg))∧Iw w.heap.size w'.heap.size w' a2 nv c2 (vL K sh cl lv (qL K ⟨lr,ep,d⟩ lg))∧Iw w.heap.size w'.heap.size w' a3 ng c3 (sL K sh cl lm lv (qL K ⟨lr,ep,d⟩ lg)))∨((allB lg.length (sqF K ⟨lr,ep,d⟩ lg) && momB K sh cl lm lv (qL K ⟨lr,ep,d⟩ lg))=false∧e=.panicked [{ v:=.iface 113 (.agg #[]),recovered:=false }])):=by
 cases hf:facB ng cl
 ·rw[hf]at hsh
  obtain⟨rfl,e2⟩:=hsh
  subst e2
  exact Tryz.adaMomentsP lr ep d sh K cl w hK h0 h1 he hc1 hn hf hm hv hg
 ·rw[hf]at hsh
  obtain⟨rfl,e2⟩:=hsh
  subst e2
  have h2:=hf
  unfold facB at h2
  rw[Bool.and_eq_true,decide_eq_true_eq,decide_eq_true_eq]at h2
  exact Tryz.adaMomentsF lr ep d sh K nv w hK h0 h1 he h2.1 h2.2 (by have:=Nat.div_add_mod ng nv;rw[hdv,Nat.add_zero,Nat.mul_comm]at this;exact this.symm) hn hm hv hg
end Go.Rt
namespace Go.Rt
open Go Go.RowKit Go.Proofs
section
variable {K:Nat} {A:AdaP} {sh:Int} {cl ng:Nat} {lw lm lv lg l3 lu:List Int} {fw:Nat→Option Int}
theorem ada_noW {k:Nat} (_:(allB lg.length (sqF K A lg) && momB K sh cl lm lv (qL K A lg))=true) (_:upB K A lg l3=true) (e3:l3=sL K sh cl lm lv (qL K A lg)) (eu:lu=uL K A lg l3) (ew:fw=wF K A lw lu) (hn:lg.length=ng) (hk:k < ng) (h:fw k=none):adaB K A sh cl lw lm lv lg=false:=by
 unfold adaB
 rw[← e3,← eu,← ew,allB_no (f:=fw) (i:=k) (by omega) h,Bool.and_false]
theorem ada_yesW (h1:(allB lg.length (sqF K A lg) && momB K sh cl lm lv (qL K A lg))=true) (h2:upB K A lg l3=true) (e3:l3=sL K sh cl lm lv (qL K A lg)) (eu:lu=uL K A lg l3) (ew:fw=wF K A lw lu) (hn:lg.length=ng) (h:∀ j,j < ng→fw j≠none):adaB K A sh cl lw lm lv lg=true:=by
 unfold adaB
 rw[h1,← e3,← eu,← ew,h2,hn,allB_iff.2 h]
 rfl
theorem adaW_is (e3:l3=sL K sh cl lm lv (qL K A lg)) (eu:lu=uL K A lg l3) (ew:fw=wF K A lw lu) (hn:lu.length=ng):adaW K A sh cl lw lm lv lg=outL ng (valF fw):=by
 unfold adaW wL
 rw[← e3,← eu,← ew,hn]
end
set_option maxRecDepth 100000 in
set_option maxHeartbeats 16000000 in
theorem Tryz.adaStep {am av ag aw:Option Addr} {nm cm nv cv ng cg cw:Nat} {lw lm lv lg:List Int} (lr ep d sh:Int) (K cl:Nat) (w:World) (hK:K≤40) (h0:0≤sh) (h1:sh≤oneZ K) (he:I64 ep) (hep:0 < ep) (hlr:I64 lr) (hd0:0 < d) (hdi:I64 d) (hc1:1≤cl) (hn:ng≤40) (hdv:ng % cl=0) (hsh:if facB ng cl=true then nm=ng / cl∧nv=cl else nm=0∧nv=ng) (hnm:negB lm=false) (hnv:negB lv=false)
  (hw:Iw 0 w.heap.size w aw ng cw lw) (hm:Iw 0 w.heap.size w am nm cm lm) (hv:Iw 0 w.heap.size w av nv cv lv) (hg:Iw 0 w.heap.size w ag ng cg lg):
  Calls Tryz.prog 18 #[.agg #[.int .i64 lr,.int .i64 ep,.int .i64 d,.int .i64 (K:Int),.int .i64 (cl:Int),.int .i64 sh],.agg #[.slice aw ng cw,.slice am nm cm,.slice av nv cv,.slice ag ng cg]] w fun e w'=>Ext w w'∧((adaB K ⟨lr,ep,d⟩ sh cl lw lm lv lg=true∧∃ a1 n1 c1 a2 n2 c2 a3 n3 c3,e=.returned (.tuple #[.agg #[.slice a1 n1 c1,.slice a2 n2 c2,.slice a3 n3 c3,.slice none 0 0],.int .i64 0])∧Iw w.heap.size w'.heap.size w' a1 n1 c1 (adaW K ⟨lr,ep,d⟩ sh cl lw lm lv lg)∧Iw w.heap.size w'.heap.size w' a2 n2 c2 (adaMo K ⟨lr,ep,d⟩ sh cl lm lg)∧Iw w.heap.size w'.heap.size w' a3 n3 c3 (adaVo K ⟨lr,ep,d⟩ sh cl lv lg))∨(adaB K ⟨lr,ep,d⟩ sh cl lw lm lv lg=false∧e=.returned (.tuple #[.agg #[.slice none 0 0,.slice none 0 0,.slice none 0 0,.slice none 0 0],.int .i64 2]))):=by
 have HK:=Lib.hid (And.intro hK (And.intro h0 h1))
 have HP:=Lib.hid (And.intro he (And.intro hep (And.intro hlr (And.intro hd0 hdi))))
 have HC:=Lib.hid (And.intro hc1 (And.intro hn hdv))
 have HSH:=Lib.hid hsh
 have HNG:=Lib.hid (And.intro hnm hnv)
 have HLN:=Lib.hid (And.intro hw.len (And.intro hm.len (And.intro hv.len hg.len)))
 clear hK h0 h1 he hep hlr hd0 hdi hc1 hn hdv hsh hnm hnv
 have hmf:∀ (fn:Fn) (first cap:Array Value) (W:World),(Instr.makeFunc fn first cap).run Tryz.prog W=.ok (.func fn first cap) W:=fun _ _ _ _=>rfl
 have ihw:=hw
 clear hw
 have ihm:=hm
 clear hm
 have ihv:=hv
 clear hv
 have ihg:=hg
 clear hg
 obtain⟨W0,hW0⟩:∃ W0,W0=((((w.alloc (.cells #[.int .i64 lr,.int .i64 ep,.int .i64 d,.int .i64 (K:Int),.int .i64 (cl:Int),.int .i64 sh] 54)).alloc (.cells #[.slice aw ng cw,.slice am nm cm,.slice av nv cv,.slice ag ng cg] 27)).alloc (.cells #[.slice none 0 0,.slice none 0 0,.slice none 0 0,.slice none 0 0] 27)).alloc (.cells #[.int .i64 0] 32)):=⟨_,rfl⟩
 have E0:Ext w W0:=by rw[hW0];exact((((Ext.alloc1 w (.cells #[.int .i64 lr,.int .i64 ep,.int .i64 d,.int .i64 (K:Int),.int .i64 (cl:Int),.int .i64 sh] 54)).alloc (.cells #[.slice aw ng cw,.slice am nm cm,.slice av nv cv,.slice ag ng cg] 27)).alloc (.cells #[.slice none 0 0,.slice none 0 0,.slice none 0 0,.slice none 0 0] 27)).alloc (.cells #[.int .i64 0] 32))
 replace ihw:Iw 0 w.heap.size W0 aw ng cw (lw):=ihw.ext E0
 replace ihm:Iw 0 w.heap.size W0 am nm cm (lm):=ihm.ext E0
 replace ihv:Iw 0 w.heap.size W0 av nv cv (lv):=ihv.ext E0
 replace ihg:Iw 0 w.heap.size W0 ag ng cg (lg):=ihg.ext E0
 have p2:BxA W0 w.heap.size 54 #[.int .i64 lr,.int .i64 ep,.int .i64 d,.int .i64 (K:Int),.int .i64 (cl:Int),.int .i64 sh]:=by rw[hW0];exact(BxA.new w 54 #[.int .i64 lr,.int .i64 ep,.int .i64 d,.int .i64 (K:Int),.int .i64 (cl:Int),.int .i64 sh]).ext (((Ext.alloc1 (w.alloc (.cells #[.int .i64 lr,.int .i64 ep,.int .i64 d,.int .i64 (K:Int),.int .i64 (cl:Int),.int .i64 sh] 54)) (.cells #[.slice aw ng cw,.slice am nm cm,.slice av nv cv,.slice ag ng cg] 27)).alloc (.cells #[.slice none 0 0,.slice none 0 0,.slice none 0 0,.slice none 0 0] 27)).alloc (.cells #[.int .i64 0] 32))
 have p3:BxA W0 (w.heap.size+1) 27 #[.slice aw ng cw,.slice am nm cm,.slice av nv cv,.slice ag ng cg]:=by rw[hW0];simpa using (BxA.new (w.alloc (.cells #[.int .i64 lr,.int .i64 ep,.int .i64 d,.int .i64 (K:Int),.int .i64 (cl:Int),.int .i64 sh] 54)) 27 #[.slice aw ng cw,.slice am nm cm,.slice av nv cv,.slice ag ng cg]).ext ((Ext.alloc1 ((w.alloc (.cells #[.int .i64 lr,.int .i64 ep,.int .i64 d,.int .i64 (K:Int),.int .i64 (cl:Int),.int .i64 sh] 54)).alloc (.cells #[.slice aw ng cw,.slice am nm cm,.slice av nv cv,.slice ag ng cg] 27)) (.cells #[.slice none 0 0,.slice none 0 0,.slice none 0 0,.slice none 0 0] 27)).alloc (.cells #[.int .i64 0] 32))
 have p4:BxA W0 (w.heap.size+1+1) 27 #[.slice none 0 0,.slice none 0 0,.slice none 0 0,.slice none 0 0]:=by rw[hW0];simpa using (BxA.new ((w.alloc (.cells #[.int .i64 lr,.int .i64 ep,.int .i64 d,.int .i64 (K:Int),.int .i64 (cl:Int),.int .i64 sh] 54)).alloc (.cells #[.slice aw ng cw,.slice am nm cm,.slice av nv cv,.slice ag ng cg] 27)) 27 #[.slice none 0 0,.slice none 0 0,.slice none 0 0,.slice none 0 0]).ext (Ext.alloc1 (((w.alloc (.cells #[.int .i64 lr,.int .i64 ep,.int .i64 d,.int .i64 (K:Int),.int .i64 (cl:Int),.int .i64 sh] 54)).alloc (.cells #[.slice aw ng cw,.slice am nm cm,.slice av nv cv,.slice ag ng cg] 27)).alloc (.cells #[.slice none 0 0,.slice none 0 0,.slice none 0 0,.slice none 0 0] 27)) (.cells #[.int .i64 0] 32))
 have p5:BxA W0 (w.heap.size+1+1+1) 32 #[.int .i64 0]:=by rw[hW0];simpa using (BxA.new (((w.alloc (.cells #[.int .i64 lr,.int .i64 ep,.int .i64 d,.int .i64 (K:Int),.int .i64 (cl:Int),.int .i64 sh] 54)).alloc (.cells #[.slice aw ng cw,.slice am nm cm,.slice av nv cv,.slice ag ng cg] 27)).alloc (.cells #[.slice none 0 0,.slice none 0 0,.slice none 0 0,.slice none 0 0] 27)) 32 #[.int .i64 0])
 go_enter_defers Tryz.func18,Tryz.ntmps18
 obtain⟨kp2_0,kp2_1,kp2_2,kp2_3,kp2_4,kp2_5⟩:=p2.c6
 obtain⟨kp3_0,kp3_1,kp3_2,kp3_3⟩:=p3.c4
 obtain⟨kp4_0,kp4_1,kp4_2,kp4_3⟩:=p4.c4
 have kp5_0:=p5.cell 0 (v:=.int .i64 0) rfl
 go_upto_region 2 with (fail)
 rw[← hW0]
 clear hW0
 clear kp2_0 kp2_1 kp2_2 kp2_3 kp2_4 kp2_5 kp3_0 kp3_1 kp3_2 kp3_3 kp4_0 kp4_1 kp4_2 kp4_3 kp5_0
 obtain⟨B,hB⟩:∃ B,B=W0.heap.size:=⟨_,rfl⟩
 have HB:Hid (w.heap.size+1+1+1 < B):=Lib.hid (by have:=p5.lt;omega)
 have hsB:B≤W0.heap.size:=Nat.le_of_eq hB
 have hEz:=Ext.size E0
 obtain⟨kp2_0,kp2_1,kp2_2,kp2_3,kp2_4,kp2_5⟩:=p2.c6
 obtain⟨kp3_0,kp3_1,kp3_2,kp3_3⟩:=p3.c4
 obtain⟨kp4_0,kp4_1,kp4_2,kp4_3⟩:=p4.c4
 have kp5_0:=p5.cell 0 (v:=.int .i64 0) rfl
 go_wp2_with fail
 clear kp2_0 kp2_1 kp2_2 kp2_3 kp2_4 kp2_5 kp3_0 kp3_1 kp3_2 kp3_3 kp4_0 kp4_1 kp4_2 kp4_3 kp5_0
 refine(Tryz.adaMoments (cw:=cw) (nw:=ng) (aw:=aw) lr ep d sh K cl W0 HK.out.1 HK.out.2.1 HK.out.2.2 HP.out.1 HC.out.1 HC.out.2.1 HC.out.2.2 HSH.out (ihm.mono (Nat.le_refl _) hEz) (ihv.mono (Nat.le_refl _) hEz) (ihg.mono (Nat.le_refl _) hEz)).mono ?_
 clear hEz
 rw[← hB]
 clear hB
 rintro e V1 ⟨hE,⟨hb,a1,n1,c1,a2,c2,a3,c3,rfl,hi1,hi2,hi3⟩ | ⟨hb,rfl⟩⟩
 ·have HMB:=Lib.hid hb
  clear hb
  replace E0:=(Ext.trans E0 hE)
  replace ihw:=(ihw.ext hE)
  replace ihm:=(ihm.ext hE)
  replace ihv:=(ihv.ext hE)
  replace ihg:=(ihg.ext hE)
  replace p2:=(p2.ext hE)
  replace p3:=(p3.ext hE)
  replace p4:=(p4.ext hE)
  replace p5:=(p5.ext hE)
  replace hsB:=(Nat.le_trans hsB (Ext.size hE))
  clear hE
  obtain⟨l1,hl1⟩:∃ l,l=mL K sh cl lm (qL K ⟨lr,ep,d⟩ lg):=⟨_,rfl⟩
  obtain⟨l2,hl2⟩:∃ l,l=vL K sh cl lv (qL K ⟨lr,ep,d⟩ lg):=⟨_,rfl⟩
  obtain⟨l3,hl3⟩:∃ l,l=sL K sh cl lm lv (qL K ⟨lr,ep,d⟩ lg):=⟨_,rfl⟩
  rw[← hl1]at hi1
  rw[← hl2]at hi2
  rw[← hl3]at hi3
  have HL1:=Lib.hid hl1
  have HL2:=Lib.hid hl2
  have HL3:=Lib.hid hl3
  clear hl1 hl2 hl3
  obtain⟨H1,hH⟩:∃ n,n=V1.heap.size:=⟨_,rfl⟩
  have hsH:H1≤V1.heap.size:=Nat.le_of_eq hH
  rw[← hH]at hi1 hi2 hi3
  have HBH:Hid (B≤H1):=Lib.hid (by omega)
  clear hH
  obtain⟨lu,hlu⟩:∃ l,l=uL K ⟨lr,ep,d⟩ lg l3:=⟨_,rfl⟩
  have HLU:=Lib.hid hlu
  obtain⟨fw,hfw⟩:∃ f,f=wF K ⟨lr,ep,d⟩ lw lu:=⟨_,rfl⟩
  have HFW:=Lib.hid hfw
  clear hfw
  have z1:=p4.frozN 1
  have z2:=p4.frozN 2
  obtain⟨kp2_0,kp2_1,kp2_2,kp2_3,kp2_4,kp2_5⟩:=p2.c6
  obtain⟨kp3_0,kp3_1,kp3_2,kp3_3⟩:=p3.c4
  obtain⟨kp4_0,kp4_1,kp4_2,kp4_3⟩:=p4.c4
  have kp5_0:=p5.cell 0 (v:=.int .i64 0) rfl
  go_upto_region 4 with (fail)
  clear kp2_0 kp2_1 kp2_2 kp2_3 kp2_4 kp2_5 kp3_0 kp3_1 kp3_2 kp3_3 kp4_0 kp4_1 kp4_2 kp4_3 kp5_0
  clear z1 z2
  obtain⟨V2,hV2⟩:∃ V,V=V1.setCell ⟨w.heap.size+1+1,1,none⟩ (.slice a1 n1 c1):=⟨_,rfl⟩
  obtain⟨V3,hV3⟩:∃ V,V=V2.setCell ⟨w.heap.size+1+1,2,none⟩ (.slice a2 nv c2):=⟨_,rfl⟩
  rw[← hV2,← hV3]
  have hHB:=HB.out
  have hw:Wr (w.heap.size+1+1) V1 V2:=by rw[hV2];exact Wr.putN p4 (noU4 _ _ _ _ _ _ _ _ _ _ _ _) 1 _ (noU4 _ _ _ _ _ _ _ _ _ _ _ _)
  replace E0:Ext w V2:=(Ext.wr E0 hw (by omega))
  replace ihw:Iw 0 w.heap.size V2 aw ng cw (lw):=(ihw.wr hw (by omega))
  replace ihm:Iw 0 w.heap.size V2 am nm cm (lm):=(ihm.wr hw (by omega))
  replace ihv:Iw 0 w.heap.size V2 av nv cv (lv):=(ihv.wr hw (by omega))
  replace ihg:Iw 0 w.heap.size V2 ag ng cg (lg):=(ihg.wr hw (by omega))
  replace p2:BxA V2 w.heap.size 54 #[.int .i64 lr,.int .i64 ep,.int .i64 d,.int .i64 (K:Int),.int .i64 (cl:Int),.int .i64 sh]:=(p2.wr hw (by omega))
  replace p3:BxA V2 (w.heap.size+1) 27 #[.slice aw ng cw,.slice am nm cm,.slice av nv cv,.slice ag ng cg]:=(p3.wr hw (by omega))
  replace p4:BxA V2 (w.heap.size+1+1) 27 #[.slice none 0 0,.slice a1 n1 c1,.slice none 0 0,.slice none 0 0]:=by rw[hV2];exact p4.putN 1 _
  replace p5:BxA V2 (w.heap.size+1+1+1) 32 #[.int .i64 0]:=(p5.wr hw (by omega))
  replace hsB:B≤V2.heap.size:=(Nat.le_trans hsB hw.apart.size)
  replace hi1:Iw B H1 V2 a1 n1 c1 (l1):=(hi1.wr hw (by omega))
  replace hi2:Iw B H1 V2 a2 nv c2 (l2):=(hi2.wr hw (by omega))
  replace hi3:Iw B H1 V2 a3 ng c3 (l3):=(hi3.wr hw (by omega))
  replace hsH:H1≤V2.heap.size:=(Nat.le_trans hsH hw.apart.size)
  clear hw hV2
  have hw:Wr (w.heap.size+1+1) V2 V3:=by rw[hV3];exact Wr.putN p4 (noU4 _ _ _ _ _ _ _ _ _ _ _ _) 2 _ (noU4 _ _ _ _ _ _ _ _ _ _ _ _)
  replace E0:Ext w V3:=(Ext.wr E0 hw (by omega))
  replace ihw:Iw 0 w.heap.size V3 aw ng cw (lw):=(ihw.wr hw (by omega))
  replace ihm:Iw 0 w.heap.size V3 am nm cm (lm):=(ihm.wr hw (by omega))
  replace ihv:Iw 0 w.heap.size V3 av nv cv (lv):=(ihv.wr hw (by omega))
  replace ihg:Iw 0 w.heap.size V3 ag ng cg (lg):=(ihg.wr hw (by omega))
  replace p2:BxA V3 w.heap.size 54 #[.int .i64 lr,.int .i64 ep,.int .i64 d,.int .i64 (K:Int),.int .i64 (cl:Int),.int .i64 sh]:=(p2.wr hw (by omega))
  replace p3:BxA V3 (w.heap.size+1) 27 #[.slice aw ng cw,.slice am nm cm,.slice av nv cv,.slice ag ng cg]:=(p3.wr hw (by omega))
  replace p4:BxA V3 (w.heap.size+1+1) 27 #[.slice none 0 0,.slice a1 n1 c1,.slice a2 nv c2,.slice none 0 0]:=by rw[hV3];exact p4.putN 2 _
  replace p5:BxA V3 (w.heap.size+1+1+1) 32 #[.int .i64 0]:=(p5.wr hw (by omega))
  replace hsB:B≤V3.heap.size:=(Nat.le_trans hsB hw.apart.size)
  replace hi1:Iw B H1 V3 a1 n1 c1 (l1):=(hi1.wr hw (by omega))
  replace hi2:Iw B H1 V3 a2 nv c2 (l2):=(hi2.wr hw (by omega))
  replace hi3:Iw B H1 V3 a3 ng c3 (l3):=(hi3.wr hw (by omega))
  replace hsH:H1≤V3.heap.size:=(Nat.le_trans hsH hw.apart.size)
  clear hw hV3
  clear hHB
  have hEz:=Ext.size E0
  obtain⟨kp2_0,kp2_1,kp2_2,kp2_3,kp2_4,kp2_5⟩:=p2.c6
  obtain⟨kp3_0,kp3_1,kp3_2,kp3_3⟩:=p3.c4
  obtain⟨kp4_0,kp4_1,kp4_2,kp4_3⟩:=p4.c4
  have kp5_0:=p5.cell 0 (v:=.int .i64 0) rfl
  go_wp2_with fail
  clear kp2_0 kp2_1 kp2_2 kp2_3 kp2_4 kp2_5 kp3_0 kp3_1 kp3_2 kp3_3 kp4_0 kp4_1 kp4_2 kp4_3 kp5_0
  refine(Tryz.adaUpdates lr ep d sh (cl:Int) K V3 HK.out.1 HP.out.2.2.2.1 HP.out.2.2.2.2 HC.out.2.1 hsH (fun i _=>by rw[HL3.out];exact sL_pos HP.out.2.1 HK.out.2.1 HK.out.2.2 HNG.out.1 HNG.out.2 i) (ihg.mono (Nat.le_refl _) hEz) hi3).mono ?_
  clear hEz
  rintro e V4 ⟨hE,⟨hb,a4,c4,rfl,hi4⟩ | ⟨hb,rfl⟩⟩
  ·have HUB:=Lib.hid hb
   clear hb
   replace hi4:=hi4.mono hsB (Nat.le_refl _)
   rw[← hlu]at hi4
   clear hlu
   replace E0:=(Ext.trans E0 hE)
   replace ihw:=(ihw.ext hE)
   replace ihm:=(ihm.ext hE)
   replace ihv:=(ihv.ext hE)
   replace ihg:=(ihg.ext hE)
   replace p2:=(p2.ext hE)
   replace p3:=(p3.ext hE)
   replace p4:=(p4.ext hE)
   replace p5:=(p5.ext hE)
   replace hsB:=(Nat.le_trans hsB (Ext.size hE))
   replace hi1:=(hi1.ext hE)
   replace hi2:=(hi2.ext hE)
   replace hi3:=(hi3.ext hE)
   replace hsH:=(Nat.le_trans hsH (Ext.size hE))
   clear hE
   obtain⟨L,hL⟩:∃ n,n=V4.heap.size:=⟨_,rfl⟩
   have hsL:L≤V4.heap.size:=Nat.le_of_eq hL
   rw[← hL]at hi4
   have HL:Hid (B≤L∧H1≤L):=Lib.hid (by omega)
   clear hL hsB hsH
   have HUN:Hid (lu.length=ng):=Lib.hid hi4.len
   clear ihm ihv ihg hi3
   obtain⟨kp2_0,kp2_1,kp2_2,kp2_3,kp2_4,kp2_5⟩:=p2.c6
   obtain⟨kp3_0,kp3_1,kp3_2,kp3_3⟩:=p3.c4
   obtain⟨kp4_0,kp4_1,kp4_2,kp4_3⟩:=p4.c4
   have kp5_0:=p5.cell 0 (v:=.int .i64 0) rfl
   go_wp2_with fail
   clear kp2_0 kp2_1 kp2_2 kp2_3 kp2_4 kp2_5 kp3_0 kp3_1 kp3_2 kp3_3 kp4_0 kp4_1 kp4_2 kp4_3 kp5_0
   go_loopw [29] (fun i wr=>∃ (k:Nat) (vw:Value),i=.int .i64 (k:Int)∧k≤ng∧Hid (∀ j,j < k→fw j≠none)∧BxA wr (w.heap.size+1+1) 27 #[vw,.slice a1 n1 c1,.slice a2 nv c2,.slice none 0 0]∧RowG L wr.heap.size wr 2 vw (outL k (valF fw))∧Ext w wr∧Iw 0 w.heap.size wr aw ng cw (lw)∧BxA wr w.heap.size 54 #[.int .i64 lr,.int .i64 ep,.int .i64 d,.int .i64 (K:Int),.int .i64 (cl:Int),.int .i64 sh]∧BxA wr (w.heap.size+1) 27 #[.slice aw ng cw,.slice am nm cm,.slice av nv cv,.slice ag ng cg]∧BxA wr (w.heap.size+1+1+1) 32 #[.int .i64 0]∧Iw B H1 wr a1 n1 c1 (l1)∧Iw B H1 wr a2 nv c2 (l2)∧Iw B L wr a4 ng c4 (lu)∧L≤wr.heap.size) (fun i _=>ng - (intOf i).toNat)
   case atStart=>exact⟨0,_,rfl,Nat.zero_le _,Lib.hid (fun j hj=>absurd hj (by omega)),p4,RowG.nil _ _ _ _,E0,ihw,p2,p3,p5,hi1,hi2,hi4,hsL⟩
   case round=>
    clear p4 E0 ihw p2 p3 p5 hi1 hi2 hi4 hsL
    obtain⟨k,vw,rfl,hk,HA,p4,hq,E0,ihw,p2,p3,p5,hi1,hi2,hi4,hsL⟩:=hrel
    by_cases hlt:k < ng
    ·have hltI:(k:Int) < (ng:Int):=by omega
     have hk0:(0:Int)≤(k:Int):=by omega
     have hk63:(k:Int) < 9223372036854775807:=by have:=HC.out;omega
     obtain⟨bu,ou,ea,-,-⟩:=hi4.some (by omega)
     subst ea
     obtain⟨bw,ow,ea,-,-⟩:=ihw.some (by omega)
     subst ea
     have kc:=hi4.cell hlt
     have HX:=Lib.hid (hi4.i64 hlt)
     obtain⟨x,hx⟩:∃ x,x=atL lu k:=⟨_,rfl⟩
     have HXX:=Lib.hid hx
     rw[← hx]at kc HX
     have HLT:=Lib.hid hlt
     have HW:=Lib.hid (ihw.i64 hlt)
     obtain⟨t,Ht⟩:∃ u_,u_=(mulO K lr x).getD 0:=⟨_,rfl⟩
     replace Ht:=Lib.hid Ht
     obtain⟨V,hV⟩:∃ V,fitV (atL lw k - t)=V:=⟨_,rfl⟩
     obtain⟨E,hE⟩:∃ E,fitE (atL lw k - t)=E:=⟨_,rfl⟩
     have HZ:Hid (heldO V E=subO (atL lw k) t):=Lib.hid (by rw[← hV,← hE];exact heldO_fit _)
     have HV:=Lib.hid hV
     have HE:=Lib.hid hE
     have HF:Hid (fw k=(mulO K lr x).bind fun t=>subO (atL lw k) t):=Lib.hid (by rw[HFW.out,hx];rfl)
     have HZI:Hid (∀ z,heldO V E=some z→I64 z):=Lib.hid (fun z hz=>by rw[← hV,← hE,heldO_fit]at hz;exact okZ_i64 hz)
     clear hV hE hx hk
     obtain⟨z2,Hz2⟩:∃ u_,u_=(heldO V E).getD 0:=⟨_,rfl⟩
     replace Hz2:=Lib.hid Hz2
     have hq2:=hq.iw
     rw[outL_len]at hq2
     obtain⟨ar0,cr0,rfl,-⟩:=hq2
     obtain⟨hh,hhe⟩:∃ n,n=wr.heap.size:=⟨_,rfl⟩
     have hhs:hh≤wr.heap.size:=Nat.le_of_eq hhe
     rw[← hhe]at hq
     clear hhe
     obtain⟨kp2_0,kp2_1,kp2_2,kp2_3,kp2_4,kp2_5⟩:=p2.c6
     obtain⟨kp3_0,kp3_1,kp3_2,kp3_3⟩:=p3.c4
     have kp5_0:=p5.cell 0 (v:=.int .i64 0) rfl
     obtain⟨kp4_0,kp4_1,kp4_2,kp4_3⟩:=p4.c4
     go_upto_region 7 with (fail)
     clear kp2_0 kp2_1 kp2_2 kp2_3 kp2_4 kp2_5 kp3_0 kp3_1 kp3_2 kp3_3 kp5_0 kp4_0 kp4_1 kp4_2 kp4_3
     clear kc
     have f4:=Form4.of p4
     have sHB:=HB.out
     have sHBH:=HBH.out
     have sHL:=HL.out
     have sHC:=HC.out
     have ltp2:=p2.lt
     have ltp3:=p3.lt
     have ltp5:=p5.lt
     have lthsL:=hsL
     have lthhs:=hhs
     have szw1:=Ext.size E0
     refine region_go5 [.one fun v _=>v=.pointer (some ⟨w.heap.size+1+1,0,none⟩),
       .one fun v W=>v=.slice ar0 k cr0∧RowG L hh W 2 v (outL k (valF fw)),
       .one fun v _=>v=.pointer (some ⟨w.heap.size+1,0,none⟩),
       .one fun v _=>v=.slice (some ⟨bw,ow,none⟩) ng cw,
       .one fun v _=>v=.int .i64 (k:Int),
       .one fun v _=>v=.pointer (some ⟨bw,ow+k,none⟩),
       .one fun v _=>v=.int .i64 (atL lw k),
       .one fun v _=>v=.agg #[.int .i64 lr,.int .i64 ep,.int .i64 d,.int .i64 (K:Int),.int .i64 (cl:Int),.int .i64 sh],
       .one fun v _=>v=.pointer (some ⟨w.heap.size,0,none⟩),
       .one fun v _=>v=.pointer (some ⟨w.heap.size,0,none⟩),
       .one fun v _=>v=.int .i64 lr,
       .one fun v _=>v=.int .i64 x,
       .one fun v _=>v=.int .i64 t∧mulO K lr x=some t,
       .one fun v _=>v=.tuple #[.int .i64 V,.int .i64 E],
       .one fun v _=>v=.int .i64 V,
       .one fun v _=>v=.int .i64 E,
       .one fun v _=>v=.int .i64 z2∧heldO V E=some z2,
       .one fun v W=>NewG W v z2,
       .one fun v W=>RowG L W.heap.size W 2 v (outL k (valF fw)++[z2]),
       .one fun v _=>v=.pointer (some ⟨w.heap.size+1+1,0,none⟩),
       .two 18 fun p _ W=>BxA W (w.heap.size+1+1) 27 #[p,.slice a1 n1 c1,.slice a2 nv c2,.slice none 0 0]]
      (fun W=>Ext w W∧Iw 0 w.heap.size W (some ⟨bw,ow,none⟩) ng cw (lw)∧BxA W w.heap.size 54 #[.int .i64 lr,.int .i64 ep,.int .i64 d,.int .i64 (K:Int),.int .i64 (cl:Int),.int .i64 sh]∧BxA W (w.heap.size+1) 27 #[.slice (some ⟨bw,ow,none⟩) ng cw,.slice am nm cm,.slice av nv cv,.slice ag ng cg]∧BxA W (w.heap.size+1+1+1) 32 #[.int .i64 0]∧Iw B H1 W a1 n1 c1 (l1)∧Iw B H1 W a2 nv c2 (l2)∧Iw B L W (some ⟨bu,ou,none⟩) ng c4 (lu)∧L≤W.heap.size∧RowG L hh W 2 (.slice ar0 k cr0) (outL k (valF fw))∧hh≤W.heap.size∧Form4 W (w.heap.size+1+1) 27∧wr.heap.size≤W.heap.size) (fun W=>BxA W (w.heap.size+1+1) 27 #[.slice ar0 k cr0,.slice a1 n1 c1,.slice a2 nv c2,.slice none 0 0]) L (Ione (.slice ar0 k cr0)) 20 [(1,1),(18,1),(17,3)] [Tag4.any,Tag4.on 1,Tag4.any,Tag4.any,Tag4.any,Tag4.any,Tag4.any,Tag4.any,Tag4.any,Tag4.any,Tag4.any,Tag4.any,Tag4.any,Tag4.any,Tag4.any,Tag4.any,Tag4.any,Tag4.on 17,Tag4.on 18,Tag4.any,Tag4.last] ⟨tag4_good (Good.is _),tagQ,tag4_good (Good.is _),tag4_good (Good.is _),tag4_good (Good.is _),tag4_good (Good.is _),tag4_good (Good.is _),tag4_good (Good.is _),tag4_good (Good.is _),tag4_good (Good.is _),tag4_good (Good.is _),tag4_good (Good.is _),tag4_good (Good.may _ _),tag4_good (Good.is _),tag4_good (Good.is _),tag4_good (Good.is _),tag4_good (Good.may _ _),tagN,tagH,tag4_good (Good.is _),(tag4_last fun _ _ _ hE h=>BxA.ext h hE),trivial⟩
      (fun W W1 hS hE=>⟨(Ext.trans hS.1 hE),(hS.2.1.ext hE),(hS.2.2.1.ext hE),(hS.2.2.2.1.ext hE),(hS.2.2.2.2.1.ext hE),(hS.2.2.2.2.2.1.ext hE),(hS.2.2.2.2.2.2.1.ext hE),(hS.2.2.2.2.2.2.2.1.ext hE),(Nat.le_trans hS.2.2.2.2.2.2.2.2.1 (Ext.size hE)),(hS.2.2.2.2.2.2.2.2.2.1.ext hE),(Nat.le_trans hS.2.2.2.2.2.2.2.2.2.2.1 (Ext.size hE)),(hS.2.2.2.2.2.2.2.2.2.2.2.1.ext hE),(Nat.le_trans hS.2.2.2.2.2.2.2.2.2.2.2.2 (Ext.size hE))⟩) (fun W W1 h hE=>BxA.ext h hE) (begun_one hq (by omega) (by omega)) ⟨E0,ihw,p2,p3,p5,hi1,hi2,hi4,hsL,hq,hhs,f4,Nat.le_refl _⟩ p4 (by kernel_rfl) (by kernel_rfl) (by kernel_rfl) (by kernel_rfl) (A:=?A1) ?hA1 ?howe1 ?hfin1
     case hA1=>
      intro vs
      simp only[putAll,Act.put,List.setIfInBounds_toArray,List.set_cons_zero,List.set_cons_succ,Nat.zero_add,Nat.reduceAdd]
      exact rfl
     case howe1=>
      clear E0 ihw p2 p3 p5 hi1 hi2 hi4 hsL hq hhs f4
      intro hf
      refine⟨owes5E 0 [] hf rfl rfl rfl (by kernel_rfl) ?_,owes5R 1 [0] hf rfl (by kernel_rfl) rfl (by kernel_rfl) ?_,owes5E 2 [] hf rfl rfl rfl (by kernel_rfl) ?_,owes5E 3 [2] hf rfl rfl rfl (by kernel_rfl) ?_,owes5E 4 [] hf rfl rfl rfl (by kernel_rfl) ?_,owes5E 5 [3,4] hf rfl rfl rfl (by kernel_rfl) ?_,owes5E 6 [5] hf rfl rfl rfl (by kernel_rfl) ?_,owes5E 7 [] hf rfl rfl rfl (by kernel_rfl) ?_,owes5E 8 [] hf rfl rfl rfl (by kernel_rfl) ?_,owes5E 9 [8] hf rfl rfl rfl (by kernel_rfl) ?_,owes5E 10 [9] hf rfl rfl rfl (by kernel_rfl) ?_,owes5E 11 [] hf rfl rfl rfl (by kernel_rfl) ?_,owes5E 12 [7,10,11] hf rfl rfl rfl (by kernel_rfl) ?_,owes5E 13 [12,6] hf rfl rfl rfl (by kernel_rfl) ?_,owes5E 14 [13] hf rfl rfl rfl (by kernel_rfl) ?_,owes5E 15 [13] hf rfl rfl rfl (by kernel_rfl) ?_,owes5E 16 [14,15] hf rfl rfl rfl (by kernel_rfl) ?_,owes5N 17 [16] hf rfl rfl (by kernel_rfl) ?_,owes5A 18 1 [20] [1,17] hf (by kernel_rfl) rfl rfl rfl (by kernel_rfl) rfl (by kernel_rfl) ?_,owes5E 19 [] hf rfl rfl rfl (by kernel_rfl) ?_,owes5T (w.heap.size+1+1) [19,18] hf rfl (by omega) (by kernel_rfl) rfl (by kernel_rfl) ?_,trivial⟩
      all_goals intro vs W hS hp hx KO hKO
      all_goals simp only[Act.put,List.setIfInBounds_toArray,List.set_cons_zero,List.set_cons_succ]at hKO
      ·go_simp
       exact hKO _ W (Ext.refl W) rfl
      ·have e0:=isOf hp.1
       simp only[e0]at hKO
       have hb0:BxA W (w.heap.size+1+1) 27 #[.slice ar0 k cr0,.slice a1 n1 c1,.slice a2 nv c2,.slice none 0 0]:=hS.2
       have fc0:=hb0.cell 0 (v:=.slice ar0 k cr0) rfl
       replace hS:=hS.1
       go_simp
       exact hKO _ (.inr fun g hg=>⟨rfl,hg⟩) ⟨rfl,hS.2.2.2.2.2.2.2.2.2.1⟩
      ·go_simp
       exact hKO _ W (Ext.refl W) rfl
      ·have e2:=isOf hp.1
       simp only[e2]at hKO
       have fc0:=BxA.cell (hS.2.2.2.1) 0 (v:=.slice (some ⟨bw,ow,none⟩) ng cw) rfl
       go_simp
       exact hKO _ W (Ext.refl W) rfl
      ·go_simp
       exact hKO _ W (Ext.refl W) rfl
      ·have e3:=isOf hp.1
       have e4:=isOf hp.2.1
       simp only[e3,e4]at hKO
       go_simp
       exact hKO _ W (Ext.refl W) rfl
      ·have e5:=isOf hp.1
       simp only[e5]at hKO
       have fc:=Iw.cell (hS.2.1) (i:=k) (by omega)
       go_simp
       exact hKO _ W (Ext.refl W) rfl
      ·have fc0:=BxA.cell (hS.2.2.1) 0 (v:=.int .i64 lr) rfl
       have fc1:=BxA.cell (hS.2.2.1) 1 (v:=.int .i64 ep) rfl
       have fc2:=BxA.cell (hS.2.2.1) 2 (v:=.int .i64 d) rfl
       have fc3:=BxA.cell (hS.2.2.1) 3 (v:=.int .i64 (K:Int)) rfl
       have fc4:=BxA.cell (hS.2.2.1) 4 (v:=.int .i64 (cl:Int)) rfl
       have fc5:=BxA.cell (hS.2.2.1) 5 (v:=.int .i64 sh) rfl
       go_simp
       exact hKO _ W (Ext.refl W) rfl
      ·go_simp
       exact hKO _ W (Ext.refl W) rfl
      ·have e8:=isOf hp.1
       simp only[e8]at hKO
       go_simp
       exact hKO _ W (Ext.refl W) rfl
      ·have e9:=isOf hp.1
       simp only[e9]at hKO
       have fc0:=BxA.cell (hS.2.2.1) 0 (v:=.int .i64 lr) rfl
       go_simp
       exact hKO _ W (Ext.refl W) rfl
      ·go_simp
       exact hKO _ W (Ext.refl W) rfl
      ·have e7:=isOf hp.1
       have e10:=isOf hp.2.1
       have e11:=isOf hp.2.2.1
       simp only[e7,e10,e11]at hKO
       go_simp
       cases g:mulO K lr x
       ·have HNO:Hid (fw k=none):=Lib.hid (by rw[HF.out,g];rfl)
        refine(Tryz.adaMulN (a:=lr) (b:=x) lr ep d (cl:Int) sh K HK.out.1 HP.out.2.2.1 HX.out g _).mono ?_
        rintro e W1 ⟨⟨c,hc,rfl⟩,hE⟩
        refine leaves_cons (f:=42) (args:=#[.pointer (some ⟨w.heap.size+1+1,0,none⟩),.pointer (some ⟨w.heap.size+1+1+1,0,none⟩)]) (by simp) (by simp[go_sem]) ?_
        refine(Tryz.adaCatch (by omega) (hS.2.2.2.2.2.2.2.2.2.2.2.1.ext hE) (BxA.ext (hS.2.2.2.2.1) hE)).mono ?_
        rintro e2 u2 W2 ⟨rfl,rfl,hAp,hq8,hq9⟩
        have k80:=hq8.cell 0 (v:=.slice none 0 0) rfl
        have k81:=hq8.cell 1 (v:=.slice none 0 0) rfl
        have k82:=hq8.cell 2 (v:=.slice none 0 0) rfl
        have k83:=hq8.cell 3 (v:=.slice none 0 0) rfl
        have k90:=hq9.cell 0 (v:=.int .i64 2) rfl
        change ∃ v,(results _ _).run _ W2=.ok v W2∧_
        exact⟨.tuple #[.agg #[.slice none 0 0,.slice none 0 0,.slice none 0 0,.slice none 0 0],.int .i64 2],by simp[results,Tryz.results18,go_sem,k80,k81,k82,k83,k90],Apart.ext hAp (Ext.trans hS.1 hE) (by simp;omega),.inr ⟨ada_noW HMB.out HUB.out HL3.out HLU.out HFW.out HLN.out.2.2.2 HLT.out HNO.out,rfl⟩⟩
       ·have g2:mulO K lr x=some t:=by rw[Ht.out,g];rfl
        refine(Tryz.adaMulS (a:=lr) (b:=x) lr ep d (cl:Int) sh K HK.out.1 HP.out.2.2.1 HX.out g2 _).mono ?_
        rintro e W1 ⟨rfl,hE⟩
        exact hKO _ W1 hE ⟨rfl,g2⟩
      ·have e12:vs 12=.int .i64 t:=(hp.1).1
       have Gt:Hid (mulO K lr x=some t):=Lib.hid (hp.1).2
       have e6:=isOf hp.2.1
       simp only[e12,e6]at hKO
       go_simp
       refine(Tryz.fixSubV (atL lw k) t _ HW.out.1 HW.out.2 (okZ_i64 Gt.out).1 (okZ_i64 Gt.out).2 HV.out HE.out).mono ?_
       rintro e W1 ⟨rfl,hE⟩
       exact hKO _ W1 hE rfl
      ·have e13:=isOf hp.1
       simp only[e13]at hKO
       go_simp
       exact hKO _ W (Ext.refl W) rfl
      ·have e13:=isOf hp.1
       simp only[e13]at hKO
       go_simp
       exact hKO _ W (Ext.refl W) rfl
      ·have e14:=isOf hp.1
       have e15:=isOf hp.2.1
       simp only[e14,e15]at hKO
       go_simp
       cases g:heldO V E
       ·have HNO:Hid (fw k=none):=Lib.hid (by rw[HF.out];exact bind_no1 (by rw[← Ht.out,← HZ.out];exact g))
        refine(Tryz.adaHeldN V E g _).mono ?_
        rintro e W1 ⟨⟨c,hc,rfl⟩,hE⟩
        refine leaves_cons (f:=42) (args:=#[.pointer (some ⟨w.heap.size+1+1,0,none⟩),.pointer (some ⟨w.heap.size+1+1+1,0,none⟩)]) (by simp) (by simp[go_sem]) ?_
        refine(Tryz.adaCatch (by omega) (hS.2.2.2.2.2.2.2.2.2.2.2.1.ext hE) (BxA.ext (hS.2.2.2.2.1) hE)).mono ?_
        rintro e2 u2 W2 ⟨rfl,rfl,hAp,hq8,hq9⟩
        have k80:=hq8.cell 0 (v:=.slice none 0 0) rfl
        have k81:=hq8.cell 1 (v:=.slice none 0 0) rfl
        have k82:=hq8.cell 2 (v:=.slice none 0 0) rfl
        have k83:=hq8.cell 3 (v:=.slice none 0 0) rfl
        have k90:=hq9.cell 0 (v:=.int .i64 2) rfl
        change ∃ v,(results _ _).run _ W2=.ok v W2∧_
        exact⟨.tuple #[.agg #[.slice none 0 0,.slice none 0 0,.slice none 0 0,.slice none 0 0],.int .i64 2],by simp[results,Tryz.results18,go_sem,k80,k81,k82,k83,k90],Apart.ext hAp (Ext.trans hS.1 hE) (by simp;omega),.inr ⟨ada_noW HMB.out HUB.out HL3.out HLU.out HFW.out HLN.out.2.2.2 HLT.out HNO.out,rfl⟩⟩
       ·have g2:heldO V E=some z2:=by rw[Hz2.out,g];rfl
        refine(Tryz.adaHeldS V E g2 _).mono ?_
        rintro e W1 ⟨rfl,hE⟩
        exact hKO _ W1 hE ⟨rfl,g2⟩
      ·have e16:vs 16=.int .i64 z2:=(hp.1).1
       have Gz2:Hid (heldO V E=some z2):=Lib.hid (hp.1).2
       simp only[e16]at hKO
       have hE:=Ext.alloc1 W (.cells #[.int .i64 z2] 2)
       have hbx:=BxA.new W 2 #[.int .i64 z2]
       have hlt:=hbx.lt
       go_simp
       exact hKO _ _ hE (fun g hg=>by have hq:W.heap.size=g:=hg;exact⟨by omega,by omega⟩) ⟨_,rfl,hlt,hbx.cell 0 rfl,(HZI.out _ Gz2.out)⟩
      ·have q1:=hp.1
       have q17:=hp.2.1
       obtain⟨ev,hr⟩:=q1
       replace ev:vs 1=(.slice ar0 k cr0):=ev
       have hsz:=hS.2.2.2.2.2.2.2.2.2.2.2.2
       refine step_append_g Tryz.underlying25 Tryz.infoI rfl _ _ rfl L hh (v:=vs 1) (u:=vs 17) rfl rfl hr q17 (by have:=sHC;have:=HLT.out;rw[outL_len];omega) (by omega) ?_
       intro v w1 hc hv hr2
       refine hKO v w1 (hc.imp_right ?_) hv hr2
       rintro⟨g,hg,hw,hr3⟩
       have hb:=hr.blk hg
       exact⟨g,hg,hw,⟨(Ext.wr hS.1 hw (by omega)),(hS.2.1.wr hw (by omega)),(hS.2.2.1.wr hw (by omega)),(hS.2.2.2.1.wr hw (by omega)),(hS.2.2.2.2.1.wr hw (by omega)),(hS.2.2.2.2.2.1.wr hw (by omega)),(hS.2.2.2.2.2.2.1.wr hw (by omega)),(hS.2.2.2.2.2.2.2.1.wr hw (by omega)),(Nat.le_trans hS.2.2.2.2.2.2.2.2.1 hw.apart.size),(ev ▸ hr3),(Nat.le_trans hS.2.2.2.2.2.2.2.2.2.2.1 hw.apart.size),(hS.2.2.2.2.2.2.2.2.2.2.2.1.wr hw (by omega)),(Nat.le_trans hS.2.2.2.2.2.2.2.2.2.2.2.2 hw.apart.size)⟩,fun h=>BxA.wr h hw (by omega),⟨ev,hr3⟩⟩
      ·go_simp
       exact hKO _ W (Ext.refl W) rfl
      ·have e19:=isOf hp.1
       have q18:=hp.2.1
       simp only[e19]at hKO
       obtain⟨ar,nr,cr,er⟩:=RowG.noU q18
       replace er:vs 18=_:=er
       have hb0:BxA W (w.heap.size+1+1) 27 #[.slice ar0 k cr0,.slice a1 n1 c1,.slice a2 nv c2,.slice none 0 0]:=hS.2
       have z0:=hb0.frozN 0
       have kx:=hb0.cell 0 (v:=.slice ar0 k cr0) rfl
       have hw:=Wr.putN hb0 (noU4 _ _ _ _ _ _ _ _ _ _ _ _) 0 (.slice ar nr cr) (noU4 _ _ _ _ _ _ _ _ _ _ _ _)
       have hb:BxA (W.setCell ⟨w.heap.size+1+1,0,none⟩ (.slice ar nr cr)) (w.heap.size+1+1) 27 #[.slice ar nr cr,.slice a1 n1 c1,.slice a2 nv c2,.slice none 0 0]:=hb0.putN 0 (.slice ar nr cr)
       obtain⟨W2,hW2⟩:∃ V,V=W.setCell ⟨w.heap.size+1+1,0,none⟩ (.slice ar nr cr):=⟨_,rfl⟩
       rw[← hW2]at hw hb
       have hbv:=hb
       rw[← er]at hbv
       replace hS:=hS.1
       clear hb0
       simp only[er]at hKO
       go_simp
       rw[← hW2]
       exact hKO _ hw ⟨(Ext.wr hS.1 hw (by omega)),(hS.2.1.wr hw (by omega)),(hS.2.2.1.wr hw (by omega)),(hS.2.2.2.1.wr hw (by omega)),(hS.2.2.2.2.1.wr hw (by omega)),(hS.2.2.2.2.2.1.wr hw (by omega)),(hS.2.2.2.2.2.2.1.wr hw (by omega)),(hS.2.2.2.2.2.2.2.1.wr hw (by omega)),(Nat.le_trans hS.2.2.2.2.2.2.2.2.1 hw.apart.size),(hS.2.2.2.2.2.2.2.2.2.1.wr2 hw (by omega)),(Nat.le_trans hS.2.2.2.2.2.2.2.2.2.2.1 hw.apart.size),(Form4.of hb),(Nat.le_trans hS.2.2.2.2.2.2.2.2.2.2.2.2 hw.apart.size)⟩ hbv
     intro vs W1 hS hG hp
     clear lthsL lthhs szw1 E0 ihw p2 p3 p5 hi1 hi2 hi4 hsL hq hhs f4
     obtain⟨E0,ihw,p2,p3,p5,hi1,hi2,hi4,hsL,hq,hhs,f4,sz1⟩:=hS
     obtain⟨h1_0,h1_1,h1_2,h1_3,h1_4,h1_5,h1_6,h1_7,h1_8,h1_9,h1_10,h1_11,h1_12,h1_13,h1_14,h1_15,h1_16,h1_17,h1_18,h1_19,h1_20,-⟩:=hp
     skip
     have hbx1:=h1_20
     skip
     have hgr1_0:RowG L W1.heap.size W1 2 (vs 18) (outL k (valF fw)++[z2]):=h1_18
     replace h1_0:vs 0=.pointer (some ⟨w.heap.size+1+1,0,none⟩):=h1_0
     replace h1_2:vs 2=.pointer (some ⟨w.heap.size+1,0,none⟩):=h1_2
     replace h1_3:vs 3=.slice (some ⟨bw,ow,none⟩) ng cw:=h1_3
     replace h1_4:vs 4=.int .i64 (k:Int):=h1_4
     replace h1_5:vs 5=.pointer (some ⟨bw,ow+k,none⟩):=h1_5
     replace h1_6:vs 6=.int .i64 (atL lw k):=h1_6
     replace h1_7:vs 7=.agg #[.int .i64 lr,.int .i64 ep,.int .i64 d,.int .i64 (K:Int),.int .i64 (cl:Int),.int .i64 sh]:=h1_7
     replace h1_8:vs 8=.pointer (some ⟨w.heap.size,0,none⟩):=h1_8
     replace h1_9:vs 9=.pointer (some ⟨w.heap.size,0,none⟩):=h1_9
     replace h1_10:vs 10=.int .i64 lr:=h1_10
     replace h1_11:vs 11=.int .i64 x:=h1_11
     obtain⟨h1_12,Gt⟩:=h1_12
     replace Gt:=Lib.hid Gt
     replace h1_12:vs 12=.int .i64 t:=h1_12
     replace h1_13:vs 13=.tuple #[.int .i64 V,.int .i64 E]:=h1_13
     replace h1_14:vs 14=.int .i64 V:=h1_14
     replace h1_15:vs 15=.int .i64 E:=h1_15
     obtain⟨h1_16,Gz2⟩:=h1_16
     replace Gz2:=Lib.hid Gz2
     replace h1_16:vs 16=.int .i64 z2:=h1_16
     replace h1_19:vs 19=.pointer (some ⟨w.heap.size+1+1,0,none⟩):=h1_19
     simp only[h1_0,h1_2,h1_3,h1_4,h1_5,h1_6,h1_7,h1_8,h1_9,h1_10,h1_11,h1_12,h1_13,h1_14,h1_15,h1_16,h1_19]
     clear h1_0 h1_2 h1_3 h1_4 h1_5 h1_6 h1_7 h1_8 h1_9 h1_10 h1_11 h1_12 h1_13 h1_14 h1_15 h1_16 h1_19 h1_1 h1_17 h1_18 h1_20
     clear sHB sHBH sHL sHC
     have HFK:Hid (fw k=some z2):=Lib.hid (by rw[HF.out,Gt.out,Option.bind_some,← HZ.out,Gz2.out])
     obtain⟨kp2_0,kp2_1,kp2_2,kp2_3,kp2_4,kp2_5⟩:=p2.c6
     obtain⟨kp3_0,kp3_1,kp3_2,kp3_3⟩:=p3.c4
     have kp5_0:=p5.cell 0 (v:=.int .i64 0) rfl
     go_wp2
     clear kp2_0 kp2_1 kp2_2 kp2_3 kp2_4 kp2_5 kp3_0 kp3_1 kp3_2 kp3_3 kp5_0
     go_roundw
     case rel=>exact⟨k+1,_,by go_num,HLT.out,Lib.hid (grow_some' HA.out HFK.out),hbx1,by rw[outL_snoc',valF_some HFK.out];exact hgr1_0,E0,ihw,p2,p3,p5,hi1,hi2,hi4,hsL⟩
     case measure=>simp[intOf];have:=HLT.out;omega
    ·have ek:ng=k:=by omega
     subst ek
     clear hlt hk
     have hq2:=hq.iw
     rw[outL_len]at hq2
     obtain⟨ar0,cr0,rfl,hiw⟩:=hq2
     clear hq
     have z40:=p4.frozN 0
     have z41:=p4.frozN 1
     have z42:=p4.frozN 2
     have z43:=p4.frozN 3
     have z50:=p5.frozN 0
     obtain⟨kp2_0,kp2_1,kp2_2,kp2_3,kp2_4,kp2_5⟩:=p2.c6
     obtain⟨kp3_0,kp3_1,kp3_2,kp3_3⟩:=p3.c4
     have kp5_0:=p5.cell 0 (v:=.int .i64 0) rfl
     obtain⟨kp4_0,kp4_1,kp4_2,kp4_3⟩:=p4.c4
     go_wp2
     clear kp2_0 kp2_1 kp2_2 kp2_3 kp2_4 kp2_5 kp3_0 kp3_1 kp3_2 kp3_3 kp5_0 kp4_0 kp4_1 kp4_2 kp4_3
     obtain⟨V5,hV5,hw,hqq⟩:=(Form4.of p4).put ar0 ng cr0 a1 n1 c1 a2 nv c2 none 0 0
     have hHB:=HB.out
     have hHL:=HL.out
     have hBH:=HBH.out
     rw[← hV5]
     clear hV5
     have p5a:BxA V5 (w.heap.size+1+1+1) 32 #[.int .i64 0]:=BxA.wr p5 hw (by omega)
     have hr9:RowI V5 (w.heap.size+1+1+1) 32 [0]:=p5a
     have hw2:=Wr.row hr9 0 0
     have q9:=hr9.set 0 0
     obtain⟨V6,hV6⟩:∃ V,V=V5.setCell ⟨w.heap.size+1+1+1,0,none⟩ (.int .i64 0):=⟨_,rfl⟩
     rw[← hV6]at hw2 q9 ⊢
     clear hV6
     refine leaves_cons (f:=42) (args:=#[.pointer (some ⟨w.heap.size+1+1,0,none⟩),.pointer (some ⟨w.heap.size+1+1+1,0,none⟩)]) (by simp) (by simp[go_sem]) ?_
     refine(Tryz.adaIdleG _ _ _).mono ?_
     rintro e2 u2 V7 ⟨rfl,rfl,rfl⟩
     have q8:=hqq.wr hw2 (by omega)
     have k80:=q8.cell 0 (v:=.slice ar0 ng cr0) rfl
     have k81:=q8.cell 1 (v:=.slice a1 n1 c1) rfl
     have k82:=q8.cell 2 (v:=.slice a2 nv c2) rfl
     have k83:=q8.cell 3 (v:=.slice none 0 0) rfl
     have k90:=BxA.cell q9 0 (v:=.int .i64 0) rfl
     have hs1:=Nat.le_trans hsL (Nat.le_trans hw.apart.size hw2.apart.size)
     change ∃ v,(results _ _).run _ _=.ok v _∧_
     refine⟨.tuple #[.agg #[.slice ar0 ng cr0,.slice a1 n1 c1,.slice a2 nv c2,.slice none 0 0],.int .i64 0],by simp[results,Tryz.results18,go_sem,k80,k81,k82,k83,k90],Ext.wr (Ext.wr E0 hw (by omega)) hw2 (by omega),.inl ⟨ada_yesW HMB.out HUB.out HL3.out HLU.out HFW.out HLN.out.2.2.2 HA.out,_,_,_,_,_,_,_,_,_,rfl,?_,?_,?_⟩⟩
     ·rw[adaW_is HL3.out HLU.out HFW.out HUN.out];exact((hiw.wr hw (by omega)).wr hw2 (by omega)).mono (by omega) (Nat.le_trans hw.apart.size hw2.apart.size)
     ·unfold adaMo;rw[← HL1.out];exact((hi1.wr hw (by omega)).wr hw2 (by omega)).mono (by omega) (by omega)
     ·unfold adaVo;rw[← HL2.out];exact((hi2.wr hw (by omega)).wr hw2 (by omega)).mono (by omega) (by omega)
  ·refine leaves_cons (f:=42) (args:=#[.pointer (some ⟨w.heap.size+1+1,0,none⟩),.pointer (some ⟨w.heap.size+1+1+1,0,none⟩)]) (by simp) (by simp[go_sem]) ?_
   refine(Tryz.adaCatch (by omega) (Form4.of (BxA.ext p4 hE)) (BxA.ext p5 hE)).mono ?_
   rintro e2 u2 W2 ⟨rfl,rfl,hAp,hq8,hq9⟩
   have k80:=hq8.cell 0 (v:=.slice none 0 0) rfl
   have k81:=hq8.cell 1 (v:=.slice none 0 0) rfl
   have k82:=hq8.cell 2 (v:=.slice none 0 0) rfl
   have k83:=hq8.cell 3 (v:=.slice none 0 0) rfl
   have k90:=hq9.cell 0 (v:=.int .i64 2) rfl
   change ∃ v,(results _ _).run _ W2=.ok v W2∧_
   exact⟨.tuple #[.agg #[.slice none 0 0,.slice none 0 0,.slice none 0 0,.slice none 0 0],.int .i64 2],by simp[results,Tryz.results18,go_sem,k80,k81,k82,k83,k90],Apart.ext hAp (Ext.trans E0 hE) (by simp;omega),.inr ⟨by unfold adaB;rw[HMB.out,← HL3.out,hb];rfl,rfl⟩⟩
 ·refine leaves_cons (f:=42) (args:=#[.pointer (some ⟨w.heap.size+1+1,0,none⟩),.pointer (some ⟨w.heap.size+1+1+1,0,none⟩)]) (by simp) (by simp[go_sem]) ?_
  refine(Tryz.adaCatch (by omega) (Form4.of (BxA.ext p4 hE)) (BxA.ext p5 hE)).mono ?_
  rintro e2 u2 W2 ⟨rfl,rfl,hAp,hq8,hq9⟩
  have k80:=hq8.cell 0 (v:=.slice none 0 0) rfl
  have k81:=hq8.cell 1 (v:=.slice none 0 0) rfl
  have k82:=hq8.cell 2 (v:=.slice none 0 0) rfl
  have k83:=hq8.cell 3 (v:=.slice none 0 0) rfl
  have k90:=hq9.cell 0 (v:=.int .i64 2) rfl
  change ∃ v,(results _ _).run _ W2=.ok v W2∧_
  exact⟨.tuple #[.agg #[.slice none 0 0,.slice none 0 0,.slice none 0 0,.slice none 0 0],.int .i64 2],by simp[results,Tryz.results18,go_sem,k80,k81,k82,k83,k90],Apart.ext hAp (Ext.trans E0 hE) (by simp;omega),.inr ⟨by unfold adaB;rw[hb];rfl,rfl⟩⟩
end Go.Rt
